import Derived.Test.YtmkljjbioomepaaGreatb28
import Derived.Test.YtmkljjbioomepaaGreatb19
set_option linter.all false
set_option maxHeartbeats 4000000
set_option maxRecDepth 100000
namespace Go.Proofs.YtmkljjbioomepaaGreat
open Go.Proofs.Tryz Go.bu
variable {A:a3} {G:List (List aO)} {R:cB} {d:aO} {dB fq:an} {dc i lc aH tb:Nat} {ds:List aO} {flag:Bool} {j:b3} {m:aY} {r:dt} {raw:List bO} {u w0 z:ak} {v:aW} {vs:List aW}
section
theorem bH.two {bE d bk:ak} {v1 v2:aG} {l q:aW} {b:Nat} (h:ai u bE) (i:cF (λk=>k<u.heap.size) bE v1 l) (c:ai bE d) (j:cF (λk=>k<bE.heap.size) d v2 q) (t:b=d.heap.size) (au:av bk b (v1.cells++v2.cells) cz) (n:ai d bk):bH u bk (some ⟨b,0,none⟩) 2 2 [l,q]:=by
 have r:=h.size;have s:=c.size;have a:∀ k,aL (some ⟨b,0,none⟩) k->k=b:=λk f=>by obtain ⟨o,p⟩:=f;simp at p;exact p.1.symm
 refine ⟨⟨[v1,v2],⟨by simp [dP];rfl,.inr ⟨b,v1.cells++v2.cells,rfl,au,cQ 2,by decide,by rw [dI,aG.len,aG.len],by simp [dP];exact hS (by rw [dI,aG.len,aG.len];decide)⟩⟩,ep.app (r1:=[v1]) (v1:=[l]) (ep.one ?_) (ep.one ?_)⟩,rfl,λk f=>by rw [a k f];omega⟩
 ·exact i.az (ao.b4 (c.new n)) λk g e=>by
   rcases e with e | e
   ·exact e
   ·have:=a k e;omega
 ·exact j.az (ao.b4 n) λk g e=>by
   rcases e with e | e
   ·omega
   ·have:=a k e;omega
noncomputable abbrev iS:Func:=f181
def lY (j:b3) (bg:aY):List aW:=[mL j bg (24+j.dead) 1,mL j bg (e' j.dead) 120]
def fz (j:b3) (m:aY):List aW:=(j.v.mem.map (lY j)).flatten++[mL j m (32+j.dead) 1]
section
variable {A:a3} {w0 u:ak} {aH tb:Nat} {r:dt} {m:aY} {j:b3} {V:ga}
theorem Lg {o:Int×Int} (B:dh w0 u aH tb r m j V o) (L:ax)
  (V6:∀ bs pa n pc L,ai u bs->n=2 * j.v.mem.length->bH u bs pa n pc ((j.v.mem.map (lY j)).flatten)->Go.bu.W prog (sub (bp iS) [1,1,1]) (z3 ⟨aH,0,none⟩ pa n pc L) (dD prog iS R) bs) :
  cv prog (.loop (sub (bp iS) [1,1,0,1,0,0])) (uf ⟨aH,0,none⟩ none 0 0 r.View.ed r.View.ei r.View.eA r.View.ei 0 L)
   (aM 0 (aU (λenv w=>Go.bu.W prog (sub (bp iS) [1,1,1]) env (dD prog iS R) w) (dD prog iS R))) u:=by
 obtain ⟨Wx,f⟩:=B.bM.view;have hlen:=f.len;have Wq:=B.cf.mem;have Q:=B.cf.dead;have ar:=B.bM.dead;have Wd:=B.aj.lt;refine c2 mix (λq env z=>∃ (i:Nat) (pa:an) (pc:Nat) (L:ax),q=j.v.mem.length - i/\i<=j.v.mem.length/\env=uf ⟨aH,0,none⟩ pa (2 * i) pc r.View.ed r.View.ei r.View.eA r.View.ei i L/\ai u z/\
   bH u z pa (2 * i) pc ((j.v.mem.take i).map (lY j)).flatten) j.v.mem.length
  ⟨0,none,0,_,by omega,by omega,rfl,ao.refl _ _,bH.nil _ _⟩ ?_
 rintro q env z ⟨i,pa,pc,L,rfl,Wy,rfl,c,t⟩;refine g_ (fn:=iS) (R:=R) (λ_ _=>rfl) ?_;rw [Ql,hlen];have U:=B.new.new c;refine a8 (λWr=>?_) (λWp=>?_)
 ·obtain ⟨bg,hm⟩:∃ bg,j.v.mem[i]?=some bg:=⟨_,bD (by omega)⟩;have Ws:=B.cf.ef bg (b7 hm);refine er (cells:=aY.cells) aY.len (by omega) (f.rd.new U) hm rfl rfl λb We V3 _=>aY.aR bg ⟨V3,?_⟩
  refine ea (vs:=bg.cells) rfl (aY.single _) λWi Wv Wo Wb V8=>?_
  rintro Wf Z;have X:ai Wv Wf:=by rw [Z];exact cE _
  clear Z;have C:=V8.new X;have I:=ai.aj X Wb;have O:=B.bz (c.new C);refine ⟨λy=>av y Wi bg.cells eI/\iQ r tb m j aH y,⟨I,_,_,O.aj⟩,aY.aR bg ⟨λy g=>bJ g.1 rfl,r.eO,λy g=>by obtain ⟨_,Wh,We,g⟩:=g;exact g.cell (i:=5) rfl,aY.aR bg ⟨λy g=>bJ g.1 rfl,r.eO,λy g=>by obtain ⟨_,Wh,We,g⟩:=g;exact g.cell (i:=5) rfl,?_⟩⟩⟩;rw [ar];refine aC (y3 Wf Q) ?_;rintro v WA ⟨rfl,l⟩;have F:=O.bz l;refine ⟨_,rfl,⟨ai.aj l I,_,_,F.aj⟩,?_⟩;refine aC (u1 F (m:=bg) (by unfold dN;omega) (24+j.dead) 1) ?_;rintro v Ww ⟨v1,rfl,V_,p⟩;have h:=F.bz p;have J:=ai.aj (l.new p) I;refine aG.aR v1 ⟨rfl,⟨J,_,_,h.aj⟩,?_⟩;refine aC (yY Ww Q) ?_;rintro v WB ⟨rfl,rfl⟩;refine ⟨_,rfl,⟨J,_,_,h.aj⟩,?_⟩;refine aC (u1 h (m:=bg) (by unfold dN;omega) (e' j.dead) 120) ?_;rintro v WC ⟨v2,rfl,V',s⟩;have P:=h.bz s;have A:=ai.aj s J;refine aG.aR v2 ⟨rfl,⟨A,_,_,P.aj⟩,?_⟩;rintro Wj Wg N V2;obtain ⟨K,a⟩:=bl N V2;have K:av Wg Wj (v1.cells++v2.cells) cz:=K;clear V2;have Wa:=bH.two p V_ s V' N K a;have D:=(p.new s).new a;have d:=C.new l;have G:=P.bz a;have E:=t.new (d.new D);obtain ⟨cl,Y,_⟩:=E.ex;have Wt:=d.size;have Wu:=c.size;refine ⟨⟨ai.aj a A,_,_,G.aj⟩,bH.t' E (c.new (d.new D)) Wa (λk V7=>by obtain ⟨Wc,H,_⟩:=t.ex;have:=H.lt V7;omega) (by omega) (by omega) λap M Wz Wl S V9=>?_⟩;have off:∀ {b:Nat} {cs:ax} {T:TypeId},T≠cz->av Wg b cs T->¬ aL pa b:=λWm Wn V6=>by obtain ⟨Wk,V4⟩:=fM Y V6;exact V4.ne Wn (λe=>Wm e.symm) rfl
  refine ⟨⟨S.aj (ai.aj a A) (off (by decide) (ai.aj a A)),_,_,S.aj G.aj (off (by decide) G.aj)⟩,eU ?_⟩;rw [bC (x:=(i:Int)+1) (by omega) (by omega)];refine ⟨j.v.mem.length - (i+1),by omega,i+1,ap,M,_,rfl,by omega,by rw [<-hlen,show 2 * (i+1)=2 * i+2 by omega];rfl,V9,?_⟩;have e:((j.v.mem.take i).map (lY j)).flatten++lY j bg=((j.v.mem.take (i+1)).map (lY j)).flatten:=by rw [fc,hm];simp
  rw [<-e,show 2 * (i+1)=2 * i+2 by omega];exact Wl
 ·have V5:i=j.v.mem.length:=by omega
  subst V5;refine p1 (pE (eU ?_));rw [hx] at t;exact V6 z pa _ pc _ c rfl t
end
end
section
structure m' where
 a:an
 n:Nat
 c:Nat
def mz (s:m'):ax:=[.slice s.a s.n s.c]
def sO (d:bO):m':=⟨d.Words,d.cK,d.cD⟩
abbrev wv:TypeId:=94
structure n8 (w0 u z:ak) (aH tb:Nat) (r:dt) (m:aY) (j:b3) (fq:an) (lc:Nat) (pN:List m'):Prop where
 eF:dh w0 z aH tb r m j ⟨fq,pN.length,lc,0⟩ (0,0)
 az:ao (λk=>k=aH) u z
 own:a0 z wv 1 fq pN.length lc (pN.map mz).flatten
 gi:∀ k,aL fq k->u.heap.size<=k
 le:w0.heap.size<=u.heap.size
theorem n8.iE {c:ak} {a:List m'} (h:n8 w0 u z aH tb r m j fq lc a) (b:ai z c):n8 w0 u c aH tb r m j fq lc a:=
 ⟨h.eF.bz b,h.az.new b,a0.new b h.own,h.gi,h.le⟩
theorem Lh {c:List m'} (h:n8 w0 u z aH tb r m j fq lc c) (V4:aH<u.heap.size) (V3:c.length<=100) {bw:Nat} (P:bh w0 dB (fP raw).flatten) (K:bw=raw.length) {d:bO} (ar:raw[2 * c.length+1]?=some d)
  {A:Int} {V:ax} {Q:Exit->ax->aE} (dH:∀ env w,Q .ret env w=dD prog iS R .ret env w)
  (Wb:∀ V5 Y X V,n8 w0 u V5 aH tb r m j Y X (c++[sO d])->Q .normal (z5 ⟨aH,0,none⟩ dB bw dc flag A c.length V) V5) :
  Go.bu.W prog (sub (bp iS) [1,1,1,1,1,1,1,0,1,0,0,1,1,0,0,1,1]) (ug ⟨aH,0,none⟩ dB bw dc flag c.length A c.length V) Q z:=by
 refine g_ (fn:=iS) (R:=R) dH ?_;rw [Ro];rintro Wd D;have N:ai z Wd:=by rw [D];exact cE _
 clear D;have V2:=h.iE N;refine ⟨λy=>dh w0 y aH tb r m j ⟨fq,c.length,lc,0⟩ (0,0),V2.eF,fq,c.length,lc,λy S=>S.aj.cell (i:=13) rfl,?_⟩;refine iW (cells:=bO.cells) (sz:=2) bO.len (by omega) P ar (by rw [bC (x:=2 * (c.length:Int)) (by omega) (by omega),bC (by omega) (by omega)];omega) K λb o Wa=>⟨d.Words,d.cK,d.cD,λy S=>Wa y S.new 1 _ rfl,?_⟩
 rintro aA V6 G E;obtain ⟨t,O⟩:=bl G E;have t:av V6 aA (mz (sO d)) wv:=t;clear E;have p:=V2.iE O;obtain ⟨inf,L,U,C,I⟩:=fO (T:=wv) (z:=.slice none 0 0) (n:=1) (m:=24) (by kernel_rfl);refine ⟨p.eF,rb (cells:=mz) (sz:=1) (λ_=>rfl) (λx v al=>by simp [mz] at al;subst al;rfl) Tryz.underlying218 L U (by rw [C];rfl) C (by decide) (by rw [I];decide) p.own (l2:=[sO d]) (m:=1) (fm t rfl) rfl (by omega) λap g We V8 Z V9=>?_⟩;have off:∀ {b:Nat} {cs:ax} {T:TypeId},T≠wv->av V6 b cs T->¬ aL fq b:=λV_ V' f=>by obtain ⟨V7,J⟩:=fM p.own f;exact J.ne V' (λe=>V_ e.symm) rfl
 have hle:=h.le;have a:=p.eF.az Z λk f=>⟨by have:=h.gi k f;omega,λe=>off (by decide) p.eF.aj (e▸f)⟩
 refine ⟨a,⟨_,a.aj.cell (i:=13) rfl⟩,a.aj.frozen,?_⟩;rintro F s;have q:ao (λk=>k=aH) We F:=by rw [s];exact eY _ _ _ _
 have H:av F aH (pK r tb m (gv j.inc j.a1) ⟨ap,c.length+1,g,0⟩ (0,0)) oi:=by rw [s];exact a.aj.setCell (i:=13) _
 clear s;have Wc:=p.az.size;have l:∀ k,aL ap k->u.heap.size<=k:=λk f=>by
  rcases V9 k f with e | e
  ·exact h.gi k e
  ·omega
 have B:ao (λk=>k=aH) u F:=(p.az.trans Z λk M e=>by have:=h.gi k e;omega).trans q λ_ _ e=>e
 refine Wb F ap g _ ⟨⟨by rw [dI];exact H,a.bM,a.cf,a.mem,a.new.trans q λk M e=>by have:=a.pJ;omega,a.pJ,a.kH,a.ne⟩,B,?_,l,hle⟩;rw [dI];exact V8.az q λk f e=>by have:=l k f;omega
end
section
def mA (j:b3) (ds:List aO) (n:Nat):Bool:=(List.range n).all λi=>dx ds (2 * i) == j.dS
theorem Hh (j:b3) (ds:List aO) (n:Nat):mA j ds (n+1)=(mA j ds n && (dx ds (2 * n) == j.dS)):=by unfold mA;rw [ki,List.all_append];simp
theorem KE {a:List m'} (h:n8 w0 u z aH tb r m j fq lc a) (E:aH<u.heap.size) {c:Nat} (T:c<=100) (V6:a.length<=c) (F:bh w0 dB (fP raw).flatten) (t:gW A w0 raw ds) (Y:ds.length=2 * c+1)
  (f:flag=mA j ds a.length) (g:ax) {iw:Exit->ax->aE} (L:∀ env w,iw .ret env w=dD prog iS R .ret env w)
  (k:a.length<c->∀ d,raw[2 * a.length+1]?=some d->∀ J n l g,n8 w0 u J aH tb r m j n l (a++[sO d])->iw .normal (r7 ⟨aH,0,none⟩ dB ds.length dc (mA j ds (a.length+1)) c (a.length+1:Nat) g) J)
  (B:a.length=c->∀ g,iw (.exit 2) (z4 ⟨aH,0,none⟩ dB ds.length dc flag g) z) :
  Go.bu.W prog (sub (bp iS) [1,1,1,1,1,1,1,0,1,0,0]) (r7 ⟨aH,0,none⟩ dB ds.length dc flag c a.length g) iw z:=by
 have G:raw.length=ds.length:=t.1;refine g_ (fn:=iS) (R:=R) L ?_;rw [Qm];refine a8 (λV3=>?_) (λV2=>B (by omega) _);have C:a.length<c:=by omega
 obtain ⟨d,ar⟩:∃ d,raw[2 * a.length]?=some d:=⟨_,bD (by omega)⟩;obtain ⟨x,U⟩:∃ x,ds[2 * a.length]?=some x:=⟨_,bD (by omega)⟩;obtain ⟨d1,s⟩:∃ d1,raw[2 * a.length+1]?=some d1:=⟨_,bD (by omega)⟩;have M:=t.2 _ d x ar U;have O:dx ds (2 * a.length)=d8 x:=by unfold dx;rw [dF,U];rfl
 rintro V5 H;have S:ai z V5:=by rw [H];exact cE _
 clear H;have p:=h.iE S;have one:∀ {y:ak},n8 w0 u y aH tb r m j fq lc a->∀ (K:Bool),K=mA j ds (a.length+1)->∀ (g:ax),Go.bu.W prog (sub (bp iS) [1,1,1,1,1,1,1,0,1,0,0,1,1,0,0,1,1]) (ug ⟨aH,0,none⟩ dB ds.length dc K a.length c a.length g) (aM 3 (aU (λenv w=>Go.bu.W prog (sub (bp iS) [1,1,1,1,1,1,1,0,1,0,0,1,1,1]) env (bG prog iS R iw) w) (bG prog iS R iw))) y:=by intro y I K Q g;refine Lh I E (by omega) F G.symm s (R:=R) (λ_ _=>rfl) (λJ n l V4 V=>?_);refine pD (eU ?_);rw [mt,bC (x:=(a.length:Int)+1) (by omega) (by omega),Q];exact k C d1 s J n l _ V
 have N:=h.eF.bM.dS;have Z:=h.eF.cf.dS;refine ⟨λy=>dh w0 y aH tb r m j ⟨fq,a.length,lc,0⟩ (0,0),p.eF,fX (λP=>?_) (λP=>one p false (by rw [Hh,<-f,P];rfl) _)⟩;refine iW (cells:=bO.cells) (sz:=2) bO.len (by omega) F ar (by rw [bC (x:=2 * (a.length:Int)) (by omega) (by omega)];omega) G.symm λb o X=>bO.aR d ⟨λy I=>kX (i:=0) λq v al=>by simpa using X y I.new q v al,r.fv,λy I=>I.aj.cell (i:=6) rfl,?_⟩
 refine aC (q9 (M.az (ao.b4 p.eF.new) λ_ _ e=>e)) ?_;rintro v V7 ⟨rfl,D⟩;refine ⟨_,rfl,(p.iE D).eF,one (p.iE D) _ ?_ _⟩;rw [Hh,<-f,P,O,N,kh (x:=j.dS) (by omega) (by omega),vl]
end
section
theorem IH:∀ {l:List aO},ho l=0->∀ d ∈ l,d.code=0:=λ{l}=>by
 induction l with
 |nil=>intro _ d ar;cases ar
 |cons x l a=>
  intro h d ar;unfold ho at h;split at h
  ·rename_i e;rcases e6.1 ar with rfl | ar
   ·exact e
   ·exact a h d ar
  ·rename_i e;exact absurd h e
theorem OM (h:kr vs ds=true) (a:ho ds=0) (al:vs[i]?=some v) (ar:ds[i]?=some d):(d.words.length:Int)=v.v.iq:=by have b:=IH a d (b7 ar);unfold kr at h;rw [e1,gU] at h;have hm:(v,d) ∈ vs.zip ds:=b7 (i:=i) (Bk.2 ⟨al,ar⟩);have:=h.2 _ hm;unfold sj at this;simp only at this;rw [if_pos b] at this;exact of_decide_eq_true this
theorem D6 (h:(bK G vs).ok=true) (al:vs[i]?=some v) (ar:(bK G vs).done[i]?=some d):(d.words.length:Int)=v.v.iq:=by
 have f:vs.length≠0:=by have:=cb al;omega
 unfold bK cg at h ar;split at h
 ·cases h
 rename_i b;split at h
 ·cases h
 rename_i a;rw [if_neg b,if_neg a] at ar;have a:ho (batch G vs).done=0:=by simpa using a
 unfold batch at b a ar;rw [if_neg f] at b a ar;cases G with
 |nil=>simp at b
 |cons e g=>
  simp only at b a ar;split at b
  ·rename_i c;rw [if_pos c] at a ar;exact OM c a al ar
  ·simp at b
def rA (j:b3) (ds:List aO):List bd:=(List.range j.v.mem.length).map λi=>(ds.getD (2 * i+1) ⟨0,[]⟩).words
def s7 (j:b3) (ds:List aO):Int:=dx ds (2 * j.v.mem.length)
def rZ (j:b3) (m:aY) (R:cq):cq:=
 if R.ok=false then R else if mA j R.done j.v.mem.length=true then ⟨true,[],(0,0),R.a4,none,false⟩
 else if (hC j m R.a4).ok=false then hC j m R.a4 else ⟨false,[],(11,0),(hC j m R.a4).a4,none,false⟩
def fB (j:b3) (m:aY) (G:List (List aO)):cq:=rZ j m (bK G (fz j m))
structure kS (w0 w:ak) (aH tb:Nat) (V:ga) (aT:List bd):Prop where
 ex:∃ pN:List m',bh w V.fq (pN.map mz).flatten/\V.j6=pN.length/\pN.length=aT.length/\∀ (i:Nat) (s:m') (L:bd),pN[i]?=some s->aT[i]?=some L->rX w0 s.a s.n s.c L
 off:∀ k,aL V.fq k->k≠tb/\k≠aH
theorem kS.new {w0 w w':ak} {aH tb:Nat} {V:ga} {aT:List bd} (h:kS w0 w aH tb V aT) (g:ai w w'):kS w0 w' aH tb V aT:=by obtain ⟨⟨a,b,c,d,e⟩,f⟩:=h;exact ⟨⟨a,b.new g,c,d,e⟩,f⟩
theorem kS.az {w0 w w':ak} {aH tb:Nat} {V:ga} {aT:List bd} (h:kS w0 w aH tb V aT) {M:a3} (l:ao M w w') (j:∀ k,M k->k=tb\/k=aH):kS w0 w' aH tb V aT:=by
 obtain ⟨⟨b,c,f,g,i⟩,d⟩:=h;refine ⟨⟨b,c.az l (hn c λk a e=>?_),f,g,i⟩,d⟩;have:=d k a;rcases j k e with e | e
 ·exact this.1 e
 ·exact this.2 e
theorem Br (j:b3) (m:aY):(fz j m).length=2 * j.v.mem.length+1:=by
 unfold fz;rw [dI];have:((j.v.mem.map (lY j)).flatten).length=2 * j.v.mem.length:=by
  induction j.v.mem with
  |nil=>rfl
  |cons a l b=>rw [f9,gV,dI,b];simp [lY];omega
 rw [this];rfl
theorem Bs (c:i<j.v.mem.length):∃ bg,(fz j m)[2 * i+1]?=some (mL j bg (e' j.dead) 120):=by
 have key:∀ (l:List aY) (i:Nat),i<l.length->∃ bg,((l.map (lY j)).flatten)[2 * i+1]?=some (mL j bg (e' j.dead) 120):=by
  intro l;induction l with
  |nil=>intro i h;cases h
  |cons a l d=>
   intro i h;rw [f9,gV];cases i with
   |zero=>exact ⟨a,rfl⟩
   |succ i=>obtain ⟨bg,b⟩:=d i (by simpa using h);refine ⟨bg,?_⟩;rw [hV (by simp [lY];omega)];simp only [lY,g7,p8];rw [show 2 * (i+1)+1 - (0+1+1)=2 * i+1 by omega];exact b
 obtain ⟨bg,h⟩:=key j.v.mem i c;exact ⟨bg,by unfold fz;rw [hU (cb h)];exact h⟩
end
section
abbrev zp (A:a3) (w0 u:ak) (aH tb:Nat) (r:dt) (m:aY) (j:b3) (G:List (List aO)) (v:a2) (bs:ak):Prop:=
 v=.bool (fB j m G).ok/\∃ a,eH A w0 u aH tb u.heap.size r m j a (fB j m G) bs/\((fB j m G).ok=true->kS w0 bs aH tb a (rA j (bK G (fz j m)).done)/\a.clock=s7 j (bK G (fz j m)).done)
theorem OO {T:fV} (C:dh w0 u aH tb r m j ⟨none,0,0,0⟩ (0,0)) (W2:eP A w0 u tb T G) (WG:fY T) :
  a9 181 [ptr aH] u (zp A w0 u aH tb r m j G):=by
 refine bc Tryz.func181 ?_;rw [ptr,R1];have W4:=C.aj.lt;have W7:=W2.aj.lt;have W_:=C.cf.mem;have WM:=C.cf.dead;have ar:=C.bM.dead;refine ⟨_,_,_,C.aj.cell (i:=4) rfl,?_⟩;refine Lg C _ λXf pa n pc Ww Wh Xb V4=>?_
 refine g_ (fn:=iS) (R:=zp A w0 u aH tb r m j G) (λ_ _=>rfl) ?_;rw [Rn];rintro w1 Wo;have w:ai Xf w1:=by rw [Wo];exact cE _
 clear Wo;have Wg:=Wh.new w;have Wb:=C.bz Wg;refine ⟨iQ r tb m j aH,⟨_,_,Wb.aj⟩,aY.aR m ⟨λy V8=>by obtain ⟨W9,Xe,V8⟩:=V8;exact bJ V8 rfl,r.eO,λy V8=>by obtain ⟨W9,Xe,V8⟩:=V8;exact V8.cell (i:=5) rfl,?_⟩⟩;rw [ar];refine aC (vG w1 WM) ?_;rintro v Xm ⟨rfl,Wi⟩;have J:=Wb.bz Wi;refine ⟨_,rfl,⟨_,_,J.aj⟩,?_⟩;refine aC (u1 J C.ef (32+j.dead) 1) ?_;rintro v Xg ⟨bj,rfl,WX,K⟩;refine aG.aR bj ⟨rfl,⟨_,_,(J.bz K).aj⟩,?_⟩;rintro b1 Xh WC Wp;have WV:ai Xg Xh:=by rw [Wp];exact hk _ _
 have WE:=J.bz K;have F:=w.new Wi;refine ⟨⟨_,_,(WE.bz WV).aj⟩,bH.lQ (V4.new F) (Wh.new F) K WX (by omega) WC Wp λap V' W8 Wx Xa H=>?_⟩;obtain ⟨cl,W3,_⟩:=(V4.new (F.new K)).ex;have WL:=V4.gi;have off:¬ aL pa aH:=λW=>by have:=WL aH W;omega
 have Wc:dh w0 W8 aH tb r m j ⟨none,0,0,0⟩ (0,0):=C.bz H;have Xd:(j.v.mem.map (lY j)).flatten++[mL j m (32+j.dead) 1]=fz j m:=rfl;have Wx:bH u W8 ap (n+1) V' (fz j m):=Wx;refine ⟨⟨_,_,Wc.aj⟩,?_⟩;refine aC (nx Wc (W2.new H) WG C.new (by omega) (by omega) Wx (by rw [Br];omega)) ?_;rintro v W0 ⟨dB,dc,raw,rfl,M,Wk,g,V2⟩;have M:eH A w0 u aH tb u.heap.size r m j ⟨none,0,0,0⟩ (bK G (fz j m)) W0:=M.of H (cQ _);have g:gW A w0 raw (bK G (fz j m)).done:=g;have V2:(bK G (fz j m)).ok=true->raw.length=(fz j m).length:=V2;refine ⟨_,_,_,_,rfl,ev (λD=>?_) (λV3=>?_)⟩
 ·have D:(bK G (fz j m)).ok=false:=D;have p:fB j m G=bK G (fz j m):=if_pos D;refine ⟨by rw [p,D],_,by rw [p];exact M,λh=>?_⟩
  rw [p,D] at h;cases h
 have V3:(bK G (fz j m)).ok=true:=V3;obtain ⟨Xc,W,V6⟩:=oA V3;have f:=M.eF;rw [Xc] at f;have hlen:raw.length=2 * j.v.mem.length+1:=by rw [V2 V3,Br]
 have N:∀ i,i<j.v.mem.length->∀ x,(bK G (fz j m)).done[2 * i+1]?=some x->x.words.length=120:=by intro i WN x Wv;obtain ⟨bg,WU⟩:=Bs (m:=m) WN;have:=D6 V3 WU Wv;have e:(mL j bg (e' j.dead) 120).v.iq=120:=rfl;omega
 have p:fB j m G=if mA j (bK G (fz j m)).done j.v.mem.length=true then ⟨true,[],(0,0),(bK G (fz j m)).a4,none,false⟩
   else if (hC j m (bK G (fz j m)).a4).ok=false then hC j m (bK G (fz j m)).a4 else ⟨false,[],(11,0),(hC j m (bK G (fz j m)).a4).a4,none,false⟩:=by
  unfold fB rZ;rw [if_neg (by rw [V3];simp)]
 obtain ⟨Xk,V5⟩:=C.bM.view;have WT:=V5.len;refine ⟨_,_,_,f.aj.cell (i:=4) rfl,?_⟩;have V:(bK G (fz j m)).done.length=2 * j.v.mem.length+1:=by rw [<-g.1,hlen]
 rw [g.1,WT];show cv prog _ _ _ _;generalize Wz:bK G (fz j m)=U at M g p N V W V6 f V3;have Wj:=f.aj.lt;have W6:=M.az.size;refine c2 mix (λq env z=>∃ (c:List m') (fq:an) (lc:Nat) (Ww:ax),q=j.v.mem.length - c.length/\c.length<=j.v.mem.length/\env=r7 ⟨aH,0,none⟩ dB U.done.length dc (mA j U.done c.length) j.v.mem.length c.length Ww/\n8 w0 W0 z aH tb r m j fq lc c/\∀ (k:Nat) (s:m'),c[k]?=some s->∃ d,raw[2 * k+1]?=some d/\s=sO d) j.v.mem.length
  ⟨[],none,0,_,by simp,by simp,rfl,⟨f,ao.refl _ _,a0.nil _ _ _,λk W=>absurd W nA,f.new.size⟩,λk s h=>by simp at h⟩ ?_
 rintro q env z ⟨c,fq,lc,Ww,rfl,WN,rfl,l,Wm⟩;refine KE l Wj (by omega) WN Wk g V rfl Ww (R:=zp A w0 u aH tb r m j G) (λ_ _=>rfl) (λWS d ar Xn WZ WY Wr Wf=>?_) (λWd Wr=>?_)
 ·refine eU ⟨j.v.mem.length - (c.length+1),by omega,c++[sO d],WZ,WY,Wr,by simp,by simp;omega,by rw [dI];rfl,Wf,λk s t=>?_⟩;rcases oT k c.length with Z | Z
  ·rw [hU Z] at t;exact Wm k s t
  ·rw [hV Z] at t;have:k - c.length=0:=by have:=cb t;simp at this <;> omega
   rw [this] at t;simp at t;have WO:k=c.length:=by omega
   subst WO;exact ⟨d,ar,t.symm⟩
 ·obtain ⟨d,ar⟩:∃ d,raw[2 * j.v.mem.length]?=some d:=⟨_,bD (by omega)⟩;obtain ⟨x,Wv⟩:∃ x,U.done[2 * j.v.mem.length]?=some x:=⟨_,bD (by omega)⟩;have WI:=g.2 _ d x ar Wv;have WJ:s7 j U.done=d8 x:=by unfold s7 dx;rw [dF,Wv];rfl
  refine p1 (pE (eU ?_));rw [ms,Wd];refine er (cells:=bO.cells) bO.len (by omega) (Wk.new l.eF.new) ar (by rw [V,bC (by omega) (by omega)];omega) g.1.symm λb o WF _=>bO.aR d ⟨WF,?_⟩
  refine aC (q9 (WI.az (ao.b4 l.eF.new) λ_ _ e=>e)) ?_;rintro v Xi ⟨rfl,w⟩;have a:=l.eF.bz w;refine ⟨_,rfl,⟨_,a.aj.cell (i:=14) rfl⟩,a.aj.frozen,?_⟩;rintro Wt V9;have X:ao (λk=>k=aH) Xi Wt:=by rw [V9];exact eY _ _ _ _
  have WD:av Wt aH (pK r tb m (gv j.inc j.a1) ⟨fq,c.length,lc,d8 x⟩ (0,0)) oi:=by rw [V9];exact a.aj.setCell (i:=14) _
  clear V9;have P:dh w0 Wt aH tb r m j ⟨fq,c.length,lc,d8 x⟩ (0,0):=⟨WD,a.bM,a.cf,a.mem,a.new.trans X λk WS e=>by have:=a.pJ;omega,a.pJ,a.kH,a.ne⟩;have E:ao (λk=>k=aH) W0 Wt:=(l.az.new w).trans X λ_ _ e=>e
  obtain ⟨Xl,WB,S,Wa⟩:=M.fS;rw [W] at Wa;rw [V6] at S;have WA:=WB.az E λe=>C.ne e.symm
  have We:ao (λk=>k=tb\/k=aH) u Wt:=M.az.trans E λk _ e=>.inr e
  have Wn:=We.size;refine ev (λWK=>?_) (λWK=>?_)
  ·rw [if_neg (by rw [WK];simp)] at p;refine aC (B1 P WA ⟨Wa,S⟩) ?_;rintro v Xj ⟨rfl,I⟩;have I:eH A w0 u aH tb u.heap.size r m j ⟨fq,c.length,lc,d8 x⟩ (hC j m U.a4) Xj:=eH.seq We (ao.refl _ _) I Wn;refine ⟨_,rfl,fX (λV_=>?_) (λV_=>?_)⟩
   ·obtain ⟨WW,WP,Wq⟩:=oA V_;have Q:=I.eF;rw [show (hC j m U.a4).out=(0,0) from WW] at Q;rw [if_neg (by rw [V_];simp)] at p;refine aC (yh Q 11) ?_;rintro v Xo ⟨rfl,WQ,Wl⟩;refine ⟨_,rfl,by rw [p],_,by rw [p];exact I.uR WP Wq WQ Wl rfl rfl rfl,λh=>?_⟩
    rw [p] at h;cases h
   ·rw [if_pos V_] at p;refine ⟨by rw [p,V_],_,by rw [p];exact I,λh=>?_⟩
    rw [p,V_] at h;cases h
  ·rw [if_pos WK] at p;refine ⟨by rw [p],_,by rw [p];exact M.uR W V6 E P rfl rfl rfl,λ_=>?_⟩
   rw [Wz];refine ⟨⟨⟨c,?_,rfl,?_,?_⟩,?_⟩,WJ.symm⟩
   ·exact (a0.new w l.own).rd.az X (hn (a0.new w l.own).rd λk Y e=>by have:=l.gi k Y;omega)
   ·rw [rA,ft,ly];exact Wd
   ·intro i s L W5 Wu;obtain ⟨d1,WH,rfl⟩:=Wm i s W5;have O:i<j.v.mem.length:=by have:=cb W5;omega
    obtain ⟨Ws,V7⟩:∃ Ws,U.done[2 * i+1]?=some Ws:=⟨_,bD (by omega)⟩;have B:=g.2 _ d1 Ws WH V7;have Wy:L=Ws.words:=by unfold rA at Wu;rw [dR,kk O] at Wu;simp only [mW,fe] at Wu;rw [<-Wu,dF,V7];rfl
    rw [Wy];have W1:=N i O Ws V7;have WR:=B.len;exact ⟨B.rd,WR,B.cap,B.wf,by show d1.cK<=1000;omega⟩
   ·intro k Y;have:=l.gi k Y;constructor<;>omega
end
end Go.Proofs.YtmkljjbioomepaaGreat
