import Derived.Test.YtmkljjbioomepaaGreatc29
import Derived.Test.YtmkljjbioomepaaGreatc19
set_option linter.all false
set_option maxHeartbeats 4000000
set_option maxRecDepth 100000
namespace Go.Proofs.YtmkljjbioomepaaGreat
open Go.Proofs.Tryz Go.br
variable {A:a5} {G:List (List aL)} {R:cA} {d:aL} {dA fm:al} {dc i lc aH tb:Nat} {ds:List aL} {flag:Bool} {j:b2} {m:aZ} {r:dr} {raw:List bR} {u w0 z:ak} {v:aP} {vs:List aP}
section
theorem bH.two {bE d bu:ak} {v1 v2:aG} {l q:aP} {b:Nat} (h:ai u bE) (i:cE (λk=>k<u.heap.size) bE v1 l) (c:ai bE d) (j:cE (λk=>k<bE.heap.size) d v2 q) (t:b=d.heap.size) (au:av bu b (v1.cells++v2.cells) cy) (n:ai d bu):bH u bu (some ⟨b,0,none⟩) 2 2 [l,q]:=by
 have r:=h.size;have s:=c.size;have a:∀ k,aK (some ⟨b,0,none⟩) k->k=b:=λk f=>by obtain ⟨o,p⟩:=f;simp at p;exact p.1.symm
 refine ⟨⟨[v1,v2],⟨by simp [dP];rfl,.inr ⟨b,v1.cells++v2.cells,rfl,au,cO 2,by decide,by rw [dH,aG.len,aG.len],by simp [dP];exact hO (by rw [dH,aG.len,aG.len];decide)⟩⟩,en.app (r1:=[v1]) (v1:=[l]) (en.one ?_) (en.one ?_)⟩,rfl,λk f=>by rw [a k f];omega⟩
 ·exact i.az (ao.b3 (c.new n)) λk g e=>by
   rcases e with e | e
   ·exact e
   ·have:=a k e;omega
 ·exact j.az (ao.b3 n) λk g e=>by
   rcases e with e | e
   ·omega
   ·have:=a k e;omega
noncomputable abbrev iN:Func:=f181
def lW (j:b2) (bg:aZ):List aP:=[mD j bg (24+j.dead) 1,mD j bg (e4 j.dead) 120]
def fs (j:b2) (m:aZ):List aP:=(j.v.mem.map (lW j)).flatten++[mD j m (32+j.dead) 1]
section
variable {A:a5} {w0 u:ak} {aH tb:Nat} {r:dr} {m:aZ} {j:b2} {V:fZ}
theorem KO {o:Int×Int} (B:df w0 u aH tb r m j V o) (L:ax)
  (Vv:∀ bq pa n pc L,ai u bq->n=2 * j.v.mem.length->bH u bq pa n pc ((j.v.mem.map (lW j)).flatten)->Go.br.W prog (sub (bo iN) [1,1,1]) (zG ⟨aH,0,none⟩ pa n pc L) (dB prog iN R) bq) :
  cu prog (.loop (sub (bo iN) [1,1,0,1,0,0])) (tP ⟨aH,0,none⟩ none 0 0 r.View.dL r.View.dN r.View.dW r.View.dN 0 L)
   (aO 0 (aV (λenv w=>Go.br.W prog (sub (bo iN) [1,1,1]) env (dB prog iN R) w) (dB prog iN R))) u:=by
 obtain ⟨VY,f⟩:=B.bN.view;have hlen:=f.len;have VR:=B.cj.mem;have Q:=B.cj.dead;have ar:=B.bN.dead;have VE:=B.aj.lt;refine c2 mix (λq env z=>∃ (i:Nat) (pa:al) (pc:Nat) (L:ax),q=j.v.mem.length - i/\i<=j.v.mem.length/\env=tP ⟨aH,0,none⟩ pa (2 * i) pc r.View.dL r.View.dN r.View.dW r.View.dN i L/\ai u z/\
   bH u z pa (2 * i) pc ((j.v.mem.take i).map (lW j)).flatten) j.v.mem.length
  ⟨0,none,0,_,by omega,by omega,rfl,ao.refl _ _,bH.nil _ _⟩ ?_
 rintro q env z ⟨i,pa,pc,L,rfl,VZ,rfl,c,t⟩;refine g7 (fn:=iN) (R:=R) (λ_ _=>rfl) ?_;rw [PU,hlen];have U:=B.new.new c;refine a' (λVS=>?_) (λVQ=>?_)
 ·obtain ⟨bg,hm⟩:∃ bg,j.v.mem[i]?=some bg:=⟨_,bF (by omega)⟩;have VT:=B.cj.ee bg (cg hm);refine eo (cells:=aZ.cells) aZ.len (by omega) (f.rd.new U) hm rfl rfl λb VF Vs _=>aZ.aS bg ⟨Vs,?_⟩
  refine ea (vs:=bg.cells) rfl (aZ.single _) λVJ VW VP VC Vx=>?_
  rintro VG Z;have X:ai VW VG:=by rw [Z];exact cD _
  clear Z;have C:=Vx.new X;have I:=ai.aj X VC;have O:=B.bx (c.new C);refine ⟨λy=>av y VJ bg.cells eH/\iL r tb m j aH y,⟨I,_,_,O.aj⟩,aZ.aS bg ⟨λy g=>bK g.1 rfl,r.ew,λy g=>by obtain ⟨_,VI,VF,g⟩:=g;exact g.cell (i:=5) rfl,aZ.aS bg ⟨λy g=>bK g.1 rfl,r.ew,λy g=>by obtain ⟨_,VI,VF,g⟩:=g;exact g.cell (i:=5) rfl,?_⟩⟩⟩;rw [ar];refine aC (yE VG Q) ?_;rintro v V1 ⟨rfl,l⟩;have F:=O.bx l;refine ⟨_,rfl,⟨ai.aj l I,_,_,F.aj⟩,?_⟩;refine aC (uH F (m:=bg) (by unfold ec;omega) (24+j.dead) 1) ?_;rintro v VX ⟨v1,rfl,Vz,p⟩;have h:=F.bx p;have J:=ai.aj (l.new p) I;refine aG.aS v1 ⟨rfl,⟨J,_,_,h.aj⟩,?_⟩;refine aC (yy VX Q) ?_;rintro v V2 ⟨rfl,rfl⟩;refine ⟨_,rfl,⟨J,_,_,h.aj⟩,?_⟩;refine aC (uH h (m:=bg) (by unfold ec;omega) (e4 j.dead) 120) ?_;rintro v V3 ⟨v2,rfl,VA,s⟩;have P:=h.bx s;have A:=ai.aj s J;refine aG.aS v2 ⟨rfl,⟨A,_,_,P.aj⟩,?_⟩;rintro VK VH N Vr;obtain ⟨K,a⟩:=bl N Vr;have K:av VH VK (v1.cells++v2.cells) cy:=K;clear Vr;have VB:=bH.two p Vz s VA N K a;have D:=(p.new s).new a;have d:=C.new l;have G:=P.bx a;have E:=t.new (d.new D);obtain ⟨cf,Y,_⟩:=E.ex;have VU:=d.size;have VV:=c.size;refine ⟨⟨ai.aj a A,_,_,G.aj⟩,bH.tJ E (c.new (d.new D)) VB (λk Vw=>by obtain ⟨VD,H,_⟩:=t.ex;have:=H.lt Vw;omega) (by omega) (by omega) λap M V0 VM S Vy=>?_⟩;have off:∀ {b:Nat} {cs:ax} {T:TypeId},T≠cy->av VH b cs T->¬ aK pa b:=λVN VO Vv=>by obtain ⟨VL,Vt⟩:=fI Y Vv;exact Vt.ne VO (λe=>VN e.symm) rfl
  refine ⟨⟨S.aj (ai.aj a A) (off (by decide) (ai.aj a A)),_,_,S.aj G.aj (off (by decide) G.aj)⟩,eS ?_⟩;rw [bC (x:=(i:Int)+1) (by omega) (by omega)];refine ⟨j.v.mem.length - (i+1),by omega,i+1,ap,M,_,rfl,by omega,by rw [<-hlen,show 2 * (i+1)=2 * i+2 by omega];rfl,Vy,?_⟩;have e:((j.v.mem.take i).map (lW j)).flatten++lW j bg=((j.v.mem.take (i+1)).map (lW j)).flatten:=by rw [e7,hm];simp
  rw [<-e,show 2 * (i+1)=2 * i+2 by omega];exact VM
 ·have Vu:i=j.v.mem.length:=by omega
  subst Vu;refine pU (pz (eS ?_));rw [hv] at t;exact Vv z pa _ pc _ c rfl t
end
end
section
structure m1 where
 a:al
 n:Nat
 c:Nat
def mv (s:m1):ax:=[.slice s.a s.n s.c]
def sw (d:bR):m1:=⟨d.Words,d.cI,d.cC⟩
abbrev v3:TypeId:=94
structure n0 (w0 u z:ak) (aH tb:Nat) (r:dr) (m:aZ) (j:b2) (fm:al) (lc:Nat) (pN:List m1):Prop where
 eE:df w0 z aH tb r m j ⟨fm,pN.length,lc,0⟩ (0,0)
 az:ao (λk=>k=aH) u z
 own:a2 z v3 1 fm pN.length lc (pN.map mv).flatten
 f9:∀ k,aK fm k->u.heap.size<=k
 le:w0.heap.size<=u.heap.size
theorem n0.lM {c:ak} {a:List m1} (h:n0 w0 u z aH tb r m j fm lc a) (b:ai z c):n0 w0 u c aH tb r m j fm lc a:=
 ⟨h.eE.bx b,h.az.new b,a2.new b h.own,h.f9,h.le⟩
theorem KP {c:List m1} (h:n0 w0 u z aH tb r m j fm lc c) (Vt:aH<u.heap.size) (Vs:c.length<=100) {bs:Nat} (P:bh w0 dA (fM raw).flatten) (K:bs=raw.length) {d:bR} (ar:raw[2 * c.length+1]?=some d)
  {A:Int} {V:ax} {Q:Exit->ax->aE} (dG:∀ env w,Q .ret env w=dB prog iN R .ret env w)
  (VC:∀ Vu Y X V,n0 w0 u Vu aH tb r m j Y X (c++[sw d])->Q .normal (zI ⟨aH,0,none⟩ dA bs dc flag A c.length V) Vu) :
  Go.br.W prog (sub (bo iN) [1,1,1,1,1,1,1,0,1,0,0,1,1,0,0,1,1]) (tQ ⟨aH,0,none⟩ dA bs dc flag c.length A c.length V) Q z:=by
 refine g7 (fn:=iN) (R:=R) dG ?_;rw [QZ];rintro VE D;have N:ai z VE:=by rw [D];exact cD _
 clear D;have Vr:=h.lM N;refine ⟨λy=>df w0 y aH tb r m j ⟨fm,c.length,lc,0⟩ (0,0),Vr.eE,fm,c.length,lc,λy S=>S.aj.cell (i:=13) rfl,?_⟩;refine iR (cells:=bR.cells) (sz:=2) bR.len (by omega) P ar (by rw [bC (x:=2 * (c.length:Int)) (by omega) (by omega),bC (by omega) (by omega)];omega) K λb o VB=>⟨d.Words,d.cI,d.cC,λy S=>VB y S.new 1 _ rfl,?_⟩
 rintro aA Vv G E;obtain ⟨t,O⟩:=bl G E;have t:av Vv aA (mv (sw d)) v3:=t;clear E;have p:=Vr.lM O;obtain ⟨inf,L,U,C,I⟩:=fL (T:=v3) (z:=.slice none 0 0) (n:=1) (m:=24) (by kernel_rfl);refine ⟨p.eE,q5 (cells:=mv) (sz:=1) (λ_=>rfl) (λx v an=>by simp [mv] at an;subst an;rfl) Tryz.underlying218 L U (by rw [C];rfl) C (by decide) (by rw [I];decide) p.own (l2:=[sw d]) (m:=1) (fk t rfl) rfl (by omega) λap g VF Vx Z Vy=>?_⟩;have off:∀ {b:Nat} {cs:ax} {T:TypeId},T≠v3->av Vv b cs T->¬ aK fm b:=λVz VA f=>by obtain ⟨Vw,J⟩:=fI p.own f;exact J.ne VA (λe=>Vz e.symm) rfl
 have hle:=h.le;have a:=p.eE.az Z λk f=>⟨by have:=h.f9 k f;omega,λe=>off (by decide) p.eE.aj (e▸f)⟩
 refine ⟨a,⟨_,a.aj.cell (i:=13) rfl⟩,a.aj.frozen,?_⟩;rintro F s;have q:ao (λk=>k=aH) VF F:=by rw [s];exact eV _ _ _ _
 have H:av F aH (pF r tb m (gl j.inc j.a3) ⟨ap,c.length+1,g,0⟩ (0,0)) n8:=by rw [s];exact a.aj.setCell (i:=13) _
 clear s;have VD:=p.az.size;have l:∀ k,aK ap k->u.heap.size<=k:=λk f=>by
  rcases Vy k f with e | e
  ·exact h.f9 k e
  ·omega
 have B:ao (λk=>k=aH) u F:=(p.az.trans Z λk M e=>by have:=h.f9 k e;omega).trans q λ_ _ e=>e
 refine VC F ap g _ ⟨⟨by rw [dH];exact H,a.bN,a.cj,a.mem,a.new.trans q λk M e=>by have:=a.pE;omega,a.pE,a.kC,a.ne⟩,B,?_,l,hle⟩;rw [dH];exact Vx.az q λk f e=>by have:=l k f;omega
end
section
def mw (j:b2) (ds:List aL) (n:Nat):Bool:=(List.range n).all λi=>dx ds (2 * i) == j.dR
theorem G1 (j:b2) (ds:List aL) (n:Nat):mw j ds (n+1)=(mw j ds n && (dx ds (2 * n) == j.dR)):=by unfold mw;rw [j9,List.all_append];simp
theorem JP {a:List m1} (h:n0 w0 u z aH tb r m j fm lc a) (E:aH<u.heap.size) {c:Nat} (T:c<=100) (Vv:a.length<=c) (F:bh w0 dA (fM raw).flatten) (t:gS A w0 raw ds) (Y:ds.length=2 * c+1)
  (f:flag=mw j ds a.length) (g:ax) {iq:Exit->ax->aE} (L:∀ env w,iq .ret env w=dB prog iN R .ret env w)
  (k:a.length<c->∀ d,raw[2 * a.length+1]?=some d->∀ J n l g,n0 w0 u J aH tb r m j n l (a++[sw d])->iq .normal (rQ ⟨aH,0,none⟩ dA ds.length dc (mw j ds (a.length+1)) c (a.length+1:Nat) g) J)
  (B:a.length=c->∀ g,iq (.exit 2) (zH ⟨aH,0,none⟩ dA ds.length dc flag g) z) :
  Go.br.W prog (sub (bo iN) [1,1,1,1,1,1,1,0,1,0,0]) (rQ ⟨aH,0,none⟩ dA ds.length dc flag c a.length g) iq z:=by
 have G:raw.length=ds.length:=t.1;refine g7 (fn:=iN) (R:=R) L ?_;rw [PV];refine a' (λVs=>?_) (λVr=>B (by omega) _);have C:a.length<c:=by omega
 obtain ⟨d,ar⟩:∃ d,raw[2 * a.length]?=some d:=⟨_,bF (by omega)⟩;obtain ⟨x,U⟩:∃ x,ds[2 * a.length]?=some x:=⟨_,bF (by omega)⟩;obtain ⟨d1,s⟩:∃ d1,raw[2 * a.length+1]?=some d1:=⟨_,bF (by omega)⟩;have M:=t.2 _ d x ar U;have O:dx ds (2 * a.length)=dZ x:=by unfold dx;rw [dD,U];rfl
 rintro Vu H;have S:ai z Vu:=by rw [H];exact cD _
 clear H;have p:=h.lM S;have one:∀ {y:ak},n0 w0 u y aH tb r m j fm lc a->∀ (K:Bool),K=mw j ds (a.length+1)->∀ (g:ax),Go.br.W prog (sub (bo iN) [1,1,1,1,1,1,1,0,1,0,0,1,1,0,0,1,1]) (tQ ⟨aH,0,none⟩ dA ds.length dc K a.length c a.length g) (aO 3 (aV (λenv w=>Go.br.W prog (sub (bo iN) [1,1,1,1,1,1,1,0,1,0,0,1,1,1]) env (bG prog iN R iq) w) (bG prog iN R iq))) y:=by intro y I K Q g;refine KP I E (by omega) F G.symm s (R:=R) (λ_ _=>rfl) (λJ n l Vt V=>?_);refine py (eS ?_);rw [Q1,bC (x:=(a.length:Int)+1) (by omega) (by omega),Q];exact k C d1 s J n l _ V
 have N:=h.eE.bN.dR;have Z:=h.eE.cj.dR;refine ⟨λy=>df w0 y aH tb r m j ⟨fm,a.length,lc,0⟩ (0,0),p.eE,fS (λP=>?_) (λP=>one p false (by rw [G1,<-f,P];rfl) _)⟩;refine iR (cells:=bR.cells) (sz:=2) bR.len (by omega) F ar (by rw [bC (x:=2 * (a.length:Int)) (by omega) (by omega)];omega) G.symm λb o X=>bR.aS d ⟨λy I=>kR (i:=0) λq v an=>by simpa using X y I.new q v an,r.fi,λy I=>I.aj.cell (i:=6) rfl,?_⟩
 refine aC (q1 (M.az (ao.b3 p.eE.new) λ_ _ e=>e)) ?_;rintro v Vw ⟨rfl,D⟩;refine ⟨_,rfl,(p.lM D).eE,one (p.lM D) _ ?_ _⟩;rw [G1,<-f,P,O,N,j8 (x:=j.dR) (by omega) (by omega),u3]
end
section
theorem H9:∀ {l:List aL},ho l=0->∀ d ∈ l,d.code=0:=λ{l}=>by
 induction l with
 |nil=>intro _ d ar;cases ar
 |cons x l a=>
  intro h d ar;unfold ho at h;split at h
  ·rename_i e;rcases e9.1 ar with rfl | ar
   ·exact e
   ·exact a h d ar
  ·rename_i e;exact absurd h e
theorem NC (h:kk vs ds=true) (a:ho ds=0) (an:vs[i]?=some v) (ar:ds[i]?=some d):(d.words.length:Int)=v.v.iE:=by have b:=H9 a d (cg ar);unfold kk at h;rw [eY,gQ] at h;have hm:(v,d) ∈ vs.zip ds:=cg (i:=i) (AW.2 ⟨an,ar⟩);have:=h.2 _ hm;unfold r2 at this;simp only at this;rw [if_pos b] at this;exact of_decide_eq_true this
theorem DY (h:(bL G vs).ok=true) (an:vs[i]?=some v) (ar:(bL G vs).done[i]?=some d):(d.words.length:Int)=v.v.iE:=by
 have f:vs.length≠0:=by have:=ch an;omega
 unfold bL cb at h ar;split at h
 ·cases h
 rename_i b;split at h
 ·cases h
 rename_i a;rw [if_neg b,if_neg a] at ar;have a:ho (batch G vs).done=0:=by simpa using a
 unfold batch at b a ar;rw [if_neg f] at b a ar;cases G with
 |nil=>simp at b
 |cons e g=>
  simp only at b a ar;split at b
  ·rename_i c;rw [if_pos c] at a ar;exact NC c a an ar
  ·simp at b
def rv (j:b2) (ds:List aL):List bb:=(List.range j.v.mem.length).map λi=>(ds.getD (2 * i+1) ⟨0,[]⟩).words
def sK (j:b2) (ds:List aL):Int:=dx ds (2 * j.v.mem.length)
def rH (j:b2) (m:aZ) (R:cn):cn:=
 if R.ok=false then R else if mw j R.done j.v.mem.length=true then ⟨true,[],(0,0),R.a7,none,false⟩
 else if (hA j m R.a7).ok=false then hA j m R.a7 else ⟨false,[],(11,0),(hA j m R.a7).a7,none,false⟩
def fw (j:b2) (m:aZ) (G:List (List aL)):cn:=rH j m (bL G (fs j m))
structure kM (w0 w:ak) (aH tb:Nat) (V:fZ) (aT:List bb):Prop where
 ex:∃ pN:List m1,bh w V.fm (pN.map mv).flatten/\V.jU=pN.length/\pN.length=aT.length/\∀ (i:Nat) (s:m1) (L:bb),pN[i]?=some s->aT[i]?=some L->rF w0 s.a s.n s.c L
 off:∀ k,aK V.fm k->k≠tb/\k≠aH
theorem kM.new {w0 w w':ak} {aH tb:Nat} {V:fZ} {aT:List bb} (h:kM w0 w aH tb V aT) (g:ai w w'):kM w0 w' aH tb V aT:=by obtain ⟨⟨a,b,c,d,e⟩,f⟩:=h;exact ⟨⟨a,b.new g,c,d,e⟩,f⟩
theorem kM.az {w0 w w':ak} {aH tb:Nat} {V:fZ} {aT:List bb} (h:kM w0 w aH tb V aT) {M:a5} (l:ao M w w') (j:∀ k,M k->k=tb\/k=aH):kM w0 w' aH tb V aT:=by
 obtain ⟨⟨b,c,f,g,i⟩,d⟩:=h;refine ⟨⟨b,c.az l (g9 c λk a e=>?_),f,g,i⟩,d⟩;have:=d k a;rcases j k e with e | e
 ·exact this.1 e
 ·exact this.2 e
theorem Bc (j:b2) (m:aZ):(fs j m).length=2 * j.v.mem.length+1:=by
 unfold fs;rw [dH];have:((j.v.mem.map (lW j)).flatten).length=2 * j.v.mem.length:=by
  induction j.v.mem with
  |nil=>rfl
  |cons a l b=>rw [gA,gR,dH,b];simp [lW];omega
 rw [this];rfl
theorem Bd (c:i<j.v.mem.length):∃ bg,(fs j m)[2 * i+1]?=some (mD j bg (e4 j.dead) 120):=by
 have key:∀ (l:List aZ) (i:Nat),i<l.length->∃ bg,((l.map (lW j)).flatten)[2 * i+1]?=some (mD j bg (e4 j.dead) 120):=by
  intro l;induction l with
  |nil=>intro i h;cases h
  |cons a l d=>
   intro i h;rw [gA,gR];cases i with
   |zero=>exact ⟨a,rfl⟩
   |succ i=>obtain ⟨bg,b⟩:=d i (by simpa using h);refine ⟨bg,?_⟩;rw [hQ (by simp [lW];omega)];simp only [lW,hh,p4];rw [show 2 * (i+1)+1 - (0+1+1)=2 * i+1 by omega];exact b
 obtain ⟨bg,h⟩:=key j.v.mem i c;exact ⟨bg,by unfold fs;rw [hP (ch h)];exact h⟩
end
section
abbrev y0 (A:a5) (w0 u:ak) (aH tb:Nat) (r:dr) (m:aZ) (j:b2) (G:List (List aL)) (v:a4) (bq:ak):Prop:=
 v=.bool (fw j m G).ok/\∃ a,eG A w0 u aH tb u.heap.size r m j a (fw j m G) bq/\((fw j m G).ok=true->kM w0 bq aH tb a (rv j (bL G (fs j m)).done)/\a.clock=sK j (bL G (fs j m)).done)
theorem ND {T:gg} (C:df w0 u aH tb r m j ⟨none,0,0,0⟩ (0,0)) (Wr:eO A w0 u tb T G) (V7:fT T) :
  a_ 181 [ptr aH] u (y0 A w0 u aH tb r m j G):=by
 refine bc Tryz.func181 ?_;rw [ptr,Rw];have Wt:=C.aj.lt;have Ww:=Wr.aj.lt;have Wz:=C.cj.mem;have Wb:=C.cj.dead;have ar:=C.bN.dead;refine ⟨_,_,_,C.aj.cell (i:=4) rfl,?_⟩;refine KO C _ λWF pa n pc VX VI WB Vt=>?_
 refine g7 (fn:=iN) (R:=y0 A w0 u aH tb r m j G) (λ_ _=>rfl) ?_;rw [QY];rintro w1 VP;have w:ai WF w1:=by rw [VP];exact cD _
 clear VP;have VH:=VI.new w;have VC:=C.bx VH;refine ⟨iL r tb m j aH,⟨_,_,VC.aj⟩,aZ.aS m ⟨λy Vx=>by obtain ⟨Wy,WE,Vx⟩:=Vx;exact bK Vx rfl,r.ew,λy Vx=>by obtain ⟨Wy,WE,Vx⟩:=Vx;exact Vx.cell (i:=5) rfl,?_⟩⟩;rw [ar];refine aC (vf w1 Wb) ?_;rintro v WM ⟨rfl,VJ⟩;have J:=VC.bx VJ;refine ⟨_,rfl,⟨_,_,J.aj⟩,?_⟩;refine aC (uH J C.ee (32+j.dead) 1) ?_;rintro v WG ⟨bj,rfl,Wm,K⟩;refine aG.aS bj ⟨rfl,⟨_,_,(J.bx K).aj⟩,?_⟩;rintro b1 WH V3 VQ;have Wk:ai WG WH:=by rw [VQ];exact hk _ _
 have V5:=J.bx K;have F:=w.new VJ;refine ⟨⟨_,_,(V5.bx Wk).aj⟩,bH.lN (Vt.new F) (VI.new F) K Wm (by omega) V3 VQ λap VA Wx VY WA H=>?_⟩;obtain ⟨cf,Ws,_⟩:=(Vt.new (F.new K)).ex;have Wa:=Vt.f9;have off:¬ aK pa aH:=λW=>by have:=Wa aH W;omega
 have VD:df w0 Wx aH tb r m j ⟨none,0,0,0⟩ (0,0):=C.bx H;have WD:(j.v.mem.map (lW j)).flatten++[mD j m (32+j.dead) 1]=fs j m:=rfl;have VY:bH u Wx ap (n+1) VA (fs j m):=VY;refine ⟨⟨_,_,VD.aj⟩,?_⟩;refine aC (np VD (Wr.new H) V7 C.new (by omega) (by omega) VY (by rw [Bc];omega)) ?_;rintro v Wp ⟨dA,dc,raw,rfl,M,VL,g,Vr⟩;have M:eG A w0 u aH tb u.heap.size r m j ⟨none,0,0,0⟩ (bL G (fs j m)) Wp:=M.of H (cO _);have g:gS A w0 raw (bL G (fs j m)).done:=g;have Vr:(bL G (fs j m)).ok=true->raw.length=(fs j m).length:=Vr;refine ⟨_,_,_,_,rfl,er (λD=>?_) (λVs=>?_)⟩
 ·have D:(bL G (fs j m)).ok=false:=D;have p:fw j m G=bL G (fs j m):=if_pos D;refine ⟨by rw [p,D],_,by rw [p];exact M,λh=>?_⟩
  rw [p,D] at h;cases h
 have Vs:(bL G (fs j m)).ok=true:=Vs;obtain ⟨WC,W,Vv⟩:=oj Vs;have f:=M.eE;rw [WC] at f;have hlen:raw.length=2 * j.v.mem.length+1:=by rw [Vr Vs,Bc]
 have N:∀ i,i<j.v.mem.length->∀ x,(bL G (fs j m)).done[2 * i+1]?=some x->x.words.length=120:=by intro i Wc x VW;obtain ⟨bg,Wj⟩:=Bd (m:=m) Wc;have:=DY Vs Wj VW;have e:(mD j bg (e4 j.dead) 120).v.iE=120:=rfl;omega
 have p:fw j m G=if mw j (bL G (fs j m)).done j.v.mem.length=true then ⟨true,[],(0,0),(bL G (fs j m)).a7,none,false⟩
   else if (hA j m (bL G (fs j m)).a7).ok=false then hA j m (bL G (fs j m)).a7 else ⟨false,[],(11,0),(hA j m (bL G (fs j m)).a7).a7,none,false⟩:=by
  unfold fw rH;rw [if_neg (by rw [Vs];simp)]
 obtain ⟨WK,Vu⟩:=C.bN.view;have Wi:=Vu.len;refine ⟨_,_,_,f.aj.cell (i:=4) rfl,?_⟩;have V:(bL G (fs j m)).done.length=2 * j.v.mem.length+1:=by rw [<-g.1,hlen]
 rw [g.1,Wi];show cu prog _ _ _ _;generalize V0:bL G (fs j m)=U at M g p N V W Vv f Vs;have VK:=f.aj.lt;have Wv:=M.az.size;refine c2 mix (λq env z=>∃ (c:List m1) (fm:al) (lc:Nat) (VX:ax),q=j.v.mem.length - c.length/\c.length<=j.v.mem.length/\env=rQ ⟨aH,0,none⟩ dA U.done.length dc (mw j U.done c.length) j.v.mem.length c.length VX/\n0 w0 Wp z aH tb r m j fm lc c/\∀ (k:Nat) (s:m1),c[k]?=some s->∃ d,raw[2 * k+1]?=some d/\s=sw d) j.v.mem.length
  ⟨[],none,0,_,by simp,by simp,rfl,⟨f,ao.refl _ _,a2.nil _ _ _,λk W=>absurd W nr,f.new.size⟩,λk s h=>by simp at h⟩ ?_
 rintro q env z ⟨c,fm,lc,VX,rfl,Wc,rfl,l,VN⟩;refine JP l VK (by omega) Wc VL g V rfl VX (R:=y0 A w0 u aH tb r m j G) (λ_ _=>rfl) (λWh d ar WN Wo Wn VS VG=>?_) (λVE VS=>?_)
 ·refine eS ⟨j.v.mem.length - (c.length+1),by omega,c++[sw d],Wo,Wn,VS,by simp,by simp;omega,by rw [dH];rfl,VG,λk s t=>?_⟩;rcases oL k c.length with Z | Z
  ·rw [hP Z] at t;exact VN k s t
  ·rw [hQ Z] at t;have:k - c.length=0:=by have:=ch t;simp at this <;> omega
   rw [this] at t;simp at t;have Wd:k=c.length:=by omega
   subst Wd;exact ⟨d,ar,t.symm⟩
 ·obtain ⟨d,ar⟩:∃ d,raw[2 * j.v.mem.length]?=some d:=⟨_,bF (by omega)⟩;obtain ⟨x,VW⟩:∃ x,U.done[2 * j.v.mem.length]?=some x:=⟨_,bF (by omega)⟩;have V9:=g.2 _ d x ar VW;have V_:sK j U.done=dZ x:=by unfold sK dx;rw [dD,VW];rfl
  refine pU (pz (eS ?_));rw [Q0,VE];refine eo (cells:=bR.cells) bR.len (by omega) (VL.new l.eE.new) ar (by rw [V,bC (by omega) (by omega)];omega) g.1.symm λb o V6 _=>bR.aS d ⟨V6,?_⟩
  refine aC (q1 (V9.az (ao.b3 l.eE.new) λ_ _ e=>e)) ?_;rintro v WI ⟨rfl,w⟩;have a:=l.eE.bx w;refine ⟨_,rfl,⟨_,a.aj.cell (i:=14) rfl⟩,a.aj.frozen,?_⟩;rintro VU Vy;have X:ao (λk=>k=aH) WI VU:=by rw [Vy];exact eV _ _ _ _
  have V4:av VU aH (pF r tb m (gl j.inc j.a3) ⟨fm,c.length,lc,dZ x⟩ (0,0)) n8:=by rw [Vy];exact a.aj.setCell (i:=14) _
  clear Vy;have P:df w0 VU aH tb r m j ⟨fm,c.length,lc,dZ x⟩ (0,0):=⟨V4,a.bN,a.cj,a.mem,a.new.trans X λk Wh e=>by have:=a.pE;omega,a.pE,a.kC,a.ne⟩;have E:ao (λk=>k=aH) Wp VU:=(l.az.new w).trans X λ_ _ e=>e
  obtain ⟨WL,V2,S,VB⟩:=M.fO;rw [W] at VB;rw [Vv] at S;have V1:=V2.az E λe=>C.ne e.symm
  have VF:ao (λk=>k=tb\/k=aH) u VU:=M.az.trans E λk _ e=>.inr e
  have VO:=VF.size;refine er (λV'=>?_) (λV'=>?_)
  ·rw [if_neg (by rw [V'];simp)] at p;refine aC (Bw P V1 ⟨VB,S⟩) ?_;rintro v WJ ⟨rfl,I⟩;have I:eG A w0 u aH tb u.heap.size r m j ⟨fm,c.length,lc,dZ x⟩ (hA j m U.a7) WJ:=eG.seq VF (ao.refl _ _) I VO;refine ⟨_,rfl,fS (λVz=>?_) (λVz=>?_)⟩
   ·obtain ⟨Wl,We,VR⟩:=oj Vz;have Q:=I.eE;rw [show (hA j m U.a7).out=(0,0) from Wl] at Q;rw [if_neg (by rw [Vz];simp)] at p;refine aC (xX Q 11) ?_;rintro v WO ⟨rfl,Wf,VM⟩;refine ⟨_,rfl,by rw [p],_,by rw [p];exact I.uy We VR Wf VM rfl rfl rfl,λh=>?_⟩
    rw [p] at h;cases h
   ·rw [if_pos Vz] at p;refine ⟨by rw [p,Vz],_,by rw [p];exact I,λh=>?_⟩
    rw [p,Vz] at h;cases h
  ·rw [if_pos V'] at p;refine ⟨by rw [p],_,by rw [p];exact M.uy W Vv E P rfl rfl rfl,λ_=>?_⟩
   rw [V0];refine ⟨⟨⟨c,?_,rfl,?_,?_⟩,?_⟩,V_.symm⟩
   ·exact (a2.new w l.own).rd.az X (g9 (a2.new w l.own).rd λk Y e=>by have:=l.f9 k Y;omega)
   ·rw [rv,fC,lr];exact VE
   ·intro i s L Wu VV;obtain ⟨d1,V8,rfl⟩:=VN i s Wu;have O:i<j.v.mem.length:=by have:=ch Wu;omega
    obtain ⟨VT,Vw⟩:∃ VT,U.done[2 * i+1]?=some VT:=⟨_,bF (by omega)⟩;have B:=g.2 _ d1 VT V8 Vw;have VZ:L=VT.words:=by unfold rv at VV;rw [d',ka O] at VV;simp only [mV,e8] at VV;rw [<-VV,dD,Vw];rfl
    rw [VZ];have Wq:=N i O VT Vw;have Wg:=B.len;exact ⟨B.rd,Wg,B.cap,B.wf,by show d1.cI<=1000;omega⟩
   ·intro k Y;have:=l.f9 k Y;constructor<;>omega
end
end Go.Proofs.YtmkljjbioomepaaGreat
