import Derived.Test.YtmkljjbioomepaaGreatd27
import Derived.Test.YtmkljjbioomepaaGreatd18
set_option linter.all false
set_option maxHeartbeats 4000000
set_option maxRecDepth 100000
namespace Go.Proofs.YtmkljjbioomepaaGreat
open Go.Proofs.Tryz Go.bs
variable {A:a6} {G:List (List aM)} {R:cz} {T:gn} {d:aM} {dB fz:an} {dc i lc aI tb:Nat} {ds:List aM} {flag:Bool} {j:ca} {m:a0} {r:dE} {raw:List bT} {u w0 z:ak} {v:aQ} {vs:List aQ}
section
def oW (L:List (aQ×de)) (a:cr):cr:=
 if a.ok=false then a else if (List.range a.done.length).any (ny L a.done)=true then ⟨false,[],(11,0),a.a7,none,false⟩ else ⟨true,[],(0,0),a.a7,none,false⟩
def tx (j:ca) (a:cr):cr:=
 if a.ok=false then a else if (List.range a.done.length).any (jH j a.done)=true then ⟨false,[],(11,0),a.a7,none,false⟩
 else oW (h' j a.done a.done.length) (bP a.a7 ((h' j a.done a.done.length).map Prod.fst))
def hD (j:ca) (G:List (List aM)):cr:=tx j (bP G (hC j))
theorem BT (j:ca):(hC j).length=j.v.mem.length * (cS j).length:=by
 unfold hC;induction j.v.mem with
 |nil=>simp
 |cons a l b=>simp [b,rr,Nat.add_comm]
theorem tI {V:gl} (XG:dg w0 u aI tb r m j V (0,0)) (X2:eP A w0 u tb T G) (XM:ga T) :
  bb 179 [ptr aI] u (lq A w0 u aI tb r m j V (hD j G)):=by
 refine bd Tryz.func179 ?_;rw [ptr,TT];have X8:=XG.aj.lt;have X_:=X2.aj.lt;have XQ:=XG.b8.mem;obtain ⟨Yb,XN⟩:=Be j;have X4:j.v.mem.length * (cS j).length<=10:=by have:j.v.mem.length * (cS j).length<=5 * 2:=p_ XQ.2 XN;omega
 refine aD (MN XG) ?_;rintro v bG ⟨jg,k9,rfl,Q,X3,XP⟩;have D:=XG.bB Q;have XZ:=Q.size;refine ⟨_,_,_,rfl,_,_,_,D.aj.cell (i:=4) rfl,?_⟩;refine KS D X3 _ λYf a2 n pc XH S X0=>?_
 refine hj (fn:=ha) (R:=lq A w0 u aI tb r m j V (hD j G)) (λ_ _=>rfl) ?_;rw [Su];have J:=Q.new S;refine aD (nM (D.bB S) (X2.new J) XM D.new (by omega) (by omega) X0 (by rw [BT];omega)) ?_;rintro v bq ⟨dB,dc,raw,rfl,b,XY,p,E⟩;have Xy:=b.aA;have b:eF A w0 u aI tb u.heap.size r m j V (bP G (hC j)) bq:=eF.of b J XZ;have p:g6 A w0 raw (bP G (hC j)).done:=p;have E:(bP G (hC j)).ok=true->raw.length=(hC j).length:=E;refine ⟨_,_,_,_,rfl,ev (λd=>?_) (λt=>?_)⟩
 ·have d:(bP G (hC j)).ok=false:=d;have s:hD j G=bP G (hC j):=if_pos d;rw [s];exact ⟨by rw [d],b⟩
 have t:(bP G (hC j)).ok=true:=t;obtain ⟨X6,H,U⟩:=oE t;have l:=b.eD;rw [X6] at l;have s:hD j G=if (List.range (bP G (hC j)).done.length).any (jH j (bP G (hC j)).done)=true then ⟨false,[],(11,0),(bP G (hC j)).a7,none,false⟩
   else oW (h' j (bP G (hC j)).done (bP G (hC j)).done.length) (bP (bP G (hC j)).a7 ((h' j (bP G (hC j)).done (bP G (hC j)).done.length).map Prod.fst)):=by
  unfold hD tx;rw [if_neg (by rw [t];simp)]
 have Z:(bP G (hC j)).done.length=j.v.mem.length * (cS j).length:=by rw [<-p.1,E t,BT]
 have F:=X3.new S;have XO:bk bq jg (nX (cS j)).flatten:=F.aA Xy (hk F λk P e=>by have:=XP k P;rcases e with e | e<;>omega);rw [p.1];generalize bP G (hC j)=w at b p Z s H U l;clear E t X6;refine Jj l Z XO XY p _ (R:=lq A w0 u aI tb r m j V (hD j G)) (QX:=bI prog ha (lq A w0 u aI tb r m j V (hD j G)) (dC prog ha (lq A w0 u aI tb r m j V (hD j G)))) (λ_ _=>rfl) (λN z Ya f XU XB=>?_) (λN z pb fA XF X' X1 Yd a X5=>?_)
 ·rw [s,if_pos N];exact ⟨rfl,b.u0 H U ((ao.b9 f).trans XU λ_ _ e=>e) XB rfl rfl rfl⟩
 rw [if_neg (by rw [N];simp)] at s;generalize h' j w.done w.done.length=L at a s;rw [Sx];obtain ⟨Ye,X,XD,Y⟩:=b.fY;rw [H] at Y;rw [U] at XD;have X7:=l.aj.lt;have X9:=X.aj.lt;have XL:fA=L.length:=by have:=a.kn.len;rwa [fZ] at this
 refine aD (nM a.eD (X.new a.new) ⟨Y,XD⟩ l.new (by omega) (by omega) a.kn (by rw [fZ];omega)) ?_;rintro v XI ⟨XJ,XK,M,rfl,g,Xz,c,y⟩;have K:=g.aA;have g:eF A w0 u aI tb u.heap.size r m j V (bP w.a7 (L.map Prod.fst)) XI:=eF.seq b.aA a.new g (by have:=b.aA.size;omega);have c:g6 A w0 M (bP w.a7 (L.map Prod.fst)).done:=c;have y:(bP w.a7 (L.map Prod.fst)).ok=true->M.length=(L.map Prod.fst).length:=y;refine ⟨_,_,_,_,rfl,ev (λd=>?_) (λt=>?_)⟩
 ·have d:(bP w.a7 (L.map Prod.fst)).ok=false:=d;rw [s,show oW L (bP w.a7 (L.map Prod.fst))=bP w.a7 (L.map Prod.fst) from if_pos d];exact ⟨by rw [d],g⟩
 have t:(bP w.a7 (L.map Prod.fst)).ok=true:=t;obtain ⟨XX,O,B⟩:=oE t;have o:=g.eD;rw [XX] at o;have W:L.length=(bP w.a7 (L.map Prod.fst)).done.length:=by rw [<-c.1,y t,fZ]
 unfold oW at s;rw [if_neg (by rw [t];simp)] at s;rw [c.1];generalize bP w.a7 (L.map Prod.fst)=C at g c s O B o W;have XC:bK bq XI pb fA XF (L.map Prod.fst):=a.kn.aA K λk e=>by rcases e with e | e<;>omega
 have Xv:bk XI X' (nX (L.map Prod.snd)).flatten:=a.su.rd.aA K (hk a.su.rd λk P e=>by have:=a.gv k P;rcases e with e | e<;>omega);refine c8 mix (λq env z=>∃ (i:Nat) (XH:ax),q=C.done.length - i/\i<=C.done.length/\env=sg ⟨aI,0,none⟩ pb fA XF X' fA X1 XJ C.done.length XK C.done.length i XH/\ai XI z/\∀ k,k<i->ny L C.done k=false) C.done.length
  ⟨0,_,by omega,by omega,rfl,ao.refl _ _,λk H=>by omega⟩ ?_
 rintro q env z ⟨i,XH,rfl,Yc,rfl,f,x⟩;refine Jk W (by omega) (o.bB f) Xz c Yc XL (XC.new f) (Xv.new f) XH (R:=lq A w0 u aI tb r m j V (hD j G)) (λ_ _=>rfl) (λXw N Yg Ya Xx XS XA=>?_) (λXw N Ya XE XV=>?_) (λXR XE=>?_)
 ·rw [s,if_pos (qa.2 ⟨i,fs.2 Xw,N⟩)];exact ⟨rfl,g.u0 O B ((ao.b9 (f.new Xx)).trans XS λ_ _ e=>e) XA rfl rfl rfl⟩
 ·exact eT ⟨C.done.length - (i+1),by omega,i+1,XE,rfl,by omega,rfl,f.new XV,λk H=>by
   rcases p9.1 H with H | rfl
   ·exact x k H
   ·exact N⟩
 ·subst XR;refine p7 (pJ (eT ?_));rw [SA];have XW:¬ (List.range C.done.length).any (ny L C.done)=true:=by intro h;obtain ⟨k,XT,I⟩:=qa.1 h;rw [x k (fs.1 XT)] at I;cases I
  rw [s,if_neg XW];exact ⟨rfl,g.u0 O B (ao.b9 f) (o.bB f) rfl rfl rfl⟩
end
section
theorem bK.two {bG d bq:ak} {v1 v2:aG} {l q:aQ} {b:Nat} (h:ai u bG) (i:cL (λk=>k<u.heap.size) bG v1 l) (c:ai bG d) (j:cL (λk=>k<bG.heap.size) d v2 q) (t:b=d.heap.size) (au:av bq b (v1.cells++v2.cells) cF) (n:ai d bq):bK u bq (some ⟨b,0,none⟩) 2 2 [l,q]:=by
 have r:=h.size;have s:=c.size;have a:∀ k,aL (some ⟨b,0,none⟩) k->k=b:=λk f=>by obtain ⟨o,p⟩:=f;simp at p;exact p.1.symm
 refine ⟨⟨[v1,v2],⟨by simp [dP];rfl,.inr ⟨b,v1.cells++v2.cells,rfl,au,cY 2,by decide,by rw [dy,aG.len,aG.len],by simp [dP];exact h1 (by rw [dy,aG.len,aG.len];decide)⟩⟩,et.app (r1:=[v1]) (v1:=[l]) (et.one ?_) (et.one ?_)⟩,rfl,λk f=>by rw [a k f];omega⟩
 ·exact i.aA (ao.b9 (c.new n)) λk g e=>by
   rcases e with e | e
   ·exact e
   ·have:=a k e;omega
 ·exact j.aA (ao.b9 n) λk g e=>by
   rcases e with e | e
   ·omega
   ·have:=a k e;omega
noncomputable abbrev je:Func:=f181
def ma (j:ca) (bg:a0):List aQ:=[mU j bg (24+j.dead) 1,mU j bg (e' j.dead) 120]
def fI (j:ca) (m:a0):List aQ:=(j.v.mem.map (ma j)).flatten++[mU j m (32+j.dead) 1]
section
variable {A:a6} {w0 u:ak} {aI tb:Nat} {r:dE} {m:a0} {j:ca} {V:gl}
theorem MO {o:Int×Int} (B:dg w0 u aI tb r m j V o) (L:ax)
  (Xz:∀ bw a2 n pc L,ai u bw->n=2 * j.v.mem.length->bK u bw a2 n pc ((j.v.mem.map (ma j)).flatten)->Go.bs.W prog (sub (bn je) [1,1,1]) (Al ⟨aI,0,none⟩ a2 n pc L) (dC prog je R) bw) :
  cG prog (.loop (sub (bn je) [1,1,0,1,0,0])) (ur ⟨aI,0,none⟩ none 0 0 r.View.fh r.View.eW r.View.fQ r.View.eW 0 L)
   (aP 0 (aZ (λenv w=>Go.bs.W prog (sub (bn je) [1,1,1]) env (dC prog je R) w) (dC prog je R))) u:=by
 obtain ⟨X2,f⟩:=B.bQ.view;have hlen:=f.len;have XV:=B.b8.mem;have Q:=B.b8.dead;have aq:=B.bQ.dead;have XI:=B.aj.lt;refine c8 mix (λq env z=>∃ (i:Nat) (a2:an) (pc:Nat) (L:ax),q=j.v.mem.length - i/\i<=j.v.mem.length/\env=ur ⟨aI,0,none⟩ a2 (2 * i) pc r.View.fh r.View.eW r.View.fQ r.View.eW i L/\ai u z/\
   bK u z a2 (2 * i) pc ((j.v.mem.take i).map (ma j)).flatten) j.v.mem.length
  ⟨0,none,0,_,by omega,by omega,rfl,ao.refl _ _,bK.nil _ _⟩ ?_
 rintro q env z ⟨i,a2,pc,L,rfl,X3,rfl,c,t⟩;refine hj (fn:=je) (R:=R) (λ_ _=>rfl) ?_;rw [RW,hlen];have U:=B.new.new c;refine bc (λXW=>?_) (λXU=>?_)
 ·obtain ⟨bg,hm⟩:∃ bg,j.v.mem[i]?=some bg:=⟨_,bE (by omega)⟩;have XX:=B.b8.ee bg (b5 hm);refine eI (cells:=a0.cells) a0.len (by omega) (f.rd.new U) hm rfl rfl λb XJ Xw _=>a0.aT bg ⟨Xw,?_⟩
  refine ec (vs:=bg.cells) rfl (a0.single _) λXN X0 XT XG XB=>?_
  rintro XK Z;have X:ai X0 XK:=by rw [Z];exact cK _
  clear Z;have C:=XB.new X;have I:=ai.aj X XG;have O:=B.bB (c.new C);refine ⟨λy=>av y XN bg.cells eG/\jc r tb m j aI y,⟨I,_,_,O.aj⟩,a0.aT bg ⟨λy g=>bO g.1 rfl,r.eV,λy g=>by obtain ⟨_,XM,XJ,g⟩:=g;exact g.cell (i:=5) rfl,a0.aT bg ⟨λy g=>bO g.1 rfl,r.eV,λy g=>by obtain ⟨_,XM,XJ,g⟩:=g;exact g.cell (i:=5) rfl,?_⟩⟩⟩;rw [aq];refine aD (zq XK Q) ?_;rintro v X5 ⟨rfl,l⟩;have F:=O.bB l;refine ⟨_,rfl,⟨ai.aj l I,_,_,F.aj⟩,?_⟩;refine aD (va F (m:=bg) (by unfold d9;omega) (24+j.dead) 1) ?_;rintro v X1 ⟨v1,rfl,XD,p⟩;have h:=F.bB p;have J:=ai.aj (l.new p) I;refine aG.aT v1 ⟨rfl,⟨J,_,_,h.aj⟩,?_⟩;refine aD (y7 X1 Q) ?_;rintro v X6 ⟨rfl,rfl⟩;refine ⟨_,rfl,⟨J,_,_,h.aj⟩,?_⟩;refine aD (va h (m:=bg) (by unfold d9;omega) (e' j.dead) 120) ?_;rintro v X7 ⟨v2,rfl,XE,s⟩;have P:=h.bB s;have A:=ai.aj s J;refine aG.aT v2 ⟨rfl,⟨A,_,_,P.aj⟩,?_⟩;rintro XO XL N Xv;obtain ⟨K,a⟩:=bl N Xv;have K:av XL XO (v1.cells++v2.cells) cF:=K;clear Xv;have XF:=bK.two p XD s XE N K a;have D:=(p.new s).new a;have d:=C.new l;have G:=P.bB a;have E:=t.new (d.new D);obtain ⟨cp,Y,_⟩:=E.ex;have XY:=d.size;have XZ:=c.size;refine ⟨⟨ai.aj a A,_,_,G.aj⟩,bK.ui E (c.new (d.new D)) XF (λk XA=>by obtain ⟨XH,H,_⟩:=t.ex;have:=H.lt XA;omega) (by omega) (by omega) λap M X4 XQ S XC=>?_⟩;have off:∀ {b:Nat} {cs:ax} {T:TypeId},T≠cF->av XL b cs T->¬ aL a2 b:=λXR XS Xz=>by obtain ⟨XP,Xx⟩:=fT Y Xz;exact Xx.ne XS (λe=>XR e.symm) rfl
  refine ⟨⟨S.aj (ai.aj a A) (off (by decide) (ai.aj a A)),_,_,S.aj G.aj (off (by decide) G.aj)⟩,eT ?_⟩;rw [bH (x:=(i:Int)+1) (by omega) (by omega)];refine ⟨j.v.mem.length - (i+1),by omega,i+1,ap,M,_,rfl,by omega,by rw [<-hlen,show 2 * (i+1)=2 * i+2 by omega];rfl,XC,?_⟩;have e:((j.v.mem.take i).map (ma j)).flatten++ma j bg=((j.v.mem.take (i+1)).map (ma j)).flatten:=by rw [ff,hm];simp
  rw [<-e,show 2 * (i+1)=2 * i+2 by omega];exact XQ
 ·have Xy:i=j.v.mem.length:=by omega
  subst Xy;refine p7 (pJ (eT ?_));rw [h0] at t;exact Xz z a2 _ pc _ c rfl t
end
end
section
structure nt where
 a:an
 n:Nat
 c:Nat
def mK (s:nt):ax:=[.slice s.a s.n s.c]
def sV (d:bT):nt:=⟨d.Words,d.cQ,d.cJ⟩
abbrev wN:TypeId:=94
structure ob (w0 u z:ak) (aI tb:Nat) (r:dE) (m:a0) (j:ca) (fz:an) (lc:Nat) (pS:List nt):Prop where
 eD:dg w0 z aI tb r m j ⟨fz,pS.length,lc,0⟩ (0,0)
 aA:ao (λk=>k=aI) u z
 own:a1 z wN 1 fz pS.length lc (pS.map mK).flatten
 gv:∀ k,aL fz k->u.heap.size<=k
 le:w0.heap.size<=u.heap.size
theorem ob.jX {c:ak} {a:List nt} (h:ob w0 u z aI tb r m j fz lc a) (b:ai z c):ob w0 u c aI tb r m j fz lc a:=
 ⟨h.eD.bB b,h.aA.new b,a1.new b h.own,h.gv,h.le⟩
theorem MP {c:List nt} (h:ob w0 u z aI tb r m j fz lc c) (Xx:aI<u.heap.size) (Xw:c.length<=100) {bt:Nat} (P:bk w0 dB (fW raw).flatten) (K:bt=raw.length) {d:bT} (aq:raw[2 * c.length+1]?=some d)
  {A:Int} {V:ax} {Q:Exit->ax->aF} (dH:∀ env w,Q .ret env w=dC prog je R .ret env w)
  (XG:∀ Xy Y X V,ob w0 u Xy aI tb r m j Y X (c++[sV d])->Q .normal (An ⟨aI,0,none⟩ dB bt dc flag A c.length V) Xy) :
  Go.bs.W prog (sub (bn je) [1,1,1,1,1,1,1,0,1,0,0,1,1,0,0,1,1]) (uu ⟨aI,0,none⟩ dB bt dc flag c.length A c.length V) Q z:=by
 refine hj (fn:=je) (R:=R) dH ?_;rw [S0];rintro XI D;have N:ai z XI:=by rw [D];exact cK _
 clear D;have Xv:=h.jX N;refine ⟨λy=>dg w0 y aI tb r m j ⟨fz,c.length,lc,0⟩ (0,0),Xv.eD,fz,c.length,lc,λy S=>S.aj.cell (i:=13) rfl,?_⟩;refine jj (cells:=bT.cells) (sz:=2) bT.len (by omega) P aq (by rw [bH (x:=2 * (c.length:Int)) (by omega) (by omega),bH (by omega) (by omega)];omega) K λb o XF=>⟨d.Words,d.cQ,d.cJ,λy S=>XF y S.new 1 _ rfl,?_⟩
 rintro aB Xz G E;obtain ⟨t,O⟩:=bl G E;have t:av Xz aB (mK (sV d)) wN:=t;clear E;have p:=Xv.jX O;obtain ⟨inf,L,U,C,I⟩:=fV (T:=wN) (z:=.slice none 0 0) (n:=1) (m:=24) (by kernel_rfl);refine ⟨p.eD,rh (cells:=mK) (sz:=1) (λ_=>rfl) (λx v al=>by simp [mK] at al;subst al;rfl) Tryz.underlying218 L U (by rw [C];rfl) C (by decide) (by rw [I];decide) p.own (l2:=[sV d]) (m:=1) (fu t rfl) rfl (by omega) λap g XJ XB Z XC=>?_⟩;have off:∀ {b:Nat} {cs:ax} {T:TypeId},T≠wN->av Xz b cs T->¬ aL fz b:=λXD XE f=>by obtain ⟨XA,J⟩:=fT p.own f;exact J.ne XE (λe=>XD e.symm) rfl
 have hle:=h.le;have a:=p.eD.aA Z λk f=>⟨by have:=h.gv k f;omega,λe=>off (by decide) p.eD.aj (e▸f)⟩
 refine ⟨a,⟨_,a.aj.cell (i:=13) rfl⟩,a.aj.frozen,?_⟩;rintro F s;have q:ao (λk=>k=aI) XJ F:=by rw [s];exact eX _ _ _ _
 have H:av F aI (pP r tb m (gG j.inc j.aW) ⟨ap,c.length+1,g,0⟩ (0,0)) oq:=by rw [s];exact a.aj.setCell (i:=13) _
 clear s;have XH:=p.aA.size;have l:∀ k,aL ap k->u.heap.size<=k:=λk f=>by
  rcases XC k f with e | e
  ·exact h.gv k e
  ·omega
 have B:ao (λk=>k=aI) u F:=(p.aA.trans Z λk M e=>by have:=h.gv k e;omega).trans q λ_ _ e=>e
 refine XG F ap g _ ⟨⟨by rw [dy];exact H,a.bQ,a.b8,a.mem,a.new.trans q λk M e=>by have:=a.pO;omega,a.pO,a.kS,a.ne⟩,B,?_,l,hle⟩;rw [dy];exact XB.aA q λk f e=>by have:=l k f;omega
end
section
def mH (j:ca) (ds:List aM) (n:Nat):Bool:=(List.range n).all λi=>dv ds (2 * i) == j.dV
theorem HQ (j:ca) (ds:List aM) (n:Nat):mH j ds (n+1)=(mH j ds n && (dv ds (2 * n) == j.dV)):=by unfold mH;rw [ku,List.all_append];simp
theorem KV {a:List nt} (h:ob w0 u z aI tb r m j fz lc a) (E:aI<u.heap.size) {c:Nat} (T:c<=100) (Xz:a.length<=c) (F:bk w0 dB (fW raw).flatten) (t:g6 A w0 raw ds) (Y:ds.length=2 * c+1)
  (f:flag=mH j ds a.length) (g:ax) {iI:Exit->ax->aF} (L:∀ env w,iI .ret env w=dC prog je R .ret env w)
  (k:a.length<c->∀ d,raw[2 * a.length+1]?=some d->∀ J n l g,ob w0 u J aI tb r m j n l (a++[sV d])->iI .normal (sh ⟨aI,0,none⟩ dB ds.length dc (mH j ds (a.length+1)) c (a.length+1:Nat) g) J)
  (B:a.length=c->∀ g,iI (.exit 2) (Am ⟨aI,0,none⟩ dB ds.length dc flag g) z) :
  Go.bs.W prog (sub (bn je) [1,1,1,1,1,1,1,0,1,0,0]) (sh ⟨aI,0,none⟩ dB ds.length dc flag c a.length g) iI z:=by
 have G:raw.length=ds.length:=t.1;refine hj (fn:=je) (R:=R) L ?_;rw [RX];refine bc (λXw=>?_) (λXv=>B (by omega) _);have C:a.length<c:=by omega
 obtain ⟨d,aq⟩:∃ d,raw[2 * a.length]?=some d:=⟨_,bE (by omega)⟩;obtain ⟨x,U⟩:∃ x,ds[2 * a.length]?=some x:=⟨_,bE (by omega)⟩;obtain ⟨d1,s⟩:∃ d1,raw[2 * a.length+1]?=some d1:=⟨_,bE (by omega)⟩;have M:=t.2 _ d x aq U;have O:dv ds (2 * a.length)=eb x:=by unfold dv;rw [dq,U];rfl
 rintro Xy H;have S:ai z Xy:=by rw [H];exact cK _
 clear H;have p:=h.jX S;have one:∀ {y:ak},ob w0 u y aI tb r m j fz lc a->∀ (K:Bool),K=mH j ds (a.length+1)->∀ (g:ax),Go.bs.W prog (sub (bn je) [1,1,1,1,1,1,1,0,1,0,0,1,1,0,0,1,1]) (uu ⟨aI,0,none⟩ dB ds.length dc K a.length c a.length g) (aP 3 (aZ (λenv w=>Go.bs.W prog (sub (bn je) [1,1,1,1,1,1,1,0,1,0,0,1,1,1]) env (bI prog je R iI) w) (bI prog je R iI))) y:=by intro y I K Q g;refine MP I E (by omega) F G.symm s (R:=R) (λ_ _=>rfl) (λJ n l Xx V=>?_);refine pI (eT ?_);rw [S2,bH (x:=(a.length:Int)+1) (by omega) (by omega),Q];exact k C d1 s J n l _ V
 have N:=h.eD.bQ.dV;have Z:=h.eD.b8.dV;refine ⟨λy=>dg w0 y aI tb r m j ⟨fz,a.length,lc,0⟩ (0,0),p.eD,f' (λP=>?_) (λP=>one p false (by rw [HQ,<-f,P];rfl) _)⟩;refine jj (cells:=bT.cells) (sz:=2) bT.len (by omega) F aq (by rw [bH (x:=2 * (a.length:Int)) (by omega) (by omega)];omega) G.symm λb o X=>bT.aT d ⟨λy I=>k8 (i:=0) λq v al=>by simpa using X y I.new q v al,r.f0,λy I=>I.aj.cell (i:=6) rfl,?_⟩
 refine aD (rb (M.aA (ao.b9 p.eD.new) λ_ _ e=>e)) ?_;rintro v XA ⟨rfl,D⟩;refine ⟨_,rfl,(p.jX D).eD,one (p.jX D) _ ?_ _⟩;rw [HQ,<-f,P,O,N,kt (x:=j.dV) (by omega) (by omega),vD]
end
section
theorem Jl:∀ {l:List aM},hB l=0->∀ d ∈ l,d.code=0:=λ{l}=>by
 induction l with
 |nil=>intro _ d aq;cases aq
 |cons x l a=>
  intro h d aq;unfold hB at h;split at h
  ·rename_i e;rcases eU.1 aq with rfl | aq
   ·exact e
   ·exact a h d aq
  ·rename_i e;exact absurd h e
theorem OE (h:kD vs ds=true) (a:hB ds=0) (al:vs[i]?=some v) (aq:ds[i]?=some d):(d.words.length:Int)=v.v.iW:=by have b:=Jl a d (b5 aq);unfold kD at h;rw [ep,fE] at h;have hm:(v,d) ∈ vs.zip ds:=b5 (i:=i) (BK.2 ⟨al,aq⟩);have:=h.2 _ hm;unfold ss at this;simp only at this;rw [if_pos b] at this;exact of_decide_eq_true this
theorem EJ (h:(bP G vs).ok=true) (al:vs[i]?=some v) (aq:(bP G vs).done[i]?=some d):(d.words.length:Int)=v.v.iW:=by
 have f:vs.length≠0:=by have:=b3 al;omega
 unfold bP cm at h aq;split at h
 ·cases h
 rename_i b;split at h
 ·cases h
 rename_i a;rw [if_neg b,if_neg a] at aq;have a:hB (batch G vs).done=0:=by simpa using a
 unfold batch at b a aq;rw [if_neg f] at b a aq;cases G with
 |nil=>simp at b
 |cons e g=>
  simp only at b a aq;split at b
  ·rename_i c;rw [if_pos c] at a aq;exact OE c a al aq
  ·simp at b
def rI (j:ca) (ds:List aM):List a8:=(List.range j.v.mem.length).map λi=>(ds.getD (2 * i+1) ⟨0,[]⟩).words
def td (j:ca) (ds:List aM):Int:=dv ds (2 * j.v.mem.length)
def r4 (j:ca) (m:a0) (R:cr):cr:=
 if R.ok=false then R else if mH j R.done j.v.mem.length=true then ⟨true,[],(0,0),R.a7,none,false⟩
 else if (hM j m R.a7).ok=false then hM j m R.a7 else ⟨false,[],(11,0),(hM j m R.a7).a7,none,false⟩
def fK (j:ca) (m:a0) (G:List (List aM)):cr:=r4 j m (bP G (fI j m))
structure k1 (w0 w:ak) (aI tb:Nat) (V:gl) (aV:List a8):Prop where
 ex:∃ pS:List nt,bk w V.fz (pS.map mK).flatten/\V.ke=pS.length/\pS.length=aV.length/\∀ (i:Nat) (s:nt) (L:a8),pS[i]?=some s->aV[i]?=some L->r2 w0 s.a s.n s.c L
 off:∀ k,aL V.fz k->k≠tb/\k≠aI
theorem k1.new {w0 w w':ak} {aI tb:Nat} {V:gl} {aV:List a8} (h:k1 w0 w aI tb V aV) (g:ai w w'):k1 w0 w' aI tb V aV:=by obtain ⟨⟨a,b,c,d,e⟩,f⟩:=h;exact ⟨⟨a,b.new g,c,d,e⟩,f⟩
theorem k1.aA {w0 w w':ak} {aI tb:Nat} {V:gl} {aV:List a8} (h:k1 w0 w aI tb V aV) {M:a6} (l:ao M w w') (j:∀ k,M k->k=tb\/k=aI):k1 w0 w' aI tb V aV:=by
 obtain ⟨⟨b,c,f,g,i⟩,d⟩:=h;refine ⟨⟨b,c.aA l (hk c λk a e=>?_),f,g,i⟩,d⟩;have:=d k a;rcases j k e with e | e
 ·exact this.1 e
 ·exact this.2 e
theorem BU (j:ca) (m:a0):(fI j m).length=2 * j.v.mem.length+1:=by
 unfold fI;rw [dy];have:((j.v.mem.map (ma j)).flatten).length=2 * j.v.mem.length:=by
  induction j.v.mem with
  |nil=>rfl
  |cons a l b=>rw [gj,hg,dy,b];simp [ma];omega
 rw [this];rfl
theorem BV (c:i<j.v.mem.length):∃ bg,(fI j m)[2 * i+1]?=some (mU j bg (e' j.dead) 120):=by
 have key:∀ (l:List a0) (i:Nat),i<l.length->∃ bg,((l.map (ma j)).flatten)[2 * i+1]?=some (mU j bg (e' j.dead) 120):=by
  intro l;induction l with
  |nil=>intro i h;cases h
  |cons a l d=>
   intro i h;rw [gj,hg];cases i with
   |zero=>exact ⟨a,rfl⟩
   |succ i=>obtain ⟨bg,b⟩:=d i (by simpa using h);refine ⟨bg,?_⟩;rw [h4 (by simp [ma];omega)];simp only [ma,hh,qd];rw [show 2 * (i+1)+1 - (0+1+1)=2 * i+1 by omega];exact b
 obtain ⟨bg,h⟩:=key j.v.mem i c;exact ⟨bg,by unfold fI;rw [h3 (b3 h)];exact h⟩
end
section
abbrev zF (A:a6) (w0 u:ak) (aI tb:Nat) (r:dE) (m:a0) (j:ca) (G:List (List aM)) (v:a4) (bw:ak):Prop:=
 v=.bool (fK j m G).ok/\∃ a,eF A w0 u aI tb u.heap.size r m j a (fK j m G) bw/\((fK j m G).ok=true->k1 w0 bw aI tb a (rI j (bP G (fI j m)).done)/\a.clock=td j (bP G (fI j m)).done)
theorem OF (C:dg w0 u aI tb r m j ⟨none,0,0,0⟩ (0,0)) (Yv:eP A w0 u tb T G) (X':ga T) :
  bb 181 [ptr aI] u (zF A w0 u aI tb r m j G):=by
 refine bd Tryz.func181 ?_;rw [ptr,TC];have Yx:=C.aj.lt;have YA:=Yv.aj.lt;have YD:=C.b8.mem;have Yf:=C.b8.dead;have aq:=C.bQ.dead;refine ⟨_,_,_,C.aj.cell (i:=4) rfl,?_⟩;refine MO C _ λYJ a2 n pc X1 XM YF Xx=>?_
 refine hj (fn:=je) (R:=zF A w0 u aI tb r m j G) (λ_ _=>rfl) ?_;rw [SZ];rintro w1 XT;have w:ai YJ w1:=by rw [XT];exact cK _
 clear XT;have XL:=XM.new w;have XG:=C.bB XL;refine ⟨jc r tb m j aI,⟨_,_,XG.aj⟩,a0.aT m ⟨λy XB=>by obtain ⟨YC,YI,XB⟩:=XB;exact bO XB rfl,r.eV,λy XB=>by obtain ⟨YC,YI,XB⟩:=XB;exact XB.cell (i:=5) rfl,?_⟩⟩;rw [aq];refine aD (vZ w1 Yf) ?_;rintro v YQ ⟨rfl,XN⟩;have J:=XG.bB XN;refine ⟨_,rfl,⟨_,_,J.aj⟩,?_⟩;refine aD (va J C.ee (32+j.dead) 1) ?_;rintro v YK ⟨bj,rfl,Yq,K⟩;refine aG.aT bj ⟨rfl,⟨_,_,(J.bB K).aj⟩,?_⟩;rintro b1 YL X7 XU;have Yo:ai YK YL:=by rw [XU];exact hy _ _
 have X9:=J.bB K;have F:=w.new XN;refine ⟨⟨_,_,(X9.bB Yo).aj⟩,bK.l3 (Xx.new F) (XM.new F) K Yq (by omega) X7 XU λap XE YB X2 YE H=>?_⟩;obtain ⟨cp,Yw,_⟩:=(Xx.new (F.new K)).ex;have Ye:=Xx.gv;have off:¬ aL a2 aI:=λW=>by have:=Ye aI W;omega
 have XH:dg w0 YB aI tb r m j ⟨none,0,0,0⟩ (0,0):=C.bB H;have YH:(j.v.mem.map (ma j)).flatten++[mU j m (32+j.dead) 1]=fI j m:=rfl;have X2:bK u YB ap (n+1) XE (fI j m):=X2;refine ⟨⟨_,_,XH.aj⟩,?_⟩;refine aD (nM XH (Yv.new H) X' C.new (by omega) (by omega) X2 (by rw [BU];omega)) ?_;rintro v Yt ⟨dB,dc,raw,rfl,M,XP,g,Xv⟩;have M:eF A w0 u aI tb u.heap.size r m j ⟨none,0,0,0⟩ (bP G (fI j m)) Yt:=M.of H (cY _);have g:g6 A w0 raw (bP G (fI j m)).done:=g;have Xv:(bP G (fI j m)).ok=true->raw.length=(fI j m).length:=Xv;refine ⟨_,_,_,_,rfl,ev (λD=>?_) (λXw=>?_)⟩
 ·have D:(bP G (fI j m)).ok=false:=D;have p:fK j m G=bP G (fI j m):=if_pos D;refine ⟨by rw [p,D],_,by rw [p];exact M,λh=>?_⟩
  rw [p,D] at h;cases h
 have Xw:(bP G (fI j m)).ok=true:=Xw;obtain ⟨YG,W,Xz⟩:=oE Xw;have f:=M.eD;rw [YG] at f;have hlen:raw.length=2 * j.v.mem.length+1:=by rw [Xv Xw,BU]
 have N:∀ i,i<j.v.mem.length->∀ x,(bP G (fI j m)).done[2 * i+1]?=some x->x.words.length=120:=by intro i Yg x X0;obtain ⟨bg,Yn⟩:=BV (m:=m) Yg;have:=EJ Xw Yn X0;have e:(mU j bg (e' j.dead) 120).v.iW=120:=rfl;omega
 have p:fK j m G=if mH j (bP G (fI j m)).done j.v.mem.length=true then ⟨true,[],(0,0),(bP G (fI j m)).a7,none,false⟩
   else if (hM j m (bP G (fI j m)).a7).ok=false then hM j m (bP G (fI j m)).a7 else ⟨false,[],(11,0),(hM j m (bP G (fI j m)).a7).a7,none,false⟩:=by
  unfold fK r4;rw [if_neg (by rw [Xw];simp)]
 obtain ⟨YO,Xy⟩:=C.bQ.view;have Ym:=Xy.len;refine ⟨_,_,_,f.aj.cell (i:=4) rfl,?_⟩;have V:(bP G (fI j m)).done.length=2 * j.v.mem.length+1:=by rw [<-g.1,hlen]
 rw [g.1,Ym];show cG prog _ _ _ _;generalize X4:bP G (fI j m)=U at M g p N V W Xz f Xw;have XO:=f.aj.lt;have Yz:=M.aA.size;refine c8 mix (λq env z=>∃ (c:List nt) (fz:an) (lc:Nat) (X1:ax),q=j.v.mem.length - c.length/\c.length<=j.v.mem.length/\env=sh ⟨aI,0,none⟩ dB U.done.length dc (mH j U.done c.length) j.v.mem.length c.length X1/\ob w0 Yt z aI tb r m j fz lc c/\∀ (k:Nat) (s:nt),c[k]?=some s->∃ d,raw[2 * k+1]?=some d/\s=sV d) j.v.mem.length
  ⟨[],none,0,_,by simp,by simp,rfl,⟨f,ao.refl _ _,a1.nil _ _ _,λk W=>absurd W nO,f.new.size⟩,λk s h=>by simp at h⟩ ?_
 rintro q env z ⟨c,fz,lc,X1,rfl,Yg,rfl,l,XR⟩;refine KV l XO (by omega) Yg XP g V rfl X1 (R:=zF A w0 u aI tb r m j G) (λ_ _=>rfl) (λYl d aq YR Ys Yr XW XK=>?_) (λXI XW=>?_)
 ·refine eT ⟨j.v.mem.length - (c.length+1),by omega,c++[sV d],Ys,Yr,XW,by simp,by simp;omega,by rw [dy];rfl,XK,λk s t=>?_⟩;rcases oY k c.length with Z | Z
  ·rw [h3 Z] at t;exact XR k s t
  ·rw [h4 Z] at t;have:k - c.length=0:=by have:=b3 t;simp at this <;> omega
   rw [this] at t;simp at t;have Yh:k=c.length:=by omega
   subst Yh;exact ⟨d,aq,t.symm⟩
 ·obtain ⟨d,aq⟩:∃ d,raw[2 * j.v.mem.length]?=some d:=⟨_,bE (by omega)⟩;obtain ⟨x,X0⟩:∃ x,U.done[2 * j.v.mem.length]?=some x:=⟨_,bE (by omega)⟩;have Yb:=g.2 _ d x aq X0;have Yc:td j U.done=eb x:=by unfold td dv;rw [dq,X0];rfl
  refine p7 (pJ (eT ?_));rw [S1,XI];refine eI (cells:=bT.cells) bT.len (by omega) (XP.new l.eD.new) aq (by rw [V,bH (by omega) (by omega)];omega) g.1.symm λb o X_ _=>bT.aT d ⟨X_,?_⟩
  refine aD (rb (Yb.aA (ao.b9 l.eD.new) λ_ _ e=>e)) ?_;rintro v YM ⟨rfl,w⟩;have a:=l.eD.bB w;refine ⟨_,rfl,⟨_,a.aj.cell (i:=14) rfl⟩,a.aj.frozen,?_⟩;rintro XY XC;have X:ao (λk=>k=aI) YM XY:=by rw [XC];exact eX _ _ _ _
  have X8:av XY aI (pP r tb m (gG j.inc j.aW) ⟨fz,c.length,lc,eb x⟩ (0,0)) oq:=by rw [XC];exact a.aj.setCell (i:=14) _
  clear XC;have P:dg w0 XY aI tb r m j ⟨fz,c.length,lc,eb x⟩ (0,0):=⟨X8,a.bQ,a.b8,a.mem,a.new.trans X λk Yl e=>by have:=a.pO;omega,a.pO,a.kS,a.ne⟩;have E:ao (λk=>k=aI) Yt XY:=(l.aA.new w).trans X λ_ _ e=>e
  obtain ⟨YP,X6,S,XF⟩:=M.fY;rw [W] at XF;rw [Xz] at S;have X5:=X6.aA E λe=>C.ne e.symm
  have XJ:ao (λk=>k=tb\/k=aI) u XY:=M.aA.trans E λk _ e=>.inr e
  have XS:=XJ.size;refine ev (λYd=>?_) (λYd=>?_)
  ·rw [if_neg (by rw [Yd];simp)] at p;refine aD (Cb P X5 ⟨XF,S⟩) ?_;rintro v YN ⟨rfl,I⟩;have I:eF A w0 u aI tb u.heap.size r m j ⟨fz,c.length,lc,eb x⟩ (hM j m U.a7) YN:=eF.seq XJ (ao.refl _ _) I XS;refine ⟨_,rfl,f' (λXD=>?_) (λXD=>?_)⟩
   ·obtain ⟨Yp,Yi,XV⟩:=oE XD;have Q:=I.eD;rw [show (hM j m U.a7).out=(0,0) from Yp] at Q;rw [if_neg (by rw [XD];simp)] at p;refine aD (yB Q 11) ?_;rintro v YS ⟨rfl,Yj,XQ⟩;refine ⟨_,rfl,by rw [p],_,by rw [p];exact I.u0 Yi XV Yj XQ rfl rfl rfl,λh=>?_⟩
    rw [p] at h;cases h
   ·rw [if_pos XD] at p;refine ⟨by rw [p,XD],_,by rw [p];exact I,λh=>?_⟩
    rw [p,XD] at h;cases h
  ·rw [if_pos Yd] at p;refine ⟨by rw [p],_,by rw [p];exact M.u0 W Xz E P rfl rfl rfl,λ_=>?_⟩
   rw [X4];refine ⟨⟨⟨c,?_,rfl,?_,?_⟩,?_⟩,Yc.symm⟩
   ·exact (a1.new w l.own).rd.aA X (hk (a1.new w l.own).rd λk Y e=>by have:=l.gv k Y;omega)
   ·rw [rI,fZ,lJ];exact XI
   ·intro i s L Yy XZ;obtain ⟨d1,Ya,rfl⟩:=XR i s Yy;have O:i<j.v.mem.length:=by have:=b3 Yy;omega
    obtain ⟨XX,XA⟩:∃ XX,U.done[2 * i+1]?=some XX:=⟨_,bE (by omega)⟩;have B:=g.2 _ d1 XX Ya XA;have X3:L=XX.words:=by unfold rI at XZ;rw [dS,j6 O] at XZ;simp only [mc,fg] at XZ;rw [<-XZ,dq,XA];rfl
    rw [X3];have Yu:=N i O XX XA;have Yk:=B.len;exact ⟨B.rd,Yk,B.cap,B.wf,by show d1.cQ<=1000;omega⟩
   ·intro k Y;have:=l.gv k Y;constructor<;>omega
end
end Go.Proofs.YtmkljjbioomepaaGreat
