import Derived.Test.YtmkljjbioomepaaGreatc37
set_option linter.all false
set_option maxHeartbeats 4000000
set_option maxRecDepth 100000
namespace Go.Proofs.YtmkljjbioomepaaGreat
open Go.Proofs.Tryz Go.br
variable {A':bA} {C:bP} {d:aL} {j q cx:Nat} {l:cP} {v:aP} {x:a0}
section
open e1
theorem k6 {α:Type} {l:List α} {i:Nat} {a:α} (h:l[i]?=some a):l.set i a=l:=by
 apply j';intro k;by_cases e:i=k
 ·subst e;rw [jK (ch h),h]
 ·rw [h6 e]
structure y1 (E:Env) (bz:List a0) (i j:Nat) (C:bP) (vs:List aP) (bs:Nat->Option aL) (l:cP) (x:a0) (v:aP) (eU:List aP) (q:Nat) (b_:cQ):Prop where
 lane:C.aD[j]?=some l
 node:bz[j]?=some x
 hJ:l.pair.ba=v::eU
 pl:l.bT=q::b_
 at_:vs[q]?=some v
 nd:v.node.toNat=j
 bs:bs q=none
 pc:l.pair.a3=(i:Int)
 pi:l.pair.inc=1
 cj:fH l.pair
 m7:vp l.pair
def oU (E:Env) (C:bP) (bz:List a0):Prop:=∀ (k:Nat) (l:cP) (y:a0),C.aD[k]?=some l->bz[k]?=some y->∀ i,i<(gP E).length->i<8 * l.pair.bD->y.get (56+i)=(gP E).getD i 0
theorem xo (h:C.aD[j]?=some l) (p:c4) (d:Option aL):∃ l',(C.comes j l p d).aD[j]?=some l'/\l'.pair=p:=by
 have a:=ch h;cases d with
 |none=>exact ⟨{ l with pair:=p },by simp [bP.comes,a],rfl⟩
 |some d=>exact ⟨⟨p,l.bT.tail⟩,by simp [bP.comes,a],rfl⟩
theorem oU.step {E:Env} {bz:List a0} (h:oU E C bz) {gm:a0} (o:C.aD[j]?=some l) (r:bz[j]?=some x) {p:c4} {d:Option aL} (q:∀ i,i<(gP E).length->i<8 * p.bD->gm.get (56+i)=(gP E).getD i 0):oU E (C.comes j l p d) (bz.set j gm):=by
 intro k l' y a b i c he;by_cases e:k=j
 ·subst e;obtain ⟨l2,g,n⟩:=xo o p d;rw [g] at a;cases a;rw [jK (ch r)] at b;cases b;rw [n] at he;exact q i c he
 ·rw [kw e] at a;rw [h6 (λf=>e f.symm)] at b;exact h k l' y a b i c he
theorem kp {bs:Nat->Option aL} {a:aL} (h:fh bs q d cx=some a):(cx=q/\a=d)\/(cx≠q/\bs cx=some a):=by
 by_cases e:cx=q
 ·subst e;rw [sF] at h;cases h;exact .inl ⟨rfl,rfl⟩
 ·rw [rr e] at h;exact .inr ⟨e,h⟩
theorem x0 {bs:Nat->Option aL} (h:fh bs q d cx=none):cx≠q/\bs cx=none:=by
 by_cases e:cx=q
 ·subst e;rw [sF] at h;cases h
 ·rw [rr e] at h;exact ⟨e,h⟩
section
variable {E:Env} {A:bA} {g:gC}
theorem eZ.no (h:eZ E A g) (ar:d.code≠0):eZ E A ⟨g.aB,fh g.bs q d⟩:=by
 have key:∀ {cx b},fh g.bs q d cx=some b->b.code=0->g.bs cx=some b:=λ{cx b} c a=>by
  rcases kp c with ⟨_,e⟩ | ⟨_,e⟩
  ·rw [e] at a;exact absurd a ar
  ·exact e
 unfold eZ at h ⊢;simp only;split at h
 ·exact ⟨h.1,h.2.1,h.2.2.1,λm hm b c a=>h.2.2.2 m hm b (key c a) a⟩
 ·exact ⟨h.1,h.2.1,λcx p i=>⟨λc=>(h.2.2 cx p i).1 (x0 c).2,λb c a=>(h.2.2 cx p i).2 b (key c a) a⟩⟩
 ·exact ⟨h.1,h.2.1,λm hm b c a=>h.2.2 m hm b (key c a) a⟩
 ·exact ⟨h.1,λcx v b c a f=>h.2 cx v b c (key a f) f⟩
 ·exact ⟨h.1,h.2.1,λcx v b c a f=>h.2.2 cx v b c (key a f) f⟩
 ·exact h
 ·trivial
theorem mX.add {vs:List aP} {bs:Nat->Option aL} (h:mX E A vs bs) (an:vs[q]?=some v) (ar:l0 E A v):mX E A vs (fh bs q d):=λcx bj b a c f=>by
 rcases kp c with ⟨e,_⟩ | ⟨_,e⟩
 ·subst e;rw [an] at a;cases a;exact ar
 ·exact h cx bj b a e f
theorem m0.add (h:m0 E A g) (hm:dm E A A') (an:(dV E g.aB)[q]?=some v) (ar:(d.code=0/\(d.words.length:Int)=v.v.iE)\/(d.code=5/\d.words=[]/\A'.dh v.node.toNat=true)):m0 E A' ⟨g.aB,fh g.bs q d⟩:=λcx i n=>by
 rcases kp n with ⟨j,k⟩ | ⟨_,e⟩
 ·subst j k;exact ⟨v,an,ar⟩
 ·obtain ⟨bj,l,f⟩:=h cx i e;refine ⟨bj,l,?_⟩;rcases f with f | ⟨a,b,c⟩
  ·exact .inl f
  ·exact .inr ⟨a,b,hm.dh _ c⟩
theorem m0.mono (h:m0 E A g) (hm:dm E A A'):m0 E A' g:=λcx e i=>by
 obtain ⟨bj,f,d⟩:=h cx e i;refine ⟨bj,f,?_⟩;rcases d with d | ⟨a,b,c⟩
 ·exact .inl d
 ·exact .inr ⟨a,b,hm.dh _ c⟩
structure tE (E:Env) (A:bA) (g:gC) (bz:List a0) (j:Nat) (C:bP) (l:cP) (x:a0) (A':bA) (bU:gC):Prop where
 aB:bU.aB=g.aB
 rep:jv E A' (bz.set j (l.pair.step x).2.1)
 law:e2 E A'
 ok:eZ E A' bU
 res:m0 E A' bU
 mb:gB (C.comes j l (l.pair.step x).1 (l.pair.step x).2.2) (dV E g.aB) bU.bs
 jw:g.aB=0->oU E (C.comes j l (l.pair.step x).1 (l.pair.step x).2.2) (bz.set j (l.pair.step x).2.1)
 gw:n3 E A A'
 stay:A.dh j=true->A'=A/\bz.set j (l.pair.step x).2.1=bz
 Gw:(A'.dU,A'.dh)=(A.dU,A.dh)
theorem tE.dU {E:Env} {A:bA} {g:gC} {bz:List a0} {j:Nat} {C:bP} {l:cP} {x:a0} {A':bA} {bU:gC} (h:tE E A g bz j C l x A' bU):A'.dU=A.dU:=congrArg Prod.fst h.Gw
theorem tE.dh {E:Env} {A:bA} {g:gC} {bz:List a0} {j:Nat} {C:bP} {l:cP} {x:a0} {A':bA} {bU:gC} (h:tE E A g bz j C l x A' bU):A'.dh=A.dh:=congrArg Prod.snd h.Gw
theorem uI (hm:dm E A A') (a:j<E.n) (ar:A.dh j=false):n3 E A A':=
 ⟨hm,λh=>(by have:=h j a;rw [ar] at this;cases this),λh=>(by have:=h j a;rw [ar] at this;cases this)⟩
theorem CC:n3 E A A:=⟨dm.refl E A,λ_ h=>h,λ_ _ p _ h=>h⟩
theorem y4 (ay:b5 E) {aB q:Nat} (h:(dV E aB)[q]?=some v):h9 E.n E.L v/\v.v.Kind≠1:=by
 have b:=ay.e.n;have d:=ay.e.L;have c:=ay.lC
 match aB,h with
 | 0,h=>simp only [dV,d'] at h;obtain ⟨m,hm,rfl⟩:=kK.1 h;have:=fE.1 (cg hm);exact ⟨nJ b.2 this (by omega) (by omega) (by omega) (by omega) (by rw [c.1];omega),by show (2:Int)≠1;omega⟩
 | 1,h=>simp only [dV,d'] at h;obtain ⟨p,a,rfl⟩:=kK.1 h;have f:=ay.pl (cg a);exact ⟨oF b.2 (by omega) (by omega) (by omega) (by omega),by show (3:Int)≠1;omega⟩
 | 2,h=>simp only [dV,d'] at h;obtain ⟨m,hm,rfl⟩:=kK.1 h;have:=fE.1 (cg hm);exact ⟨nJ b.2 this (by omega) (by omega) (by simp) (by simp) (by simp;omega),by show (2:Int)≠1;omega⟩
 | 3,h=>
  obtain ⟨m,hm,_,⟨p,a,rfl⟩ | ⟨rfl,_⟩⟩:=vR h
  ·exact ⟨rA ay hm a,by show (2:Int)≠1;omega⟩
  ·exact ⟨rm ay hm,by show (2:Int)≠1;omega⟩
 |n+4,h=>
  obtain ⟨_,⟨_,rfl⟩ | ⟨_,p,a,rfl⟩⟩:=vS (show (fV E (bJ E))[q]?=some v from h)
  ·exact ⟨rm ay (by omega),by show (2:Int)≠1;omega⟩
  ·exact ⟨rA ay (by omega) a,by show (2:Int)≠1;omega⟩
theorem O' (ay:b5 E) {bz:List a0} {eU:List aP} {b_:cQ} (T:jv E A bz) (W:e2 E A) (D:eZ E A g) (X:m0 E A g) (V':g.aB<=4) (Vr:gB C (dV E g.aB) g.bs) (ar:y1 E bz 0 j C (dV E g.aB) g.bs l x v eU q b_) (Z:g.aB=0->oU E C bz) :
  ∃ A' bU,tE E A g bz j C l x A' bU:=by
 obtain ⟨VH,VK⟩:=y4 ay ar.at_;have V_:=ay.e.n;have o:=T.mem j x ar.node;have F:j<E.n:=by have:=ch ar.node;rw [T.len] at this;exact this
 have r:=DS o.aQ V_.2 VH (p:=l.pair) (c:=0) ar.pc ar.pi (by omega);rw [if_neg (λe=>VK e.2)] at r;have Wa:=o.aQ.len;have V9:=ay.mn;have fin:∀ {d:aL},(l.pair.step x).1=l.pair.done->(l.pair.step x).2.2=some d->gB (C.comes j l (l.pair.step x).1 (l.pair.step x).2.2) (dV E g.aB) (fh g.bs q d):=λ{d} z t=>by rw [z,t];exact Vr.done ar.lane ar.hJ (by show l.pair.ba.tail=eU;rw [ar.hJ];rfl) ar.pl d
 have I:(l.pair.step x).1=l.pair.done->g.aB=0->oU E (C.comes j l (l.pair.step x).1 (l.pair.step x).2.2) (bz.set j (l.pair.step x).2.1):=λz t=>(Z t).step ar.lane ar.node λi VI he=>by rw [z] at he;exact absurd he (by show ¬ i<8 * 0;omega)
 cases u:A.dh j with
 |true=>
  rw [if_pos ⟨u,rfl⟩] at r;have b:=yY ar.hJ (x:=x) (by rw [r];omega);rw [r] at b;have z:(l.pair.step x).1=l.pair.done:=by rw [b]
  have t:(l.pair.step x).2.1=x:=by rw [b]
  have Q:(l.pair.step x).2.2=some ⟨5,[]⟩:=by rw [b]
  refine ⟨A,⟨g.aB,fh g.bs q ⟨5,[]⟩⟩,rfl,by rw [t,k6 ar.node];exact T,W,D.no (by simp),X.add (dm.refl E A) ar.at_ (.inr ⟨rfl,rfl,by rw [ar.nd];exact u⟩),fin z Q,I z,CC,λ_=>⟨rfl,by rw [t,k6 ar.node]⟩,rfl⟩
 |false=>
  rw [if_neg (λe=>by rw [u] at e;cases e.1)] at r;have Y:¬ iZ E A:=λh=>by have:=h j F;rw [u] at this;cases this
  have stay:A.dh j=true->∀ {P:Prop},P:=λe=>by rw [u] at e;cases e
  have S:∀ (cx:Nat) (bj:aP),cx<q->(dV E g.aB)[cx]?=some bj->bj.node.toNat=j->∃ d,g.bs cx=some d/\d.code=0:=λcx bj z t Q=>by
   obtain ⟨d,Vy⟩:=Vr.before ar.lane ar.pl z t Q;obtain ⟨v2,s,G⟩:=X cx d Vy;rw [t] at s;cases s;rcases G with G | ⟨_,_,G⟩
   ·exact ⟨d,Vy,G.1⟩
   ·rw [Q,u] at G;cases G
  have one:∀ {a:Nat} {ws:bb},v=cw j (a:Int) ws->a % 8=0->ws.length<=8->a+ws.length<=x.words.length->l.pair.step x=(l.pair.done,x.write a ws,some ⟨0,[]⟩):=λ{a ws} e V5 Vv V7=>by have N:=ar.hJ;rw [e] at N r;exact Ey ar.cj N r V5 (ar.m7 _ _ N rfl) V7 Vv
  obtain e | e | e | e | e:g.aB=0\/g.aB=1\/g.aB=2\/g.aB=3\/g.aB=4:=by omega
  ·
   unfold eZ at D;rw [e] at D;obtain ⟨H,L,M,VX⟩:=D;have f:=ar.at_;rw [e] at f
   simp only [dV,d'] at f
   obtain ⟨m,hm,rfl⟩:=kK.1 f
   have Vu:m=q:=by have VC:=ch hm;rw [lr] at VC;rw [ka VC] at hm;exact (nN hm).symm
   subst Vu;have Vs:m=j:=by have:=ar.nd;simp [cw] at this;exact this
   subst Vs;have V0:=ay.lC;have Vz:=ar.m7 _ _ ar.hJ rfl;obtain ⟨s1,s2,VG,VW,Wc⟩:=y_ (a:=56) ar.cj ar.hJ r (by omega) Vz (by omega);have VD:=Z e m l x ar.lane ar.node;have O:∀ {A':bA},(∀ p ∈ bJ E,A'.bS m (bp p)=A.bS m (bp p))->A'.cF m=A.cF m->A'.dK m=A.dK m->A'.dh m=A.dh m->(m=0->A'.dU=A.dU)->(A'.ey m=true->∀ k,k<(gP E).length->(l.pair.step x).2.1.get (56+k)=(gP E).getD k 0)->Mem E A' m (l.pair.step x).2.1:=λz t Q V2 V3 V4=>
    o.low ay VG (by omega) (by omega) z V2 (.inl (by omega)) (by rw [VG.get _ (by omega),Q];exact o.dK) (by rw [VG.get _ (by omega),t];exact o.cF) (λVY=>by rw [VG.get _ (by omega),V3 VY];exact o.dU VY) V4
   rcases Wc with ⟨t1,t2,t3⟩ | ⟨t1,t2,t3⟩
   ·refine ⟨A,g,rfl,T.fh ar.node (O (λ_ _=>rfl) rfl rfl rfl (λ_=>rfl) λV0 k VA=>VW k VA (.inr (o.ey V0 k VA))) (λ_ _ _ h=>h),W,by unfold eZ;rw [e];exact ⟨H,L,M,VX⟩,X,?_,λ_=>(Z e).step ar.lane ar.node λi VI he=>?_,CC,λe=>stay e,rfl⟩
    ·rw [t2,t3];exact Vr.more ar.lane rfl
    ·rw [t2] at he;refine VW i VI ?_;by_cases Vv:i<8 * l.pair.bD
     ·exact .inr (VD i VI Vv)
     ·exact .inl ⟨by omega,he⟩
   ·have Vw:∀ k,k<(gP E).length->(l.pair.step x).2.1.get (56+k)=(gP E).getD k 0:=λk VA=>VW k VA (by
     by_cases Vv:k<8 * l.pair.bD
     ·exact .inr (VD k VA Vv)
     ·exact .inl ⟨by omega,by omega⟩)
    have B:dm E A (A.pM m):=Mc;refine ⟨A.pM m,⟨g.aB,fh g.bs m ⟨0,[]⟩⟩,rfl,T.fh ar.node (O (λ_ _=>rfl) rfl rfl rfl (λ_=>rfl) λ_=>Vw) (λbY w y VE=>VE.same (λ_ _=>rfl) rfl rfl (by simp [bA.pM,w]) rfl (λ_=>rfl)),W.Po m,?_,X.add B ar.at_ (.inl ⟨rfl,rfl⟩),fin t2 t3,I t2,uI B F u,λe=>stay e,rfl⟩;unfold eZ;simp only [e];refine ⟨H,L,M,λbY w d z t=>?_⟩;rcases kp z with ⟨s,_⟩ | ⟨_,s⟩
    ·rw [s];simp [bA.pM]
    ·exact B.ey bY (VX bY w d s t)
  ·
   unfold eZ at D;rw [e] at D;obtain ⟨H,L,M⟩:=D;have f:=ar.at_;rw [e] at f
   simp only [dV,d'] at f
   obtain ⟨p,J,rfl⟩:=kK.1 f
   have VJ:j=0:=by have:=ar.nd;simp [fR] at this;exact this.symm
   subst VJ;have V:=cg J;have V8:=ay.pl V;have U:=(M q p J).1 ar.bs;obtain ⟨VF,_⟩:=o.ar ay V (by omega);have VF:=VF U;have N:l.pair.ba=fR 0 ((bp p * 8:Nat):Int) p.Head (eJ p.Head 0)::eU:=by rw [ar.hJ,show p.bn * 8=((bp p * 8:Nat):Int) by omega]
   have b:=tu (x:=x) ar.cj N (by rw [show p.bn * 8=((bp p * 8:Nat):Int) by omega] at r;exact r);rw [VF] at b;have Vx:x.gh ((bp p * 8:Nat):Int) p.Head (eJ p.Head 0)={ x with words:=x.words.set (bp p * 8) (eJ p.Head 0) }:=by unfold a0.gh;rw [fY,if_pos VF]
   rw [Vx] at b;have B:dm E A (A.gO 0 (bp p) 1):=vg λVZ=>by omega
   refine ⟨A.gO 0 (bp p) 1,⟨g.aB,fh g.bs q ⟨0,[p.Head]⟩⟩,rfl,by rw [b];exact T.fh ar.node (o.Qv ay V U) (λbY w y VE=>VE.same (λp' _=>by simp [bA.gO,w]) rfl rfl rfl rfl (λ_=>rfl)),W.jm (by omega) (λe=>by omega) (λe=>by omega) (λe=>by omega) (λe=>by omega) (λe=>by omega),?_,X.add B ar.at_ (.inl ⟨rfl,rfl⟩),fin (by rw [b]) (by rw [b]),I (by rw [b]),uI B F u,λe=>stay e,rfl⟩;unfold eZ;simp only [e];refine ⟨H,L,λcx p' K=>⟨λz=>?_,λd z t=>?_⟩⟩
   ·obtain ⟨s,G⟩:=x0 z;have VM:bp p'≠bp p:=λVZ=>by
     have:=ay.inj (cg K) V VZ;subst this;have VL:=ay.bN.nodup;have i1:((bJ E).map (·.bn))[cx]?=some p'.bn:=by rw [d',K];rfl
     have i2:((bJ E).map (·.bn))[q]?=some p'.bn:=by rw [d',J];rfl
     exact s ((ya (ch i1) VL).1 (i1.trans i2.symm))
    simp only [bA.gO];rw [if_neg (λV1=>VM V1.2)];exact (M cx p' K).1 G
   ·rcases kp z with ⟨s,G⟩ | ⟨_,s⟩
    ·subst s G;rw [J] at K;cases K;exact ⟨rfl,.inl (by simp [bA.gO])⟩
    ·obtain ⟨b1,aA⟩:=(M cx p' K).2 d s t;refine ⟨b1,?_⟩;rcases aA with aA | aA
     ·left;simp only [bA.gO];split
      ·rfl
      ·exact aA
     ·exact absurd aA Y
  ·
   unfold eZ at D;rw [e] at D;obtain ⟨H,L,M⟩:=D;have f:=ar.at_;rw [e] at f
   simp only [dV,d'] at f
   obtain ⟨m,hm,rfl⟩:=kK.1 f
   have Vu:m=q:=by have VC:=ch hm;rw [lr] at VC;rw [ka VC] at hm;exact (nN hm).symm
   subst Vu;have Vs:m=j:=by have:=ar.nd;simp [cw] at this;exact this
   subst Vs;have b:=one (a:=48) rfl (by omega) (by simp) (by simp;omega);have U:∀ p ∈ bJ E,A.bS 0 (bp p)≠0:=λp J=>by
    by_cases VB:fP E A
    ·rcases L VB with s | s
     ·rw [s p J];omega
     ·exact absurd s Y
    ·have:∃ m,m<E.n/\A.cF m=true:=by
      refine Classical.byContradiction λV6=>VB λm hm=>?_
      cases Vt:A.cF m with
      |false=>rfl
      |true=>exact absurd ⟨m,hm,Vt⟩ V6
     obtain ⟨bY,w,Vt⟩:=this;exact (W.l2 bY w Vt).2 p J
   have B:dm E A (A.ju m):=Da;refine ⟨A.ju m,⟨g.aB,fh g.bs m ⟨0,[]⟩⟩,rfl,by rw [b];exact T.fh ar.node (o.ug ay) (λbY w y VE=>VE.same (λp' _=>rfl) (by simp [bA.ju,w]) rfl rfl rfl (λ_=>rfl)),W.ug H U m,?_,X.add B ar.at_ (.inl ⟨rfl,rfl⟩),fin (by rw [b]) (by rw [b]),I (by rw [b]),uI B F u,λe=>stay e,rfl⟩;unfold eZ;simp only [e];refine ⟨H,λVN=>?_,λbY w d z t=>?_⟩
   ·have:=VN m F;simp [bA.ju] at this
   ·rcases kp z with ⟨s,_⟩ | ⟨_,s⟩
    ·rw [s];simp [bA.ju]
    ·exact B.cF bY (M bY w d s t)
  ·
   unfold eZ at D;rw [e] at D;obtain ⟨H,L⟩:=D;have f:=ar.at_;rw [e] at f S;obtain ⟨a,ws,A',r1,VP,VQ,VR,VS,VT,VU,R,VV,VO,Wb⟩:=D6 ay T W H (λp J=>J) f ar.nd ar.node (λcx bj z t Q=>by obtain ⟨d,s,G⟩:=S cx bj z t Q;exact L cx bj d t s G) λp J=>.inl J
   have b:=one r1 VP VQ VR;refine ⟨A',⟨g.aB,fh g.bs q ⟨0,[]⟩⟩,rfl,by rw [b];exact VS,VT,?_,X.add R ar.at_ (.inl ⟨rfl,by rw [r1];rfl⟩),fin (by rw [b]) (by rw [b]),I (by rw [b]),uI R F u,λe=>stay e,VV⟩;unfold eZ;simp only [e];exact ⟨R.am H,(L.mono R).add f VU⟩
  ·
   unfold eZ at D;rw [e] at D;obtain ⟨H,L,M⟩:=D;have f:=ar.at_;rw [e] at f S;obtain ⟨a,ws,A',Wd,r1,VP,VQ,VR,VS,VT,VU,R,VV,VO⟩:=D7 ay T W H L (λp J=>J) f ar.nd ar.node (λcx bj z t Q=>by obtain ⟨d,s,G⟩:=S cx bj z t Q;exact M cx bj d t s G);have b:=one r1 VP VQ VR;refine ⟨A',⟨g.aB,fh g.bs q ⟨0,[]⟩⟩,rfl,by rw [b];exact VS,VT,?_,X.add R ar.at_ (.inl ⟨rfl,by rw [r1];rfl⟩),fin (by rw [b]) (by rw [b]),I (by rw [b]),uI R F u,λe=>stay e,VV⟩;unfold eZ;simp only [e];exact ⟨R.am H,R.qv L,(M.mono R).add f VU⟩
end
end
end Go.Proofs.YtmkljjbioomepaaGreat
