import Derived.Test.YtmkljjbioomepaaGreatd35
set_option linter.all false
set_option maxHeartbeats 4000000
set_option maxRecDepth 100000
namespace Go.Proofs.YtmkljjbioomepaaGreat
open Go.Proofs.Tryz Go.bs
variable {A':bu} {C:bh} {bW:c5} {j q:Nat} {l:cA} {v:aQ} {x:aN}
section
open e7
theorem Mp (h:Int):eK h 0 % 2=1:=by
 unfold eK ju;have a:(BitVec.ofInt IntKind.u64.bits h ||| BitVec.ofInt IntKind.u64.bits (0+1)).toNat % 2=1:=by rw [BitVec.toNat_or,Nat.or_mod_two_eq_one];right;rfl
 have b:=(BitVec.ofInt IntKind.u64.bits h ||| BitVec.ofInt IntKind.u64.bits (0+1)).isLt;rw [j3 (by omega) (by have:2 ^ IntKind.u64.bits=18446744073709551616:=rfl;omega)];omega
theorem qY {α:Type} {k:Nat}:∀ {hx:List (List α)},(∀ b ∈ hx,b.length=k)->hx.flatten.length=hx.length * k
 | [],_=>by simp
 |b::hx,h=>by rw [hg,dy,h b eO,qY λc a=>h c (fw _ a),hh,h2,Nat.add_comm]
theorem Fy {E:Env} {sp:cT} (h:(gL E sp)[q]?=some v):∃ k m,sp[k]?=some m/\((q=k * 3/\v=cD m 48 [0])\/(q=k * 3+1/\v=cD m 56 (g3 E))\/(q=k * 3+2/\v=cD m 48 [il E]/\(gL E sp)[k * 3]?=some (cD m 48 [0]))):=by
 have c:∀ b ∈ sp.map (λm=>[cD m 48 [0],cD m 56 (g3 E),cD m 48 [il E]]),b.length=3:=λb c=>by obtain ⟨m,_,rfl⟩:=cZ.1 c;rfl
 obtain ⟨k,b,d,i,a⟩:=vO (by omega) c h;have f:=d;rw [dS] at d;obtain ⟨m,hm,rfl⟩:=kX.1 d;refine ⟨k,m,hm,?_⟩;have g:=b3 a;simp at g;obtain e | e | e:q - k * 3=0\/q - k * 3=1\/q - k * 3=2:=by omega
 all_goals
  rw [e] at a;simp at a;subst a
 ·exact .inl ⟨by omega,rfl⟩
 ·exact .inr (.inl ⟨by omega,rfl⟩)
 ·exact .inr (.inr ⟨by omega,rfl,te (r:=0) c f rfl⟩)
theorem zV {n:Nat} (h:(gV n)[q]?=some v):(∃ m,m<n/\((q=2 * m/\v=cX m 24 1)\/(q=2 * m+1/\v=cX m 48 120)))\/(q=2 * n/\v=cX 0 32 1):=by
 have d:∀ b ∈ (List.range n).map (λm=>[cX m 24 1,cX m 48 120]),b.length=2:=λb d=>by obtain ⟨m,_,rfl⟩:=cZ.1 d;rfl
 have g:((List.range n).map (λm=>[cX m 24 1,cX m 48 120])).flatten.length=2 * n:=by rw [qY d];simp [vr]
 unfold gV at h;by_cases l:q<2 * n
 ·rw [h3 (by omega)] at h;obtain ⟨k,b,a,j,c⟩:=vO (by omega) d h;have f:=b3 a;simp at f;rw [dS,j6 f] at a;simp only [mc,fg] at a;subst a;left;refine ⟨k,f,?_⟩;have i:=b3 c;simp at i;obtain e | e:q - k * 2=0\/q - k * 2=1:=by omega
  all_goals
   rw [e] at c;simp at c;subst c
  ·exact .inl ⟨by omega,rfl⟩
  ·exact .inr ⟨by omega,rfl⟩
 ·rw [h4 (by omega),g] at h;have:=b3 h;simp at this;rw [show q - 2 * n=0 by omega] at h;simp at h;exact .inr ⟨by omega,h.symm⟩
def hZ (gr:Nat->c5) (c:Nat) (g:c5):Nat->c5:=λk=>if k=c then g else gr k
theorem eS (gr:Nat->c5) (c:Nat) (g:c5):hZ gr c g c=g:=if_pos rfl
theorem kc {gr:Nat->c5} {c k:Nat} {g:c5} (h:k≠c):hZ gr c g k=gr k:=if_neg h
def c5.add (g:c5) (q:Nat) (d:aM):c5:={ g with bt:=fr g.bt q d }
def qv (C:bh) (bp:List aN):Prop:=∀ (k:Nat) (l:cA) (y:aN),C.az[k]?=some l->bp[k]?=some y->∀ (a n:Int) (b:List aQ),l.pair.a3=cX k a n::b->l.pair.words=(y.words.drop a.toNat).take (8 * l.pair.bz)
theorem qv.step {bp:List aN} (h:qv C bp) (o:C.az[j]?=some l) (r:bp[j]?=some x) {p:cR} {d:Option aM} (q:∀ (a n:Int) (b:List aQ),p.a3=cX j a n::b->p.words=(x.words.drop a.toNat).take (8 * p.bz)):qv (C.comes j l p d) bp:=by
 intro k l' y c f a n b al;by_cases e:k=j
 ·subst e;obtain ⟨l2,g,i⟩:=x2 o p d;rw [g] at c;cases c;rw [r] at f;cases f;rw [i] at al ⊢;exact q a n b al
 ·rw [kC e] at c;exact h k l' y c f a n b al
section
variable {E:Env} {A:bu} {rs:cT} {gr:Nat->c5} {c:Nat}
theorem mh.add (h:mh E c (gr c)) {q:Nat} {v:aQ} (al:(cW E c (gr c))[q]?=some v) {d:aM} (g:d.code=0) (j:(d.words.length:Int)=v.v.iW):mh E c ((gr c).add q d):=λcH a i=>by
 rcases kH i with ⟨b,f⟩ | ⟨_,e⟩
 ·subst b f;exact ⟨v,al,g,j⟩
 ·exact h cH a e
def c5.bare (g:c5):c5:={ g with bt:=λ_=>none }
structure FA (E:Env) (rs:cT) (A:bu) (gr:Nat->c5) (c:Nat) (bp:List aN) (j:Nat) (C:bh) (l:cA) (x:aN) (A':bu) (bW:c5):Prop where
 bare:bW.bare=(gr c).bare
 rep:jM E A' (bp.set j (l.pair.step x).2.1)
 law:e8 E A'
 ok:cI E rs A' (bp.set j (l.pair.step x).2.1) (hZ gr c bW) c
 x7:lN E bW
 res:mh E c bW
 mu:gO (C.comes j l (l.pair.step x).1 (l.pair.step x).2.2) (cW E c bW) bW.bt
 U9:bW.aC=3->qv (C.comes j l (l.pair.step x).1 (l.pair.step x).2.2) (bp.set j (l.pair.step x).2.1)
 oM:oj E A A'
 other:∀ c',c'≠c->Own E A c'->A'=A/\bp.set j (l.pair.step x).2.1=bp
 dZ:ug rs A' (hZ gr c bW)
 vb:gR (gr c)->gR bW
theorem sI:oj E A A:=⟨dp.refl E A,λh=>h,λh=>h,λ_ _ _ h=>h,λ_ _ _ _ _ h=>h,λ_ _ _ h=>.inl h⟩
theorem zf (e:1<=E.n) (d:∃ m,m<E.n/\A.cM m=true) (hm:dp E A A'):oj E A A':=by
 obtain ⟨m,c,a⟩:=d;have no:¬ gk E A:=λh=>by rw [h m c] at a;cases a
 have b:¬ gk E A':=λh=>by have:=hm.cM m a;rw [h m c] at this;cases this
 exact ⟨hm,λh=>absurd h no,λh=>absurd h b,λh=>absurd h no,λh=>absurd h no,λh=>absurd h no⟩
theorem l1 (h:ug rs A gr) (b:A'.dZ=A.dZ) (g:ie (gr c)->ie bW):ug rs A' (hZ gr c bW):=by
 rcases h with h | ⟨c',d,f,a⟩
 ·exact .inl (b.trans h)
 ·refine .inr ⟨c',d,b.trans f,?_⟩;by_cases e:c'=c
  ·subst e;rw [eS];exact g a
  ·rw [kc e];exact a
theorem vP (h:gR (gr c)->gR bW):∀ c',gR (gr c')->gR (hZ gr c bW c'):=λc' hw=>by
 by_cases e:c'=c
 ·subst e;rw [eS];exact h hw
 ·rw [kc e];exact hw
theorem Qk (ay:cg E) (YY:1<=c/\c<6) (Yq:c ∈ rs) (Y4:∀ c ∈ rs,1<=c/\c<6) {bp:List aN} {e0:List aQ} {cl:cT} (XA:jM E A bp) (V:e8 E A) (H:cI E rs A bp gr c) (XN:lN E (gr c)) (XB:mh E c (gr c)) (XR:gO C (cW E c (gr c)) (gr c).bt) (aq:zA E bp c j C (cW E c (gr c)) (gr c).bt l x v e0 q cl) (X3:(gr c).aC=3->qv C bp) (N:ug rs A gr) :
  ∃ A' bW,FA E rs A gr c bp j C l x A' bW:=by
 have Xv:=ay.e.n;have YW:=ay.e.L;have i:=XA.mem j x aq.node;have z:j<E.n:=by have:=b3 aq.node;rw [XA.len] at this;exact this
 have Y6:=i.aU.len;have Y1:=ay.mE;have s:=aq.at_;have G:=aq.hV;have ref:iw E.n E.L v->l.pair.refusal v x=0:=λXy=>by
  rw [ED i.aU Xv.2 Xy aq.pc aq.pi YY.2];split
  ·rfl
  ·rw [if_neg (by omega)]
 have fin:∀ {d:aM},(l.pair.step x).1=l.pair.done->(l.pair.step x).2.2=some d->gO (C.comes j l (l.pair.step x).1 (l.pair.step x).2.2) (cW E c ((gr c).add q d)) ((gr c).add q d).bt:=λ{d} o D=>by rw [o,D];exact XR.done aq.lane aq.hV (by show l.pair.a3.tail=e0;rw [aq.hV];rfl) aq.pl d
 have Xw:∀ (cH:Nat) (bj:aQ),cH<q->(cW E c (gr c))[cH]?=some bj->bj.node.toNat=j->∃ d,(gr c).bt cH=some d/\d.code=0:=λcH bj o D XG=>by obtain ⟨d,XC⟩:=XR.before aq.lane aq.pl o D XG;obtain ⟨v2,_,T,_⟩:=XB cH d XC;exact ⟨d,XC,T⟩
 have t:∀ d,lN E ((gr c).add q d):=λd=>XN
 have K:∀ {P:Prop},Own E A c->∀ c',c'≠c->Own E A c'->P:=λh c' Xz XY=>absurd (h.one XY).symm Xz
 have S:(gr c).aC≠3->∀ {P:Prop},(gr c).aC=3->P:=λh {P} XY=>absurd XY h
 have one:∀ {a:Nat} {ws:a8},v=cD j (a:Int) ws->iw E.n E.L v->a % 8=0->ws.length<=8->a+ws.length<=x.words.length->l.pair.step x=(l.pair.done,x.write a ws,some ⟨0,[]⟩):=λ{a ws} e Xy YQ Ym Y0=>by have F:=ref Xy;rw [e] at G F;exact Fx aq.b8 G F YQ (aq.nz _ _ G rfl) Y0 Ym
 have XP:∀ {a:Nat},v=cX j (a:Int) 1->iw E.n E.L v->a<x.words.length->l.pair.step x=(l.pair.done,x,some ⟨0,[x.get a]⟩):=λ{a} e Xy YQ=>by have F:=ref Xy;rw [e] at G F;have YC:(cX j (a:Int) 1).v.pieces=[((a:Int),1)]:=mt (v:=(cX j (a:Int) 1).v) (by show (1:Int)<=1;omega) (by show (a:Int) % 8+1<=8;omega) (by show (0:Int)<=a;omega);rw [Dx aq.b8 G F YC];have he:=Ki (x:=cX j (a:Int) 1) rfl (by show (0:Int)<=a;omega) (n:=x) (by show ((a:Int)).toNat<_;omega);have he:exec (cX j (a:Int) 1) ((a:Int),1) x=(x,[x.get a]):=he;rw [he]
 have same:∀ {d:aM},l.pair.step x=(l.pair.done,x,some d)->d.code=0->(d.words.length:Int)=v.v.iW->cI E rs A bp (hZ gr c ((gr c).add q d)) c->(ie (gr c)->ie ((gr c).add q d))->(gR (gr c)->gR ((gr c).add q d))->(gr c).aC≠3->∃ A' bW,FA E rs A gr c bp j C l x A' bW:=λ{d} f o D XG YP YT YU=>by
  have W:(l.pair.step x).2.1=x:=by rw [f]
  exact ⟨A,(gr c).add q d,rfl,by rw [W,lr aq.node];exact XA,V,by rw [W,lr aq.node];exact XG,t d,XB.add s o D,fin (by rw [f]) (by rw [f]),S YU,sI,λ_ _ _=>⟨rfl,by rw [W,lr aq.node]⟩,l1 N rfl YP,YT⟩
 have Y3:(gr c).aC<=9:=by
  refine vq λY2=>?_
  have:cW E c (gr c)=[]:=by unfold cW;split<;>first | rfl | omega
  rw [this] at s
  simp at s
 obtain e | e | e | e | e | e | e | e | e | e:(gr c).aC=0\/(gr c).aC=1\/(gr c).aC=2\/(gr c).aC=3\/(gr c).aC=4\/(gr c).aC=5\/(gr c).aC=6\/(gr c).aC=7\/(gr c).aC=8\/(gr c).aC=9:=by omega
 ·
  unfold cI at H;rw [e] at H;have b:=s
  unfold cW at b;rw [e] at b;simp only [iL,dS] at b;obtain ⟨m,hm,rfl⟩:=kX.1 b;have XH:=b3 hm;rw [lJ] at XH;rw [j6 XH] at hm;cases hm;have YF:q=j:=by have:=aq.nd;simp [cX] at this;exact this
  subst YF;have f:=XP (a:=24) rfl (nW Xv.2 XH (by omega) (by omega) (by omega) (by omega) (.inr (by omega))) (by omega);refine same f rfl rfl ?_ (λh=>by rcases h with ⟨g,_⟩ | ⟨g,_⟩ | ⟨g,_⟩<;>omega) (λh=>by rcases h with ⟨g,_⟩ | ⟨g,_⟩<;>omega) (by omega);unfold cI;rw [eS];simp only [c5.add,e];intro b4 Q d XC;rcases kH XC with ⟨B,T⟩ | ⟨_,B⟩
  ·subst B T;show x.get 24=1\/(x.get 24=2/\_);rw [i.aU.d0];cases XK:A.dj b4
   ·exact .inl rfl
   ·exact .inr ⟨rfl,rfl⟩
  ·exact H b4 Q d B
 ·
  unfold cI at H;rw [e] at H;obtain ⟨J,b2,M⟩:=H;have b:=s
  unfold cW at b;rw [e] at b;simp only [hr,dS] at b;obtain ⟨m,hm,rfl⟩:=kX.1 b;have Y:m=j:=by have:=aq.nd;simp [f8] at this;exact this
  subst Y;have f:=tX (a:=24) (x:=x) aq.b8 G (ref (oU Xv.2 z (by omega) (by omega) (by omega)));have Ya:ie (gr c)->ie ((gr c).add q ⟨0,[x.get 24]⟩):=λh=>by rcases h with ⟨g,_⟩ | ⟨g,_⟩ | ⟨g,_⟩<;>omega
  have XL:gR (gr c)->gR ((gr c).add q ⟨0,[x.get 24]⟩):=λh=>by rcases h with ⟨g,_⟩ | ⟨g,_⟩<;>omega
  have X4:eb ⟨0,[x.get 24]⟩=1\/eb ⟨0,[x.get 24]⟩=2:=by
   show x.get 24=1\/x.get 24=2;rw [i.aU.d0];cases A.dj m
   ·exact .inl rfl
   ·exact .inr rfl
  have O:∀ {A':bu} {R:List aN},dp E A A'->A'.dj m=true->cI E rs A' R (hZ gr c ((gr c).add q ⟨0,[x.get 24]⟩)) c:=λ{A' R} r Yr=>by
   unfold cI;rw [eS];simp only [c5.add,e];refine ⟨λb4 o D=>r.dj b4 (J b4 o D),b2,λcH b4 d o D=>?_⟩;rcases kH D with ⟨B,T⟩ | ⟨_,B⟩
   ·subst B T;rw [hm] at o;cases o;exact ⟨Yr,X4⟩
   ·obtain ⟨b1,aB⟩:=M cH b4 d o B;exact ⟨r.dj b4 b1,aB⟩
  cases XK:A.dj m with
  |true=>
   have u:x.fx ((24:Nat):Int) 1 2=x:=by unfold aN.fx;rw [fD,i.aU.d0,XK,if_neg (by simp)]
   rw [u] at f;exact same f rfl rfl (O (dp.refl E A) XK) Ya XL (by omega)
  |false=>
   have Yl:x.get 24=1:=by rw [i.aU.d0,XK];rfl
   have u:x.fx ((24:Nat):Int) 1 2={ x with words:=x.words.set 24 2 }:=by unfold aN.fx;rw [fD,if_pos Yl]
   rw [u] at f;have r:dp E A (A.oQ m):=Nr;have W:(l.pair.step x).2.1={ x with words:=x.words.set 24 2 }:=by rw [f]
   refine ⟨A.oQ m,(gr c).add q ⟨0,[x.get 24]⟩,rfl,by rw [W];exact XA.fr aq.node (i.Ae ay) (λb4 Q y XT=>XT.same (λ_ _=>rfl) rfl rfl rfl (by simp [bu.oQ,Q]) (λ_=>rfl)),V.Ae m,O r (by simp [bu.oQ]),t _,XB.add s rfl rfl,fin (by rw [f]) (by rw [f]),S (by omega),⟨r,λh=>h,λh=>h,λ_ _ _ h=>h,λ_ _ _ _ _ h=>h,λ_ _ _ h=>.inl h⟩,λc' _ XY=>?_,l1 N rfl Ya,XL⟩;have:=XY.1 m z;rw [XK] at this;cases this
 ·
  have XZ:¬ ie (gr c):=λh=>by
   rcases h with ⟨_,d,o,_⟩ | ⟨g,_⟩ | ⟨g,_⟩
   ·have b:=s
    unfold cW at b;rw [e] at b;have XH:=b3 b;simp [g'] at XH;subst XH;rw [aq.bt] at o;cases o
   ·omega
   ·omega
  have XL:¬ gR (gr c):=λh=>by
   rcases h with h | ⟨g,_⟩
   ·exact XZ (.inl h)
   ·omega
  unfold cI at H;rw [e] at H;have b:=s
  unfold cW at b;rw [e] at b;have XH:=b3 b;simp [g'] at XH;subst XH;simp [g'] at b;subst b;have X:j=0:=by have:=aq.nd;simp [f8] at this;exact this.symm
  subst X;have f:=tX (a:=49) (x:=x) aq.b8 G (ref (oU Xv.2 z (by omega) (by omega) (by omega)));have Z:=i.dZ rfl;have O:∀ {A':bu} {R:List aN} {w:Int},dp E A A'->((w=0/\A'.dZ=gK c)\/∃ c' ∈ rs,c'≠c/\w=gK c'/\gR (gr c'))->cI E rs A' R (hZ gr c ((gr c).add 0 ⟨0,[w]⟩)) c:=λ{A' R w} r hw=>by
   unfold cI;rw [eS];simp only [c5.add,e];refine ⟨r.bt H.1,λd XC=>?_⟩;rcases kH XC with ⟨_,T⟩ | ⟨B,_⟩
   ·subst T;rcases hw with g | ⟨c',b1,aB,X8,YR⟩
    ·exact .inl g
    ·exact .inr ⟨c',b1,aB,X8,by rw [kc aB];exact YR⟩
   ·exact absurd rfl B
  by_cases X5:A.dZ=0
  ·rw [X5] at Z;have u:x.fx ((49:Nat):Int) 0 (gK c)={ x with words:=x.words.set 49 (gK c) }:=by unfold aN.fx;rw [fD,if_pos Z]
   rw [u,Z] at f;have r:dp E A (A.q' (gK c)):=Ej;have W:(l.pair.step x).2.1={ x with words:=x.words.set 49 (gK c) }:=by rw [f]
   refine ⟨A.q' (gK c),(gr c).add 0 ⟨0,[0]⟩,rfl,by rw [W];exact XA.fr aq.node (i.tag ay _) (λb4 Q y XT=>XT.same (λ_ _=>rfl) rfl rfl rfl rfl (λXF=>absurd XF Q)),V.tag _,O r (.inl ⟨rfl,rfl⟩),t _,XB.add s rfl rfl,fin (by rw [f]) (by rw [f]),S (by omega),⟨r,λh=>h,λh=>h,λ_ _ _ h=>h,λ_ _ _ _ _ h=>h,λ_ _ _ h=>.inl h⟩,λc' _ XY=>?_,.inr ⟨c,Yq,rfl,?_⟩,λh=>absurd h XL⟩
   ·exact absurd (XY.2.symm.trans X5) (zd c')
   ·rw [eS];exact .inl ⟨e,⟨0,[0]⟩,s3 (gr c).bt 0 ⟨0,[0]⟩,rfl⟩
  ·obtain ⟨c',b1,aB,X8⟩:∃ c' ∈ rs,A.dZ=gK c'/\ie (gr c'):=by
    rcases N with h | h
    ·exact absurd h X5
    ·exact h
   have Xz:c'≠c:=λXF=>by rw [XF] at X8;exact XZ X8
   have u:x.fx ((49:Nat):Int) 0 (gK c)=x:=by unfold aN.fx;rw [fD,if_neg (by rw [Z];exact X5)]
   rw [u,Z] at f;refine same f rfl rfl (O (dp.refl E A) (.inr ⟨c',b1,Xz,aB,?_⟩)) (λh=>absurd h XZ) (λh=>absurd h XL) (by omega);rcases X8 with g | ⟨B,T⟩ | ⟨B,T⟩
   ·exact .inl g
   ·exact .inr ⟨B,by omega⟩
   ·exact .inr ⟨by omega,by omega⟩
 ·
  have YB:=H;unfold cI at H;rw [e] at H;obtain ⟨J,b2⟩:=H;have b:=s
  unfold cW at b;rw [e] at b;have b:(gV E.n)[q]?=some v:=b;have XQ:∃ a k:Nat,v=cX j (a:Int) (k:Int)/\iw E.n E.L v/\(a % 8=0\/k=1)/\a+k<=x.words.length:=by
   rcases zV b with ⟨m,hm,⟨_,al⟩ | ⟨_,al⟩⟩ | ⟨_,al⟩
   ·have Y:m=j:=by have:=aq.nd;rw [al] at this;simp [cX] at this;exact this
    subst Y;exact ⟨24,1,al,by rw [al];exact nW Xv.2 hm (by omega) (by omega) (by omega) (by omega) (.inr (by omega)),.inr rfl,by omega⟩
   ·have Y:m=j:=by have:=aq.nd;rw [al] at this;simp [cX] at this;exact this
    subst Y;exact ⟨48,120,al,by rw [al];exact nW Xv.2 hm (by omega) (by omega) (by omega) (by omega) (.inl (by omega)),.inl (by omega),by omega⟩
   ·have Y:j=0:=by have:=aq.nd;rw [al] at this;simp [cX] at this;exact this.symm
    subst Y;exact ⟨32,1,al,by rw [al];exact nW Xv.2 z (by omega) (by omega) (by omega) (by omega) (.inl (by omega)),.inr rfl,by omega⟩
  obtain ⟨a,k,al,Xy,Yn,hlen⟩:=XQ;have F:=ref Xy;rw [al] at G F;have hw:=X3 e j l x aq.lane aq.node _ _ _ G;rw [fD] at hw;obtain ⟨s1,s2⟩:=QW (a:=a) (k:=k) aq.b8 G F Yn hw hlen;have X2:rK bp v=(x.words.drop a).take k:=by unfold rK;rw [aq.nd,aq.node,al];rfl
  rcases s2 with ⟨t1,t2⟩ | ⟨t1,t2⟩
  ·refine ⟨A,gr c,rfl,by rw [s1,lr aq.node];exact XA,V,by rw [s1,lr aq.node];exact YB.stay (eS _ _ _) (vP λh=>h),XN,XB,?_,λ_=>?_,sI,λ_ _ _=>⟨rfl,by rw [s1,lr aq.node]⟩,l1 N rfl λh=>h,λh=>h⟩
   ·rw [t1,t2];exact XR.more aq.lane rfl
   ·rw [s1,lr aq.node,t1,t2];refine (X3 e).step aq.lane aq.node λYi n' XX XS=>?_
    have XS:l.pair.a3=cX j Yi n'::XX:=XS;rw [G] at XS;injection XS with YG _;have:(a:Int)=Yi:=congrArg aQ.at_ YG;rw [<-this];rfl
  ·refine ⟨A,(gr c).add q ⟨0,(x.words.drop a).take k⟩,rfl,by rw [s1,lr aq.node];exact XA,V,?_,t _,XB.add s rfl ?_,fin t1 t2,λ_=>?_,sI,λ_ _ _=>⟨rfl,by rw [s1,lr aq.node]⟩,l1 N rfl λh=>.inr (.inl ⟨by show 3<=(gr c).aC;omega,by show (gr c).aC<=8;omega⟩),λh=>.inr ⟨by show 3<=(gr c).aC;omega,by show (gr c).aC<=10;omega⟩⟩
   ·rw [s1,lr aq.node];unfold cI;rw [eS];simp only [c5.add,e];refine ⟨J,λcH bj d o D=>?_⟩;rcases kH D with ⟨B,T⟩ | ⟨_,B⟩
    ·subst B T;rw [b] at o;cases o;exact X2.symm
    ·exact b2 cH bj d o B
   ·rw [al];show (((x.words.drop a).take k).length:Int)=k;rw [iG,lH];omega
   ·rw [s1,lr aq.node,t1];exact (X3 e).step aq.lane aq.node λYi n' XX _=>by show []=List.take (8 * 0) _;simp
 ·
  unfold cI at H;rw [e] at H;obtain ⟨J,b2,M,XJ,X7,Yf,Yj,Yg,YO⟩:=H;have b:=s
  unfold cW at b;rw [e] at b;have b:(gL E (gr c).sp)[q]?=some v:=b;have YA:il E≠0:=yW ay.seq;obtain ⟨k,m,hm,Xx⟩:=Fy b;have Y:m=j:=by have:=aq.nd;rcases Xx with ⟨_,al⟩ | ⟨_,al⟩ | ⟨_,al,_⟩<;>(rw [al] at this;simp [cD] at this;exact this)
  subst Y;have O:∀ {A':bu} {R:List aN} {d:aM},dp E A A'->(∀ p,A'.bV 0 p=A.bV 0 p)->A'.dZ=A.dZ->(∀ XO b4,(gr c).sp[XO]?=some b4->fr (gr c).bt q d (XO * 3)=none->A'.cM b4=false)->(v=cD m 48 [il E]->A'.cM m=true)->cI E rs A' R (hZ gr c ((gr c).add q d)) c:=λ{A' R d} r YD Yc Ym YV=>by
   unfold cI;rw [eS];simp only [c5.add,e];refine ⟨⟨r.bt J.1,Yc.trans J.2⟩,r.lb b2,?_,λp U=>by rw [YD];exact XJ p U,λb4 o D=>r.cM b4 (X7 b4 o D),Yf,Yj,Ym,λcH b4 Yk o D=>?_⟩
   ·obtain ⟨b4,b1,aB⟩:=M;exact ⟨b4,b1,r.cM b4 aB⟩
   ·rcases kH D with ⟨B,_⟩ | ⟨_,B⟩
    ·subst B;rw [b] at o;have o:=me o;have Yx:b4=m:=by rcases Xx with ⟨_,al⟩ | ⟨_,al⟩ | ⟨_,al,_⟩<;>(rw [al] at o;have:=congrArg aQ.node o;simp [cD] at this;omega)
     rw [Yx] at o ⊢;exact YV o
    ·exact r.cM b4 (YO cH b4 Yk o B)
  have Yd:∀ {A':bu} (d:aM),(∀ b4,A'.cM b4=A.cM b4)->∀ XO b4,(gr c).sp[XO]?=some b4->fr (gr c).bt q d (XO * 3)=none->A'.cM b4=false:=λd Yy XO b4 o D=>by rw [Yy];exact Yg XO b4 o (yE D).2
  have XD:∀ d,ie ((gr c).add q d):=λd=>.inr (.inl ⟨by show 3<=(gr c).aC;omega,by show (gr c).aC<=8;omega⟩)
  have XE:∀ d,gR ((gr c).add q d):=λd=>.inr ⟨by show 3<=(gr c).aC;omega,by show (gr c).aC<=10;omega⟩
  rcases Xx with ⟨X1,al⟩ | ⟨X1,al⟩ | ⟨X1,al,X0⟩
  ·have f:=one (a:=48) al (by rw [al];exact nh Xv.2 z (by omega) (by omega) (by simp) (by simp) (by simp;omega)) (by omega) (by simp) (by simp;omega);have W:(l.pair.step x).2.1=x.write 48 [0]:=by rw [f]
   have Yv:=Yg k m hm (by rw [<-X1];exact aq.bt);refine ⟨A,(gr c).add q ⟨0,[]⟩,rfl,by rw [W];exact XA.fr aq.node (i.WL ay Yv) (λ_ _ _ h=>h),V,O (dp.refl E A) (λ_=>rfl) rfl (Yd _ λ_=>rfl) (λh=>?_),t _,XB.add s rfl (by rw [al];rfl),fin (by rw [f]) (by rw [f]),S (by omega),sI,K J,l1 N rfl λ_=>XD _,λ_=>XE _⟩;rw [al] at h;have:=congrArg aQ.words h;simp [cD] at this;exact absurd this.symm YA
  ·have YX:=ay.lS;have Xy:iw E.n E.L v:=by rw [al];exact nh Xv.2 z (by omega) (by omega) (by omega) (by omega) (by rw [YX.1];omega)
   have F:=ref Xy;have XU:=G;rw [al] at XU F;obtain ⟨s1,s2,Yh,Y8,Y9⟩:=zS (a:=56) aq.b8 XU F (by omega) (aq.nz _ _ G (by rw [al];rfl)) (by omega);have Yo:=i.ez (b2 m z);have Yw:Mem E A m (l.pair.step x).2.1:=i.low ay Yh (by omega) (by omega) (λ_ _=>rfl) rfl (.inl (by omega)) (by rw [Yh.get _ (by omega)];exact i.dJ) (by rw [Yh.get _ (by omega)];exact i.cM) (λYS=>by rw [Yh.get _ (by omega)];exact i.dZ YS) λ_ k XQ=>Y8 k XQ (.inr (Yo k XQ))
   have XV:jM E A (bp.set m (l.pair.step x).2.1):=XA.fr aq.node Yw (λ_ _ _ h=>h);rcases Y9 with ⟨t1,t2,t3⟩ | ⟨t1,t2,t3⟩
   ·refine ⟨A,gr c,rfl,XV,V,?_,XN,XB,?_,S (by omega),sI,K J,l1 N rfl λh=>h,λh=>h⟩
    ·unfold cI;rw [eS,e];exact ⟨J,b2,M,XJ,X7,Yf,Yj,Yg,YO⟩
    ·rw [t2,t3];exact XR.more aq.lane rfl
   ·refine ⟨A,(gr c).add q ⟨0,[]⟩,rfl,XV,V,O (dp.refl E A) (λ_=>rfl) rfl (Yd _ λ_=>rfl) (λh=>?_),t _,XB.add s rfl (by rw [al];rfl),fin t2 t3,S (by omega),sI,K J,l1 N rfl λ_=>XD _,λ_=>XE _⟩;rw [al] at h;have:=congrArg aQ.at_ h;simp [cD] at this
  ·have f:=one (a:=48) al (by rw [al];exact nh Xv.2 z (by omega) (by omega) (by simp) (by simp) (by simp;omega)) (by omega) (by simp) (by simp;omega);have W:(l.pair.step x).2.1=x.write 48 [il E]:=by rw [f]
   have r:dp E A (A.jF m):=Eh;refine ⟨A.jF m,(gr c).add q ⟨0,[]⟩,rfl,by rw [W];exact XA.fr aq.node (i.uN ay) (λb4 Q y XT=>XT.same (λ_ _=>rfl) (by simp [bu.jF,Q]) rfl rfl rfl (λ_=>rfl)),V.uN b2 XJ m,O r (λ_=>rfl) rfl (λXO b4 o D=>?_) (λ_=>by simp [bu.jF]),t _,XB.add s rfl (by rw [al];rfl),fin (by rw [f]) (by rw [f]),S (by omega),zf Xv.1 M r,K J,l1 N rfl λ_=>XD _,λ_=>XE _⟩;obtain ⟨B,T⟩:=yE D;have Xz:b4≠m:=λXF=>by subst XF;have Yt:XO=k:=(yN (b3 o) Yj).1 (o.trans hm.symm);subst Yt;obtain ⟨d,b1,_⟩:=Xw (XO * 3) _ (by omega) (by unfold cW;rw [e];exact X0) (by simp [cD]);rw [T] at b1;cases b1
   simp only [bu.jF];rw [if_neg Xz];exact Yg XO b4 o T
 ·
  unfold cI at H;rw [e] at H;obtain ⟨J,b2,M⟩:=H;have b:=s
  unfold cW at b;rw [e] at b;simp only [gY,dS] at b;obtain ⟨p,U,rfl⟩:=kX.1 b;have X:j=0:=by have:=aq.nd;simp [cX] at this;exact this.symm
  subst X;have I:=b5 U;have Yu:=ay.pl I;have f:=XP (a:=br p * 8) (by rw [show p.bm * 8=((br p * 8:Nat):Int) by omega]) (nW Xv.2 z (by omega) (by omega) (by omega) (by omega) (.inl (by omega))) (by omega);refine same f rfl rfl ?_ (λ_=>.inr (.inl ⟨by show 3<=(gr c).aC;omega,by show (gr c).aC<=8;omega⟩)) (λ_=>.inr ⟨by show 3<=(gr c).aC;omega,by show (gr c).aC<=10;omega⟩) (by omega);unfold cI;rw [eS];simp only [c5.add,e];refine ⟨J,b2,λcH p' d o D=>?_⟩;rcases kH D with ⟨B,T⟩ | ⟨_,B⟩
  ·subst B T;rw [U] at o;cases o;exact (i.aq ay I (V.cN 0 z p I).1).2
  ·exact M cH p' d o B
 ·
  unfold cI at H;rw [e] at H;obtain ⟨J,b2,M,XJ⟩:=H;have b:=s
  unfold cW at b Xw;rw [e] at b Xw;have Yp:∀ p ∈ bM E,p ∈ (gr c).l\/A.bV j (br p)=2:=λp U=>by
   rcases M.2.2 p U with g | g
   ·exact .inl g
   ·by_cases X:j=0
    ·subst X;exact .inr g
    ·exact .inr (V.ld j (by omega) z (V.k' (V.lX p U g) j (by omega) z) p U)
  obtain ⟨a,ws,A',r1,YI,YJ,YK,YL,YM,YN,XI,Ye,YH,Y7⟩:=ES ay XA V b2 M.1 b aq.nd aq.node (λcH bj o D XG=>by obtain ⟨d,B,T⟩:=Xw cH bj o D XG;exact XJ cH bj d D B T) Yp;have Xy:iw E.n E.L v:=by
   obtain ⟨m,hm,_,⟨p,U,rfl⟩ | ⟨rfl,_⟩⟩:=wD b
   ·exact rL ay hm (M.1 p U)
   ·exact rM ay hm
  have f:=one r1 Xy YI YJ YK;have W:(l.pair.step x).2.1=x.write a ws:=by rw [f]
  refine ⟨A',(gr c).add q ⟨0,[]⟩,rfl,by rw [W];exact YL,YM,?_,t _,XB.add s rfl (by rw [r1];rfl),fin (by rw [f]) (by rw [f]),S (by omega),zf Xv.1 ⟨0,by omega,b2 0 (by omega)⟩ XI,K J,l1 N (congrArg Prod.fst Ye) λ_=>.inr (.inl ⟨by show 3<=(gr c).aC;omega,by show (gr c).aC<=8;omega⟩),λ_=>.inr ⟨by show 3<=(gr c).aC;omega,by show (gr c).aC<=10;omega⟩⟩;unfold cI;rw [eS];simp only [c5.add,e];refine ⟨⟨XI.bt J.1,(congrArg Prod.fst Ye:A'.dZ=A.dZ).trans J.2⟩,XI.am b2,⟨M.1,M.2.1,λp U=>(M.2.2 p U).imp id λg=>XI.bV 0 _ g⟩,(XJ.mono XI).add b YN⟩
 ·
  unfold cI at H;rw [e] at H;obtain ⟨J,b2,X6,M,XJ⟩:=H;have b:=s
  unfold cW at b Xw;rw [e] at b Xw;obtain ⟨a,ws,A',Y_,r1,YI,YJ,YK,YL,YM,YN,XI,Ye,YH⟩:=ET ay XA V b2 X6 M.1 b aq.nd aq.node (λcH bj o D XG=>by obtain ⟨d,B,T⟩:=Xw cH bj o D XG;exact XJ cH bj d D B T);have Xy:iw E.n E.L v:=by
   obtain ⟨_,⟨_,rfl⟩ | ⟨_,p,U,rfl⟩⟩:=wE b
   ·exact rM ay (by omega)
   ·exact rL ay (by omega) (M.1 p U)
  have f:=one r1 Xy YI YJ YK;have W:(l.pair.step x).2.1=x.write a ws:=by rw [f]
  refine ⟨A',(gr c).add q ⟨0,[]⟩,rfl,by rw [W];exact YL,YM,?_,t _,XB.add s rfl (by rw [r1];rfl),fin (by rw [f]) (by rw [f]),S (by omega),zf Xv.1 ⟨0,by omega,b2 0 (by omega)⟩ XI,K J,l1 N (congrArg Prod.fst Ye) λ_=>.inr (.inl ⟨by show 3<=(gr c).aC;omega,by show (gr c).aC<=8;omega⟩),λ_=>.inr ⟨by show 3<=(gr c).aC;omega,by show (gr c).aC<=10;omega⟩⟩;unfold cI;rw [eS];simp only [c5.add,e];refine ⟨⟨XI.bt J.1,(congrArg Prod.fst Ye:A'.dZ=A.dZ).trans J.2⟩,XI.am b2,XI.qE X6,⟨M.1,M.2.1,λp U=>(M.2.2 p U).imp id λg=>XI.bV 0 _ g⟩,(XJ.mono XI).add b YN⟩
 ·
  unfold cI at H;rw [e] at H;obtain ⟨J,b2,M,XJ,X7,Yf⟩:=H;have b:=s
  unfold cW at b;rw [e] at b;simp only [iE,dS] at b;obtain ⟨p,U,rfl⟩:=kX.1 b;have X:j=0:=by have:=aq.nd;simp [f8] at this;exact this.symm
  subst X;have Yu:=X7 p (b5 U);have Xy:iw E.n E.L (f8 0 (p.bm * 8) (eK p.Head 0) p.Head):=oU Xv.2 z (by omega) (by omega) (by omega);have X9:p.bm * 8=((br p * 8:Nat):Int):=by show p.bm * 8=((p.bm.toNat * 8:Nat):Int);omega
  rw [X9] at G;have f:=tX (x:=x) aq.b8 G (by rw [<-X9];exact ref Xy);have XD:∀ d,ie ((gr c).add q d):=λd=>.inr (.inl ⟨by show 3<=(gr c).aC;omega,by show (gr c).aC<=8;omega⟩)
  have XE:∀ d,gR ((gr c).add q d):=λd=>.inr ⟨by show 3<=(gr c).aC;omega,by show (gr c).aC<=10;omega⟩
  have O:∀ {A':bu} {R:List aN} {d:aM},dp E A A'->A'.dZ=A.dZ->gk E A'->(∀ p' ∈ bM E,A.bV 0 (br p')=0->A'.bV 0 (br p')=0)->(p ∈ bM E->A'.bV 0 (br p)=0)->cI E rs A' R (hZ gr c ((gr c).add q d)) c:=λ{A' R d} r X5 Yz XQ YE=>by
   unfold cI;rw [eS];simp only [c5.add,e];refine ⟨⟨r.bt J.1,X5.trans J.2⟩,Yz,M.imp id (λg p' XM=>XQ p' XM (g p' XM)),XJ,X7,λcH p' Yk o D XG=>?_⟩;rcases kH D with ⟨B,_⟩ | ⟨_,B⟩
   ·subst B;rw [U] at o;cases o;exact YE XG
   ·exact XQ p' XG (Yf cH p' Yk o B XG)
  by_cases hw:p ∈ bM E/\A.bV 0 (br p)=1
  ·obtain ⟨I,Yb⟩:=hw;have YZ:=(i.aq ay I (by omega)).2.2 Yb;have u:x.fx ((br p * 8:Nat):Int) (eK p.Head 0) p.Head={ x with words:=x.words.set (br p * 8) p.Head }:=by unfold aN.fx;rw [fD,if_pos YZ]
   rw [u] at f;have W:(l.pair.step x).2.1={ x with words:=x.words.set (br p * 8) p.Head }:=by rw [f]
   have r:dp E A (A.g2 0 (br p) 0):=vK λXF=>by omega
   have XQ:∀ b4,∀ p' ∈ bM E,A.bV b4 (br p')=0->(A.g2 0 (br p) 0).bV b4 (br p')=0:=λb4 p' _ h=>by
    simp only [bu.g2];split
    ·rfl
    ·exact h
   refine ⟨A.g2 0 (br p) 0,(gr c).add q ⟨0,[x.get (br p * 8)]⟩,rfl,by rw [W];exact XA.fr aq.node (i.l8 ay I Yb) (λb4 Q y XT=>XT.same (λp' _=>by simp [bu.g2,Q]) rfl rfl rfl rfl (λ_=>rfl)),V.jA (by omega) (λXF=>by omega) (λ_ _=>b2) (λXF=>by omega) (λXF=>by omega) (λXF=>by omega),O r rfl b2 (XQ 0) (λ_=>by simp [bu.g2]),t _,XB.add s rfl rfl,fin (by rw [f]) (by rw [f]),S (by omega),⟨r,λh=>h,λh=>h,λ_ _ _ h=>h,λ_ b4 _ p' XM h=>XQ b4 p' XM h,λ_ p' XM h=>.inr J.1⟩,K J,l1 N rfl λ_=>XD _,λ_=>XE _⟩
  ·have Xz:x.get (br p * 8)≠eK p.Head 0:=by
    by_cases I:p ∈ bM E
    ·exact λh=>hw ⟨I,(i.aq ay I (V.cN 0 z p I).1).2.1 h⟩
    ·intro h;have X_:∀ p' ∈ bM E,A.bV 0 (br p')=0:=by
      rcases M with g | g
      ·rw [g] at U;exact absurd (b5 U) I
      ·exact g
     have Ys:x.get (br p * 8)=E.base (br p) 0:=by
      by_cases X':∃ p' ∈ bM E,br p'=br p
      ·obtain ⟨p',o,D⟩:=X';have:=i.bV p' o;rw [X_ p' o] at this;have:=this 0 (by omega);rw [D,mb] at this;exact this
      ·have:=i.gE (br p) (by omega) (by omega) (λp' o D=>X' ⟨p',o,D⟩) 0 (by omega);rw [mb] at this;exact this
     have o:=ay.ch (br p) (by omega) (by omega);have D:=Mp p.Head;rw [<-h,Ys] at D;omega
   have u:x.fx ((br p * 8:Nat):Int) (eK p.Head 0) p.Head=x:=by unfold aN.fx;rw [fD,if_neg Xz]
   rw [u] at f;refine same f rfl rfl (O (dp.refl E A) rfl b2 (λ_ _ h=>h) λI=>?_) (λ_=>XD _) (λ_=>XE _) (by omega);have D:=(V.cN 0 z p I).1;have XG:A.bV 0 (br p)≠1:=λh=>hw ⟨I,h⟩
   have YP:A.bV 0 (br p)≠2:=λh=>by have:=V.iM 0 z p I h 0 z;rw [b2 0 z] at this;cases this
   omega
 ·
  unfold cI at H;rw [e] at H;obtain ⟨J,b2,M⟩:=H;have b:=s
  unfold cW at b;rw [e] at b;have XH:=b3 b;simp [gS] at XH;subst XH;simp [gS] at b;subst b;have X:j=0:=by have:=aq.nd;simp [f8] at this;exact this.symm
  subst X;have f:=tX (a:=49) (x:=x) aq.b8 G (ref (oU Xv.2 z (by omega) (by omega) (by omega)));have XW:=b2 aq.bt;have Y5:x.get 49=gK c:=(i.dZ rfl).trans XW;have u:x.fx ((49:Nat):Int) (gK c) 0={ x with words:=x.words.set 49 0 }:=by unfold aN.fx;rw [fD,if_pos Y5]
  rw [u] at f;have W:(l.pair.step x).2.1={ x with words:=x.words.set 49 0 }:=by rw [f]
  have r:dp E A (A.q' 0):=Ej;refine ⟨A.q' 0,(gr c).add 0 ⟨0,[x.get 49]⟩,rfl,by rw [W];exact XA.fr aq.node (i.tag ay _) (λb4 Q y XT=>XT.same (λ_ _=>rfl) rfl rfl rfl rfl (λXF=>absurd XF Q)),V.tag _,?_,t _,XB.add s rfl rfl,fin (by rw [f]) (by rw [f]),S (by omega),⟨r,λh=>h,λh=>h,λ_ _ _ h=>h,λ_ _ _ _ _ h=>h,λ_ _ _ h=>.inl h⟩,K ⟨J,XW⟩,.inl rfl,λ_=>.inr ⟨by show 3<=(gr c).aC;omega,by show (gr c).aC<=10;omega⟩⟩;unfold cI;rw [eS];simp only [c5.add,e];refine ⟨J,λh=>(by rw [s3] at h;cases h),?_⟩;rcases M with g | ⟨B,T⟩
  ·exact .inl g
  ·exact .inr ⟨⟨B.1,B.2.1,B.2.2⟩,T⟩
end
end
end Go.Proofs.YtmkljjbioomepaaGreat
