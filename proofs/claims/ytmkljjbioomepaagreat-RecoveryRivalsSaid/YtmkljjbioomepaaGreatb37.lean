import Derived.Test.YtmkljjbioomepaaGreatb36
set_option linter.all false
set_option maxHeartbeats 4000000
set_option maxRecDepth 100000
namespace Go.Proofs.YtmkljjbioomepaaGreat
open Go.Proofs.Tryz Go.bu
variable {A':bt} {C:bU} {bV:c5} {j q:Nat} {l:cS} {v:aW} {x:aZ}
section
open e7
theorem L7 (h:Int):eK h 0 % 2=1:=by
 unfold eK jg;have a:(BitVec.ofInt IntKind.u64.bits h ||| BitVec.ofInt IntKind.u64.bits (0+1)).toNat % 2=1:=by rw [BitVec.toNat_or,Nat.or_mod_two_eq_one];right;rfl
 have b:=(BitVec.ofInt IntKind.u64.bits h ||| BitVec.ofInt IntKind.u64.bits (0+1)).isLt;rw [jO (by omega) (by have:2 ^ IntKind.u64.bits=18446744073709551616:=rfl;omega)];omega
theorem qX {α:Type} {k:Nat}:∀ {hj:List (List α)},(∀ b ∈ hj,b.length=k)->hj.flatten.length=hj.length * k
 | [],_=>by simp
 |b::hj,h=>by rw [gV,dI,h b e2,qX λc a=>h c (fu _ a),g7,hT,Nat.add_comm]
theorem ES {E:Env} {sp:cP} (h:(gB E sp)[q]?=some v):∃ k m,sp[k]?=some m/\((q=k * 3/\v=cx m 48 [0])\/(q=k * 3+1/\v=cx m 56 (gS E))\/(q=k * 3+2/\v=cx m 48 [h' E]/\(gB E sp)[k * 3]?=some (cx m 48 [0]))):=by
 have c:∀ b ∈ sp.map (λm=>[cx m 48 [0],cx m 56 (gS E),cx m 48 [h' E]]),b.length=3:=λb c=>by obtain ⟨m,_,rfl⟩:=cT.1 c;rfl
 obtain ⟨k,b,d,i,a⟩:=vy (by omega) c h;have f:=d;rw [dR] at d;obtain ⟨m,hm,rfl⟩:=kP.1 d;refine ⟨k,m,hm,?_⟩;have g:=cb a;simp at g;obtain e | e | e:q - k * 3=0\/q - k * 3=1\/q - k * 3=2:=by omega
 all_goals
  rw [e] at a;simp at a;subst a
 ·exact .inl ⟨by omega,rfl⟩
 ·exact .inr (.inl ⟨by omega,rfl⟩)
 ·exact .inr (.inr ⟨by omega,rfl,s9 (r:=0) c f rfl⟩)
theorem zJ {n:Nat} (h:(gK n)[q]?=some v):(∃ m,m<n/\((q=2 * m/\v=cR m 24 1)\/(q=2 * m+1/\v=cR m 48 120)))\/(q=2 * n/\v=cR 0 32 1):=by
 have d:∀ b ∈ (List.range n).map (λm=>[cR m 24 1,cR m 48 120]),b.length=2:=λb d=>by obtain ⟨m,_,rfl⟩:=cT.1 d;rfl
 have g:((List.range n).map (λm=>[cR m 24 1,cR m 48 120])).flatten.length=2 * n:=by rw [qX d];simp [vb]
 unfold gK at h;by_cases l:q<2 * n
 ·rw [hU (by omega)] at h;obtain ⟨k,b,a,j,c⟩:=vy (by omega) d h;have f:=cb a;simp at f;rw [dR,kk f] at a;simp only [mW,fe] at a;subst a;left;refine ⟨k,f,?_⟩;have i:=cb c;simp at i;obtain e | e:q - k * 2=0\/q - k * 2=1:=by omega
  all_goals
   rw [e] at c;simp at c;subst c
  ·exact .inl ⟨by omega,rfl⟩
  ·exact .inr ⟨by omega,rfl⟩
 ·rw [hV (by omega),g] at h;have:=cb h;simp at this;rw [show q - 2 * n=0 by omega] at h;simp at h;exact .inr ⟨by omega,h.symm⟩
def hQ (gr:Nat->c5) (c:Nat) (g:c5):Nat->c5:=λk=>if k=c then g else gr k
theorem eT (gr:Nat->c5) (c:Nat) (g:c5):hQ gr c g c=g:=if_pos rfl
theorem kw {gr:Nat->c5} {c k:Nat} {g:c5} (h:k≠c):hQ gr c g k=gr k:=if_neg h
def c5.add (g:c5) (q:Nat) (d:aO):c5:={ g with bw:=fl g.bw q d }
def qs (C:bU) (bB:List aZ):Prop:=∀ (k:Nat) (l:cS) (y:aZ),C.aD[k]?=some l->bB[k]?=some y->∀ (a n:Int) (b:List aW),l.pair.ba=cR k a n::b->l.pair.words=(y.words.drop a.toNat).take (8 * l.pair.bF)
theorem qs.step {bB:List aZ} (h:qs C bB) (o:C.aD[j]?=some l) (r:bB[j]?=some x) {p:dg} {d:Option aO} (q:∀ (a n:Int) (b:List aW),p.ba=cR j a n::b->p.words=(x.words.drop a.toNat).take (8 * p.bF)):qs (C.comes j l p d) bB:=by
 intro k l' y c f a n b al;by_cases e:k=j
 ·subst e;obtain ⟨l2,g,i⟩:=xJ o p d;rw [g] at c;cases c;rw [r] at f;cases f;rw [i] at al ⊢;exact q a n b al
 ·rw [ps e] at c;exact h k l' y c f a n b al
section
variable {E:Env} {A:bt} {rs:cP} {gr:Nat->c5} {c:Nat}
theorem l5.add (h:l5 E c (gr c)) {q:Nat} {v:aW} (al:(cO E c (gr c))[q]?=some v) {d:aO} (g:d.code=0) (j:(d.words.length:Int)=v.v.iq):l5 E c ((gr c).add q d):=λcy a i=>by
 rcases kx i with ⟨b,f⟩ | ⟨_,e⟩
 ·subst b f;exact ⟨v,al,g,j⟩
 ·exact h cy a e
def c5.bare (g:c5):c5:={ g with bw:=λ_=>none }
structure E2 (E:Env) (rs:cP) (A:bt) (gr:Nat->c5) (c:Nat) (bB:List aZ) (j:Nat) (C:bU) (l:cS) (x:aZ) (A':bt) (bV:c5):Prop where
 bare:bV.bare=(gr c).bare
 rep:jA E A' (bB.set j (l.pair.step x).2.1)
 law:e8 E A'
 ok:cC E rs A' (bB.set j (l.pair.step x).2.1) (hQ gr c bV) c
 xP:lC E bV
 res:l5 E c bV
 me:gC (C.comes j l (l.pair.step x).1 (l.pair.step x).2.2) (cO E c bV) bV.bw
 Tz:bV.aB=3->qs (C.comes j l (l.pair.step x).1 (l.pair.step x).2.2) (bB.set j (l.pair.step x).2.1)
 oH:oe E A A'
 other:∀ c',c'≠c->Own E A c'->A'=A/\bB.set j (l.pair.step x).2.1=bB
 dW:tZ rs A' (hQ gr c bV)
 u2:gF (gr c)->gF bV
theorem sA:oe E A A:=⟨dp.refl E A,λh=>h,λh=>h,λ_ _ _ h=>h,λ_ _ _ _ _ h=>h,λ_ _ _ h=>.inl h⟩
theorem y9 (e:1<=E.n) (d:∃ m,m<E.n/\A.cG m=true) (hm:dp E A A'):oe E A A':=by
 obtain ⟨m,c,a⟩:=d;have no:¬ f' E A:=λh=>by rw [h m c] at a;cases a
 have b:¬ f' E A':=λh=>by have:=hm.cG m a;rw [h m c] at this;cases this
 exact ⟨hm,λh=>absurd h no,λh=>absurd h b,λh=>absurd h no,λh=>absurd h no,λh=>absurd h no⟩
theorem lP (h:tZ rs A gr) (b:A'.dW=A.dW) (g:h6 (gr c)->h6 bV):tZ rs A' (hQ gr c bV):=by
 rcases h with h | ⟨c',d,f,a⟩
 ·exact .inl (b.trans h)
 ·refine .inr ⟨c',d,b.trans f,?_⟩;by_cases e:c'=c
  ·subst e;rw [eT];exact g a
  ·rw [kw e];exact a
theorem vz (h:gF (gr c)->gF bV):∀ c',gF (gr c')->gF (hQ gr c bV c'):=λc' hw=>by
 by_cases e:c'=c
 ·subst e;rw [eT];exact h hw
 ·rw [kw e];exact hw
theorem PP (ay:b8 E) (Xu:1<=c/\c<6) (WX:c ∈ rs) (XA:∀ c ∈ rs,1<=c/\c<6) {bB:List aZ} {eX:List aW} {ch:cP} (V7:jA E A bB) (V:e8 E A) (H:cC E rs A bB gr c) (Wi:lC E (gr c)) (V8:l5 E c (gr c)) (Wm:gC C (cO E c (gr c)) (gr c).bw) (ar:zj E bB c j C (cO E c (gr c)) (gr c).bw l x v eX q ch) (Wy:(gr c).aB=3->qs C bB) (N:tZ rs A gr) :
  ∃ A' bV,E2 E rs A gr c bB j C l x A' bV:=by
 have V2:=ay.e.n;have Xs:=ay.e.L;have i:=V7.mem j x ar.node;have z:j<E.n:=by have:=cb ar.node;rw [V7.len] at this;exact this
 have XC:=i.aP.len;have Xx:=ay.mr;have s:=ar.at_;have G:=ar.hM;have ref:ic E.n E.L v->l.pair.refusal v x=0:=λV5=>by
  rw [D0 i.aP V2.2 V5 ar.pc ar.pi Xu.2];split
  ·rfl
  ·rw [if_neg (by omega)]
 have fin:∀ {d:aO},(l.pair.step x).1=l.pair.done->(l.pair.step x).2.2=some d->gC (C.comes j l (l.pair.step x).1 (l.pair.step x).2.2) (cO E c ((gr c).add q d)) ((gr c).add q d).bw:=λ{d} o D=>by rw [o,D];exact Wm.done ar.lane ar.hM (by show l.pair.ba.tail=eX;rw [ar.hM];rfl) ar.pl d
 have V3:∀ (cy:Nat) (bj:aW),cy<q->(cO E c (gr c))[cy]?=some bj->bj.node.toNat=j->∃ d,(gr c).bw cy=some d/\d.code=0:=λcy bj o D Wb=>by obtain ⟨d,V9⟩:=Wm.before ar.lane ar.pl o D Wb;obtain ⟨v2,_,T,_⟩:=V8 cy d V9;exact ⟨d,V9,T⟩
 have t:∀ d,lC E ((gr c).add q d):=λd=>Wi
 have K:∀ {P:Prop},Own E A c->∀ c',c'≠c->Own E A c'->P:=λh c' V6 Wt=>absurd (h.one Wt).symm V6
 have S:(gr c).aB≠3->∀ {P:Prop},(gr c).aB=3->P:=λh {P} Wt=>absurd Wt h
 have one:∀ {a:Nat} {ws:bd},v=cx j (a:Int) ws->ic E.n E.L v->a % 8=0->ws.length<=8->a+ws.length<=x.words.length->l.pair.step x=(l.pair.done,x.write a ws,some ⟨0,[]⟩):=λ{a ws} e V5 Xm WT Xw=>by have F:=ref V5;rw [e] at G F;exact ER ar.cf G F Xm (ar.nj _ _ G rfl) Xw WT
 have Wk:∀ {a:Nat},v=cR j (a:Int) 1->ic E.n E.L v->a<x.words.length->l.pair.step x=(l.pair.done,x,some ⟨0,[x.get a]⟩):=λ{a} e V5 Xm=>by have F:=ref V5;rw [e] at G F;have W9:(cR j (a:Int) 1).v.pieces=[((a:Int),1)]:=qS (v:=(cR j (a:Int) 1).v) (by show (1:Int)<=1;omega) (by show (a:Int) % 8+1<=8;omega) (by show (0:Int)<=a;omega);rw [C0 ar.cf G F W9];have he:=JD (x:=cR j (a:Int) 1) rfl (by show (0:Int)<=a;omega) (n:=x) (by show ((a:Int)).toNat<_;omega);have he:exec (cR j (a:Int) 1) ((a:Int),1) x=(x,[x.get a]):=he;rw [he]
 have same:∀ {d:aO},l.pair.step x=(l.pair.done,x,some d)->d.code=0->(d.words.length:Int)=v.v.iq->cC E rs A bB (hQ gr c ((gr c).add q d)) c->(h6 (gr c)->h6 ((gr c).add q d))->(gF (gr c)->gF ((gr c).add q d))->(gr c).aB≠3->∃ A' bV,E2 E rs A gr c bB j C l x A' bV:=λ{d} f o D Wb Xl Xp Xq=>by
  have W:(l.pair.step x).2.1=x:=by rw [f]
  exact ⟨A,(gr c).add q d,rfl,by rw [W,ld ar.node];exact V7,V,by rw [W,ld ar.node];exact Wb,t d,V8.add s o D,fin (by rw [f]) (by rw [f]),S Xq,sA,λ_ _ _=>⟨rfl,by rw [W,ld ar.node]⟩,lP N rfl Xl,Xp⟩
 have Xz:(gr c).aB<=9:=by
  refine yo λXy=>?_
  have:cO E c (gr c)=[]:=by unfold cO;split<;>first | rfl | omega
  rw [this] at s
  simp at s
 obtain e | e | e | e | e | e | e | e | e | e:(gr c).aB=0\/(gr c).aB=1\/(gr c).aB=2\/(gr c).aB=3\/(gr c).aB=4\/(gr c).aB=5\/(gr c).aB=6\/(gr c).aB=7\/(gr c).aB=8\/(gr c).aB=9:=by omega
 ·
  unfold cC at H;rw [e] at H;have b:=s
  unfold cO at b;rw [e] at b;simp only [iA,dR] at b;obtain ⟨m,hm,rfl⟩:=kP.1 b;have Wc:=cb hm;rw [ly] at Wc;rw [kk Wc] at hm;cases hm;have Xb:q=j:=by have:=ar.nd;simp [cR] at this;exact this
  subst Xb;have f:=Wk (a:=24) rfl (nJ V2.2 Wc (by omega) (by omega) (by omega) (by omega) (.inr (by omega))) (by omega);refine same f rfl rfl ?_ (λh=>by rcases h with ⟨g,_⟩ | ⟨g,_⟩ | ⟨g,_⟩<;>omega) (λh=>by rcases h with ⟨g,_⟩ | ⟨g,_⟩<;>omega) (by omega);unfold cC;rw [eT];simp only [c5.add,e];intro bW Q d V9;rcases kx V9 with ⟨B,T⟩ | ⟨_,B⟩
  ·subst B T;show x.get 24=1\/(x.get 24=2/\_);rw [i.aP.d0];cases Wf:A.dj bW
   ·exact .inl rfl
   ·exact .inr ⟨rfl,rfl⟩
  ·exact H bW Q d B
 ·
  unfold cC at H;rw [e] at H;obtain ⟨J,b0,M⟩:=H;have b:=s
  unfold cO at b;rw [e] at b;simp only [hg,dR] at b;obtain ⟨m,hm,rfl⟩:=kP.1 b;have Y:m=j:=by have:=ar.nd;simp [fW] at this;exact this
  subst Y;have f:=tM (a:=24) (x:=x) ar.cf G (ref (wd V2.2 z (by omega) (by omega) (by omega)));have WH:h6 (gr c)->h6 ((gr c).add q ⟨0,[x.get 24]⟩):=λh=>by rcases h with ⟨g,_⟩ | ⟨g,_⟩ | ⟨g,_⟩<;>omega
  have Wg:gF (gr c)->gF ((gr c).add q ⟨0,[x.get 24]⟩):=λh=>by rcases h with ⟨g,_⟩ | ⟨g,_⟩<;>omega
  have Wz:d8 ⟨0,[x.get 24]⟩=1\/d8 ⟨0,[x.get 24]⟩=2:=by
   show x.get 24=1\/x.get 24=2;rw [i.aP.d0];cases A.dj m
   ·exact .inl rfl
   ·exact .inr rfl
  have O:∀ {A':bt} {R:List aZ},dp E A A'->A'.dj m=true->cC E rs A' R (hQ gr c ((gr c).add q ⟨0,[x.get 24]⟩)) c:=λ{A' R} r WY=>by
   unfold cC;rw [eT];simp only [c5.add,e];refine ⟨λbW o D=>r.dj bW (J bW o D),b0,λcy bW d o D=>?_⟩;rcases kx D with ⟨B,T⟩ | ⟨_,B⟩
   ·subst B T;rw [hm] at o;cases o;exact ⟨WY,Wz⟩
   ·obtain ⟨b1,aA⟩:=M cy bW d o B;exact ⟨r.dj bW b1,aA⟩
  cases Wf:A.dj m with
  |true=>
   have u:x.gm ((24:Nat):Int) 1 2=x:=by unfold aZ.gm;rw [fU,i.aP.d0,Wf,if_neg (by simp)]
   rw [u] at f;exact same f rfl rfl (O (dp.refl E A) Wf) WH Wg (by omega)
  |false=>
   have WS:x.get 24=1:=by rw [i.aP.d0,Wf];rfl
   have u:x.gm ((24:Nat):Int) 1 2={ x with words:=x.words.set 24 2 }:=by unfold aZ.gm;rw [fU,if_pos WS]
   rw [u] at f;have r:dp E A (A.oM m):=Nj;have W:(l.pair.step x).2.1={ x with words:=x.words.set 24 2 }:=by rw [f]
   refine ⟨A.oM m,(gr c).add q ⟨0,[x.get 24]⟩,rfl,by rw [W];exact V7.fl ar.node (i.zX ay) (λbW Q y Wo=>Wo.same (λ_ _=>rfl) rfl rfl rfl (by simp [bt.oM,Q]) (λ_=>rfl)),V.zX m,O r (by simp [bt.oM]),t _,V8.add s rfl rfl,fin (by rw [f]) (by rw [f]),S (by omega),⟨r,λh=>h,λh=>h,λ_ _ _ h=>h,λ_ _ _ _ _ h=>h,λ_ _ _ h=>.inl h⟩,λc' _ Wt=>?_,lP N rfl WH,Wg⟩;have:=Wt.1 m z;rw [Wf] at this;cases this
 ·
  have Wu:¬ h6 (gr c):=λh=>by
   rcases h with ⟨_,d,o,_⟩ | ⟨g,_⟩ | ⟨g,_⟩
   ·have b:=s
    unfold cO at b;rw [e] at b;have Wc:=cb b;simp [gZ] at Wc;subst Wc;rw [ar.bw] at o;cases o
   ·omega
   ·omega
  have Wg:¬ gF (gr c):=λh=>by
   rcases h with h | ⟨g,_⟩
   ·exact Wu (.inl h)
   ·omega
  unfold cC at H;rw [e] at H;have b:=s
  unfold cO at b;rw [e] at b;have Wc:=cb b;simp [gZ] at Wc;subst Wc;simp [gZ] at b;subst b;have X:j=0:=by have:=ar.nd;simp [fW] at this;exact this.symm
  subst X;have f:=tM (a:=49) (x:=x) ar.cf G (ref (wd V2.2 z (by omega) (by omega) (by omega)));have Z:=i.dW rfl;have O:∀ {A':bt} {R:List aZ} {w:Int},dp E A A'->((w=0/\A'.dW=gA c)\/∃ c' ∈ rs,c'≠c/\w=gA c'/\gF (gr c'))->cC E rs A' R (hQ gr c ((gr c).add 0 ⟨0,[w]⟩)) c:=λ{A' R w} r hw=>by
   unfold cC;rw [eT];simp only [c5.add,e];refine ⟨r.bw H.1,λd V9=>?_⟩;rcases kx V9 with ⟨_,T⟩ | ⟨B,_⟩
   ·subst T;rcases hw with g | ⟨c',b1,aA,WD,Xn⟩
    ·exact .inl g
    ·exact .inr ⟨c',b1,aA,WD,by rw [kw aA];exact Xn⟩
   ·exact absurd rfl B
  by_cases WA:A.dW=0
  ·rw [WA] at Z;have u:x.gm ((49:Nat):Int) 0 (gA c)={ x with words:=x.words.set 49 (gA c) }:=by unfold aZ.gm;rw [fU,if_pos Z]
   rw [u,Z] at f;have r:dp E A (A.q6 (gA c)):=DF;have W:(l.pair.step x).2.1={ x with words:=x.words.set 49 (gA c) }:=by rw [f]
   refine ⟨A.q6 (gA c),(gr c).add 0 ⟨0,[0]⟩,rfl,by rw [W];exact V7.fl ar.node (i.tag ay _) (λbW Q y Wo=>Wo.same (λ_ _=>rfl) rfl rfl rfl rfl (λWa=>absurd Wa Q)),V.tag _,O r (.inl ⟨rfl,rfl⟩),t _,V8.add s rfl rfl,fin (by rw [f]) (by rw [f]),S (by omega),⟨r,λh=>h,λh=>h,λ_ _ _ h=>h,λ_ _ _ _ _ h=>h,λ_ _ _ h=>.inl h⟩,λc' _ Wt=>?_,.inr ⟨c,WX,rfl,?_⟩,λh=>absurd h Wg⟩
   ·exact absurd (Wt.2.symm.trans WA) (y7 c')
   ·rw [eT];exact .inl ⟨e,⟨0,[0]⟩,sU (gr c).bw 0 ⟨0,[0]⟩,rfl⟩
  ·obtain ⟨c',b1,aA,WD⟩:∃ c' ∈ rs,A.dW=gA c'/\h6 (gr c'):=by
    rcases N with h | h
    ·exact absurd h WA
    ·exact h
   have V6:c'≠c:=λWa=>by rw [Wa] at WD;exact Wu WD
   have u:x.gm ((49:Nat):Int) 0 (gA c)=x:=by unfold aZ.gm;rw [fU,if_neg (by rw [Z];exact WA)]
   rw [u,Z] at f;refine same f rfl rfl (O (dp.refl E A) (.inr ⟨c',b1,V6,aA,?_⟩)) (λh=>absurd h Wu) (λh=>absurd h Wg) (by omega);rcases WD with g | ⟨B,T⟩ | ⟨B,T⟩
   ·exact .inl g
   ·exact .inr ⟨B,by omega⟩
   ·exact .inr ⟨by omega,by omega⟩
 ·
  have W8:=H;unfold cC at H;rw [e] at H;obtain ⟨J,b0⟩:=H;have b:=s
  unfold cO at b;rw [e] at b;have b:(gK E.n)[q]?=some v:=b;have Wl:∃ a k:Nat,v=cR j (a:Int) (k:Int)/\ic E.n E.L v/\(a % 8=0\/k=1)/\a+k<=x.words.length:=by
   rcases zJ b with ⟨m,hm,⟨_,al⟩ | ⟨_,al⟩⟩ | ⟨_,al⟩
   ·have Y:m=j:=by have:=ar.nd;rw [al] at this;simp [cR] at this;exact this
    subst Y;exact ⟨24,1,al,by rw [al];exact nJ V2.2 hm (by omega) (by omega) (by omega) (by omega) (.inr (by omega)),.inr rfl,by omega⟩
   ·have Y:m=j:=by have:=ar.nd;rw [al] at this;simp [cR] at this;exact this
    subst Y;exact ⟨48,120,al,by rw [al];exact nJ V2.2 hm (by omega) (by omega) (by omega) (by omega) (.inl (by omega)),.inl (by omega),by omega⟩
   ·have Y:j=0:=by have:=ar.nd;rw [al] at this;simp [cR] at this;exact this.symm
    subst Y;exact ⟨32,1,al,by rw [al];exact nJ V2.2 z (by omega) (by omega) (by omega) (by omega) (.inl (by omega)),.inr rfl,by omega⟩
  obtain ⟨a,k,al,V5,WU,hlen⟩:=Wl;have F:=ref V5;rw [al] at G F;have hw:=Wy e j l x ar.lane ar.node _ _ _ G;rw [fU] at hw;obtain ⟨s1,s2⟩:=O3 (a:=a) (k:=k) ar.cf G F WU hw hlen;have Wx:rC bB v=(x.words.drop a).take k:=by unfold rC;rw [ar.nd,ar.node,al];rfl
  rcases s2 with ⟨t1,t2⟩ | ⟨t1,t2⟩
  ·refine ⟨A,gr c,rfl,by rw [s1,ld ar.node];exact V7,V,by rw [s1,ld ar.node];exact W8.stay (eT _ _ _) (vz λh=>h),Wi,V8,?_,λ_=>?_,sA,λ_ _ _=>⟨rfl,by rw [s1,ld ar.node]⟩,lP N rfl λh=>h,λh=>h⟩
   ·rw [t1,t2];exact Wm.more ar.lane rfl
   ·rw [s1,ld ar.node,t1,t2];refine (Wy e).step ar.lane ar.node λWP n' Ws Wn=>?_
    have Wn:l.pair.ba=cR j WP n'::Ws:=Wn;rw [G] at Wn;injection Wn with Xc _;have:(a:Int)=WP:=congrArg aW.at_ Xc;rw [<-this];rfl
  ·refine ⟨A,(gr c).add q ⟨0,(x.words.drop a).take k⟩,rfl,by rw [s1,ld ar.node];exact V7,V,?_,t _,V8.add s rfl ?_,fin t1 t2,λ_=>?_,sA,λ_ _ _=>⟨rfl,by rw [s1,ld ar.node]⟩,lP N rfl λh=>.inr (.inl ⟨by show 3<=(gr c).aB;omega,by show (gr c).aB<=8;omega⟩),λh=>.inr ⟨by show 3<=(gr c).aB;omega,by show (gr c).aB<=10;omega⟩⟩
   ·rw [s1,ld ar.node];unfold cC;rw [eT];simp only [c5.add,e];refine ⟨J,λcy bj d o D=>?_⟩;rcases kx D with ⟨B,T⟩ | ⟨_,B⟩
    ·subst B T;rw [b] at o;cases o;exact Wx.symm
    ·exact b0 cy bj d o B
   ·rw [al];show (((x.words.drop a).take k).length:Int)=k;rw [iM,l1];omega
   ·rw [s1,ld ar.node,t1];exact (Wy e).step ar.lane ar.node λWP n' Ws _=>by show []=List.take (8 * 0) _;simp
 ·
  unfold cC at H;rw [e] at H;obtain ⟨J,b0,M,We,WC,WM,WQ,WN,Xk⟩:=H;have b:=s
  unfold cO at b;rw [e] at b;have b:(gB E (gr c).sp)[q]?=some v:=b;have W7:h' E≠0:=yC ay.seq;obtain ⟨k,m,hm,V4⟩:=ES b;have Y:m=j:=by have:=ar.nd;rcases V4 with ⟨_,al⟩ | ⟨_,al⟩ | ⟨_,al,_⟩<;>(rw [al] at this;simp [cx] at this;exact this)
  subst Y;have O:∀ {A':bt} {R:List aZ} {d:aO},dp E A A'->(∀ p,A'.bQ 0 p=A.bQ 0 p)->A'.dW=A.dW->(∀ Wj bW,(gr c).sp[Wj]?=some bW->fl (gr c).bw q d (Wj * 3)=none->A'.cG bW=false)->(v=cx m 48 [h' E]->A'.cG m=true)->cC E rs A' R (hQ gr c ((gr c).add q d)) c:=λ{A' R d} r W_ WJ WT Xr=>by
   unfold cC;rw [eT];simp only [c5.add,e];refine ⟨⟨r.bw J.1,WJ.trans J.2⟩,r.lb b0,?_,λp U=>by rw [W_];exact We p U,λbW o D=>r.cG bW (WC bW o D),WM,WQ,WT,λcy bW WR o D=>?_⟩
   ·obtain ⟨bW,b1,aA⟩:=M;exact ⟨bW,b1,r.cG bW aA⟩
   ·rcases kx D with ⟨B,_⟩ | ⟨_,B⟩
    ·subst B;rw [b] at o;have o:=nX o;have W4:bW=m:=by rcases V4 with ⟨_,al⟩ | ⟨_,al⟩ | ⟨_,al,_⟩<;>(rw [al] at o;have:=congrArg aW.node o;simp [cx] at this;omega)
     rw [W4] at o ⊢;exact Xr o
    ·exact r.cG bW (Xk cy bW WR o B)
  have WK:∀ {A':bt} (d:aO),(∀ bW,A'.cG bW=A.cG bW)->∀ Wj bW,(gr c).sp[Wj]?=some bW->fl (gr c).bw q d (Wj * 3)=none->A'.cG bW=false:=λd W5 Wj bW o D=>by rw [W5];exact WN Wj bW o (yk D).2
  have V_:∀ d,h6 ((gr c).add q d):=λd=>.inr (.inl ⟨by show 3<=(gr c).aB;omega,by show (gr c).aB<=8;omega⟩)
  have V':∀ d,gF ((gr c).add q d):=λd=>.inr ⟨by show 3<=(gr c).aB;omega,by show (gr c).aB<=10;omega⟩
  rcases V4 with ⟨Ww,al⟩ | ⟨Ww,al⟩ | ⟨Ww,al,Wv⟩
  ·have f:=one (a:=48) al (by rw [al];exact nV V2.2 z (by omega) (by omega) (by simp) (by simp) (by simp;omega)) (by omega) (by simp) (by simp;omega);have W:(l.pair.step x).2.1=x.write 48 [0]:=by rw [f]
   have W2:=WN k m hm (by rw [<-Ww];exact ar.bw);refine ⟨A,(gr c).add q ⟨0,[]⟩,rfl,by rw [W];exact V7.fl ar.node (i.Vc ay W2) (λ_ _ _ h=>h),V,O (dp.refl E A) (λ_=>rfl) rfl (WK _ λ_=>rfl) (λh=>?_),t _,V8.add s rfl (by rw [al];rfl),fin (by rw [f]) (by rw [f]),S (by omega),sA,K J,lP N rfl λ_=>V_ _,λ_=>V' _⟩;rw [al] at h;have:=congrArg aW.words h;simp [cx] at this;exact absurd this.symm W7
  ·have Xt:=ay.lH;have V5:ic E.n E.L v:=by rw [al];exact nV V2.2 z (by omega) (by omega) (by omega) (by omega) (by rw [Xt.1];omega)
   have F:=ref V5;have Wp:=G;rw [al] at Wp F;obtain ⟨s1,s2,WO,XE,XF⟩:=zD (a:=56) ar.cf Wp F (by omega) (ar.nj _ _ G (by rw [al];rfl)) (by omega);have WV:=i.eB (b0 m z);have W3:Mem E A m (l.pair.step x).2.1:=i.low ay WO (by omega) (by omega) (λ_ _=>rfl) rfl (.inl (by omega)) (by rw [WO.get _ (by omega)];exact i.dJ) (by rw [WO.get _ (by omega)];exact i.cG) (λXo=>by rw [WO.get _ (by omega)];exact i.dW Xo) λ_ k Wl=>XE k Wl (.inr (WV k Wl))
   have Wq:jA E A (bB.set m (l.pair.step x).2.1):=V7.fl ar.node W3 (λ_ _ _ h=>h);rcases XF with ⟨t1,t2,t3⟩ | ⟨t1,t2,t3⟩
   ·refine ⟨A,gr c,rfl,Wq,V,?_,Wi,V8,?_,S (by omega),sA,K J,lP N rfl λh=>h,λh=>h⟩
    ·unfold cC;rw [eT,e];exact ⟨J,b0,M,We,WC,WM,WQ,WN,Xk⟩
    ·rw [t2,t3];exact Wm.more ar.lane rfl
   ·refine ⟨A,(gr c).add q ⟨0,[]⟩,rfl,Wq,V,O (dp.refl E A) (λ_=>rfl) rfl (WK _ λ_=>rfl) (λh=>?_),t _,V8.add s rfl (by rw [al];rfl),fin t2 t3,S (by omega),sA,K J,lP N rfl λ_=>V_ _,λ_=>V' _⟩;rw [al] at h;have:=congrArg aW.at_ h;simp [cx] at this
  ·have f:=one (a:=48) al (by rw [al];exact nV V2.2 z (by omega) (by omega) (by simp) (by simp) (by simp;omega)) (by omega) (by simp) (by simp;omega);have W:(l.pair.step x).2.1=x.write 48 [h' E]:=by rw [f]
   have r:dp E A (A.jv m):=DD;refine ⟨A.jv m,(gr c).add q ⟨0,[]⟩,rfl,by rw [W];exact V7.fl ar.node (i.uE ay) (λbW Q y Wo=>Wo.same (λ_ _=>rfl) (by simp [bt.jv,Q]) rfl rfl rfl (λ_=>rfl)),V.uE b0 We m,O r (λ_=>rfl) rfl (λWj bW o D=>?_) (λ_=>by simp [bt.jv]),t _,V8.add s rfl (by rw [al];rfl),fin (by rw [f]) (by rw [f]),S (by omega),y9 V2.1 M r,K J,lP N rfl λ_=>V_ _,λ_=>V' _⟩;obtain ⟨B,T⟩:=yk D;have V6:bW≠m:=λWa=>by subst Wa;have W0:Wj=k:=(yw (cb o) WQ).1 (o.trans hm.symm);subst W0;obtain ⟨d,b1,_⟩:=V3 (Wj * 3) _ (by omega) (by unfold cO;rw [e];exact Wv) (by simp [cx]);rw [T] at b1;cases b1
   simp only [bt.jv];rw [if_neg V6];exact WN Wj bW o T
 ·
  unfold cC at H;rw [e] at H;obtain ⟨J,b0,M⟩:=H;have b:=s
  unfold cO at b;rw [e] at b;simp only [gM,dR] at b;obtain ⟨p,U,rfl⟩:=kP.1 b;have X:j=0:=by have:=ar.nd;simp [cR] at this;exact this.symm
  subst X;have I:=b7 U;have W1:=ay.pl I;have f:=Wk (a:=br p * 8) (by rw [show p.bo * 8=((br p * 8:Nat):Int) by omega]) (nJ V2.2 z (by omega) (by omega) (by omega) (by omega) (.inl (by omega))) (by omega);refine same f rfl rfl ?_ (λ_=>.inr (.inl ⟨by show 3<=(gr c).aB;omega,by show (gr c).aB<=8;omega⟩)) (λ_=>.inr ⟨by show 3<=(gr c).aB;omega,by show (gr c).aB<=10;omega⟩) (by omega);unfold cC;rw [eT];simp only [c5.add,e];refine ⟨J,b0,λcy p' d o D=>?_⟩;rcases kx D with ⟨B,T⟩ | ⟨_,B⟩
  ·subst B T;rw [U] at o;cases o;exact (i.ar ay I (V.cY 0 z p I).1).2
  ·exact M cy p' d o B
 ·
  unfold cC at H;rw [e] at H;obtain ⟨J,b0,M,We⟩:=H;have b:=s
  unfold cO at b V3;rw [e] at b V3;have WW:∀ p ∈ bI E,p ∈ (gr c).l\/A.bQ j (br p)=2:=λp U=>by
   rcases M.2.2 p U with g | g
   ·exact .inl g
   ·by_cases X:j=0
    ·subst X;exact .inr g
    ·exact .inr (V.j5 j (by omega) z (V.k1 (V.lL p U g) j (by omega) z) p U)
  obtain ⟨a,ws,A',r1,Xe,Xf,Xg,Xh,Xi,Xj,Wd,WL,Xd,XD⟩:=En ay V7 V b0 M.1 b ar.nd ar.node (λcy bj o D Wb=>by obtain ⟨d,B,T⟩:=V3 cy bj o D Wb;exact We cy bj d D B T) WW;have V5:ic E.n E.L v:=by
   obtain ⟨m,hm,_,⟨p,U,rfl⟩ | ⟨rfl,_⟩⟩:=wi b
   ·exact rD ay hm (M.1 p U)
   ·exact rE ay hm
  have f:=one r1 V5 Xe Xf Xg;have W:(l.pair.step x).2.1=x.write a ws:=by rw [f]
  refine ⟨A',(gr c).add q ⟨0,[]⟩,rfl,by rw [W];exact Xh,Xi,?_,t _,V8.add s rfl (by rw [r1];rfl),fin (by rw [f]) (by rw [f]),S (by omega),y9 V2.1 ⟨0,by omega,b0 0 (by omega)⟩ Wd,K J,lP N (congrArg Prod.fst WL) λ_=>.inr (.inl ⟨by show 3<=(gr c).aB;omega,by show (gr c).aB<=8;omega⟩),λ_=>.inr ⟨by show 3<=(gr c).aB;omega,by show (gr c).aB<=10;omega⟩⟩;unfold cC;rw [eT];simp only [c5.add,e];refine ⟨⟨Wd.bw J.1,(congrArg Prod.fst WL:A'.dW=A.dW).trans J.2⟩,Wd.am b0,⟨M.1,M.2.1,λp U=>(M.2.2 p U).imp id λg=>Wd.bQ 0 _ g⟩,(We.mono Wd).add b Xj⟩
 ·
  unfold cC at H;rw [e] at H;obtain ⟨J,b0,WB,M,We⟩:=H;have b:=s
  unfold cO at b V3;rw [e] at b V3;obtain ⟨a,ws,A',XG,r1,Xe,Xf,Xg,Xh,Xi,Xj,Wd,WL,Xd⟩:=Eo ay V7 V b0 WB M.1 b ar.nd ar.node (λcy bj o D Wb=>by obtain ⟨d,B,T⟩:=V3 cy bj o D Wb;exact We cy bj d D B T);have V5:ic E.n E.L v:=by
   obtain ⟨_,⟨_,rfl⟩ | ⟨_,p,U,rfl⟩⟩:=wj b
   ·exact rE ay (by omega)
   ·exact rD ay (by omega) (M.1 p U)
  have f:=one r1 V5 Xe Xf Xg;have W:(l.pair.step x).2.1=x.write a ws:=by rw [f]
  refine ⟨A',(gr c).add q ⟨0,[]⟩,rfl,by rw [W];exact Xh,Xi,?_,t _,V8.add s rfl (by rw [r1];rfl),fin (by rw [f]) (by rw [f]),S (by omega),y9 V2.1 ⟨0,by omega,b0 0 (by omega)⟩ Wd,K J,lP N (congrArg Prod.fst WL) λ_=>.inr (.inl ⟨by show 3<=(gr c).aB;omega,by show (gr c).aB<=8;omega⟩),λ_=>.inr ⟨by show 3<=(gr c).aB;omega,by show (gr c).aB<=10;omega⟩⟩;unfold cC;rw [eT];simp only [c5.add,e];refine ⟨⟨Wd.bw J.1,(congrArg Prod.fst WL:A'.dW=A.dW).trans J.2⟩,Wd.am b0,Wd.qC WB,⟨M.1,M.2.1,λp U=>(M.2.2 p U).imp id λg=>Wd.bQ 0 _ g⟩,(We.mono Wd).add b Xj⟩
 ·
  unfold cC at H;rw [e] at H;obtain ⟨J,b0,M,We,WC,WM⟩:=H;have b:=s
  unfold cO at b;rw [e] at b;simp only [ir,dR] at b;obtain ⟨p,U,rfl⟩:=kP.1 b;have X:j=0:=by have:=ar.nd;simp [fW] at this;exact this.symm
  subst X;have W1:=WC p (b7 U);have V5:ic E.n E.L (fW 0 (p.bo * 8) (eK p.Head 0) p.Head):=wd V2.2 z (by omega) (by omega) (by omega);have WE:p.bo * 8=((br p * 8:Nat):Int):=by show p.bo * 8=((p.bo.toNat * 8:Nat):Int);omega
  rw [WE] at G;have f:=tM (x:=x) ar.cf G (by rw [<-WE];exact ref V5);have V_:∀ d,h6 ((gr c).add q d):=λd=>.inr (.inl ⟨by show 3<=(gr c).aB;omega,by show (gr c).aB<=8;omega⟩)
  have V':∀ d,gF ((gr c).add q d):=λd=>.inr ⟨by show 3<=(gr c).aB;omega,by show (gr c).aB<=10;omega⟩
  have O:∀ {A':bt} {R:List aZ} {d:aO},dp E A A'->A'.dW=A.dW->f' E A'->(∀ p' ∈ bI E,A.bQ 0 (br p')=0->A'.bQ 0 (br p')=0)->(p ∈ bI E->A'.bQ 0 (br p)=0)->cC E rs A' R (hQ gr c ((gr c).add q d)) c:=λ{A' R d} r WA W6 Wl Xa=>by
   unfold cC;rw [eT];simp only [c5.add,e];refine ⟨⟨r.bw J.1,WA.trans J.2⟩,W6,M.imp id (λg p' Wh=>Wl p' Wh (g p' Wh)),We,WC,λcy p' WR o D Wb=>?_⟩;rcases kx D with ⟨B,_⟩ | ⟨_,B⟩
   ·subst B;rw [U] at o;cases o;exact Xa Wb
   ·exact Wl p' Wb (WM cy p' WR o B Wb)
  by_cases hw:p ∈ bI E/\A.bQ 0 (br p)=1
  ·obtain ⟨I,WI⟩:=hw;have Xv:=(i.ar ay I (by omega)).2.2 WI;have u:x.gm ((br p * 8:Nat):Int) (eK p.Head 0) p.Head={ x with words:=x.words.set (br p * 8) p.Head }:=by unfold aZ.gm;rw [fU,if_pos Xv]
   rw [u] at f;have W:(l.pair.step x).2.1={ x with words:=x.words.set (br p * 8) p.Head }:=by rw [f]
   have r:dp E A (A.gR 0 (br p) 0):=vH λWa=>by omega
   have Wl:∀ bW,∀ p' ∈ bI E,A.bQ bW (br p')=0->(A.gR 0 (br p) 0).bQ bW (br p')=0:=λbW p' _ h=>by
    simp only [bt.gR];split
    ·rfl
    ·exact h
   refine ⟨A.gR 0 (br p) 0,(gr c).add q ⟨0,[x.get (br p * 8)]⟩,rfl,by rw [W];exact V7.fl ar.node (i.lV ay I WI) (λbW Q y Wo=>Wo.same (λp' _=>by simp [bt.gR,Q]) rfl rfl rfl rfl (λ_=>rfl)),V.jn (by omega) (λWa=>by omega) (λ_ _=>b0) (λWa=>by omega) (λWa=>by omega) (λWa=>by omega),O r rfl b0 (Wl 0) (λ_=>by simp [bt.gR]),t _,V8.add s rfl rfl,fin (by rw [f]) (by rw [f]),S (by omega),⟨r,λh=>h,λh=>h,λ_ _ _ h=>h,λ_ bW _ p' Wh h=>Wl bW p' Wh h,λ_ p' Wh h=>.inr J.1⟩,K J,lP N rfl λ_=>V_ _,λ_=>V' _⟩
  ·have V6:x.get (br p * 8)≠eK p.Head 0:=by
    by_cases I:p ∈ bI E
    ·exact λh=>hw ⟨I,(i.ar ay I (V.cY 0 z p I).1).2.1 h⟩
    ·intro h;have WF:∀ p' ∈ bI E,A.bQ 0 (br p')=0:=by
      rcases M with g | g
      ·rw [g] at U;exact absurd (b7 U) I
      ·exact g
     have WZ:x.get (br p * 8)=E.base (br p) 0:=by
      by_cases WG:∃ p' ∈ bI E,br p'=br p
      ·obtain ⟨p',o,D⟩:=WG;have:=i.bQ p' o;rw [WF p' o] at this;have:=this 0 (by omega);rw [D,l0] at this;exact this
      ·have:=i.gz (br p) (by omega) (by omega) (λp' o D=>WG ⟨p',o,D⟩) 0 (by omega);rw [l0] at this;exact this
     have o:=ay.b9 (br p) (by omega) (by omega);have D:=L7 p.Head;rw [<-h,WZ] at D;omega
   have u:x.gm ((br p * 8:Nat):Int) (eK p.Head 0) p.Head=x:=by unfold aZ.gm;rw [fU,if_neg V6]
   rw [u] at f;refine same f rfl rfl (O (dp.refl E A) rfl b0 (λ_ _ h=>h) λI=>?_) (λ_=>V_ _) (λ_=>V' _) (by omega);have D:=(V.cY 0 z p I).1;have Wb:A.bQ 0 (br p)≠1:=λh=>hw ⟨I,h⟩
   have Xl:A.bQ 0 (br p)≠2:=λh=>by have:=V.iC 0 z p I h 0 z;rw [b0 0 z] at this;cases this
   omega
 ·
  unfold cC at H;rw [e] at H;obtain ⟨J,b0,M⟩:=H;have b:=s
  unfold cO at b;rw [e] at b;have Wc:=cb b;simp [gG] at Wc;subst Wc;simp [gG] at b;subst b;have X:j=0:=by have:=ar.nd;simp [fW] at this;exact this.symm
  subst X;have f:=tM (a:=49) (x:=x) ar.cf G (ref (wd V2.2 z (by omega) (by omega) (by omega)));have Wr:=b0 ar.bw;have XB:x.get 49=gA c:=(i.dW rfl).trans Wr;have u:x.gm ((49:Nat):Int) (gA c) 0={ x with words:=x.words.set 49 0 }:=by unfold aZ.gm;rw [fU,if_pos XB]
  rw [u] at f;have W:(l.pair.step x).2.1={ x with words:=x.words.set 49 0 }:=by rw [f]
  have r:dp E A (A.q6 0):=DF;refine ⟨A.q6 0,(gr c).add 0 ⟨0,[x.get 49]⟩,rfl,by rw [W];exact V7.fl ar.node (i.tag ay _) (λbW Q y Wo=>Wo.same (λ_ _=>rfl) rfl rfl rfl rfl (λWa=>absurd Wa Q)),V.tag _,?_,t _,V8.add s rfl rfl,fin (by rw [f]) (by rw [f]),S (by omega),⟨r,λh=>h,λh=>h,λ_ _ _ h=>h,λ_ _ _ _ _ h=>h,λ_ _ _ h=>.inl h⟩,K ⟨J,Wr⟩,.inl rfl,λ_=>.inr ⟨by show 3<=(gr c).aB;omega,by show (gr c).aB<=10;omega⟩⟩;unfold cC;rw [eT];simp only [c5.add,e];refine ⟨J,λh=>(by rw [sU] at h;cases h),?_⟩;rcases M with g | ⟨B,T⟩
  ·exact .inl g
  ·exact .inr ⟨⟨B.1,B.2.1,B.2.2⟩,T⟩
end
end
end Go.Proofs.YtmkljjbioomepaaGreat
