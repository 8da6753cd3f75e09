import Derived.Test.YtmkljjbioomepaaGreata36
set_option linter.all false
set_option maxHeartbeats 4000000
set_option maxRecDepth 100000
namespace Go.Proofs.YtmkljjbioomepaaGreat
open Go.Proofs.Tryz Go.b8
variable {A':cd} {C:cT} {cU:fa} {j q:Nat} {l:eM} {v:bn} {x:bt}
section
open iH
theorem ak_ (h:Int):ii h 0 % 2=1:=by
 unfold ii pI;have af:(BitVec.ofInt IntKind.u64.bits h ||| BitVec.ofInt IntKind.u64.bits (0+1)).toNat % 2=1:=by rw [BitVec.toNat_or,Nat.or_mod_two_eq_one];right;rfl
 have al:=(BitVec.ofInt IntKind.u64.bits h ||| BitVec.ofInt IntKind.u64.bits (0+1)).isLt;rw [qJ (by omega) (by have:2 ^ IntKind.u64.bits=18446744073709551616:=rfl;omega)];omega
theorem ER {α:Type} {k:Nat}:∀ {mD:List (List α)},(∀ b ∈ mD,b.length=k)->mD.flatten.length=mD.length * k
 | [],_=>by simp
 |b::mD,h=>by rw [l7,gp,h b iA,ER λc ab=>h c (jz _ ab),l8,nz,Nat.add_comm]
theorem aar {E:Env} {sp:eI} (h:(lg E sp)[q]?=some v):∃ k m,sp[k]?=some m/\((q=k * 3/\v=dV m 48 [0])\/(q=k * 3+1/\v=dV m 56 (lK E))\/(q=k * 3+2/\v=dV m 48 [n3 E]/\(lg E sp)[k * 3]?=some (dV m 48 [0]))):=by
 have ak:∀ b ∈ sp.map (λm=>[dV m 48 [0],dV m 56 (lK E),dV m 48 [n3 E]]),b.length=3:=λb ak=>by obtain ⟨m,_,rfl⟩:=eQ.1 ak;rfl
 obtain ⟨k,b,af,al,aL⟩:=MA (by omega) ak h;have yf:=af;rw [gV] at af;obtain ⟨m,hm,rfl⟩:=sY.1 af;refine ⟨k,m,hm,?_⟩;have aA:=dy aL;simp at aA;obtain e | e | e:q - k * 3=0\/q - k * 3=1\/q - k * 3=2:=by omega
 all_goals
  rw [e] at aL;simp at aL;subst aL
 ·exact .inl ⟨by omega,rfl⟩
 ·exact .inr (.inl ⟨by omega,rfl⟩)
 ·exact .inr (.inr ⟨by omega,rfl,H9 (r:=0) ak yf rfl⟩)
theorem Sk {n:Nat} (h:(lB n)[q]?=some v):(∃ m,m<n/\((q=2 * m/\v=eL m 24 1)\/(q=2 * m+1/\v=eL m 48 120)))\/(q=2 * n/\v=eL 0 32 1):=by
 have ak:∀ b ∈ (List.range n).map (λm=>[eL m 24 1,eL m 48 120]),b.length=2:=λb ak=>by obtain ⟨m,_,rfl⟩:=eQ.1 ak;rfl
 have au:((List.range n).map (λm=>[eL m 24 1,eL m 48 120])).flatten.length=2 * n:=by rw [ER ak];simp [Mc]
 unfold lB at h;by_cases aM:q<2 * n
 ·rw [nA (by omega)] at h;obtain ⟨k,b,af,al,aL⟩:=MA (by omega) ak h;have J:=dy af;simp at J;rw [gV,rM J] at af;simp only [xM,iX] at af;subst af;left;refine ⟨k,J,?_⟩;have aA:=dy aL;simp at aA;obtain e | e:q - k * 2=0\/q - k * 2=1:=by omega
  all_goals
   rw [e] at aL;simp at aL;subst aL
  ·exact .inl ⟨by omega,rfl⟩
  ·exact .inr ⟨by omega,rfl⟩
 ·rw [nB (by omega),au] at h;have:=dy h;simp at this;rw [show q - 2 * n=0 by omega] at h;simp at h;exact .inr ⟨by omega,h.symm⟩
def nt (gr:Nat->fa) (c:Nat) (g:fa):Nat->fa:=λk=>if k=c then g else gr k
theorem h' (gr:Nat->fa) (c:Nat) (g:fa):nt gr c g c=g:=if_pos rfl
theorem rm {gr:Nat->fa} {c k:Nat} {g:fa} (h:k≠c):nt gr c g k=gr k:=if_neg h
def fa.add (g:fa) (q:Nat) (d:a_):fa:={ g with cf:=jh g.cf q d }
def Dh (C:cT) (cm:List bt):Prop:=∀ (k:Nat) (l:eM) (y:bt),C.aU[k]?=some l->cm[k]?=some y->∀ (a n:Int) (w6:List bn),l.pair.bN=eL k a n::w6->l.pair.words=(y.words.drop a.toNat).take (8 * l.pair.cu)
theorem Dh.step {cm:List bt} (h:Dh C cm) (au:C.aU[j]?=some l) (ao:cm[j]?=some x) {p:fx} {d:Option a_} (ar:∀ (a n:Int) (w6:List bn),p.bN=eL j a n::w6->p.words=(x.words.drop a.toNat).take (8 * p.cu)):Dh (C.comes j l p d) cm:=by
 intro k l' y J az a n w6 aw;by_cases e:k=j
 ·subst e;obtain ⟨l2,al,aL⟩:=rx au p d;rw [al] at J;cases J;rw [ao] at az;cases az;rw [aL] at aw ⊢;exact ar a n w6 aw
 ·rw [Cg e] at J;exact h k l' y J az a n w6 aw
section
variable {E:Env} {A:cd} {rs:eI} {gr:Nat->fa} {c:Nat}
theorem vu.add (h:vu E c (gr c)) {q:Nat} {v:bn} (aw:(eH E c (gr c))[q]?=some v) {d:a_} (aN:d.code=0) (au:(d.words.length:Int)=v.v.ow):vu E c ((gr c).add q d):=λdZ gA af=>by
 rcases sx af with ⟨bY,bg⟩ | ⟨_,e⟩
 ·subst bY bg;exact ⟨v,aw,aN,au⟩
 ·exact h dZ gA e
def fa.bare (g:fa):fa:={ g with cf:=λ_=>none }
structure aaD (E:Env) (rs:eI) (A:cd) (gr:Nat->fa) (c:Nat) (cm:List bt) (j:Nat) (C:cT) (l:eM) (x:bt) (A':cd) (cU:fa):Prop where
 bare:cU.bare=(gr c).bare
 rep:qi E A' (cm.set j (l.pair.step x).2.1)
 law:iI E A'
 ok:ef E rs A' (cm.set j (l.pair.step x).2.1) (nt gr c cU) c
 Qj:um E cU
 res:vu E c cU
 vG:lk (C.comes j l (l.pair.step x).1 (l.pair.step x).2.2) (eH E c cU) cU.cf
 ax8:cU.aQ=3->Dh (C.comes j l (l.pair.step x).1 (l.pair.step x).2.2) (cm.set j (l.pair.step x).2.1)
 AA:zA E A A'
 other:∀ c',c'≠c->Own E A c'->A'=A/\cm.set j (l.pair.step x).2.1=cm
 gU:I5 rs A' (nt gr c cU)
 LL:lo (gr c)->lo cU
theorem Hx:zA E A A:=⟨fN.refl E A,λh=>h,λh=>h,λ_ _ _ h=>h,λ_ _ _ _ _ h=>h,λ_ _ _ h=>.inl h⟩
theorem RK (aj:1<=E.n) (bc:∃ m,m<E.n/\A.eo m=true) (hm:fN E A A'):zA E A A':=by
 obtain ⟨m,af,al⟩:=bc;have no:¬ ku E A:=λh=>by rw [h m af] at al;cases al
 have awc:¬ ku E A':=λh=>by have:=hm.eo m al;rw [h m af] at this;cases this
 exact ⟨hm,λh=>absurd h no,λh=>absurd h awc,λh=>absurd h no,λh=>absurd h no,λh=>absurd h no⟩
theorem u6 (h:I5 rs A gr) (aZ:A'.gU=A.gU) (J:nW (gr c)->nW cU):I5 rs A' (nt gr c cU):=by
 rcases h with h | ⟨c',af,al,aL⟩
 ·exact .inl (aZ.trans h)
 ·refine .inr ⟨c',af,aZ.trans al,?_⟩;by_cases e:c'=c
  ·subst e;rw [h'];exact J aL
  ·rw [rm e];exact aL
theorem MB (h:lo (gr c)->lo cU):∀ c',lo (gr c')->lo (nt gr c cU c'):=λc' hw=>by
 by_cases e:c'=c
 ·subst e;rw [h'];exact h hw
 ·rw [rm e];exact hw
theorem aod (aI:di E) (ab:1<=c/\c<6) (ym:c ∈ rs) (gS:∀ c ∈ rs,1<=c/\c<6) {cm:List bt} {im:List bn} {dA:eI} (cC:qi E A cm) (bE:iI E A) (aN:ef E rs A cm gr c) (kW:um E (gr c)) (aA:vu E c (gr c)) (fb:lk C (eH E c (gr c)) (gr c).cf) (aC:RX E cm c j C (eH E c (gr c)) (gr c).cf l x v im q dA) (qx:(gr c).aQ=3->Dh C cm) (pW:I5 rs A gr) :
  ∃ A' cU,aaD E rs A gr c cm j C l x A' cU:=by
 have aj:=aI.e.n;have aDq:=aI.e.L;have gj:=cC.mem j x aC.node;have j1:j<E.n:=by have:=dy aC.node;rw [cC.len] at this;exact this
 have wq:=gj.ba.len;have BW:=aI.wA;have ez:=aC.at_;have fP:=aC.np;have ref:n7 E.n E.L v->l.pair.refusal v x=0:=λa'=>by
  rw [ZA gj.ba aj.2 a' aC.pc aC.pi ab.2];split
  ·rfl
  ·rw [if_neg (by omega)]
 have fin:∀ {d:a_},(l.pair.step x).1=l.pair.done->(l.pair.step x).2.2=some d->lk (C.comes j l (l.pair.step x).1 (l.pair.step x).2.2) (eH E c ((gr c).add q d)) ((gr c).add q d).cf:=λ{d} af al=>by rw [af,al];exact fb.done aC.lane aC.np (by show l.pair.bN.tail=im;rw [aC.np];rfl) aC.pl d
 have uv:∀ (dZ:Nat) (bX:bn),dZ<q->(eH E c (gr c))[dZ]?=some bX->bX.node.toNat=j->∃ d,(gr c).cf dZ=some d/\d.code=0:=λdZ bX af al aL=>by obtain ⟨d,pj⟩:=fb.before aC.lane aC.pl af al aL;obtain ⟨v2,_,bI,_⟩:=aA dZ d pj;exact ⟨d,pj,bI⟩
 have we:∀ d,um E ((gr c).add q d):=λd=>kW
 have v8:∀ {P:Prop},Own E A c->∀ c',c'≠c->Own E A c'->P:=λh c' cj gH=>absurd (h.one gH).symm cj
 have wQ:(gr c).aQ≠3->∀ {P:Prop},(gr c).aQ=3->P:=λh {P} gH=>absurd gH h
 have one:∀ {a:Nat} {ws:bR},v=dV j (a:Int) ws->n7 E.n E.L v->a % 8=0->ws.length<=8->a+ws.length<=x.words.length->l.pair.step x=(l.pair.done,x.write a ws,some ⟨0,[]⟩):=λ{a ws} e a' bc hj au=>by have m8:=ref a';rw [e] at fP m8;exact aaq aC.du fP m8 bc (aC.x_ _ _ fP rfl) au hj
 have afr:∀ {a:Nat},v=eL j (a:Int) 1->n7 E.n E.L v->a<x.words.length->l.pair.step x=(l.pair.done,x,some ⟨0,[x.get a]⟩):=λ{a} e a' bc=>by have m8:=ref a';rw [e] at fP m8;have po:(eL j (a:Int) 1).v.pieces=[((a:Int),1)]:=EH (v:=(eL j (a:Int) 1).v) (by show (1:Int)<=1;omega) (by show (a:Int) % 8+1<=8;omega) (by show (0:Int)<=a;omega);rw [Yw aC.du fP m8 po];have he:=aiF (x:=eL j (a:Int) 1) rfl (by show (0:Int)<=a;omega) (n:=x) (by show ((a:Int)).toNat<_;omega);have he:exec (eL j (a:Int) 1) ((a:Int),1) x=(x,[x.get a]):=he;rw [he]
 have same:∀ {d:a_},l.pair.step x=(l.pair.done,x,some d)->d.code=0->(d.words.length:Int)=v.v.ow->ef E rs A cm (nt gr c ((gr c).add q d)) c->(nW (gr c)->nW ((gr c).add q d))->(lo (gr c)->lo ((gr c).add q d))->(gr c).aQ≠3->∃ A' cU,aaD E rs A gr c cm j C l x A' cU:=λ{d} cq af al aL ca c9 e8=>by
  have bg:(l.pair.step x).2.1=x:=by rw [cq]
  exact ⟨A,(gr c).add q d,rfl,by rw [bg,tS aC.node];exact cC,bE,by rw [bg,tS aC.node];exact aL,we d,aA.add ez af al,fin (by rw [cq]) (by rw [cq]),wQ e8,Hx,λ_ _ _=>⟨rfl,by rw [bg,tS aC.node]⟩,u6 pW rfl ca,c9⟩
 have oh:(gr c).aQ<=9:=by
  refine Q2 λaK=>?_
  have:eH E c (gr c)=[]:=by unfold eH;split<;>first | rfl | omega
  rw [this] at ez
  simp at ez
 obtain e | e | e | e | e | e | e | e | e | e:(gr c).aQ=0\/(gr c).aQ=1\/(gr c).aQ=2\/(gr c).aQ=3\/(gr c).aQ=4\/(gr c).aQ=5\/(gr c).aQ=6\/(gr c).aQ=7\/(gr c).aQ=8\/(gr c).aQ=9:=by omega
 ·
  unfold ef at aN;rw [e] at aN;have fG:=ez
  unfold eH at fG;rw [e] at fG;simp only [oH,gV] at fG;obtain ⟨m,hm,rfl⟩:=sY.1 fG;have aM:=dy hm;rw [ui] at aM;rw [rM aM] at hm;cases hm;have asX:q=j:=by have:=aC.nd;simp [eL] at this;exact this
  subst asX;have cq:=afr (a:=24) rfl (y2 aj.2 aM (by omega) (by omega) (by omega) (by omega) (.inr (by omega))) (by omega);refine same cq rfl rfl ?_ (λh=>by rcases h with ⟨g,_⟩ | ⟨g,_⟩ | ⟨g,_⟩<;>omega) (λh=>by rcases h with ⟨g,_⟩ | ⟨g,_⟩<;>omega) (by omega);unfold ef;rw [h'];simp only [fa.add,e];intro cW g4 d pj;rcases sx pj with ⟨bs,bI⟩ | ⟨_,bs⟩
  ·subst bs bI;show x.get 24=1\/(x.get 24=2/\_);rw [gj.ba.d0];cases gn:A.fA cW
   ·exact .inl rfl
   ·exact .inr ⟨rfl,rfl⟩
  ·exact aN cW g4 d bs
 ·
  unfold ef at aN;rw [e] at aN;obtain ⟨dr,c2,eA⟩:=aN;have fG:=ez
  unfold eH at fG;rw [e] at fG;simp only [my,gV] at fG;obtain ⟨m,hm,rfl⟩:=sY.1 fG;have z_:m=j:=by have:=aC.nd;simp [kc] at this;exact this
  subst z_;have cq:=IN (a:=24) (x:=x) aC.du fP (ref (AJ aj.2 j1 (by omega) (by omega) (by omega)));have acR:nW (gr c)->nW ((gr c).add q ⟨0,[x.get 24]⟩):=λh=>by rcases h with ⟨g,_⟩ | ⟨g,_⟩ | ⟨g,_⟩<;>omega
  have jH:lo (gr c)->lo ((gr c).add q ⟨0,[x.get 24]⟩):=λh=>by rcases h with ⟨g,_⟩ | ⟨g,_⟩<;>omega
  have Ev:gZ ⟨0,[x.get 24]⟩=1\/gZ ⟨0,[x.get 24]⟩=2:=by
   show x.get 24=1\/x.get 24=2;rw [gj.ba.d0];cases A.fA m
   ·exact .inl rfl
   ·exact .inr rfl
  have u7:∀ {A':cd} {tJ:List bt},fN E A A'->A'.fA m=true->ef E rs A' tJ (nt gr c ((gr c).add q ⟨0,[x.get 24]⟩)) c:=λ{A' tJ} iD JW=>by
   unfold ef;rw [h'];simp only [fa.add,e];refine ⟨λcW af al=>iD.fA cW (dr cW af al),c2,λdZ cW d af al=>?_⟩;rcases sx al with ⟨bs,bI⟩ | ⟨_,bs⟩
   ·subst bs bI;rw [hm] at af;cases af;exact ⟨JW,Ev⟩
   ·obtain ⟨b1,aP⟩:=eA dZ cW d af bs;exact ⟨iD.fA cW b1,aP⟩
  cases gn:A.fA m with
  |true=>
   have q8:x.kS ((24:Nat):Int) 1 2=x:=by unfold bt.kS;rw [j_,gj.ba.d0,gn,if_neg (by simp)]
   rw [q8] at cq;exact same cq rfl rfl (u7 (fN.refl E A) gn) acR jH (by omega)
  |false=>
   have abi:x.get 24=1:=by rw [gj.ba.d0,gn];rfl
   have q8:x.kS ((24:Nat):Int) 1 2={ x with words:=x.words.set 24 2 }:=by unfold bt.kS;rw [j_,if_pos abi]
   rw [q8] at cq;have iD:fN E A (A.AH m):=amp;have bg:(l.pair.step x).2.1={ x with words:=x.words.set 24 2 }:=by rw [cq]
   refine ⟨A.AH m,(gr c).add q ⟨0,[x.get 24]⟩,rfl,by rw [bg];exact cC.jh aC.node (gj.SF aI) (λcW g4 y az=>az.same (λ_ _=>rfl) rfl rfl rfl (by simp [cd.AH,g4]) (λ_=>rfl)),bE.SF m,u7 iD (by simp [cd.AH]),we _,aA.add ez rfl rfl,fin (by rw [cq]) (by rw [cq]),wQ (by omega),⟨iD,λh=>h,λh=>h,λ_ _ _ h=>h,λ_ _ _ _ _ h=>h,λ_ _ _ h=>.inl h⟩,λc' _ gH=>?_,u6 pW rfl acR,jH⟩;have:=gH.1 m j1;rw [gn] at this;cases this
 ·
  have fp:¬ nW (gr c):=λh=>by
   rcases h with ⟨_,d,af,_⟩ | ⟨g,_⟩ | ⟨g,_⟩
   ·have fG:=ez
    unfold eH at fG;rw [e] at fG;have aM:=dy fG;simp [lT] at aM;subst aM;rw [aC.cf] at af;cases af
   ·omega
   ·omega
  have jH:¬ lo (gr c):=λh=>by
   rcases h with h | ⟨g,_⟩
   ·exact fp (.inl h)
   ·omega
  unfold ef at aN;rw [e] at aN;have fG:=ez
  unfold eH at fG;rw [e] at fG;have aM:=dy fG;simp [lT] at aM;subst aM;simp [lT] at fG;subst fG;have tm:j=0:=by have:=aC.nd;simp [kc] at this;exact this.symm
  subst tm;have cq:=IN (a:=49) (x:=x) aC.du fP (ref (AJ aj.2 j1 (by omega) (by omega) (by omega)));have KR:=gj.gU rfl;have u7:∀ {A':cd} {tJ:List bt} {w:Int},fN E A A'->((w=0/\A'.gU=lf c)\/∃ c' ∈ rs,c'≠c/\w=lf c'/\lo (gr c'))->ef E rs A' tJ (nt gr c ((gr c).add 0 ⟨0,[w]⟩)) c:=λ{A' tJ w} iD hw=>by
   unfold ef;rw [h'];simp only [fa.add,e];refine ⟨iD.cf aN.1,λd pj=>?_⟩;rcases sx pj with ⟨_,bI⟩ | ⟨bs,_⟩
   ·subst bI;rcases hw with g | ⟨c',b1,aP,bT,ec⟩
    ·exact .inl g
    ·exact .inr ⟨c',b1,aP,bT,by rw [rm aP];exact ec⟩
   ·exact absurd rfl bs
  by_cases aZ:A.gU=0
  ·rw [aZ] at KR;have q8:x.kS ((49:Nat):Int) 0 (lf c)={ x with words:=x.words.set 49 (lf c) }:=by unfold bt.kS;rw [j_,if_pos KR]
   rw [q8,KR] at cq;have iD:fN E A (A.E3 (lf c)):=Zc;have bg:(l.pair.step x).2.1={ x with words:=x.words.set 49 (lf c) }:=by rw [cq]
   refine ⟨A.E3 (lf c),(gr c).add 0 ⟨0,[0]⟩,rfl,by rw [bg];exact cC.jh aC.node (gj.tag aI _) (λcW g4 y az=>az.same (λ_ _=>rfl) rfl rfl rfl rfl (λdF=>absurd dF g4)),bE.tag _,u7 iD (.inl ⟨rfl,rfl⟩),we _,aA.add ez rfl rfl,fin (by rw [cq]) (by rw [cq]),wQ (by omega),⟨iD,λh=>h,λh=>h,λ_ _ _ h=>h,λ_ _ _ _ _ h=>h,λ_ _ _ h=>.inl h⟩,λc' _ gH=>?_,.inr ⟨c,ym,rfl,?_⟩,λh=>absurd h jH⟩
   ·exact absurd (gH.2.symm.trans aZ) (RI c')
   ·rw [h'];exact .inl ⟨e,⟨0,[0]⟩,HQ (gr c).cf 0 ⟨0,[0]⟩,rfl⟩
  ·obtain ⟨c',b1,aP,bT⟩:∃ c' ∈ rs,A.gU=lf c'/\nW (gr c'):=by
    rcases pW with h | h
    ·exact absurd h aZ
    ·exact h
   have cj:c'≠c:=λdF=>by rw [dF] at bT;exact fp bT
   have q8:x.kS ((49:Nat):Int) 0 (lf c)=x:=by unfold bt.kS;rw [j_,if_neg (by rw [KR];exact aZ)]
   rw [q8,KR] at cq;refine same cq rfl rfl (u7 (fN.refl E A) (.inr ⟨c',b1,cj,aP,?_⟩)) (λh=>absurd h fp) (λh=>absurd h jH) (by omega);rcases bT with g | ⟨bs,bI⟩ | ⟨bs,bI⟩
   ·exact .inl g
   ·exact .inr ⟨bs,by omega⟩
   ·exact .inr ⟨by omega,by omega⟩
 ·
  have b3:=aN;unfold ef at aN;rw [e] at aN;obtain ⟨dr,c2⟩:=aN;have fG:=ez
  unfold eH at fG;rw [e] at fG;have fG:(lB E.n)[q]?=some v:=fG;have J:∃ a k:Nat,v=eL j (a:Int) (k:Int)/\n7 E.n E.L v/\(a % 8=0\/k=1)/\a+k<=x.words.length:=by
   rcases Sk fG with ⟨m,hm,⟨_,aw⟩ | ⟨_,aw⟩⟩ | ⟨_,aw⟩
   ·have z_:m=j:=by have:=aC.nd;rw [aw] at this;simp [eL] at this;exact this
    subst z_;exact ⟨24,1,aw,by rw [aw];exact y2 aj.2 hm (by omega) (by omega) (by omega) (by omega) (.inr (by omega)),.inr rfl,by omega⟩
   ·have z_:m=j:=by have:=aC.nd;rw [aw] at this;simp [eL] at this;exact this
    subst z_;exact ⟨48,120,aw,by rw [aw];exact y2 aj.2 hm (by omega) (by omega) (by omega) (by omega) (.inl (by omega)),.inl (by omega),by omega⟩
   ·have z_:j=0:=by have:=aC.nd;rw [aw] at this;simp [eL] at this;exact this.symm
    subst z_;exact ⟨32,1,aw,by rw [aw];exact y2 aj.2 j1 (by omega) (by omega) (by omega) (by omega) (.inl (by omega)),.inr rfl,by omega⟩
  obtain ⟨a,k,aw,a',aql,hlen⟩:=J;have m8:=ref a';rw [aw] at fP m8;have hw:=qx e j l x aC.lane aC.node _ _ _ fP;rw [j_] at hw;obtain ⟨s1,s2⟩:=an3 (a:=a) (k:=k) aC.du fP m8 aql hw hlen;have O':FK cm v=(x.words.drop a).take k:=by unfold FK;rw [aC.nd,aC.node,aw];rfl
  rcases s2 with ⟨t1,t2⟩ | ⟨t1,t2⟩
  ·refine ⟨A,gr c,rfl,by rw [s1,tS aC.node];exact cC,bE,by rw [s1,tS aC.node];exact b3.stay (h' _ _ _) (MB λh=>h),kW,aA,?_,λ_=>?_,Hx,λ_ _ _=>⟨rfl,by rw [s1,tS aC.node]⟩,u6 pW rfl λh=>h,λh=>h⟩
   ·rw [t1,t2];exact fb.more aC.lane rfl
   ·rw [s1,tS aC.node,t1,t2];refine (qx e).step aC.lane aC.node λcB n' w6 d_=>?_
    have d_:l.pair.bN=eL j cB n'::w6:=d_;rw [fP] at d_;injection d_ with oj _;have:(a:Int)=cB:=congrArg bn.at_ oj;rw [<-this];rfl
  ·refine ⟨A,(gr c).add q ⟨0,(x.words.drop a).take k⟩,rfl,by rw [s1,tS aC.node];exact cC,bE,?_,we _,aA.add ez rfl ?_,fin t1 t2,λ_=>?_,Hx,λ_ _ _=>⟨rfl,by rw [s1,tS aC.node]⟩,u6 pW rfl λh=>.inr (.inl ⟨by show 3<=(gr c).aQ;omega,by show (gr c).aQ<=8;omega⟩),λh=>.inr ⟨by show 3<=(gr c).aQ;omega,by show (gr c).aQ<=10;omega⟩⟩
   ·rw [s1,tS aC.node];unfold ef;rw [h'];simp only [fa.add,e];refine ⟨dr,λdZ bX d af al=>?_⟩;rcases sx al with ⟨bs,bI⟩ | ⟨_,bs⟩
    ·subst bs bI;rw [fG] at af;cases af;exact O'.symm
    ·exact c2 dZ bX d af bs
   ·rw [aw];show (((x.words.drop a).take k).length:Int)=k;rw [o2,vq];omega
   ·rw [s1,tS aC.node,t1];exact (qx e).step aC.lane aC.node λcB n' w6 _=>by show []=List.take (8 * 0) _;simp
 ·
  unfold ef at aN;rw [e] at aN;obtain ⟨dr,c2,eA,hE,jU,rT,vz,x4,Bp⟩:=aN;have fG:=ez
  unfold eH at fG;rw [e] at fG;have fG:(lg E (gr c).sp)[q]?=some v:=fG;have da:n3 E≠0:=Re aI.seq;obtain ⟨k,m,hm,JS⟩:=aar fG;have z_:m=j:=by have:=aC.nd;rcases JS with ⟨_,aw⟩ | ⟨_,aw⟩ | ⟨_,aw,_⟩<;>(rw [aw] at this;simp [dV] at this;exact this)
  subst z_;have u7:∀ {A':cd} {tJ:List bt} {d:a_},fN E A A'->(∀ p,A'.cO 0 p=A.cO 0 p)->A'.gU=A.gU->(∀ hU cW,(gr c).sp[hU]?=some cW->jh (gr c).cf q d (hU * 3)=none->A'.eo cW=false)->(v=dV m 48 [n3 E]->A'.eo m=true)->ef E rs A' tJ (nt gr c ((gr c).add q d)) c:=λ{A' tJ d} iD dH atv hj h4=>by
   unfold ef;rw [h'];simp only [fa.add,e];refine ⟨⟨iD.cf dr.1,atv.trans dr.2⟩,iD.lb c2,?_,λp ar=>by rw [dH];exact hE p ar,λcW af al=>iD.eo cW (jU cW af al),rT,vz,hj,λdZ cW gA af al=>?_⟩
   ·obtain ⟨cW,b1,aP⟩:=eA;exact ⟨cW,b1,iD.eo cW aP⟩
   ·rcases sx al with ⟨bs,_⟩ | ⟨_,bs⟩
    ·subst bs;rw [fG] at af;have af:=zf af;have pT:cW=m:=by rcases JS with ⟨_,aw⟩ | ⟨_,aw⟩ | ⟨_,aw,_⟩<;>(rw [aw] at af;have:=congrArg bn.node af;simp [dV] at this;omega)
     rw [pT] at af ⊢;exact h4 af
    ·exact iD.eo cW (Bp dZ cW gA af bs)
  have Lj:∀ {A':cd} (d:a_),(∀ cW,A'.eo cW=A.eo cW)->∀ hU cW,(gr c).sp[hU]?=some cW->jh (gr c).cf q d (hU * 3)=none->A'.eo cW=false:=λd Aa hU cW af al=>by rw [Aa];exact x4 hU cW af (QY al).2
  have BQ:∀ d,nW ((gr c).add q d):=λd=>.inr (.inl ⟨by show 3<=(gr c).aQ;omega,by show (gr c).aQ<=8;omega⟩)
  have wo:∀ d,lo ((gr c).add q d):=λd=>.inr ⟨by show 3<=(gr c).aQ;omega,by show (gr c).aQ<=10;omega⟩
  rcases JS with ⟨KL,aw⟩ | ⟨KL,aw⟩ | ⟨KL,aw,asS⟩
  ·have cq:=one (a:=48) aw (by rw [aw];exact zd aj.2 j1 (by omega) (by omega) (by simp) (by simp) (by simp;omega)) (by omega) (by simp) (by simp;omega);have bg:(l.pair.step x).2.1=x.write 48 [0]:=by rw [cq]
   have lx:=x4 k m hm (by rw [<-KL];exact aC.cf);refine ⟨A,(gr c).add q ⟨0,[]⟩,rfl,by rw [bg];exact cC.jh aC.node (gj.azB aI lx) (λ_ _ _ h=>h),bE,u7 (fN.refl E A) (λ_=>rfl) rfl (Lj _ λ_=>rfl) (λh=>?_),we _,aA.add ez rfl (by rw [aw];rfl),fin (by rw [cq]) (by rw [cq]),wQ (by omega),Hx,v8 dr,u6 pW rfl λ_=>BQ _,λ_=>wo _⟩;rw [aw] at h;have:=congrArg bn.words h;simp [dV] at this;exact absurd this.symm da
  ·have ak:=aI.ux;have a':n7 E.n E.L v:=by rw [aw];exact zd aj.2 j1 (by omega) (by omega) (by omega) (by omega) (by rw [ak.1];omega)
   have m8:=ref a';have ac':=fP;rw [aw] at ac' m8;obtain ⟨s1,s2,dm,dS,eV⟩:=Se (a:=56) aC.du ac' m8 (by omega) (aC.x_ _ _ fP (by rw [aw];rfl)) (by omega);have BH:=gj.hF (c2 m j1);have z9:Mem E A m (l.pair.step x).2.1:=gj.low aI dm (by omega) (by omega) (λ_ _=>rfl) rfl (.inl (by omega)) (by rw [dm.get _ (by omega)];exact gj.gq) (by rw [dm.get _ (by omega)];exact gj.eo) (λiN=>by rw [dm.get _ (by omega)];exact gj.gU iN) λ_ k J=>dS k J (.inr (BH k J))
   have adh:qi E A (cm.set m (l.pair.step x).2.1):=cC.jh aC.node z9 (λ_ _ _ h=>h);rcases eV with ⟨t1,t2,t3⟩ | ⟨t1,t2,t3⟩
   ·refine ⟨A,gr c,rfl,adh,bE,?_,kW,aA,?_,wQ (by omega),Hx,v8 dr,u6 pW rfl λh=>h,λh=>h⟩
    ·unfold ef;rw [h',e];exact ⟨dr,c2,eA,hE,jU,rT,vz,x4,Bp⟩
    ·rw [t2,t3];exact fb.more aC.lane rfl
   ·refine ⟨A,(gr c).add q ⟨0,[]⟩,rfl,adh,bE,u7 (fN.refl E A) (λ_=>rfl) rfl (Lj _ λ_=>rfl) (λh=>?_),we _,aA.add ez rfl (by rw [aw];rfl),fin t2 t3,wQ (by omega),Hx,v8 dr,u6 pW rfl λ_=>BQ _,λ_=>wo _⟩;rw [aw] at h;have:=congrArg bn.at_ h;simp [dV] at this
  ·have cq:=one (a:=48) aw (by rw [aw];exact zd aj.2 j1 (by omega) (by omega) (by simp) (by simp) (by simp;omega)) (by omega) (by simp) (by simp;omega);have bg:(l.pair.step x).2.1=x.write 48 [n3 E]:=by rw [cq]
   have iD:fN E A (A.p_ m):=Za;refine ⟨A.p_ m,(gr c).add q ⟨0,[]⟩,rfl,by rw [bg];exact cC.jh aC.node (gj.Lh aI) (λcW g4 y az=>az.same (λ_ _=>rfl) (by simp [cd.p_,g4]) rfl rfl rfl (λ_=>rfl)),bE.Lh c2 hE m,u7 iD (λ_=>rfl) rfl (λhU cW af al=>?_) (λ_=>by simp [cd.p_]),we _,aA.add ez rfl (by rw [aw];rfl),fin (by rw [cq]) (by rw [cq]),wQ (by omega),RK aj.1 eA iD,v8 dr,u6 pW rfl λ_=>BQ _,λ_=>wo _⟩;obtain ⟨bs,bI⟩:=QY al;have cj:cW≠m:=λdF=>by subst dF;have dQ:hU=k:=(Q9 (dy af) vz).1 (af.trans hm.symm);subst dQ;obtain ⟨d,b1,_⟩:=uv (hU * 3) _ (by omega) (by unfold eH;rw [e];exact asS) (by simp [dV]);rw [bI] at b1;cases b1
   simp only [cd.p_];rw [if_neg cj];exact x4 hU cW af bI
 ·
  unfold ef at aN;rw [e] at aN;obtain ⟨dr,c2,eA⟩:=aN;have fG:=ez
  unfold eH at fG;rw [e] at fG;simp only [lD,gV] at fG;obtain ⟨p,ar,rfl⟩:=sY.1 fG;have tm:j=0:=by have:=aC.nd;simp [eL] at this;exact this.symm
  subst tm;have kV:=dn ar;have hl:=aI.pl kV;have cq:=afr (a:=b9 p * 8) (by rw [show p.b5 * 8=((b9 p * 8:Nat):Int) by omega]) (y2 aj.2 j1 (by omega) (by omega) (by omega) (by omega) (.inl (by omega))) (by omega);refine same cq rfl rfl ?_ (λ_=>.inr (.inl ⟨by show 3<=(gr c).aQ;omega,by show (gr c).aQ<=8;omega⟩)) (λ_=>.inr ⟨by show 3<=(gr c).aQ;omega,by show (gr c).aQ<=10;omega⟩) (by omega);unfold ef;rw [h'];simp only [fa.add,e];refine ⟨dr,c2,λdZ p' d af al=>?_⟩;rcases sx al with ⟨bs,bI⟩ | ⟨_,bs⟩
  ·subst bs bI;rw [ar] at af;cases af;exact (gj.aC aI kV (bE.eU 0 j1 p kV).1).2
  ·exact eA dZ p' d af bs
 ·
  unfold ef at aN;rw [e] at aN;obtain ⟨dr,c2,eA,hE⟩:=aN;have fG:=ez
  unfold eH at fG uv;rw [e] at fG uv;have vS:∀ p ∈ cA E,p ∈ (gr c).l\/A.cO j (b9 p)=2:=λp ar=>by
   rcases eA.2.2 p ar with g | g
   ·exact .inl g
   ·by_cases tm:j=0
    ·subst tm;exact .inr g
    ·exact .inr (bE.tG j (by omega) j1 (bE.sy (bE.u2 p ar g) j (by omega) j1) p ar)
  obtain ⟨a,ws,A',r1,ko,nZ,sJ,Ax,Ay,EX,mT,Az,VO,axJ⟩:=Z0 aI cC bE c2 eA.1 fG aC.nd aC.node (λdZ bX af al aL=>by obtain ⟨d,bs,bI⟩:=uv dZ bX af al aL;exact hE dZ bX d al bs bI) vS;have a':n7 E.n E.L v:=by
   obtain ⟨m,hm,_,⟨p,ar,rfl⟩ | ⟨rfl,_⟩⟩:=Ni fG
   ·exact FL aI hm (eA.1 p ar)
   ·exact FM aI hm
  have cq:=one r1 a' ko nZ sJ;have bg:(l.pair.step x).2.1=x.write a ws:=by rw [cq]
  refine ⟨A',(gr c).add q ⟨0,[]⟩,rfl,by rw [bg];exact Ax,Ay,?_,we _,aA.add ez rfl (by rw [r1];rfl),fin (by rw [cq]) (by rw [cq]),wQ (by omega),RK aj.1 ⟨0,by omega,c2 0 (by omega)⟩ mT,v8 dr,u6 pW (congrArg Prod.fst Az) λ_=>.inr (.inl ⟨by show 3<=(gr c).aQ;omega,by show (gr c).aQ<=8;omega⟩),λ_=>.inr ⟨by show 3<=(gr c).aQ;omega,by show (gr c).aQ<=10;omega⟩⟩;unfold ef;rw [h'];simp only [fa.add,e];refine ⟨⟨mT.cf dr.1,(congrArg Prod.fst Az:A'.gU=A.gU).trans dr.2⟩,mT.am c2,⟨eA.1,eA.2.1,λp ar=>(eA.2.2 p ar).imp id λg=>mT.cO 0 _ g⟩,(hE.mono mT).add fG EX⟩
 ·
  unfold ef at aN;rw [e] at aN;obtain ⟨dr,c2,Sv,eA,hE⟩:=aN;have fG:=ez
  unfold eH at fG uv;rw [e] at fG uv;obtain ⟨a,ws,A',axI,r1,ko,nZ,sJ,Ax,Ay,EX,mT,Az,VO⟩:=Z1 aI cC bE c2 Sv eA.1 fG aC.nd aC.node (λdZ bX af al aL=>by obtain ⟨d,bs,bI⟩:=uv dZ bX af al aL;exact hE dZ bX d al bs bI);have a':n7 E.n E.L v:=by
   obtain ⟨_,⟨_,rfl⟩ | ⟨_,p,ar,rfl⟩⟩:=Nj fG
   ·exact FM aI (by omega)
   ·exact FL aI (by omega) (eA.1 p ar)
  have cq:=one r1 a' ko nZ sJ;have bg:(l.pair.step x).2.1=x.write a ws:=by rw [cq]
  refine ⟨A',(gr c).add q ⟨0,[]⟩,rfl,by rw [bg];exact Ax,Ay,?_,we _,aA.add ez rfl (by rw [r1];rfl),fin (by rw [cq]) (by rw [cq]),wQ (by omega),RK aj.1 ⟨0,by omega,c2 0 (by omega)⟩ mT,v8 dr,u6 pW (congrArg Prod.fst Az) λ_=>.inr (.inl ⟨by show 3<=(gr c).aQ;omega,by show (gr c).aQ<=8;omega⟩),λ_=>.inr ⟨by show 3<=(gr c).aQ;omega,by show (gr c).aQ<=10;omega⟩⟩;unfold ef;rw [h'];simp only [fa.add,e];refine ⟨⟨mT.cf dr.1,(congrArg Prod.fst Az:A'.gU=A.gU).trans dr.2⟩,mT.am c2,mT.Dy Sv,⟨eA.1,eA.2.1,λp ar=>(eA.2.2 p ar).imp id λg=>mT.cO 0 _ g⟩,(hE.mono mT).add fG EX⟩
 ·
  unfold ef at aN;rw [e] at aN;obtain ⟨dr,c2,eA,hE,jU,rT⟩:=aN;have fG:=ez
  unfold eH at fG;rw [e] at fG;simp only [ox,gV] at fG;obtain ⟨p,ar,rfl⟩:=sY.1 fG;have tm:j=0:=by have:=aC.nd;simp [kc] at this;exact this.symm
  subst tm;have hl:=jU p (dn ar);have a':n7 E.n E.L (kc 0 (p.b5 * 8) (ii p.Head 0) p.Head):=AJ aj.2 j1 (by omega) (by omega) (by omega);have aa8:p.b5 * 8=((b9 p * 8:Nat):Int):=by show p.b5 * 8=((p.b5.toNat * 8:Nat):Int);omega
  rw [aa8] at fP;have cq:=IN (x:=x) aC.du fP (by rw [<-aa8];exact ref a');have BQ:∀ d,nW ((gr c).add q d):=λd=>.inr (.inl ⟨by show 3<=(gr c).aQ;omega,by show (gr c).aQ<=8;omega⟩)
  have wo:∀ d,lo ((gr c).add q d):=λd=>.inr ⟨by show 3<=(gr c).aQ;omega,by show (gr c).aQ<=10;omega⟩
  have u7:∀ {A':cd} {tJ:List bt} {d:a_},fN E A A'->A'.gU=A.gU->ku E A'->(∀ p' ∈ cA E,A.cO 0 (b9 p')=0->A'.cO 0 (b9 p')=0)->(p ∈ cA E->A'.cO 0 (b9 p)=0)->ef E rs A' tJ (nt gr c ((gr c).add q d)) c:=λ{A' tJ d} iD aZ sk J KI=>by
   unfold ef;rw [h'];simp only [fa.add,e];refine ⟨⟨iD.cf dr.1,aZ.trans dr.2⟩,sk,eA.imp id (λg p' hA=>J p' hA (g p' hA)),hE,jU,λdZ p' gA af al aL=>?_⟩;rcases sx al with ⟨bs,_⟩ | ⟨_,bs⟩
   ·subst bs;rw [ar] at af;cases af;exact KI aL
   ·exact J p' aL (rT dZ p' gA af bs aL)
  by_cases hw:p ∈ cA E/\A.cO 0 (b9 p)=1
  ·obtain ⟨kV,kh⟩:=hw;have ed:=(gj.aC aI kV (by omega)).2.2 kh;have q8:x.kS ((b9 p * 8:Nat):Int) (ii p.Head 0) p.Head={ x with words:=x.words.set (b9 p * 8) p.Head }:=by unfold bt.kS;rw [j_,if_pos ed]
   rw [q8] at cq;have bg:(l.pair.step x).2.1={ x with words:=x.words.set (b9 p * 8) p.Head }:=by rw [cq]
   have iD:fN E A (A.lJ 0 (b9 p) 0):=MI λdF=>by omega
   have J:∀ cW,∀ p' ∈ cA E,A.cO cW (b9 p')=0->(A.lJ 0 (b9 p) 0).cO cW (b9 p')=0:=λcW p' _ h=>by
    simp only [cd.lJ];split
    ·rfl
    ·exact h
   refine ⟨A.lJ 0 (b9 p) 0,(gr c).add q ⟨0,[x.get (b9 p * 8)]⟩,rfl,by rw [bg];exact cC.jh aC.node (gj.vf aI kV kh) (λcW g4 y az=>az.same (λp' _=>by simp [cd.lJ,g4]) rfl rfl rfl rfl (λ_=>rfl)),bE.p2 (by omega) (λdF=>by omega) (λ_ _=>c2) (λdF=>by omega) (λdF=>by omega) (λdF=>by omega),u7 iD rfl c2 (J 0) (λ_=>by simp [cd.lJ]),we _,aA.add ez rfl rfl,fin (by rw [cq]) (by rw [cq]),wQ (by omega),⟨iD,λh=>h,λh=>h,λ_ _ _ h=>h,λ_ cW _ p' hA h=>J cW p' hA h,λ_ p' hA h=>.inr dr.1⟩,v8 dr,u6 pW rfl λ_=>BQ _,λ_=>wo _⟩
  ·have cj:x.get (b9 p * 8)≠ii p.Head 0:=by
    by_cases kV:p ∈ cA E
    ·exact λh=>hw ⟨kV,(gj.aC aI kV (bE.eU 0 j1 p kV).1).2.1 h⟩
    ·intro h;have k_:∀ p' ∈ cA E,A.cO 0 (b9 p')=0:=by
      rcases eA with g | g
      ·rw [g] at ar;exact absurd (dn ar) kV
      ·exact g
     have aq':x.get (b9 p * 8)=E.base (b9 p) 0:=by
      by_cases gE:∃ p' ∈ cA E,b9 p'=b9 p
      ·obtain ⟨p',af,al⟩:=gE;have:=gj.cO p' af;rw [k_ p' af] at this;have:=this 0 (by omega);rw [al,vp] at this;exact this
      ·have:=gj.ld (b9 p) (by omega) (by omega) (λp' af al=>gE ⟨p',af,al⟩) 0 (by omega);rw [vp] at this;exact this
     have af:=aI.dj (b9 p) (by omega) (by omega);have al:=ak_ p.Head;rw [<-h,aq'] at al;omega
   have q8:x.kS ((b9 p * 8:Nat):Int) (ii p.Head 0) p.Head=x:=by unfold bt.kS;rw [j_,if_neg cj]
   rw [q8] at cq;refine same cq rfl rfl (u7 (fN.refl E A) rfl c2 (λ_ _ h=>h) λkV=>?_) (λ_=>BQ _) (λ_=>wo _) (by omega);have al:=(bE.eU 0 j1 p kV).1;have aL:A.cO 0 (b9 p)≠1:=λh=>hw ⟨kV,h⟩
   have ca:A.cO 0 (b9 p)≠2:=λh=>by have:=bE.oS 0 j1 p kV h 0 j1;rw [c2 0 j1] at this;cases this
   omega
 ·
  unfold ef at aN;rw [e] at aN;obtain ⟨dr,c2,eA⟩:=aN;have fG:=ez
  unfold eH at fG;rw [e] at fG;have aM:=dy fG;simp [lq] at aM;subst aM;simp [lq] at fG;subst fG;have tm:j=0:=by have:=aC.nd;simp [kc] at this;exact this.symm
  subst tm;have cq:=IN (a:=49) (x:=x) aC.du fP (ref (AJ aj.2 j1 (by omega) (by omega) (by omega)));have adu:=c2 aC.cf;have ao:x.get 49=lf c:=(gj.gU rfl).trans adu;have q8:x.kS ((49:Nat):Int) (lf c) 0={ x with words:=x.words.set 49 0 }:=by unfold bt.kS;rw [j_,if_pos ao]
  rw [q8] at cq;have bg:(l.pair.step x).2.1={ x with words:=x.words.set 49 0 }:=by rw [cq]
  have iD:fN E A (A.E3 0):=Zc;refine ⟨A.E3 0,(gr c).add 0 ⟨0,[x.get 49]⟩,rfl,by rw [bg];exact cC.jh aC.node (gj.tag aI _) (λcW g4 y az=>az.same (λ_ _=>rfl) rfl rfl rfl rfl (λdF=>absurd dF g4)),bE.tag _,?_,we _,aA.add ez rfl rfl,fin (by rw [cq]) (by rw [cq]),wQ (by omega),⟨iD,λh=>h,λh=>h,λ_ _ _ h=>h,λ_ _ _ _ _ h=>h,λ_ _ _ h=>.inl h⟩,v8 ⟨dr,adu⟩,.inl rfl,λ_=>.inr ⟨by show 3<=(gr c).aQ;omega,by show (gr c).aQ<=10;omega⟩⟩;unfold ef;rw [h'];simp only [fa.add,e];refine ⟨dr,λh=>(by rw [HQ] at h;cases h),?_⟩;rcases eA with g | ⟨bs,bI⟩
  ·exact .inl g
  ·exact .inr ⟨⟨bs.1,bs.2.1,bs.2.2⟩,bI⟩
end
end
end Go.Proofs.YtmkljjbioomepaaGreat
