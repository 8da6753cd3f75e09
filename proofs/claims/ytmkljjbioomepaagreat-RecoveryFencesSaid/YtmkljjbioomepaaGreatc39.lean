import Derived.Test.YtmkljjbioomepaaGreatc38
set_option linter.all false
set_option maxHeartbeats 4000000
set_option maxRecDepth 100000
namespace Go.Proofs.YtmkljjbioomepaaGreat
open Go.Proofs.Tryz Go.br
variable {A':bA} {C:bP} {bU:c8} {j q:Nat} {l:cP} {v:aP} {x:a0}
section
open e1
theorem KH (h:Int):eJ h 0 % 2=1:=by
 unfold eJ je;have a:(BitVec.ofInt IntKind.u64.bits h ||| BitVec.ofInt IntKind.u64.bits (0+1)).toNat % 2=1:=by rw [BitVec.toNat_or,Nat.or_mod_two_eq_one];right;rfl
 have b:=(BitVec.ofInt IntKind.u64.bits h ||| BitVec.ofInt IntKind.u64.bits (0+1)).isLt;rw [jH (by omega) (by have:2 ^ IntKind.u64.bits=18446744073709551616:=rfl;omega)];omega
theorem qQ {α:Type} {k:Nat}:∀ {hj:List (List α)},(∀ b ∈ hj,b.length=k)->hj.flatten.length=hj.length * k
 | [],_=>by simp
 |b::hj,h=>by rw [gR,dH,h b e_,qQ λc a=>h c (fD _ a),hh,h5,Nat.add_comm]
theorem Ez {E:Env} {sp:cQ} (h:(gz E sp)[q]?=some v):∃ k m,sp[k]?=some m/\((q=k * 3/\v=cw m 48 [0])\/(q=k * 3+1/\v=cw m 56 (gP E))\/(q=k * 3+2/\v=cw m 48 [h4 E]/\(gz E sp)[k * 3]?=some (cw m 48 [0]))):=by
 have c:∀ b ∈ sp.map (λm=>[cw m 48 [0],cw m 56 (gP E),cw m 48 [h4 E]]),b.length=3:=λb c=>by obtain ⟨m,_,rfl⟩:=cW.1 c;rfl
 obtain ⟨k,b,d,i,a⟩:=vk (by omega) c h;have f:=d;rw [d'] at d;obtain ⟨m,hm,rfl⟩:=kK.1 d;refine ⟨k,m,hm,?_⟩;have g:=ch a;simp at g;obtain e | e | e:q - k * 3=0\/q - k * 3=1\/q - k * 3=2:=by omega
 all_goals
  rw [e] at a;simp at a;subst a
 ·exact .inl ⟨by omega,rfl⟩
 ·exact .inr (.inl ⟨by omega,rfl⟩)
 ·exact .inr (.inr ⟨by omega,rfl,sL (r:=0) c f rfl⟩)
theorem ze {n:Nat} (h:(gJ n)[q]?=some v):(∃ m,m<n/\((q=2 * m/\v=cN m 24 1)\/(q=2 * m+1/\v=cN m 48 120)))\/(q=2 * n/\v=cN 0 32 1):=by
 have d:∀ b ∈ (List.range n).map (λm=>[cN m 24 1,cN m 48 120]),b.length=2:=λb d=>by obtain ⟨m,_,rfl⟩:=cW.1 d;rfl
 have g:((List.range n).map (λm=>[cN m 24 1,cN m 48 120])).flatten.length=2 * n:=by rw [qQ d];simp [uT]
 unfold gJ at h;by_cases l:q<2 * n
 ·rw [hP (by omega)] at h;obtain ⟨k,b,a,j,c⟩:=vk (by omega) d h;have f:=ch a;simp at f;rw [d',ka f] at a;simp only [mV,e8] at a;subst a;left;refine ⟨k,f,?_⟩;have i:=ch c;simp at i;obtain e | e:q - k * 2=0\/q - k * 2=1:=by omega
  all_goals
   rw [e] at c;simp at c;subst c
  ·exact .inl ⟨by omega,rfl⟩
  ·exact .inr ⟨by omega,rfl⟩
 ·rw [hQ (by omega),g] at h;have:=ch h;simp at this;rw [show q - 2 * n=0 by omega] at h;simp at h;exact .inr ⟨by omega,h.symm⟩
def hN (gr:Nat->c8) (c:Nat) (g:c8):Nat->c8:=λk=>if k=c then g else gr k
theorem eR (gr:Nat->c8) (c:Nat) (g:c8):hN gr c g c=g:=if_pos rfl
theorem jT {gr:Nat->c8} {c k:Nat} {g:c8} (h:k≠c):hN gr c g k=gr k:=if_neg h
def c8.add (g:c8) (q:Nat) (d:aL):c8:={ g with bs:=fh g.bs q d }
def ql (C:bP) (bz:List a0):Prop:=∀ (k:Nat) (l:cP) (y:a0),C.aD[k]?=some l->bz[k]?=some y->∀ (a n:Int) (b:List aP),l.pair.ba=cN k a n::b->l.pair.words=(y.words.drop a.toNat).take (8 * l.pair.bD)
theorem ql.step {bz:List a0} (h:ql C bz) (o:C.aD[j]?=some l) (r:bz[j]?=some x) {p:c4} {d:Option aL} (q:∀ (a n:Int) (b:List aP),p.ba=cN j a n::b->p.words=(x.words.drop a.toNat).take (8 * p.bD)):ql (C.comes j l p d) bz:=by
 intro k l' y c f a n b an;by_cases e:k=j
 ·subst e;obtain ⟨l2,g,i⟩:=xo o p d;rw [g] at c;cases c;rw [r] at f;cases f;rw [i] at an ⊢;exact q a n b an
 ·rw [kw e] at c;exact h k l' y c f a n b an
section
variable {E:Env} {A:bA} {rs:cQ} {gr:Nat->c8} {c:Nat}
theorem l4.add (h:l4 E c (gr c)) {q:Nat} {v:aP} (an:(cM E c (gr c))[q]?=some v) {d:aL} (g:d.code=0) (j:(d.words.length:Int)=v.v.iE):l4 E c ((gr c).add q d):=λcx a i=>by
 rcases kp i with ⟨b,f⟩ | ⟨_,e⟩
 ·subst b f;exact ⟨v,an,g,j⟩
 ·exact h cx a e
def c8.bare (g:c8):c8:={ g with bs:=λ_=>none }
structure EC (E:Env) (rs:cQ) (A:bA) (gr:Nat->c8) (c:Nat) (bz:List a0) (j:Nat) (C:bP) (l:cP) (x:a0) (A':bA) (bU:c8):Prop where
 bare:bU.bare=(gr c).bare
 rep:jv E A' (bz.set j (l.pair.step x).2.1)
 law:e2 E A'
 ok:cB E rs A' (bz.set j (l.pair.step x).2.1) (hN gr c bU) c
 xr:lx E bU
 res:l4 E c bU
 mb:gB (C.comes j l (l.pair.step x).1 (l.pair.step x).2.2) (cM E c bU) bU.bs
 Tb:bU.aB=3->ql (C.comes j l (l.pair.step x).1 (l.pair.step x).2.2) (bz.set j (l.pair.step x).2.1)
 oy:n6 E A A'
 other:∀ c',c'≠c->Own E A c'->A'=A/\bz.set j (l.pair.step x).2.1=bz
 dU:tH rs A' (hN gr c bU)
 uK:gE (gr c)->gE bU
theorem se:n6 E A A:=⟨dm.refl E A,λh=>h,λh=>h,λ_ _ _ h=>h,λ_ _ _ _ _ h=>h,λ_ _ _ h=>.inl h⟩
theorem yv (e:1<=E.n) (d:∃ m,m<E.n/\A.cF m=true) (hm:dm E A A'):n6 E A A':=by
 obtain ⟨m,c,a⟩:=d;have no:¬ fP E A:=λh=>by rw [h m c] at a;cases a
 have b:¬ fP E A':=λh=>by have:=hm.cF m a;rw [h m c] at this;cases this
 exact ⟨hm,λh=>absurd h no,λh=>absurd h b,λh=>absurd h no,λh=>absurd h no,λh=>absurd h no⟩
theorem lL (h:tH rs A gr) (b:A'.dU=A.dU) (g:hY (gr c)->hY bU):tH rs A' (hN gr c bU):=by
 rcases h with h | ⟨c',d,f,a⟩
 ·exact .inl (b.trans h)
 ·refine .inr ⟨c',d,b.trans f,?_⟩;by_cases e:c'=c
  ·subst e;rw [eR];exact g a
  ·rw [jT e];exact a
theorem vl (h:gE (gr c)->gE bU):∀ c',gE (gr c')->gE (hN gr c bU c'):=λc' hw=>by
 by_cases e:c'=c
 ·subst e;rw [eR];exact h hw
 ·rw [jT e];exact hw
theorem Pa (ay:b5 E) (WV:1<=c/\c<6) (Wn:c ∈ rs) (W1:∀ c ∈ rs,1<=c/\c<6) {bz:List a0} {eU:List aP} {b_:cQ} (Vx:jv E A bz) (W:e2 E A) (H:cB E rs A bz gr c) (VK:lx E (gr c)) (Vy:l4 E c (gr c)) (VO:gB C (cM E c (gr c)) (gr c).bs) (ar:y1 E bz c j C (cM E c (gr c)) (gr c).bs l x v eU q b_) (V0:(gr c).aB=3->ql C bz) (O:tH rs A gr) :
  ∃ A' bU,EC E rs A gr c bz j C l x A' bU:=by
 have Vs:=ay.e.n;have WT:=ay.e.L;have i:=Vx.mem j x ar.node;have z:j<E.n:=by have:=ch ar.node;rw [Vx.len] at this;exact this
 have W3:=i.aQ.len;have WY:=ay.mn;have s:=ar.at_;have G:=ar.hJ;have ref:h9 E.n E.L v->l.pair.refusal v x=0:=λVv=>by
  rw [DS i.aQ Vs.2 Vv ar.pc ar.pi WV.2];split
  ·rfl
  ·rw [if_neg (by omega)]
 have fin:∀ {d:aL},(l.pair.step x).1=l.pair.done->(l.pair.step x).2.2=some d->gB (C.comes j l (l.pair.step x).1 (l.pair.step x).2.2) (cM E c ((gr c).add q d)) ((gr c).add q d).bs:=λ{d} o D=>by rw [o,D];exact VO.done ar.lane ar.hJ (by show l.pair.ba.tail=eU;rw [ar.hJ];rfl) ar.pl d
 have Vt:∀ (cx:Nat) (bj:aP),cx<q->(cM E c (gr c))[cx]?=some bj->bj.node.toNat=j->∃ d,(gr c).bs cx=some d/\d.code=0:=λcx bj o D VD=>by obtain ⟨d,Vz⟩:=VO.before ar.lane ar.pl o D VD;obtain ⟨v2,_,U,_⟩:=Vy cx d Vz;exact ⟨d,Vz,U⟩
 have t:∀ d,lx E ((gr c).add q d):=λd=>VK
 have K:∀ {P:Prop},Own E A c->∀ c',c'≠c->Own E A c'->P:=λh c' Vw VV=>absurd (h.one VV).symm Vw
 have T:(gr c).aB≠3->∀ {P:Prop},(gr c).aB=3->P:=λh {P} VV=>absurd VV h
 have one:∀ {a:Nat} {ws:bb},v=cw j (a:Int) ws->h9 E.n E.L v->a % 8=0->ws.length<=8->a+ws.length<=x.words.length->l.pair.step x=(l.pair.done,x.write a ws,some ⟨0,[]⟩):=λ{a ws} e Vv WN Wj WX=>by have F:=ref Vv;rw [e] at G F;exact Ey ar.cj G F WN (ar.m7 _ _ G rfl) WX Wj
 have VM:∀ {a:Nat},v=cN j (a:Int) 1->h9 E.n E.L v->a<x.words.length->l.pair.step x=(l.pair.done,x,some ⟨0,[x.get a]⟩):=λ{a} e Vv WN=>by have F:=ref Vv;rw [e] at G F;have Wz:(cN j (a:Int) 1).v.pieces=[((a:Int),1)]:=qJ (v:=(cN j (a:Int) 1).v) (by show (1:Int)<=1;omega) (by show (a:Int) % 8+1<=8;omega) (by show (0:Int)<=a;omega);rw [Co ar.cj G F Wz];have he:=IE (x:=cN j (a:Int) 1) rfl (by show (0:Int)<=a;omega) (n:=x) (by show ((a:Int)).toNat<_;omega);have he:exec (cN j (a:Int) 1) ((a:Int),1) x=(x,[x.get a]):=he;rw [he]
 have same:∀ {d:aL},l.pair.step x=(l.pair.done,x,some d)->d.code=0->(d.words.length:Int)=v.v.iE->cB E rs A bz (hN gr c ((gr c).add q d)) c->(hY (gr c)->hY ((gr c).add q d))->(gE (gr c)->gE ((gr c).add q d))->(gr c).aB≠3->∃ A' bU,EC E rs A gr c bz j C l x A' bU:=λ{d} f o D VD WM WQ WR=>by
  have X:(l.pair.step x).2.1=x:=by rw [f]
  exact ⟨A,(gr c).add q d,rfl,by rw [X,k6 ar.node];exact Vx,W,by rw [X,k6 ar.node];exact VD,t d,Vy.add s o D,fin (by rw [f]) (by rw [f]),T WR,se,λ_ _ _=>⟨rfl,by rw [X,k6 ar.node]⟩,lL O rfl WM,WQ⟩
 have W0:(gr c).aB<=9:=by
  refine x5 λWZ=>?_
  have:cM E c (gr c)=[]:=by unfold cM;split<;>first | rfl | omega
  rw [this] at s
  simp at s
 obtain e | e | e | e | e | e | e | e | e | e:(gr c).aB=0\/(gr c).aB=1\/(gr c).aB=2\/(gr c).aB=3\/(gr c).aB=4\/(gr c).aB=5\/(gr c).aB=6\/(gr c).aB=7\/(gr c).aB=8\/(gr c).aB=9:=by omega
 ·
  unfold cB at H;rw [e] at H;have b:=s
  unfold cM at b;rw [e] at b;simp only [iv,d'] at b;obtain ⟨m,hm,rfl⟩:=kK.1 b;have VE:=ch hm;rw [lr] at VE;rw [ka VE] at hm;cases hm;have WC:q=j:=by have:=ar.nd;simp [cN] at this;exact this
  subst WC;have f:=VM (a:=24) rfl (nC Vs.2 VE (by omega) (by omega) (by omega) (by omega) (.inr (by omega))) (by omega);refine same f rfl rfl ?_ (λh=>by rcases h with ⟨g,_⟩ | ⟨g,_⟩ | ⟨g,_⟩<;>omega) (λh=>by rcases h with ⟨g,_⟩ | ⟨g,_⟩<;>omega) (by omega);unfold cB;rw [eR];simp only [c8.add,e];intro bY R d Vz;rcases kp Vz with ⟨B,U⟩ | ⟨_,B⟩
  ·subst B U;show x.get 24=1\/(x.get 24=2/\_);rw [i.aQ.d0];cases VH:A.dh bY
   ·exact .inl rfl
   ·exact .inr ⟨rfl,rfl⟩
  ·exact H bY R d B
 ·
  unfold cB at H;rw [e] at H;obtain ⟨J,M,N⟩:=H;have b:=s
  unfold cM at b;rw [e] at b;simp only [hg,d'] at b;obtain ⟨m,hm,rfl⟩:=kK.1 b;have Z:m=j:=by have:=ar.nd;simp [fR] at this;exact this
  subst Z;have f:=tu (a:=24) (x:=x) ar.cj G (ref (oF Vs.2 z (by omega) (by omega) (by omega)));have V9:hY (gr c)->hY ((gr c).add q ⟨0,[x.get 24]⟩):=λh=>by rcases h with ⟨g,_⟩ | ⟨g,_⟩ | ⟨g,_⟩<;>omega
  have VI:gE (gr c)->gE ((gr c).add q ⟨0,[x.get 24]⟩):=λh=>by rcases h with ⟨g,_⟩ | ⟨g,_⟩<;>omega
  have V1:dZ ⟨0,[x.get 24]⟩=1\/dZ ⟨0,[x.get 24]⟩=2:=by
   show x.get 24=1\/x.get 24=2;rw [i.aQ.d0];cases A.dh m
   ·exact .inl rfl
   ·exact .inr rfl
  have Q:∀ {A':bA} {S:List a0},dm E A A'->A'.dh m=true->cB E rs A' S (hN gr c ((gr c).add q ⟨0,[x.get 24]⟩)) c:=λ{A' S} r Wo=>by
   unfold cB;rw [eR];simp only [c8.add,e];refine ⟨λbY o D=>r.dh bY (J bY o D),M,λcx bY d o D=>?_⟩;rcases kp D with ⟨B,U⟩ | ⟨_,B⟩
   ·subst B U;rw [hm] at o;cases o;exact ⟨Wo,V1⟩
   ·obtain ⟨b1,aA⟩:=N cx bY d o B;exact ⟨r.dh bY b1,aA⟩
  cases VH:A.dh m with
  |true=>
   have u:x.gh ((24:Nat):Int) 1 2=x:=by unfold a0.gh;rw [fY,i.aQ.d0,VH,if_neg (by simp)]
   rw [u] at f;exact same f rfl rfl (Q (dm.refl E A) VH) V9 VI (by omega)
  |false=>
   have Wi:x.get 24=1:=by rw [i.aQ.d0,VH];rfl
   have u:x.gh ((24:Nat):Int) 1 2={ x with words:=x.words.set 24 2 }:=by unfold a0.gh;rw [fY,if_pos Wi]
   rw [u] at f;have r:dm E A (A.oD m):=Md;have X:(l.pair.step x).2.1={ x with words:=x.words.set 24 2 }:=by rw [f]
   refine ⟨A.oD m,(gr c).add q ⟨0,[x.get 24]⟩,rfl,by rw [X];exact Vx.fh ar.node (i.zA ay) (λbY R y VQ=>VQ.same (λ_ _=>rfl) rfl rfl rfl (by simp [bA.oD,R]) (λ_=>rfl)),W.zA m,Q r (by simp [bA.oD]),t _,Vy.add s rfl rfl,fin (by rw [f]) (by rw [f]),T (by omega),⟨r,λh=>h,λh=>h,λ_ _ _ h=>h,λ_ _ _ _ _ h=>h,λ_ _ _ h=>.inl h⟩,λc' _ VV=>?_,lL O rfl V9,VI⟩;have:=VV.1 m z;rw [VH] at this;cases this
 ·
  have VW:¬ hY (gr c):=λh=>by
   rcases h with ⟨_,d,o,_⟩ | ⟨g,_⟩ | ⟨g,_⟩
   ·have b:=s
    unfold cM at b;rw [e] at b;have VE:=ch b;simp [gW] at VE;subst VE;rw [ar.bs] at o;cases o
   ·omega
   ·omega
  have VI:¬ gE (gr c):=λh=>by
   rcases h with h | ⟨g,_⟩
   ·exact VW (.inl h)
   ·omega
  unfold cB at H;rw [e] at H;have b:=s
  unfold cM at b;rw [e] at b;have VE:=ch b;simp [gW] at VE;subst VE;simp [gW] at b;subst b;have Y:j=0:=by have:=ar.nd;simp [fR] at this;exact this.symm
  subst Y;have f:=tu (a:=49) (x:=x) ar.cj G (ref (oF Vs.2 z (by omega) (by omega) (by omega)));have Vr:=i.dU rfl;have Q:∀ {A':bA} {S:List a0} {w:Int},dm E A A'->((w=0/\A'.dU=gy c)\/∃ c' ∈ rs,c'≠c/\w=gy c'/\gE (gr c'))->cB E rs A' S (hN gr c ((gr c).add 0 ⟨0,[w]⟩)) c:=λ{A' S w} r hw=>by
   unfold cB;rw [eR];simp only [c8.add,e];refine ⟨r.bs H.1,λd Vz=>?_⟩;rcases kp Vz with ⟨_,U⟩ | ⟨B,_⟩
   ·subst U;rcases hw with g | ⟨c',b1,aA,V5,WO⟩
    ·exact .inl g
    ·exact .inr ⟨c',b1,aA,V5,by rw [jT aA];exact WO⟩
   ·exact absurd rfl B
  by_cases V2:A.dU=0
  ·rw [V2] at Vr;have u:x.gh ((49:Nat):Int) 0 (gy c)={ x with words:=x.words.set 49 (gy c) }:=by unfold a0.gh;rw [fY,if_pos Vr]
   rw [u,Vr] at f;have r:dm E A (A.qZ (gy c)):=Dc;have X:(l.pair.step x).2.1={ x with words:=x.words.set 49 (gy c) }:=by rw [f]
   refine ⟨A.qZ (gy c),(gr c).add 0 ⟨0,[0]⟩,rfl,by rw [X];exact Vx.fh ar.node (i.tag ay _) (λbY R y VQ=>VQ.same (λ_ _=>rfl) rfl rfl rfl rfl (λVC=>absurd VC R)),W.tag _,Q r (.inl ⟨rfl,rfl⟩),t _,Vy.add s rfl rfl,fin (by rw [f]) (by rw [f]),T (by omega),⟨r,λh=>h,λh=>h,λ_ _ _ h=>h,λ_ _ _ _ _ h=>h,λ_ _ _ h=>.inl h⟩,λc' _ VV=>?_,.inr ⟨c,Wn,rfl,?_⟩,λh=>absurd h VI⟩
   ·exact absurd (VV.2.symm.trans V2) (yt c')
   ·rw [eR];exact .inl ⟨e,⟨0,[0]⟩,sF (gr c).bs 0 ⟨0,[0]⟩,rfl⟩
  ·obtain ⟨c',b1,aA,V5⟩:∃ c' ∈ rs,A.dU=gy c'/\hY (gr c'):=by
    rcases O with h | h
    ·exact absurd h V2
    ·exact h
   have Vw:c'≠c:=λVC=>by rw [VC] at V5;exact VW V5
   have u:x.gh ((49:Nat):Int) 0 (gy c)=x:=by unfold a0.gh;rw [fY,if_neg (by rw [Vr];exact V2)]
   rw [u,Vr] at f;refine same f rfl rfl (Q (dm.refl E A) (.inr ⟨c',b1,Vw,aA,?_⟩)) (λh=>absurd h VW) (λh=>absurd h VI) (by omega);rcases V5 with g | ⟨B,U⟩ | ⟨B,U⟩
   ·exact .inl g
   ·exact .inr ⟨B,by omega⟩
   ·exact .inr ⟨by omega,by omega⟩
 ·
  have Wy:=H;unfold cB at H;rw [e] at H;obtain ⟨J,M⟩:=H;have b:=s
  unfold cM at b;rw [e] at b;have b:(gJ E.n)[q]?=some v:=b;have VN:∃ a k:Nat,v=cN j (a:Int) (k:Int)/\h9 E.n E.L v/\(a % 8=0\/k=1)/\a+k<=x.words.length:=by
   rcases ze b with ⟨m,hm,⟨_,an⟩ | ⟨_,an⟩⟩ | ⟨_,an⟩
   ·have Z:m=j:=by have:=ar.nd;rw [an] at this;simp [cN] at this;exact this
    subst Z;exact ⟨24,1,an,by rw [an];exact nC Vs.2 hm (by omega) (by omega) (by omega) (by omega) (.inr (by omega)),.inr rfl,by omega⟩
   ·have Z:m=j:=by have:=ar.nd;rw [an] at this;simp [cN] at this;exact this
    subst Z;exact ⟨48,120,an,by rw [an];exact nC Vs.2 hm (by omega) (by omega) (by omega) (by omega) (.inl (by omega)),.inl (by omega),by omega⟩
   ·have Z:j=0:=by have:=ar.nd;rw [an] at this;simp [cN] at this;exact this.symm
    subst Z;exact ⟨32,1,an,by rw [an];exact nC Vs.2 z (by omega) (by omega) (by omega) (by omega) (.inl (by omega)),.inr rfl,by omega⟩
  obtain ⟨a,k,an,Vv,Wk,hlen⟩:=VN;have F:=ref Vv;rw [an] at G F;have hw:=V0 e j l x ar.lane ar.node _ _ _ G;rw [fY] at hw;obtain ⟨s1,s2⟩:=O1 (a:=a) (k:=k) ar.cj G F Wk hw hlen;have VZ:rz bz v=(x.words.drop a).take k:=by unfold rz;rw [ar.nd,ar.node,an];rfl
  rcases s2 with ⟨t1,t2⟩ | ⟨t1,t2⟩
  ·refine ⟨A,gr c,rfl,by rw [s1,k6 ar.node];exact Vx,W,by rw [s1,k6 ar.node];exact Wy.stay (eR _ _ _) (vl λh=>h),VK,Vy,?_,λ_=>?_,se,λ_ _ _=>⟨rfl,by rw [s1,k6 ar.node]⟩,lL O rfl λh=>h,λh=>h⟩
   ·rw [t1,t2];exact VO.more ar.lane rfl
   ·rw [s1,k6 ar.node,t1,t2];refine (V0 e).step ar.lane ar.node λWf n' VU VP=>?_
    have VP:l.pair.ba=cN j Wf n'::VU:=VP;rw [G] at VP;injection VP with WD _;have:(a:Int)=Wf:=congrArg aP.at_ WD;rw [<-this];rfl
  ·refine ⟨A,(gr c).add q ⟨0,(x.words.drop a).take k⟩,rfl,by rw [s1,k6 ar.node];exact Vx,W,?_,t _,Vy.add s rfl ?_,fin t1 t2,λ_=>?_,se,λ_ _ _=>⟨rfl,by rw [s1,k6 ar.node]⟩,lL O rfl λh=>.inr (.inl ⟨by show 3<=(gr c).aB;omega,by show (gr c).aB<=8;omega⟩),λh=>.inr ⟨by show 3<=(gr c).aB;omega,by show (gr c).aB<=10;omega⟩⟩
   ·rw [s1,k6 ar.node];unfold cB;rw [eR];simp only [c8.add,e];refine ⟨J,λcx bj d o D=>?_⟩;rcases kp D with ⟨B,U⟩ | ⟨_,B⟩
    ·subst B U;rw [b] at o;cases o;exact VZ.symm
    ·exact M cx bj d o B
   ·rw [an];show (((x.words.drop a).take k).length:Int)=k;rw [iG,lZ];omega
   ·rw [s1,k6 ar.node,t1];exact (V0 e).step ar.lane ar.node λWf n' VU _=>by show []=List.take (8 * 0) _;simp
 ·
  unfold cB at H;rw [e] at H;obtain ⟨J,M,N,VG,V4,Wc,Wg,Wd,WL⟩:=H;have b:=s
  unfold cM at b;rw [e] at b;have b:(gz E (gr c).sp)[q]?=some v:=b;have Wx:h4 E≠0:=ym ay.seq;obtain ⟨k,m,hm,Vu⟩:=Ez b;have Z:m=j:=by have:=ar.nd;rcases Vu with ⟨_,an⟩ | ⟨_,an⟩ | ⟨_,an,_⟩<;>(rw [an] at this;simp [cw] at this;exact this)
  subst Z;have Q:∀ {A':bA} {S:List a0} {d:aL},dm E A A'->(∀ p,A'.bS 0 p=A.bS 0 p)->A'.dU=A.dU->(∀ VL bY,(gr c).sp[VL]?=some bY->fh (gr c).bs q d (VL * 3)=none->A'.cF bY=false)->(v=cw m 48 [h4 E]->A'.cF m=true)->cB E rs A' S (hN gr c ((gr c).add q d)) c:=λ{A' S d} r WA V' Wj WS=>by
   unfold cB;rw [eR];simp only [c8.add,e];refine ⟨⟨r.bs J.1,V'.trans J.2⟩,r.lb M,?_,λp V=>by rw [WA];exact VG p V,λbY o D=>r.cF bY (V4 bY o D),Wc,Wg,Wj,λcx bY Wh o D=>?_⟩
   ·obtain ⟨bY,b1,aA⟩:=N;exact ⟨bY,b1,r.cF bY aA⟩
   ·rcases kp D with ⟨B,_⟩ | ⟨_,B⟩
    ·subst B;rw [b] at o;have o:=nN o;have Wu:bY=m:=by rcases Vu with ⟨_,an⟩ | ⟨_,an⟩ | ⟨_,an,_⟩<;>(rw [an] at o;have:=congrArg aP.node o;simp [cw] at this;omega)
     rw [Wu] at o ⊢;exact WS o
    ·exact r.cF bY (WL cx bY Wh o B)
  have Wa:∀ {A':bA} (d:aL),(∀ bY,A'.cF bY=A.cF bY)->∀ VL bY,(gr c).sp[VL]?=some bY->fh (gr c).bs q d (VL * 3)=none->A'.cF bY=false:=λd Wv VL bY o D=>by rw [Wv];exact Wd VL bY o (x0 D).2
  have VA:∀ d,hY ((gr c).add q d):=λd=>.inr (.inl ⟨by show 3<=(gr c).aB;omega,by show (gr c).aB<=8;omega⟩)
  have VB:∀ d,gE ((gr c).add q d):=λd=>.inr ⟨by show 3<=(gr c).aB;omega,by show (gr c).aB<=10;omega⟩
  rcases Vu with ⟨VY,an⟩ | ⟨VY,an⟩ | ⟨VY,an,VX⟩
  ·have f:=one (a:=48) an (by rw [an];exact nJ Vs.2 z (by omega) (by omega) (by simp) (by simp) (by simp;omega)) (by omega) (by simp) (by simp;omega);have X:(l.pair.step x).2.1=x.write 48 [0]:=by rw [f]
   have Ws:=Wd k m hm (by rw [<-VY];exact ar.bs);refine ⟨A,(gr c).add q ⟨0,[]⟩,rfl,by rw [X];exact Vx.fh ar.node (i.UA ay Ws) (λ_ _ _ h=>h),W,Q (dm.refl E A) (λ_=>rfl) rfl (Wa _ λ_=>rfl) (λh=>?_),t _,Vy.add s rfl (by rw [an];rfl),fin (by rw [f]) (by rw [f]),T (by omega),se,K J,lL O rfl λ_=>VA _,λ_=>VB _⟩;rw [an] at h;have:=congrArg aP.words h;simp [cw] at this;exact absurd this.symm Wx
  ·have WU:=ay.lC;have Vv:h9 E.n E.L v:=by rw [an];exact nJ Vs.2 z (by omega) (by omega) (by omega) (by omega) (by rw [WU.1];omega)
   have F:=ref Vv;have VR:=G;rw [an] at VR F;obtain ⟨s1,s2,We,W5,W6⟩:=y_ (a:=56) ar.cj VR F (by omega) (ar.m7 _ _ G (by rw [an];rfl)) (by omega);have Wl:=i.ey (M m z);have Wt:Mem E A m (l.pair.step x).2.1:=i.low ay We (by omega) (by omega) (λ_ _=>rfl) rfl (.inl (by omega)) (by rw [We.get _ (by omega)];exact i.dK) (by rw [We.get _ (by omega)];exact i.cF) (λWP=>by rw [We.get _ (by omega)];exact i.dU WP) λ_ k VN=>W5 k VN (.inr (Wl k VN))
   have VS:jv E A (bz.set m (l.pair.step x).2.1):=Vx.fh ar.node Wt (λ_ _ _ h=>h);rcases W6 with ⟨t1,t2,t3⟩ | ⟨t1,t2,t3⟩
   ·refine ⟨A,gr c,rfl,VS,W,?_,VK,Vy,?_,T (by omega),se,K J,lL O rfl λh=>h,λh=>h⟩
    ·unfold cB;rw [eR,e];exact ⟨J,M,N,VG,V4,Wc,Wg,Wd,WL⟩
    ·rw [t2,t3];exact VO.more ar.lane rfl
   ·refine ⟨A,(gr c).add q ⟨0,[]⟩,rfl,VS,W,Q (dm.refl E A) (λ_=>rfl) rfl (Wa _ λ_=>rfl) (λh=>?_),t _,Vy.add s rfl (by rw [an];rfl),fin t2 t3,T (by omega),se,K J,lL O rfl λ_=>VA _,λ_=>VB _⟩;rw [an] at h;have:=congrArg aP.at_ h;simp [cw] at this
  ·have f:=one (a:=48) an (by rw [an];exact nJ Vs.2 z (by omega) (by omega) (by simp) (by simp) (by simp;omega)) (by omega) (by simp) (by simp;omega);have X:(l.pair.step x).2.1=x.write 48 [h4 E]:=by rw [f]
   have r:dm E A (A.ju m):=Da;refine ⟨A.ju m,(gr c).add q ⟨0,[]⟩,rfl,by rw [X];exact Vx.fh ar.node (i.ug ay) (λbY R y VQ=>VQ.same (λ_ _=>rfl) (by simp [bA.ju,R]) rfl rfl rfl (λ_=>rfl)),W.ug M VG m,Q r (λ_=>rfl) rfl (λVL bY o D=>?_) (λ_=>by simp [bA.ju]),t _,Vy.add s rfl (by rw [an];rfl),fin (by rw [f]) (by rw [f]),T (by omega),yv Vs.1 N r,K J,lL O rfl λ_=>VA _,λ_=>VB _⟩;obtain ⟨B,U⟩:=x0 D;have Vw:bY≠m:=λVC=>by subst VC;have Wq:VL=k:=(ya (ch o) Wg).1 (o.trans hm.symm);subst Wq;obtain ⟨d,b1,_⟩:=Vt (VL * 3) _ (by omega) (by unfold cM;rw [e];exact VX) (by simp [cw]);rw [U] at b1;cases b1
   simp only [bA.ju];rw [if_neg Vw];exact Wd VL bY o U
 ·
  unfold cB at H;rw [e] at H;obtain ⟨J,M,N⟩:=H;have b:=s
  unfold cM at b;rw [e] at b;simp only [gL,d'] at b;obtain ⟨p,V,rfl⟩:=kK.1 b;have Y:j=0:=by have:=ar.nd;simp [cN] at this;exact this.symm
  subst Y;have I:=cg V;have Wr:=ay.pl I;have f:=VM (a:=bp p * 8) (by rw [show p.bn * 8=((bp p * 8:Nat):Int) by omega]) (nC Vs.2 z (by omega) (by omega) (by omega) (by omega) (.inl (by omega))) (by omega);refine same f rfl rfl ?_ (λ_=>.inr (.inl ⟨by show 3<=(gr c).aB;omega,by show (gr c).aB<=8;omega⟩)) (λ_=>.inr ⟨by show 3<=(gr c).aB;omega,by show (gr c).aB<=10;omega⟩) (by omega);unfold cB;rw [eR];simp only [c8.add,e];refine ⟨J,M,λcx p' d o D=>?_⟩;rcases kp D with ⟨B,U⟩ | ⟨_,B⟩
  ·subst B U;rw [V] at o;cases o;exact (i.ar ay I (W.cU 0 z p I).1).2
  ·exact N cx p' d o B
 ·
  unfold cB at H;rw [e] at H;obtain ⟨J,M,N,VG⟩:=H;have b:=s
  unfold cM at b Vt;rw [e] at b Vt;have Wm:∀ p ∈ bJ E,p ∈ (gr c).l\/A.bS j (bp p)=2:=λp V=>by
   rcases N.2.2 p V with g | g
   ·exact .inl g
   ·by_cases Y:j=0
    ·subst Y;exact .inr g
    ·exact .inr (W.kW j (by omega) z (W.kV (W.lH p V g) j (by omega) z) p V)
  obtain ⟨a,ws,A',r1,WF,WG,WH,WI,WJ,WK,VF,Wb,WE,W4⟩:=D6 ay Vx W M N.1 b ar.nd ar.node (λcx bj o D VD=>by obtain ⟨d,B,U⟩:=Vt cx bj o D VD;exact VG cx bj d D B U) Wm;have Vv:h9 E.n E.L v:=by
   obtain ⟨m,hm,_,⟨p,V,rfl⟩ | ⟨rfl,_⟩⟩:=vR b
   ·exact rA ay hm (N.1 p V)
   ·exact rm ay hm
  have f:=one r1 Vv WF WG WH;have X:(l.pair.step x).2.1=x.write a ws:=by rw [f]
  refine ⟨A',(gr c).add q ⟨0,[]⟩,rfl,by rw [X];exact WI,WJ,?_,t _,Vy.add s rfl (by rw [r1];rfl),fin (by rw [f]) (by rw [f]),T (by omega),yv Vs.1 ⟨0,by omega,M 0 (by omega)⟩ VF,K J,lL O (congrArg Prod.fst Wb) λ_=>.inr (.inl ⟨by show 3<=(gr c).aB;omega,by show (gr c).aB<=8;omega⟩),λ_=>.inr ⟨by show 3<=(gr c).aB;omega,by show (gr c).aB<=10;omega⟩⟩;unfold cB;rw [eR];simp only [c8.add,e];refine ⟨⟨VF.bs J.1,(congrArg Prod.fst Wb:A'.dU=A.dU).trans J.2⟩,VF.am M,⟨N.1,N.2.1,λp V=>(N.2.2 p V).imp id λg=>VF.bS 0 _ g⟩,(VG.mono VF).add b WK⟩
 ·
  unfold cB at H;rw [e] at H;obtain ⟨J,M,V3,N,VG⟩:=H;have b:=s
  unfold cM at b Vt;rw [e] at b Vt;obtain ⟨a,ws,A',W7,r1,WF,WG,WH,WI,WJ,WK,VF,Wb,WE⟩:=D7 ay Vx W M V3 N.1 b ar.nd ar.node (λcx bj o D VD=>by obtain ⟨d,B,U⟩:=Vt cx bj o D VD;exact VG cx bj d D B U);have Vv:h9 E.n E.L v:=by
   obtain ⟨_,⟨_,rfl⟩ | ⟨_,p,V,rfl⟩⟩:=vS b
   ·exact rm ay (by omega)
   ·exact rA ay (by omega) (N.1 p V)
  have f:=one r1 Vv WF WG WH;have X:(l.pair.step x).2.1=x.write a ws:=by rw [f]
  refine ⟨A',(gr c).add q ⟨0,[]⟩,rfl,by rw [X];exact WI,WJ,?_,t _,Vy.add s rfl (by rw [r1];rfl),fin (by rw [f]) (by rw [f]),T (by omega),yv Vs.1 ⟨0,by omega,M 0 (by omega)⟩ VF,K J,lL O (congrArg Prod.fst Wb) λ_=>.inr (.inl ⟨by show 3<=(gr c).aB;omega,by show (gr c).aB<=8;omega⟩),λ_=>.inr ⟨by show 3<=(gr c).aB;omega,by show (gr c).aB<=10;omega⟩⟩;unfold cB;rw [eR];simp only [c8.add,e];refine ⟨⟨VF.bs J.1,(congrArg Prod.fst Wb:A'.dU=A.dU).trans J.2⟩,VF.am M,VF.qv V3,⟨N.1,N.2.1,λp V=>(N.2.2 p V).imp id λg=>VF.bS 0 _ g⟩,(VG.mono VF).add b WK⟩
 ·
  unfold cB at H;rw [e] at H;obtain ⟨J,M,N,VG,V4,Wc⟩:=H;have b:=s
  unfold cM at b;rw [e] at b;simp only [ih,d'] at b;obtain ⟨p,V,rfl⟩:=kK.1 b;have Y:j=0:=by have:=ar.nd;simp [fR] at this;exact this.symm
  subst Y;have Wr:=V4 p (cg V);have Vv:h9 E.n E.L (fR 0 (p.bn * 8) (eJ p.Head 0) p.Head):=oF Vs.2 z (by omega) (by omega) (by omega);have V6:p.bn * 8=((bp p * 8:Nat):Int):=by show p.bn * 8=((p.bn.toNat * 8:Nat):Int);omega
  rw [V6] at G;have f:=tu (x:=x) ar.cj G (by rw [<-V6];exact ref Vv);have VA:∀ d,hY ((gr c).add q d):=λd=>.inr (.inl ⟨by show 3<=(gr c).aB;omega,by show (gr c).aB<=8;omega⟩)
  have VB:∀ d,gE ((gr c).add q d):=λd=>.inr ⟨by show 3<=(gr c).aB;omega,by show (gr c).aB<=10;omega⟩
  have Q:∀ {A':bA} {S:List a0} {d:aL},dm E A A'->A'.dU=A.dU->fP E A'->(∀ p' ∈ bJ E,A.bS 0 (bp p')=0->A'.bS 0 (bp p')=0)->(p ∈ bJ E->A'.bS 0 (bp p)=0)->cB E rs A' S (hN gr c ((gr c).add q d)) c:=λ{A' S d} r V2 Ww VN WB=>by
   unfold cB;rw [eR];simp only [c8.add,e];refine ⟨⟨r.bs J.1,V2.trans J.2⟩,Ww,N.imp id (λg p' VJ=>VN p' VJ (g p' VJ)),VG,V4,λcx p' Wh o D VD=>?_⟩;rcases kp D with ⟨B,_⟩ | ⟨_,B⟩
   ·subst B;rw [V] at o;cases o;exact WB VD
   ·exact VN p' VD (Wc cx p' Wh o B VD)
  by_cases hw:p ∈ bJ E/\A.bS 0 (bp p)=1
  ·obtain ⟨I,V_⟩:=hw;have WW:=(i.ar ay I (by omega)).2.2 V_;have u:x.gh ((bp p * 8:Nat):Int) (eJ p.Head 0) p.Head={ x with words:=x.words.set (bp p * 8) p.Head }:=by unfold a0.gh;rw [fY,if_pos WW]
   rw [u] at f;have X:(l.pair.step x).2.1={ x with words:=x.words.set (bp p * 8) p.Head }:=by rw [f]
   have r:dm E A (A.gO 0 (bp p) 0):=vg λVC=>by omega
   have VN:∀ bY,∀ p' ∈ bJ E,A.bS bY (bp p')=0->(A.gO 0 (bp p) 0).bS bY (bp p')=0:=λbY p' _ h=>by
    simp only [bA.gO];split
    ·rfl
    ·exact h
   refine ⟨A.gO 0 (bp p) 0,(gr c).add q ⟨0,[x.get (bp p * 8)]⟩,rfl,by rw [X];exact Vx.fh ar.node (i.lS ay I V_) (λbY R y VQ=>VQ.same (λp' _=>by simp [bA.gO,R]) rfl rfl rfl rfl (λ_=>rfl)),W.jm (by omega) (λVC=>by omega) (λ_ _=>M) (λVC=>by omega) (λVC=>by omega) (λVC=>by omega),Q r rfl M (VN 0) (λ_=>by simp [bA.gO]),t _,Vy.add s rfl rfl,fin (by rw [f]) (by rw [f]),T (by omega),⟨r,λh=>h,λh=>h,λ_ _ _ h=>h,λ_ bY _ p' VJ h=>VN bY p' VJ h,λ_ p' VJ h=>.inr J.1⟩,K J,lL O rfl λ_=>VA _,λ_=>VB _⟩
  ·have Vw:x.get (bp p * 8)≠eJ p.Head 0:=by
    by_cases I:p ∈ bJ E
    ·exact λh=>hw ⟨I,(i.ar ay I (W.cU 0 z p I).1).2.1 h⟩
    ·intro h;have V7:∀ p' ∈ bJ E,A.bS 0 (bp p')=0:=by
      rcases N with g | g
      ·rw [g] at V;exact absurd (cg V) I
      ·exact g
     have Wp:x.get (bp p * 8)=E.base (bp p) 0:=by
      by_cases V8:∃ p' ∈ bJ E,bp p'=bp p
      ·obtain ⟨p',o,D⟩:=V8;have:=i.bS p' o;rw [V7 p' o] at this;have:=this 0 (by omega);rw [D,lY] at this;exact this
      ·have:=i.gw (bp p) (by omega) (by omega) (λp' o D=>V8 ⟨p',o,D⟩) 0 (by omega);rw [lY] at this;exact this
     have o:=ay.b7 (bp p) (by omega) (by omega);have D:=KH p.Head;rw [<-h,Wp] at D;omega
   have u:x.gh ((bp p * 8:Nat):Int) (eJ p.Head 0) p.Head=x:=by unfold a0.gh;rw [fY,if_neg Vw]
   rw [u] at f;refine same f rfl rfl (Q (dm.refl E A) rfl M (λ_ _ h=>h) λI=>?_) (λ_=>VA _) (λ_=>VB _) (by omega);have D:=(W.cU 0 z p I).1;have VD:A.bS 0 (bp p)≠1:=λh=>hw ⟨I,h⟩
   have WM:A.bS 0 (bp p)≠2:=λh=>by have:=W.ix 0 z p I h 0 z;rw [M 0 z] at this;cases this
   omega
 ·
  unfold cB at H;rw [e] at H;obtain ⟨J,M,N⟩:=H;have b:=s
  unfold cM at b;rw [e] at b;have VE:=ch b;simp [gF] at VE;subst VE;simp [gF] at b;subst b;have Y:j=0:=by have:=ar.nd;simp [fR] at this;exact this.symm
  subst Y;have f:=tu (a:=49) (x:=x) ar.cj G (ref (oF Vs.2 z (by omega) (by omega) (by omega)));have VT:=M ar.bs;have W2:x.get 49=gy c:=(i.dU rfl).trans VT;have u:x.gh ((49:Nat):Int) (gy c) 0={ x with words:=x.words.set 49 0 }:=by unfold a0.gh;rw [fY,if_pos W2]
  rw [u] at f;have X:(l.pair.step x).2.1={ x with words:=x.words.set 49 0 }:=by rw [f]
  have r:dm E A (A.qZ 0):=Dc;refine ⟨A.qZ 0,(gr c).add 0 ⟨0,[x.get 49]⟩,rfl,by rw [X];exact Vx.fh ar.node (i.tag ay _) (λbY R y VQ=>VQ.same (λ_ _=>rfl) rfl rfl rfl rfl (λVC=>absurd VC R)),W.tag _,?_,t _,Vy.add s rfl rfl,fin (by rw [f]) (by rw [f]),T (by omega),⟨r,λh=>h,λh=>h,λ_ _ _ h=>h,λ_ _ _ _ _ h=>h,λ_ _ _ h=>.inl h⟩,K ⟨J,VT⟩,.inl rfl,λ_=>.inr ⟨by show 3<=(gr c).aB;omega,by show (gr c).aB<=10;omega⟩⟩;unfold cB;rw [eR];simp only [c8.add,e];refine ⟨J,λh=>(by rw [sF] at h;cases h),?_⟩;rcases N with g | ⟨B,U⟩
  ·exact .inl g
  ·exact .inr ⟨⟨B.1,B.2.1,B.2.2⟩,U⟩
end
end
end Go.Proofs.YtmkljjbioomepaaGreat
