import Derived.Test.YtmkljjbioomepaaGreatf23
set_option linter.all false
set_option maxHeartbeats 4000000
set_option maxRecDepth 100000
namespace Go.Proofs.YtmkljjbioomepaaGreat
open Go.Proofs.Tryz Go.bd
variable {P:Prop}{c i j k m n q:Nat}{sp:cV}
section
open e2
theorem O4 (h:Int):ew h 0 % 2=1:=by
 unfold ew iA;have a:(BitVec.ofInt IntKind.u64.bits h ||| BitVec.ofInt IntKind.u64.bits (0+1)).toNat % 2=1:=by
  grind[BitVec.toNat_or,Nat.or_mod_two_eq_one]
 have b:=(BitVec.ofInt IntKind.u64.bits h ||| BitVec.ofInt IntKind.u64.bits (0+1)).isLt;rw[kT (by omega) (by have:2 ^ IntKind.u64.bits=18446744073709551616:=rfl;omega)];omega
theorem rk {α:Type}{k:Nat}:∀ {hj:List (List α)},(∀ b ∈ hj,b.length=k)->hj.flatten.length=hj.length*k
 | [],_=>by simp
 |b::hj,h=>by rw[kR,hi,h b g_,rk λc a=>h c (gm _ a),jB,tE,Nat.add_comm]
theorem GP {E:Env}{v:bE}(h:(gK E sp)[q]?=some v):∃ k m,sp[k]?=some m/\((q=k*3/\v=cH m 48 [0])\/(q=k*3+1/\v=cH m 56 (fE E))\/(q=k*3+2/\v=cH m 48 [hQ E]/\(gK E sp)[k*3]?=some (cH m 48 [0]))):=by
 have f:∀ b ∈ sp.map (λm=>[cH m 48 [0],cH m 56 (fE E),cH m 48 [hQ E]]),b.length=3:=λb f=>by
  grind
 obtain⟨k,b,c,i,a⟩:=wz (by omega) f h;have d:=c;rw[hS]at c;obtain⟨m,hm,rfl⟩:=kQ.1 c;refine⟨k,m,hm,?_⟩;have g:=dk a;simp at g;obtain e | e | e:q-k*3=0\/q-k*3=1\/q-k*3=2:=by omega
 all_goals
  rw[e]at a;simp at a;subst a
 ·grind
 ·grind
 ·exact .inr (.inr ⟨by omega,rfl,rS (r:=0) f d rfl⟩)
theorem Ba {v:bE}(h:(gP n)[q]?=some v):(∃ m,m<n/\((q=2*m/\v=c5 m 24 1)\/(q=2*m+1/\v=c5 m 48 120)))\/(q=2*n/\v=c5 0 32 1):=by
 have a:∀ b ∈ (List.range n).map (λm=>[c5 m 24 1,c5 m 48 120]),b.length=2:=λb a=>by
  grind
 have f:((List.range n).map (λm=>[c5 m 24 1,c5 m 48 120])).flatten.length=2*n:=by
  rw[rk a]
  grind
 unfold gP at h;by_cases g:q<2*n
 ·rw[zl (by omega)]at h;obtain⟨k,b,c,d,e⟩:=wz (by omega) a h
  grind
 grind
def hR (gr:Nat->c8)(c:Nat)(g:c8):Nat->c8:=λk=>if k=c then g else gr k
theorem eR (gr:Nat->c8)(c:Nat)(g:c8):hR gr c g c=g:=bm rfl
theorem j1 {gr:Nat->c8}{g:c8}(h:k≠c):hR gr c g k=gr k:=aW h
def c8.add (g:c8)(q:Nat)(d:cW):c8:={g with bC:=fp g.bC q d}
def qE (C:bB)(ns:List aO):Prop:=∀ (k:Nat) (l:cL) (y:aO),C.aG[k]?=some l->ns[k]?=some y->∀ (a n:Int) (b:bu),l.pair.bj=c5 k a n::b->l.pair.words=(y.words.drop a.toNat).take (8*l.pair.b0)
theorem qE.step {C:bB}{ns:List aO}(h:qE C ns){l:cL}{x:aO}(f:C.aG[j]?=some l)(r:ns[j]?=some x){p:db}{d:Option cW}(q:∀ (a n:Int) (b:bu),p.bj=c5 j a n::b->p.words=(x.words.drop a.toNat).take (8*p.b0)):qE (C.comes j l p d) ns:=by
 intro k l' y c g a n b ar;by_cases e:k=j
 ·subst e;obtain⟨l2,i,o⟩:=y2 f p d
  grind
 ·rw[pL e]at c;exact h k l' y c g a n b ar
section
variable {E:Env}{A:bA}{rs:cV}{gr:Nat->c8}{c:Nat}
theorem mm.add (h:mm E c (gr c)){q:Nat}{v:bE}(ar:(cZ E c (gr c))[q]?=some v){d:cW}(g:d.code=0)(j:(d.words.length:Int)=v.v.iK):mm E c ((gr c).add q d):=λk a i=>by
 rcases kz i with⟨b,f⟩ | ⟨_,e⟩
 ·subst b f;exact⟨v,ar,g,j⟩
 ·exact h k a e
def c8.bare (g:c8):c8:={g with bC:=λ_=>none}
structure GD (E:Env)(rs:cV)(A:bA)(gr:Nat->c8)(c:Nat)(ns:List aO)(j:Nat)(C:bB)(l:cL)(x:aO)(A':bA)(kt:c8):Prop where
 bare:kt.bare=(gr c).bare
 rep:jh E A' (ns.set j (l.pair.step x).2.1)
 law:e3 E A'
 ok:cO E rs A' (ns.set j (l.pair.step x).2.1) (hR gr c kt) c
 yZ:lM E kt
 res:mm E c kt
 sv:gL (C.comes j l (l.pair.step x).1 (l.pair.step x).2.2) (cZ E c kt) kt.bC
 Xb:kt.aF=3->qE (C.comes j l (l.pair.step x).1 (l.pair.step x).2.2) (ns.set j (l.pair.step x).2.1)
 oQ:oq E A A'
 other:∀ c',c'≠c->Own E A c'->A'=A/\ns.set j (l.pair.step x).2.1=ns
 dY:uO rs A' (hR gr c kt)
 vI:gM (gr c)->gM kt
theorem tn:oq E A A:=⟨dU.refl E A,λh=>h,λh=>h,λ_ _ _ h=>h,λ_ _ _ _ _ h=>h,λ_ _ _ h=>.inl h⟩
theorem At (e:1<=E.n){A':bA}(d:∃ m,m<E.n/\A.c2 m=true)(hm:dU E A A'):oq E A A':=by
 obtain⟨m,c,a⟩:=d;have no:¬ gh E A:=λh=>by rw[h m c]at a;cases a
 have b:¬ gh E A':=λh=>by have:=hm.c2 m a;rw[h m c]at this;grind
 exact⟨hm,λh=>b_ h no,λh=>b_ h b,λh=>b_ h no,λh=>b_ h no,λh=>b_ h no⟩
theorem lW {A':bA}(h:uO rs A gr)(b:A'.dY=A.dY){a:c8}(g:h8 (gr c)->h8 a):uO rs A' (hR gr c a):=by
 rcases h with h | ⟨c',d,e,f⟩
 ·exact .inl (b.trans h)
 ·refine .inr ⟨c',d,b.trans e,?_⟩
  grind[eR,j1]
theorem wA {a:c8}(h:gM (gr c)->gM a):∀ c',gM (gr c')->gM (hR gr c a c'):=λc' hw=>by
 grind[eR,j1]
theorem SU (aA:cl E)(dq:1<=c/\c<6)(cj:c ∈ rs)(dG:∀ c ∈ rs,1<=c/\c<6){ns:List aO}{C:bB}{l:cL}{x:aO}{v:bE}{e1:bu}{cp:cV}(af:jh E A ns)(U:e3 E A)(H:cO E rs A ns gr c)(aV:lM E (gr c))(ah:mm E c (gr c))(a8:gL C (cZ E c (gr c)) (gr c).bC)(o:Aw E ns c j C (cZ E c (gr c)) (gr c).bC l x v e1 q cp)(bJ:(gr c).aF=3->qE C ns)(O:uO rs A gr) :
  ∃ A' ca,GD E rs A gr c ns j C l x A' ca:=by
 have a4:=aA.e.n;have dp:=aA.e.L;have i:=af.mem j x o.node;have G:j<E.n:=by have:=dk o.node;rw[af.len]at this;grind
 have dH:=i.aS.len;have dw:=aA.mC;have t:=o.at_;have F:=o.h3;have ref:ic E.n E.L v->l.pair.refusal v x=0:=λag=>by
  rw[Gb i.aS a4.2 ag o.pc o.pi dq.2]
  grind
 have fin:∀ {d:cW},(l.pair.step x).1=l.pair.done->(l.pair.step x).2.2=some d->gL (C.comes j l (l.pair.step x).1 (l.pair.step x).2.2) (cZ E c ((gr c).add q d)) ((gr c).add q d).bC:=λ{d} z I=>by rw[z,I];exact a8.done o.lane o.h3 (by show l.pair.bj.tail=e1;grind) o.pl d
 have ad:∀ (Z:Nat) (bk:bE),Z<q->(cZ E c (gr c))[Z]?=some bk->bk.node.toNat=j->∃ d,(gr c).bC Z=some d/\d.code=0:=λZ bk z I a7=>by
  obtain⟨d,aM⟩:=a8.before o.lane o.pl z I a7;obtain⟨v2,_,ab,_⟩:=ah Z d aM
  grind
 have s:∀ d,lM E ((gr c).add q d):=λd=>aV
 have M:∀ {P:Prop},Own E A c->∀ c',c'≠c->Own E A c'->P:=λh c' aP bs=>b_ (h.one bs).symm aP
 have S:(gr c).aF≠3->∀ {P:Prop},(gr c).aF=3->P:=λh {P} bs=>b_ bs h
 have one:∀ {a:Nat} {ws:ba},v=cH j (a:Int) ws->ic E.n E.L v->a % 8=0->ws.length<=8->a+ws.length<=x.words.length->l.pair.step x=(l.pair.done,x.write a ws,some ⟨0,[]⟩):=λ{a ws} e ag c9 cb dv=>by have D:=ref ag;rw[e]at F D;exact GO o.ct F D c9 (o.ny _ _ F rfl) dv cb
 have a1:∀ {a:Nat},v=c5 j (a:Int) 1->ic E.n E.L v->a<x.words.length->l.pair.step x=(l.pair.done,x,some ⟨0,[x.get a]⟩):=λ{a} e ag c9=>by
  have D:=ref ag;rw[e]at F D;have cy:(c5 j (a:Int) 1).v.pieces=[((a:Int),1)]:=q6 (v:=(c5 j (a:Int) 1).v) (by show(1:Int)<=1;omega) (by show(a:Int) % 8+1<=8;omega) (by show(0:Int)<=a;omega);rw[Ei o.ct F D cy];have he:=LU (x:=c5 j (a:Int) 1) rfl (by show(0:Int)<=a;omega) (n:=x) (by show((a:Int)).toNat<_;omega)
  grind[exec,c5]
 have same:∀ {d:cW},l.pair.step x=(l.pair.done,x,some d)->d.code=0->(d.words.length:Int)=v.v.iK->cO E rs A ns (hR gr c ((gr c).add q d)) c->(h8 (gr c)->h8 ((gr c).add q d))->(gM (gr c)->gM ((gr c).add q d))->(gr c).aF≠3->∃ A' ca,GD E rs A gr c ns j C l x A' ca:=λ{d} f z I a7 c6 dm dn=>by
  have W:(l.pair.step x).2.1=x:=by rw[f]
  exact⟨A,(gr c).add q d,rfl,by rw[W,lD o.node];exact af,U,by rw[W,lD o.node];exact a7,s d,ah.add t z I,fin (by rw[f]) (by rw[f]),S dn,tn,λ_ _ _=>⟨rfl,by rw[W,lD o.node]⟩,lW O rfl c6,dm⟩
 have dE:(gr c).aF<=9:=by
  grind[Nat.le_of_not_lt,cZ]
 obtain e | e | e | e | e | e | e | e | e | e:(gr c).aF=0\/(gr c).aF=1\/(gr c).aF=2\/(gr c).aF=3\/(gr c).aF=4\/(gr c).aF=5\/(gr c).aF=6\/(gr c).aF=7\/(gr c).aF=8\/(gr c).aF=9:=by omega
 ·
  unfold cO at H;rw[e]at H;have b:=t
  unfold cZ at b;rw[e]at b;simp only[iB,hS]at b;obtain⟨m,hm,rfl⟩:=kQ.1 b;have aB:=dk hm;rw[rH]at aB;rw[zo aB]at hm;cases hm;have cA:q=j:=by have:=o.nd;grind[c5]
  subst cA;have f:=a1 (a:=24) rfl (o5 a4.2 aB (by omega) (by omega) (by omega) (by omega) (.inr (by omega))) (by omega);refine same f rfl rfl ?_ (λh=>by rcases h with⟨g,_⟩ | ⟨g,_⟩ | ⟨g,_⟩<;>omega) (λh=>by rcases h with⟨g,_⟩ | ⟨g,_⟩<;>omega) (by omega);unfold cO;rw[eR];simp only[c8.add,e];intro B ae d aM;rcases kz aM with⟨N,ab⟩ | ⟨_,N⟩
  ·subst N ab;show x.get 24=1\/(x.get 24=2/\_);rw[i.aS.d0]
   grind
  grind
 ·
  unfold cO at H;rw[e]at H;obtain⟨K,b8,T⟩:=H;have b:=t
  unfold cZ at b;rw[e]at b;simp only[hg,hS]at b;obtain⟨m,hm,rfl⟩:=kQ.1 b;have V:m=j:=by have:=o.nd;grind[fV]
  subst V;have f:=uy (a:=24) (x:=x) o.ct F (ref (n5 a4.2 G (by omega) (by omega) (by omega)));have bQ:h8 (gr c)->h8 ((gr c).add q ⟨0,[x.get 24]⟩):=λh=>by rcases h with⟨g,_⟩ | ⟨g,_⟩ | ⟨g,_⟩<;>omega
  have aR:gM (gr c)->gM ((gr c).add q ⟨0,[x.get 24]⟩):=λh=>by rcases h with⟨g,_⟩ | ⟨g,_⟩<;>omega
  have cG:d_ ⟨0,[x.get 24]⟩=1\/d_ ⟨0,[x.get 24]⟩=2:=by
   show x.get 24=1\/x.get 24=2;rw[i.aS.d0]
   grind
  have Q:∀ {A':bA} {R:List aO},dU E A A'->A'.dO m=true->cO E rs A' R (hR gr c ((gr c).add q ⟨0,[x.get 24]⟩)) c:=λ{A' R} r dr=>by
   unfold cO;rw[eR];simp only[c8.add,e];refine⟨λB z I=>r.dO B (K B z I),b8,λZ B d z I=>?_⟩;rcases kz I with⟨N,ab⟩ | ⟨_,N⟩
   ·grind
   ·obtain⟨b1,az⟩:=T Z B d z N;exact⟨r.dO B b1,az⟩
  cases bD:A.dO m with
  |true=>
   have u:x.gz ((24:Nat):Int) 1 2=x:=by unfold aO.gz;rw[g9,i.aS.d0,bD,aW (by simp)]
   rw[u]at f;exact same f rfl rfl (Q (dU.refl E A) bD) bQ aR (by omega)
  |false=>
   have dh:x.get 24=1:=by rw[i.aS.d0,bD];rfl
   have u:x.gz ((24:Nat):Int) 1 2={x with words:=x.words.set 24 2}:=by
    unfold aO.gz
    grind
   rw[u]at f;have r:dU E A (A.oT m):=P_;have W:(l.pair.step x).2.1={x with words:=x.words.set 24 2}:=by rw[f]
   refine⟨A.oT m,(gr c).add q ⟨0,[x.get 24]⟩,rfl,by rw[W];exact af.fp o.node (i.Bu aA) (λB ae y bb=>bb.same (λ_ _=>rfl) rfl rfl rfl (by grind[bA.oT]) (λ_=>rfl)),U.Bu m,Q r (by simp[bA.oT]),s _,ah.add t rfl rfl,fin (by rw[f]) (by rw[f]),S (by omega),⟨r,λh=>h,λh=>h,λ_ _ _ h=>h,λ_ _ _ _ _ h=>h,λ_ _ _ h=>.inl h⟩,λc' _ bs=>?_,lW O rfl bQ,aR⟩;have:=bs.1 m G
   grind
 ·
  have bR:¬ h8 (gr c):=λh=>by
   rcases h with⟨_,d,z,_⟩ | ⟨g,_⟩ | ⟨g,_⟩
   ·have b:=t
    unfold cZ at b;rw[e]at b;have aB:=dk b;simp[gZ]at aB;subst aB;rw[o.bC]at z;cases z
   ·omega
   ·omega
  have aR:¬ gM (gr c):=λh=>by
   rcases h with h | ⟨g,_⟩
   ·exact bR (.inl h)
   ·omega
  unfold cO at H;rw[e]at H;have b:=t
  unfold cZ at b;rw[e]at b;have aB:=dk b;simp[gZ]at aB;subst aB;simp[gZ]at b;subst b;have X:j=0:=by have:=o.nd;grind[fV]
  subst X;have f:=uy (a:=49) (x:=x) o.ct F (ref (n5 a4.2 G (by omega) (by omega) (by omega)));have aZ:=i.dY rfl;have Q:∀ {A':bA} {R:List aO} {w:Int},dU E A A'->((w=0/\A'.dY=gJ c)\/∃ c' ∈ rs,c'≠c/\w=gJ c'/\gM (gr c'))->cO E rs A' R (hR gr c ((gr c).add 0 ⟨0,[w]⟩)) c:=λ{A' R w} r hw=>by
   unfold cO;rw[eR];simp only[c8.add,e];refine⟨r.bC H.1,λd aM=>?_⟩;rcases kz aM with⟨_,ab⟩ | ⟨N,_⟩
   ·subst ab;rcases hw with g | ⟨c',b1,az,b7,dN⟩
    ·exact .inl g
    ·exact .inr ⟨c',b1,az,b7,by grind[j1]⟩
   grind
  by_cases b5:A.dY=0
  ·rw [b5] at aZ;have u:x.gz ((49:Nat):Int) 0 (gJ c)={ x with words:=x.words.set 49 (gJ c) }:=by
    unfold aO.gz
    grind
   rw[u,aZ]at f;have r:dU E A (A.rr (gJ c)):=Fc;have W:(l.pair.step x).2.1={x with words:=x.words.set 49 (gJ c)}:=by rw[f]
   refine⟨A.rr (gJ c),(gr c).add 0 ⟨0,[0]⟩,rfl,by rw[W];exact af.fp o.node (i.tag aA _) (λB ae y bb=>bb.same (λ_ _=>rfl) rfl rfl rfl rfl (λaI=>b_ aI ae)),U.tag _,Q r (.inl ⟨rfl,rfl⟩),s _,ah.add t rfl rfl,fin (by rw[f]) (by rw[f]),S (by omega),⟨r,λh=>h,λh=>h,λ_ _ _ h=>h,λ_ _ _ _ _ h=>h,λ_ _ _ h=>.inl h⟩,λc' _ bs=>?_,.inr ⟨c,cj,rfl,?_⟩,λh=>b_ h aR⟩
   ·exact b_ (bs.2.symm.trans b5) (Ar c')
   ·rw[eR];exact .inl ⟨e,⟨0,[0]⟩,tB (gr c).bC 0 ⟨0,[0]⟩,rfl⟩
  ·obtain ⟨c',b1,az,b7⟩:∃ c' ∈ rs,A.dY=gJ c'/\h8 (gr c'):=by
    rcases O with h | h
    ·grind
    grind
   have aP:c'≠c:=λaI=>by grind
   have u:x.gz ((49:Nat):Int) 0 (gJ c)=x:=by
    unfold aO.gz
    grind
   rw[u,aZ]at f;refine same f rfl rfl (Q (dU.refl E A) (.inr ⟨c',b1,aP,az,?_⟩)) (λh=>b_ h bR) (λh=>b_ h aR) (by omega);rcases b7 with g | ⟨N,ab⟩ | ⟨N,ab⟩
   ·exact .inl g
   ·exact .inr ⟨N,by omega⟩
   ·exact .inr ⟨by omega,by omega⟩
 ·
  have cx:=H;unfold cO at H;rw[e]at H;obtain⟨K,b8⟩:=H;have b:=t
  unfold cZ at b;rw[e]at b;have b:(gP E.n)[q]?=some v:=b;have a9:∃ a k:Nat,v=c5 j (a:Int) (k:Int)/\ic E.n E.L v/\(a % 8=0\/k=1)/\a+k<=x.words.length:=by
   rcases Ba b with⟨m,hm,⟨_,ar⟩ | ⟨_,ar⟩⟩ | ⟨_,ar⟩
   ·have V:m=j:=by have:=o.nd;grind[c5]
    subst V;exact⟨24,1,ar,by grind[o5],.inr rfl,by omega⟩
   ·have V:m=j:=by have:=o.nd;grind[c5]
    subst V;exact⟨48,120,ar,by grind[o5],.inl (by omega),by omega⟩
   ·have V:j=0:=by have:=o.nd;grind[c5]
    subst V;exact⟨32,1,ar,by grind[o5],.inr rfl,by omega⟩
  obtain⟨a,k,ar,ag,cd,hlen⟩:=a9;have D:=ref ag;rw[ar]at F D;have hw:=bJ e j l x o.lane o.node _ _ _ F;rw[g9]at hw;obtain⟨s1,s2⟩:=Tt (a:=a) (k:=k) o.ct F D cd hw hlen;have cC:rW ns v=(x.words.drop a).take k:=by unfold rW;rw[o.nd,o.node,ar];rfl
  rcases s2 with⟨t1,t2⟩ | ⟨t1,t2⟩
  ·refine⟨A,gr c,rfl,by rw[s1,lD o.node];exact af,U,by rw[s1,lD o.node];exact cx.stay (eR _ _ _) (wA λh=>h),aV,ah,?_,λ_=>?_,tn,λ_ _ _=>⟨rfl,by rw[s1,lD o.node]⟩,lW O rfl λh=>h,λh=>h⟩
   ·rw[t1,t2];exact a8.more o.lane rfl
   ·rw[s1,lD o.node,t1,t2];refine(bJ e).step o.lane o.node λbS n' br a'=>?_
    have a':l.pair.bj=c5 j bS n'::br:=a';rw[F]at a';injection a' with cD _;have:(a:Int)=bS:=eh bE.at_ cD
    grind
  ·refine⟨A,(gr c).add q ⟨0,(x.words.drop a).take k⟩,rfl,by rw[s1,lD o.node];exact af,U,?_,s _,ah.add t rfl ?_,fin t1 t2,λ_=>?_,tn,λ_ _ _=>⟨rfl,by rw[s1,lD o.node]⟩,lW O rfl λh=>.inr (.inl ⟨by show 3<=(gr c).aF;omega,by show(gr c).aF<=8;omega⟩),λh=>.inr ⟨by show 3<=(gr c).aF;omega,by show(gr c).aF<=10;omega⟩⟩
   ·rw[s1,lD o.node];unfold cO;rw[eR];simp only[c8.add,e]
    grind[kz]
   ·rw[ar];show(((x.words.drop a).take k).length:Int)=k
    grind
   ·rw[s1,lD o.node,t1];exact(bJ e).step o.lane o.node λbS n' br _=>by show[]=List.take (8*0) _;simp
 ·
  unfold cO at H;rw[e]at H;obtain⟨K,b8,T,a5,b4,cX,cY,c_,da⟩:=H;have b:=t
  unfold cZ at b;rw[e]at b;have b:(gK E (gr c).sp)[q]?=some v:=b;have dA:hQ E≠0:=z' aA.seq;obtain⟨k,m,hm,aL⟩:=GP b;have V:m=j:=by
   have:=o.nd
   grind[cH]
  subst V;have Q:∀ {A':bA} {R:List aO} {d:cW},dU E A A'->(∀ p,A'.bT 0 p=A.bT 0 p)->A'.dY=A.dY->(∀ bh B,(gr c).sp[bh]?=some B->fp (gr c).bC q d (bh*3)=none->A'.c2 B=false)->(v=cH m 48 [hQ E]->A'.c2 m=true)->cO E rs A' R (hR gr c ((gr c).add q d)) c:=λ{A' R d} r dD bW cb dP=>by
   unfold cO;rw[eR];simp only[c8.add,e];refine⟨⟨r.bC K.1,bW.trans K.2⟩,r.lb b8,?_,λp Y=>by grind,λB z I=>r.c2 B (b4 B z I),cX,cY,cb,λZ B c1 z I=>?_⟩
   ·obtain⟨B,b1,az⟩:=T;exact⟨B,b1,r.c2 B az⟩
   ·rcases kz I with⟨N,_⟩ | ⟨_,N⟩
    ·subst N;rw[b]at z;have z:=Option.some.inj z;have dy:B=m:=by rcases aL with⟨_,ar⟩ | ⟨_,ar⟩ | ⟨_,ar,_⟩<;>(rw[ar]at z;have:=eh bE.node z;grind[cH])
     grind
    ·exact r.c2 B (da Z B c1 z N)
  have bX:∀ {A':bA} (d:cW),(∀ B,A'.c2 B=A.c2 B)->∀ bh B,(gr c).sp[bh]?=some B->fp (gr c).bC q d (bh*3)=none->A'.c2 B=false:=λd dz bh B z I=>by
   grind[wv]
  have ao:∀ d,h8 ((gr c).add q d):=λd=>.inr (.inl ⟨by show 3<=(gr c).aF;omega,by show(gr c).aF<=8;omega⟩)
  have aq:∀ d,gM ((gr c).add q d):=λd=>.inr ⟨by show 3<=(gr c).aF;omega,by show(gr c).aF<=10;omega⟩
  rcases aL with⟨bH,ar⟩ | ⟨bH,ar⟩ | ⟨bH,ar,bG⟩
  ·have f:=one (a:=48) ar (by grind[pd]) (by omega) (by simp) (by grind);have W:(l.pair.step x).2.1=x.write 48 [0]:=by rw[f]
   have cq:=c_ k m hm (by rw[<-bH];exact o.bC);refine⟨A,(gr c).add q ⟨0,[]⟩,rfl,by rw[W];exact af.fp o.node (i.Y8 aA cq) (λ_ _ _ h=>h),U,Q (dU.refl E A) (λ_=>rfl) rfl (bX _ λ_=>rfl) (λh=>?_),s _,ah.add t rfl (by rw[ar];rfl),fin (by rw[f]) (by rw[f]),S (by omega),tn,M K,lW O rfl λ_=>ao _,λ_=>aq _⟩;rw[ar]at h;have:=eh bE.words h
   grind[cH]
  ·have dQ:=aA.k5;have ag:ic E.n E.L v:=by grind[pd]
   have D:=ref ag;have bm:=F;rw[ar]at bm D;obtain⟨s1,s2,b6,dK,dM⟩:=A3 (a:=56) o.ct bm D (by omega) (o.ny _ _ F (by rw[ar];rfl)) (by omega);have cf:=i.fi (b8 m G);have cr:Mem E A m (l.pair.step x).2.1:=i.low aA b6 (by omega) (by omega) (λ_ _=>rfl) rfl (.inl (by omega)) (by rw[b6.get _ (by omega)];exact i.dL) (by rw[b6.get _ (by omega)];exact i.c2) (λdf=>by rw[b6.get _ (by omega)];exact i.dY df) λ_ k a9=>dK k a9 (.inr (cf k a9))
   have bo:jh E A (ns.set m (l.pair.step x).2.1):=af.fp o.node cr (λ_ _ _ h=>h);rcases dM with⟨t1,t2,t3⟩ | ⟨t1,t2,t3⟩
   ·refine⟨A,gr c,rfl,bo,U,?_,aV,ah,?_,S (by omega),tn,M K,lW O rfl λh=>h,λh=>h⟩
    ·unfold cO;rw[eR,e]
     grind
    ·rw[t2,t3];exact a8.more o.lane rfl
   ·refine⟨A,(gr c).add q ⟨0,[]⟩,rfl,bo,U,Q (dU.refl E A) (λ_=>rfl) rfl (bX _ λ_=>rfl) (λh=>?_),s _,ah.add t rfl (by rw[ar];rfl),fin t2 t3,S (by omega),tn,M K,lW O rfl λ_=>ao _,λ_=>aq _⟩;rw[ar]at h;have:=eh bE.at_ h
    grind[cH]
  ·have f:=one (a:=48) ar (by grind[pd]) (by omega) (by simp) (by grind);have W:(l.pair.step x).2.1=x.write 48 [hQ E]:=by rw[f]
   have r:dU E A (A.jv m):=Fa;refine⟨A.jv m,(gr c).add q ⟨0,[]⟩,rfl,by rw[W];exact af.fp o.node (i.vp aA) (λB ae y bb=>bb.same (λ_ _=>rfl) (by grind[bA.jv]) rfl rfl rfl (λ_=>rfl)),U.vp b8 a5 m,Q r (λ_=>rfl) rfl (λbh B z I=>?_) (λ_=>by simp[bA.jv]),s _,ah.add t rfl (by rw[ar];rfl),fin (by rw[f]) (by rw[f]),S (by omega),At a4.1 T r,M K,lW O rfl λ_=>ao _,λ_=>aq _⟩;obtain⟨N,ab⟩:=wv I;have aP:B≠m:=λaI=>by
    subst aI;have ck:bh=k:=(Jq (dk z) cY).1 (z.trans hm.symm);subst ck;obtain⟨d,b1,_⟩:=ad (bh*3) _ (by omega) (by unfold cZ;rw[e];exact bG) (by simp[cH])
    grind
   simp only[bA.jv]
   grind
 ·
  unfold cO at H;rw[e]at H;obtain⟨K,b8,T⟩:=H;have b:=t
  unfold cZ at b;rw[e]at b;simp only[gQ,hS]at b;obtain⟨p,Y,rfl⟩:=kQ.1 b;have X:j=0:=by have:=o.nd;grind[c5]
  subst X;have J:=cu Y;have cm:=aA.pl J;have f:=a1 (a:=bx p*8) (by grind) (o5 a4.2 G (by omega) (by omega) (by omega) (by omega) (.inl (by omega))) (by omega);refine same f rfl rfl ?_ (λ_=>.inr (.inl ⟨by show 3<=(gr c).aF;omega,by show(gr c).aF<=8;omega⟩)) (λ_=>.inr ⟨by show 3<=(gr c).aF;omega,by show(gr c).aF<=10;omega⟩) (by omega);unfold cO;rw[eR];simp only[c8.add,e];refine⟨K,b8,λZ p' d z I=>?_⟩;rcases kz I with⟨N,ab⟩ | ⟨_,N⟩
  ·subst N ab;rw[Y]at z;cases z;exact(i.dR aA J (U.e7 0 G p J).1).2
  grind
 ·
  unfold cO at H;rw[e]at H;obtain⟨K,b8,T,a5⟩:=H;have b:=t
  unfold cZ at b ad;rw[e]at b ad;have ch:∀ p ∈ bL E,p ∈ (gr c).l\/A.bT j (bx p)=2:=λp Y=>by
   rcases T.2.2 p Y with g | g
   ·grind
   ·by_cases X:j=0
    ·grind
    ·exact .inr (U.kA j (by omega) G (U.ld (U.k' p Y g) j (by omega) G) p Y)
  obtain⟨a,ws,A',r1,cM,cN,cP,dJ,cQ,cS,aE,bY,cK,dI⟩:=FL aA af U b8 T.1 b o.nd o.node (λZ bk z I a7=>by obtain⟨d,N,ab⟩:=ad Z bk z I a7;exact a5 Z bk d I N ab) ch;have ag:ic E.n E.L v:=by
   obtain⟨m,hm,_,⟨p,Y,rfl⟩ | ⟨rfl,_⟩⟩:=xl b
   ·exact r5 aA hm (T.1 p Y)
   grind[r6]
  have f:=one r1 ag cM cN cP;have W:(l.pair.step x).2.1=x.write a ws:=by rw[f]
  refine⟨A',(gr c).add q ⟨0,[]⟩,rfl,by grind,cQ,?_,s _,ah.add t rfl (by rw[r1];rfl),fin (by rw[f]) (by rw[f]),S (by omega),At a4.1 ⟨0,by omega,b8 0 (by omega)⟩ aE,M K,lW O (eh Prod.fst bY) λ_=>.inr (.inl ⟨by show 3<=(gr c).aF;omega,by show(gr c).aF<=8;omega⟩),λ_=>.inr ⟨by show 3<=(gr c).aF;omega,by show(gr c).aF<=10;omega⟩⟩;unfold cO;rw[eR];simp only[c8.add,e];refine⟨⟨aE.bC K.1,(eh Prod.fst bY:A'.dY=A.dY).trans K.2⟩,aE.am b8,⟨T.1,T.2.1,λp Y=>(T.2.2 p Y).imp id λg=>aE.bT 0 _ g⟩,(a5.mono aE).add b cS⟩
 ·
  unfold cO at H;rw[e]at H;obtain⟨K,b8,bK,T,a5⟩:=H;have b:=t
  unfold cZ at b ad;rw[e]at b ad;obtain⟨a,ws,A',dV,r1,cM,cN,cP,dJ,cQ,cS,aE,bY,cK⟩:=FM aA af U b8 bK T.1 b o.nd o.node (λZ bk z I a7=>by obtain⟨d,N,ab⟩:=ad Z bk z I a7;exact a5 Z bk d I N ab);have ag:ic E.n E.L v:=by
   obtain⟨_,⟨_,rfl⟩ | ⟨_,p,Y,rfl⟩⟩:=xm b
   ·grind[r6]
   ·exact r5 aA (by omega) (T.1 p Y)
  have f:=one r1 ag cM cN cP;have W:(l.pair.step x).2.1=x.write a ws:=by rw[f]
  refine⟨A',(gr c).add q ⟨0,[]⟩,rfl,by grind,cQ,?_,s _,ah.add t rfl (by rw[r1];rfl),fin (by rw[f]) (by rw[f]),S (by omega),At a4.1 ⟨0,by omega,b8 0 (by omega)⟩ aE,M K,lW O (eh Prod.fst bY) λ_=>.inr (.inl ⟨by show 3<=(gr c).aF;omega,by show(gr c).aF<=8;omega⟩),λ_=>.inr ⟨by show 3<=(gr c).aF;omega,by show(gr c).aF<=10;omega⟩⟩;unfold cO;rw[eR];simp only[c8.add,e];refine⟨⟨aE.bC K.1,(eh Prod.fst bY:A'.dY=A.dY).trans K.2⟩,aE.am b8,aE.Bn bK,⟨T.1,T.2.1,λp Y=>(T.2.2 p Y).imp id λg=>aE.bT 0 _ g⟩,(a5.mono aE).add b cS⟩
 ·
  unfold cO at H;rw[e]at H;obtain⟨K,b8,T,a5,b4,cX⟩:=H;have b:=t
  unfold cZ at b;rw[e]at b;simp only[ix,hS]at b;obtain⟨p,Y,rfl⟩:=kQ.1 b;have X:j=0:=by have:=o.nd;grind[fV]
  subst X;have cm:=b4 p (cu Y);have ag:ic E.n E.L (fV 0 (p.bw*8) (ew p.Head 0) p.Head):=n5 a4.2 G (by omega) (by omega) (by omega);have b9:p.bw*8=((bx p*8:Nat):Int):=by grind
  rw[b9]at F;have f:=uy (x:=x) o.ct F (by grind);have ao:∀ d,h8 ((gr c).add q d):=λd=>.inr (.inl ⟨by show 3<=(gr c).aF;omega,by show(gr c).aF<=8;omega⟩)
  have aq:∀ d,gM ((gr c).add q d):=λd=>.inr ⟨by show 3<=(gr c).aF;omega,by show(gr c).aF<=10;omega⟩
  have Q:∀ {A':bA} {R:List aO} {d:cW},dU E A A'->A'.dY=A.dY->gh E A'->(∀ p' ∈ bL E,A.bT 0 (bx p')=0->A'.bT 0 (bx p')=0)->(p ∈ bL E->A'.bT 0 (bx p)=0)->cO E rs A' R (hR gr c ((gr c).add q d)) c:=λ{A' R d} r b5 cv a9 dF=>by
   unfold cO;rw[eR];simp only[c8.add,e];refine⟨⟨r.bC K.1,b5.trans K.2⟩,cv,T.imp id (λg p' aT=>a9 p' aT (g p' aT)),a5,b4,λZ p' c1 z I a7=>?_⟩
   grind[kz]
  by_cases hw:p ∈ bL E/\A.bT 0 (bx p)=1
  ·obtain ⟨J,bV⟩:=hw;have dS:=(i.dR aA J (by omega)).2.2 bV;have u:x.gz ((bx p * 8:Nat):Int) (ew p.Head 0) p.Head={ x with words:=x.words.set (bx p * 8) p.Head }:=by
    unfold aO.gz
    grind
   rw[u]at f;have W:(l.pair.step x).2.1={x with words:=x.words.set (bx p*8) p.Head}:=by rw[f]
   have r:dU E A (A.gT 0 (bx p) 0):=wI λaI=>by omega
   have a9:∀ B,∀ p' ∈ bL E,A.bT B (bx p')=0->(A.gT 0 (bx p) 0).bT B (bx p')=0:=λB p' _ h=>by
    grind[bA.gT]
   refine⟨A.gT 0 (bx p) 0,(gr c).add q ⟨0,[x.get (bx p*8)]⟩,rfl,by rw[W];exact af.fp o.node (i.l3 aA J bV) (λB ae y bb=>bb.same (λp' _=>by grind[bA.gT]) rfl rfl rfl rfl (λ_=>rfl)),U.s4 (by omega) (λaI=>by omega) (λ_ _=>b8) (λaI=>by omega) (λaI=>by omega) (λaI=>by omega),Q r rfl b8 (a9 0) (λ_=>by simp[bA.gT]),s _,ah.add t rfl rfl,fin (by rw[f]) (by rw[f]),S (by omega),⟨r,λh=>h,λh=>h,λ_ _ _ h=>h,λ_ B _ p' aT h=>a9 B p' aT h,λ_ p' aT h=>.inr K.1⟩,M K,lW O rfl λ_=>ao _,λ_=>aq _⟩
  ·have aP:x.get (bx p * 8)≠ew p.Head 0:=by
    by_cases J:p ∈ bL E
    ·exactλh=>hw ⟨J,(i.dR aA J (U.e7 0 G p J).1).2.1 h⟩
    ·intro h;have bN:∀ p' ∈ bL E,A.bT 0 (bx p')=0:=by
      grind
     have dt:x.get (bx p*8)=E.base (bx p) 0:=by
      by_cases bO:∃ p' ∈ bL E,bx p'=bx p
      ·obtain⟨p',z,I⟩:=bO;have:=i.bT p' z;rw[bN p' z]at this;have:=this 0 (by omega)
       grind
      ·have:=i.gI (bx p) (by omega) (by omega) (λp' z I=>bO ⟨p',z,I⟩) 0 (by omega)
       grind
     have z:=aA.cg (bx p) (by omega) (by omega)
     grind[O4]
   have u:x.gz ((bx p*8:Nat):Int) (ew p.Head 0) p.Head=x:=by
    unfold aO.gz
    grind
   rw[u]at f;refine same f rfl rfl (Q (dU.refl E A) rfl b8 (λ_ _ h=>h) λJ=>?_) (λ_=>ao _) (λ_=>aq _) (by omega);have I:=(U.e7 0 G p J).1;have a7:A.bT 0 (bx p)≠1:=λh=>hw ⟨J,h⟩
   have c6:A.bT 0 (bx p)≠2:=λh=>by
    have:=U.jJ 0 G p J h 0 G;rw[b8 0 G]at this
    grind
   omega
 ·
  unfold cO at H;rw[e]at H;obtain⟨K,b8,T⟩:=H;have b:=t
  unfold cZ at b;rw[e]at b;have aB:=dk b;simp[gN]at aB;subst aB;simp[gN]at b;subst b;have X:j=0:=by have:=o.nd;grind[fV]
  subst X;have f:=uy (a:=49) (x:=x) o.ct F (ref (n5 a4.2 G (by omega) (by omega) (by omega)));have bq:=b8 o.bC;have dT:x.get 49=gJ c:=(i.dY rfl).trans bq;have u:x.gz ((49:Nat):Int) (gJ c) 0={x with words:=x.words.set 49 0}:=by
   unfold aO.gz
   grind
  rw[u]at f;have W:(l.pair.step x).2.1={x with words:=x.words.set 49 0}:=by rw[f]
  have r:dU E A (A.rr 0):=Fc;refine⟨A.rr 0,(gr c).add 0 ⟨0,[x.get 49]⟩,rfl,by rw[W];exact af.fp o.node (i.tag aA _) (λB ae y bb=>bb.same (λ_ _=>rfl) rfl rfl rfl rfl (λaI=>b_ aI ae)),U.tag _,?_,s _,ah.add t rfl rfl,fin (by rw[f]) (by rw[f]),S (by omega),⟨r,λh=>h,λh=>h,λ_ _ _ h=>h,λ_ _ _ _ _ h=>h,λ_ _ _ h=>.inl h⟩,M ⟨K,bq⟩,.inl rfl,λ_=>.inr ⟨by show 3<=(gr c).aF;omega,by show(gr c).aF<=10;omega⟩⟩;unfold cO;rw[eR];simp only[c8.add,e];refine⟨K,λh=>(by grind[tB]),?_⟩;rcases T with g | ⟨N,ab⟩
  ·exact .inl g
  ·exact .inr ⟨⟨N.1,N.2.1,N.2.2⟩,ab⟩
end
end
section
open e2
theorem LJ {p:db}{n:aO}(c:fI p){l l':cL}(d:l.pair=p)(b:l'.pair=(p.step n).1)(ar:p.bj≠[]):iI l'<iI l:=by
 obtain⟨v,e1,a⟩:=rE ar;by_cases f:p.refusal v n=0
 ·exact NU c (λv2 i e=>by grind) d b ar
 ·have g:=c.hL v e1 a;have h:=AO a f;unfold iI;rw[d,b,h,a];show(p.bj.tail.map _).sum-0<_
  grind
theorem NZ {C:bB}{l:cL}(x:aO)(j:C.aG[m]?=some l)(g:fI l.pair)(ar:l.pair.bj≠[]):iH (C.comes m l (l.pair.step x).1 (l.pair.step x).2.2)<iH C:=by
 have c:∃ l',(C.comes m l (l.pair.step x).1 (l.pair.step x).2.2).aG=C.aG.set m l'/\l'.pair=(l.pair.step x).1:=by
  cases(l.pair.step x).2.2 with
  |none=>exact⟨_,rfl,rfl⟩
  |some d=>exact⟨_,rfl,rfl⟩
 obtain⟨l',e,f⟩:=c;unfold iH;rw[e,m4];have h:=LJ g (l:=l) (l':=l') rfl f ar;have:=As (l:=C.aG.map iI) (i:=m) (a:=iI l) (b:=iI l') (by grind);omega
theorem QP {p:db}{x:aO}{v:bE}{e1:bu}(a:p.bj=v::e1)(b:v.kind=1\/(v.kind=3/\(v.at_.toNat<56\/168<=v.at_.toNat)))(i:Nat)(d:56<=i)(f:i<168):(p.step x).2.1.get i=x.get i:=by
 by_cases c:p.refusal v x=0
 ·have he:∀ pc,(exec v pc x).1.get i=x.get i:=λpc=>by
   unfold exec;rcases b with e | ⟨e,g⟩
   ·grind
   ·rw[aW (by omega),aW (by omega),bm e]
    grind[aO.gz,aO.get,List.getElem?_set_ne]
  rw[tR a c]
  grind
 grind[AO]
theorem Au {g a:c8}(h:a.bare=g.bare):a.aF=g.aF:=by
 have:a.bare.aF=g.bare.aF:=by rw[h]
 exact this
structure ki (n:Nat)(C:bB):Prop where
 inc:C.inc=1
 live:C.alive=true
 aG:C.aG.length=n
 ny:∀ (k:Nat) (l:cL),C.aG[k]?=some l->wy l.pair
theorem ki.comes {n:Nat}{C:bB}(h:ki n C){m:Nat}{l:cL}(b:C.aG[m]?=some l)(x:aO):ki n (C.comes m l (l.pair.step x).1 (l.pair.step x).2.2):=by
 refine⟨?_,(Li C m l _ _).trans h.live,?_,λk l' a=>?_⟩
 ·cases(l.pair.step x).2.2<;>exact h.inc
 ·cases(l.pair.step x).2.2<;>simp[bB.comes,h.aG]
 ·by_cases e:k=m
  ·subst e;obtain⟨l2,c,d⟩:=y2 b (l.pair.step x).1 (l.pair.step x).2.2;rw[c]at a;cases a;rw[d];exact O2 (h.ny k l b)
  ·rw[pL e]at a;exact h.ny k l' a
theorem GQ {E:Env}{F:aH}(p:cy F){C:bB}{l:cL}{x:aO}(k:F.aY[i]?=some C)(o:ki E.n C)(b:C.aG[j]?=some l)(r:F.nodes[j]?=some x)(ar:l.pair.bj≠[]){vs:bu}{bC:Nat->Option cW}(e:gL C vs bC):∃ v e1 q cp,Aw E F.nodes i j C vs bC l x v e1 q cp:=by obtain⟨v,e1,d⟩:=rE ar;obtain⟨q,cp,g,h,a,f⟩:=(e.lane j l b).head d;have c:=(p.ct.ok.a3 i C k).lane j l b;exact⟨v,e1,q,cp,b,r,d,g,h,a,f,c.a3,c.inc.trans o.inc,p.ct.cR C (cu k) l (cu b),o.ny j l b⟩
structure gx (E:Env)(rs:cV)(F:aH)(A:bA)(g:gd)(gr:Nat->c8):Prop where
 eA:cy F
 lines:F.lines=E.L
 hI:F.b2=[]
 sC:4<=F.aY.length
 rep:jh E A F.nodes
 law:e3 E A
 vF:uO rs A gr
 cz:∃ C,F.aY[0]?=some C/\ki E.n C/\(g.aF<=4->gL C (dZ E g.aF) g.bC/\(g.aF=0->o' E C F.nodes))/\(5<=g.aF->C.batch=none/\hs C)
 s0:e' E A g
 vC:np E A g
 yM:g.aF=8->gh E A/\(∀ m,m<E.n->A.dL m=false)/\∀ m,m<E.n->∀ p ∈ bL E,A.bT m (bx p)=0
 rl:∀ c ∈ rs,∃ C,F.aY[c]?=some C/\ki E.n C/\((gr c).aF<=9->gL C (cZ E c (gr c)) (gr c).bC/\((gr c).aF=3->qE C F.nodes))/\(10<=(gr c).aF->C.batch=none/\hs C)
 mJ:∀ c ∈ rs,cO E rs A F.nodes gr c/\lM E (gr c)/\mm E c (gr c)/\(gr c).aF<=12
 lk:(∃ p ∈ bL E,A.bT 0 (bx p)=1)->hT E A
 op:(∀ c ∈ rs,(gr c).aF=12)->∀ m,A.dO m=false
 rest:∀ (c:Nat) (C:bB),c≠0->c ∉ rs->F.aY[c]?=some C->ki E.n C/\C.batch=none/\hs C
theorem oq.gI {E:Env}(b:1<=E.n){A A':bA}(h:oq E A A'):oj E A A':=⟨h.mono,λ_=>h.q9,λ_ a p c=>h.vr a 0 b p c⟩
section
variable {E:Env}{rs:cV}{F dx:aH}{A:bA}{g:gd}{gr:Nat->c8}
theorem O5 (aA:cl E){ns:List aO}(h:cO E rs A ns gr c)(hm:gh E A){v:bE}(ar:(cZ E c (gr c))[q]?=some v):v.kind=1\/(v.kind=3/\(v.at_.toNat<56\/168<=v.at_.toNat)):=by
 have f:=aA.e.n;have no:∀ {P:Prop},(∃ m,m<E.n/\A.c2 m=true)->P:=λ⟨m,b,a⟩=>by rw[hm m b]at a;cases a
 unfold cO at h;unfold cZ at ar;split at ar
 ·obtain⟨m,_,rfl⟩:=dD.1 (cu ar);exact .inl rfl
 ·obtain⟨m,_,rfl⟩:=dD.1 (cu ar);exact .inr ⟨rfl,.inl (by show((24:Int)).toNat<56;omega)⟩
 ·have:=cu ar;simp only[gZ,rK]at this;subst this;exact .inr ⟨rfl,.inl (by show((49:Int)).toNat<56;omega)⟩
 ·rcases Ba ar with⟨m,_,⟨_,rfl⟩ | ⟨_,rfl⟩⟩ | ⟨_,rfl⟩<;>exact .inl rfl
 ·simp_all
 ·rename_i e;rw[e]at h;exact no ⟨0,by omega,h.2.1 0 (by omega)⟩
 ·rename_i e;rw[e]at h;exact no ⟨0,by omega,h.2.1 0 (by omega)⟩
 ·rename_i e;rw[e]at h;exact no ⟨0,by omega,h.2.1 0 (by omega)⟩
 ·rename_i e;rw[e]at h;obtain⟨p,d,rfl⟩:=dD.1 (cu ar);have:=h.2.2.2.2.1 p d;exact .inr ⟨rfl,.inr (by show 168<=(p.bw*8).toNat;omega)⟩
 ·have:=cu ar;simp only[gN,rK]at this;subst this;exact .inr ⟨rfl,.inl (by show((49:Int)).toNat<56;omega)⟩
 grind
theorem Sv {A:bA}{g:gd}(d:1<=E.n)(h:e' E A g)(a:e3 E A)(c:g.aF<=4):(∃ p ∈ bL E,A.bT 0 (bx p)=1)->hT E A:=λ⟨p,e,b⟩=>by
 unfold e' at h;split at h
 ·grind
 ·grind
 ·grind
 ·exact(a.l2 0 (by omega) (h.1 0 (by omega))).1
 ·exact(a.l2 0 (by omega) (h.1 0 (by omega))).1
 ·omega
 grind
theorem Sw {A A':bA}(q:1<=E.n)(g:e3 E A)(c:e3 E A')(d:oq E A A')(i:(∃ p ∈ bL E,A.bT 0 (bx p)=1)->hT E A):(∃ p ∈ bL E,A'.bT 0 (bx p)=1)->hT E A':=λ⟨p,b,l⟩=>by
 by_cases hm:gh E A'
 ·have a:=d.some_ hm;refine d.mono.lb (i ⟨p,b,?_⟩);have k:=(g.e7 0 (by omega) p b).1;have j:A.bT 0 (bx p)≠0:=λe=>by have:=d.vr a 0 (by omega) p b e;omega
  have f:A.bT 0 (bx p)≠2:=λe=>by
   have:=g.jJ 0 (by omega) p b e 0 (by omega);rw[a 0 (by omega)]at this
   grind
  omega
 ·have:∃ m,m<E.n/\A'.c2 m=true:=by
   refine Classical.byContradiction λo=>hm λm hm=>?_
   grind
  obtain⟨m,h,f⟩:=this;exact(c.l2 m h f).1
theorem Ew {ns:List aO}(h:cO E rs A ns gr c)(a:(gr c).aF=3):Own E A c:=h.own (.inr (.inl ⟨by omega,by omega⟩))
theorem FD (aA:cl E)(R:∀ c ∈ rs,1<=c/\c<6)(h:gx E rs F A g gr)(bb:mQ i m F=some dx) :
  ∃ A' L W,gx E rs dx A' L W/\L.aF=g.aF/\(∀ c,(W c).bare=(gr c).bare)/\(5<=g.aF->oq E A A')/\dU E A A'/\(i=0\/i ∈ rs)/\∃ C C',F.aY[i]?=some C/\dx.aY[i]?=some C'/\iH C'<iH C/\∀ k,k≠i->dx.aY[k]?=F.aY[k]?:=by
 obtain⟨C,l,x,G,H,ae,ar,r⟩:=rj.1 bb;have u:=h.eA.mQ bb;have I:=dk G;have o:l.pair.bj≠[]:=λe=>ar (by grind)
 have bo:fI l.pair:=h.eA.ct.cR C (cu G) l (cu H);have J:=aA.e.n;have t:dx.aY[i]?=some (C.comes m l (l.pair.step x).1 (l.pair.step x).2.2):=by grind
 have N:∀ k,k≠i->dx.aY[k]?=F.aY[k]?:=λk bG=>by grind
 have f:dx.nodes=F.nodes.set m (l.pair.step x).2.1:=by rw[r]
 have ad:=NZ x H bo o;by_cases Z:i=0
 ·subst Z;obtain ⟨aB,af,ag,aT,aV⟩:=h.cz;rw [G] at af;cases af;have K:g.aF<=4:=by
   refine Nat.le_of_not_lt λI=>?_
   exact o ((aV I).2 m l H)
  obtain⟨B,aE⟩:=aT K;obtain⟨v,e1,q,cp,Y⟩:=GQ h.eA G ag H ae o B;obtain⟨A',L,st⟩:=SS aA h.rep h.law h.s0 h.vC K B Y aE;have aI:m<E.n:=by have:=dk ae;rw[h.rep.len]at this;grind
  have j:∀ c ∈ rs,Own E A c->A'=A/\dx.nodes=F.nodes:=λc _ aP=>by rw[f];exact st.stay (aP.1 m aI)
  refine⟨A',L,gr,⟨u,by rw[r];exact h.lines,by rw[r];exact h.hI,by rw[r];simpa using h.sC,by rw[f];exact st.rep,st.law,?_,⟨_,t,ag.comes H x,λ_=>⟨by rw[st.aF];exact st.sv,λe=>by rw[f];exact st.TB (by rw[<-st.aF];exact e)⟩,λe=>b_ e (by rw[st.aF];omega)⟩,st.ok,st.res,λe=>b_ e (by rw[st.aF];omega),λc s=>?_,λc s=>?_,Sv J.1 st.ok st.law (by rw[st.aF];grind),λM m=>by rw[st.dO];exact h.op M m,λc O S D aq=>h.rest c O S D (by grind)⟩,st.aF,λc=>rfl,λe=>by omega,st.gI.mono,.inl rfl,C,_,G,t,ad,N⟩
  ·rcases h.vF with e | ⟨c,a,b,d⟩
   ·exact .inl (st.dY.trans e)
   ·exact .inr ⟨c,a,st.dY.trans b,d⟩
  ·obtain⟨O,a8,U,P,V⟩:=h.rl c s;have:=R c s;refine⟨O,by grind,U,λe=>⟨(P e).1,λT=>?_⟩,V⟩
   rw[(j c s (Ew (h.mJ c s).1 T)).2]
   grind
  ·obtain⟨ah,aW,aZ,bk⟩:=h.mJ c s;refine⟨?_,aW,aZ,bk⟩;by_cases M:h8 (gr c)
   ·obtain⟨a5,ao⟩:=j c s (ah.own M)
    grind
   ·exact ah.gI rfl M st.gI λ_ w=>w
 ·by_cases z:i ∈ rs
  ·have X:=R i z;obtain ⟨aB,af,ag,aT,aV⟩:=h.rl i z;rw [G] at af;cases af;obtain ⟨ah,aW,aZ,bk⟩:=h.mJ i z;have K:(gr i).aF<=9:=by
    refine Nat.le_of_not_lt λI=>?_
    exact o ((aV I).2 m l H)
   obtain⟨B,aR⟩:=aT K;obtain⟨v,e1,q,cp,Y⟩:=GQ h.eA G ag H ae o B;obtain⟨A',L,st⟩:=SU aA X z R h.rep h.law ah aW aZ B Y aR h.vF;have bq:L.aF=(gr i).aF:=Au st.bare;have Q:∀ c,(hR gr i L c).bare=(gr c).bare:=λc=>by
    by_cases e:c=i
    ·subst e;rw[eR];exact st.bare
    grind[j1]
   have j:∀ c ∈ rs,c≠i->Own E A c->A'=A/\dx.nodes=F.nodes:=λc _ aL aP=>by rw[f];exact st.other c aL aP
   refine⟨A',g,hR gr i L,⟨u,by rw[r];exact h.lines,by rw[r];exact h.hI,by rw[r];simpa using h.sC,by rw[f];exact st.rep,st.law,st.dY,?_,h.s0.rec J.1 st.oQ,h.vC.mono st.oQ.mono,λe=>?_,λc s=>?_,λc s=>?_,Sw J.1 h.law st.law st.oQ h.lk,λM=>(by grind[eR]),λc O S D aq=>h.rest c O S D (by grind)⟩,rfl,Q,λ_=>st.oQ,st.oQ.mono,.inr z,C,_,G,t,ad,N⟩
   ·obtain⟨aB,a8,U,P,V⟩:=h.cz;refine⟨aB,by grind,U,λe=>⟨(P e).1,λa4=>?_⟩,V⟩
    have aM:gh E A:=by
     have:=h.s0
     grind[e']
    have ab:=O5 aA ah aM Y.at_;intro k l' y S D bh aq a9;have bD:=aA.k5;rw[f]at D;by_cases a7:k=m
    ·subst a7;rw[vW (dk ae)]at D;cases D;rw[QP Y.h3 ab _ (by omega) (by omega)];exact(P e).2 a4 k l' x S ae bh aq a9
    ·rw[m3 (λao=>a7 ao.symm)]at D;exact(P e).2 a4 k l' y S D bh aq a9
   ·obtain⟨a,b,d⟩:=h.yM e;exact⟨st.oQ.q9 a,λm hm=>st.oQ.dL a m hm (b m hm),λm hm p a'=>st.oQ.vr a m hm p a' (d m hm p a')⟩
   ·by_cases e:c=i
    ·subst e;rw[eR];exact⟨_,t,ag.comes H x,λ_=>⟨st.sv,λT=>by rw[f];exact st.Xb T⟩,λe=>b_ e (by grind)⟩
    ·obtain⟨O,a8,U,P,V⟩:=h.rl c s;rw[j1 e];refine⟨O,by grind,U,λbm=>⟨(P bm).1,λT=>?_⟩,V⟩
     rw[(j c s e (Ew (h.mJ c s).1 T)).2]
     grind
   ·by_cases e:c=i
    ·subst e;rw[eR];exact⟨by rw[f];exact st.ok,st.yZ,st.res,by grind⟩
    ·obtain⟨a1,br,bs,bx⟩:=h.mJ c s;rw[j1 e];refine⟨?_,br,bs,bx⟩;by_cases M:h8 (gr c)
     ·obtain⟨a5,ao⟩:=j c s e (a1.own M);rw[a5,ao];exact a1.stay (j1 e) (wA st.vI)
     ·exact a1.gI (j1 e) M (st.oQ.gI J.1) (wA st.vI)
  ·exact b_ ((h.rest i C Z z G).2.2 m l H) o
end
end
section
open e2
def hy:Nat->Nat
 | 0=>1675
 | 1=>1670
 | 2=>1669
 | 3=>1063
 | 4=>498
 | 5=>486
 | 6=>98
 | 7=>1
 | 8=>1
 | 12=>1680
 | _=>0
theorem v' {k:Nat}:∀ {hj:List bu},(∀ b ∈ hj,cost b<=k)->cost hj.flatten<=hj.length*k
 | [],_=>by simp[cost]
 |b::hj,h=>by
  have d:=v' λc a=>h c (gm _ a)
  grind[List.mem_cons_self,List.flatten_cons,oO,List.length_cons,Nat.succ_mul]
theorem tO {vs:bu}{K:Nat}(h:cost vs<=n*k)(b:n<=m)(a:m*k<=K):cost vs<=K:=m2 h (m2 (rB _ b) a)
section
variable {E:Env}{c:Nat}
theorem Sx (n:Nat):(gP n).length=n*2+1:=by unfold gP;rw[hi,rk (k:=2) (λb a=>by grind)];simp
theorem Sy (E:Env)(sp:cV):(gK E sp).length=sp.length*3:=by unfold gK;rw[rk (k:=3) (λb a=>by grind)];simp
theorem Sz (E:Env)(l:List aD):(fH E l).length=(E.n-1)*(l.length+1):=by unfold fH;rw[rk (k:=l.length+1) (λb a=>by grind)];simp
theorem QQ (a:E.n<=5):cost (iB E.n)<=5/\(iB E.n).length<=1024:=by
 refine⟨?_,by grind[iB]⟩;have h:cost (iB E.n)<=(iB E.n).length*1:=lV λv ar=>by obtain⟨m,_,rfl⟩:=dD.1 ar;exact dr _
 grind[tO,iB]
theorem QR {eO:cV}(a:eO.length<=5):cost (hg eO)<=5/\(hg eO).length<=1024:=by
 refine⟨?_,by grind[hg]⟩;have h:cost (hg eO)<=(hg eO).length*1:=lV λv ar=>by obtain⟨m,_,rfl⟩:=dD.1 ar;exact dr _
 grind[tO,hg]
theorem QS:cost (gZ c)<=1/\(gZ c).length<=1024:=by
 refine⟨?_,by simp[gZ]⟩;have h:cost (gZ c)<=(gZ c).length*1:=lV λv ar=>by simp only[gZ,rK]at ar;subst ar;exact dr _
 exact h
theorem QT:cost (gN c)<=1/\(gN c).length<=1024:=by
 refine⟨?_,by simp[gN]⟩;have h:cost (gN c)<=(gN c).length*1:=lV λv ar=>by simp only[gN,rK]at ar;subst ar;exact dr _
 exact h
theorem o7 {v:bE}(h:v.v.count.toNat<=k):cost [v]<=k:=by
 have h:cost [v]<=([v]:bu).length*k:=lV λu hu=>by
  grind
 grind
theorem QU (f:E.n<=5):cost (gP E.n)<=606/\(gP E.n).length<=1024:=by
 refine⟨?_,by grind[Sx]⟩;unfold gP;rw[oO];have a:cost ((List.range E.n).map λm=>[c5 m 24 1,c5 m 48 120]).flatten<=((List.range E.n).map λm=>[c5 m 24 1,c5 m 48 120]).length*121:=v' λb d=>by
  obtain⟨m,_,rfl⟩:=dD.1 d;have:cost ([c5 m 24 1]++[c5 m 48 120])<=121:=by rw[oO];have a:cost [c5 m 24 1]<=1:=o7 (dr _);have c:cost [c5 m 48 120]<=120:=o7 (dr _);omega
  grind
 have c:=tO a (show _<=5 by grind) (dr (5*121));have e:cost [c5 0 32 1]<=1:=o7 (dr _);omega
theorem QV (aA:cl E)(f:sp.length<=5):cost (gK E sp)<=565/\(gK E sp).length<=1024:=by
 refine⟨?_,by grind[Sy]⟩;unfold gK;have a:cost (sp.map λm=>[cH m 48 [0],cH m 56 (fE E),cH m 48 [hQ E]]).flatten<=(sp.map λm=>[cH m 48 [0],cH m 56 (fE E),cH m 48 [hQ E]]).length*113:=v' λb c=>by
  obtain⟨m,_,rfl⟩:=dD.1 c;have:cost ([cH m 48 [0]]++([cH m 56 (fE E)]++[cH m 48 [hQ E]]))<=113:=by
   rw[oO,oO];have a:cost [cH m 48 [0]]<=1:=o7 (dr _);have d:cost [cH m 56 (fE E)]<=111:=o7 (by have:=aA.k5;show((fE E).length:Int).toNat<=111;omega)
   have e:cost [cH m 48 [hQ E]]<=1:=o7 (dr _);omega
  grind
 grind
theorem QW (aA:cl E):cost (gQ (bL E))<=12/\(gQ (bL E)).length<=1024:=by
 refine⟨?_,by have:=aA.k5.2;grind[gQ]⟩;have h:cost (gQ (bL E))<=(gQ (bL E)).length*1:=lV λv ar=>by obtain⟨m,_,rfl⟩:=dD.1 ar;exact dr _
 exact tO h (show _<=12 by unfold gQ;simpa using aA.k5.2) (by omega)
theorem QY {a:List aD}(b:a.length<=12):cost (ix a)<=12/\(ix a).length<=1024:=by
 refine⟨?_,by grind[ix]⟩;have h:cost (ix a)<=(ix a).length*1:=lV λv ar=>by obtain⟨m,_,rfl⟩:=dD.1 ar;exact dr _
 grind[tO,ix]
theorem Ex {l:List aD}(a:l.length<=12):cost (l.map (fD m))<=96:=by
 have h:cost (l.map (fD m))<=(l.map (fD m)).length*8:=lV λv ar=>by obtain⟨m,_,rfl⟩:=dD.1 ar;exact dr _
 grind
theorem FE {l:List aD}(b:l.length<=12):cost (f' E l)<=97/\(f' E l).length<=1024:=by
 refine⟨?_,by grind[f']⟩;have h:f' E l=[cH 0 32 [dv E]]++l.map (fD 0):=rfl;rw[h,oO];have a:cost [cH 0 32 [dv E]]<=1:=o7 (dr _)
 grind[Ex]
theorem FF (d:E.n<=5){l:List aD}(f:l.length<=12):cost (fH E l)<=388/\(fH E l).length<=1024:=by
 refine⟨?_,by have:=Sz E l;have e:(E.n-1)*(l.length+1)<=4*13:=vO (by omega) (by omega);omega⟩;unfold fH;have a:cost ((List.range (E.n-1)).map λm=>l.map (fD (m+1))++[cH (m+1) 32 [dv E]]).flatten<=((List.range (E.n-1)).map λm=>l.map (fD (m+1))++[cH (m+1) 32 [dv E]]).length*97:=v' λb c=>by
  obtain⟨m,_,rfl⟩:=dD.1 c;rw[oO];have a:cost [cH (m+1) 32 [dv E]]<=1:=o7 (dr _)
  grind[Ex]
 grind
end
theorem wB {D:cw}{d:cW}(h:D[q]?=some d):dE D q=d_ d:=by
 grind[dE]
def hc:Nat->Option cW:=λ_=>none
def nE (aF:Nat):c8:=⟨aF,hc,[],[],0,[],[],[],(0,0)⟩
def mW (aF:Nat):Nat:=if aF<=7 then aF else aF-1
theorem mR {a b:Nat}(h:a<b)(c:¬ (a=7/\b=8)):a=12\/mW a<mW b:=.inr (by grind[mW])
structure je (E:Env)(rs:cV)(A:bA)(ns:List aO)(gr:Nat->c8)(c:Nat)(G:bn)(s:c8):Prop where
 up:(gr c).aF=12\/mW (gr c).aF<mW s.aF
 ok:cO E rs A ns (hR gr c s) c
 yZ:lM E s
 bC:s.bC=hc
 vI:gM (gr c)->gM s
 holds:h8 (gr c)->h8 s
 go:(s.aF<=9/\fz (cG E c) G=(cZ E c s,⟨0,0,0,0,0⟩,false)/\Kp E c G (ez E c s)/\cZ E c s≠[]/\cost (cZ E c s)+hy s.aF<=hy (gr c).aF/\(cZ E c s).length<=1024)\/(s.aF=10/\fz (cG E c) G=([],⟨0,s.di.1,s.di.2,jI E.L s.cU s.aX,0⟩,true))\/(s.aF=11/\∃ w,fz (cG E c) G=([],⟨3,0,0,0,w⟩,true))
section
variable {E:Env}{rs:cV}{A:bA}{ns:List aO}{gr:Nat->c8}{c:Nat}{G:bn}{D:cw}
structure kn (E:Env)(c:Nat)(g:c8)(D:cw):Prop where
 fit:Fit (cZ E c g) D
 to:∀ q d,g.bC q=some d->D[q]?=some d
 all:∀ q,q<(cZ E c g).length->∃ d,g.bC q=some d
theorem kn.bC (h:kn E c (gr c) D){q:Nat}{v:bE}(ar:(cZ E c (gr c))[q]?=some v):∃ d,(gr c).bC q=some d/\D[q]?=some d:=by obtain⟨d,a⟩:=h.all q (dk ar);exact⟨d,a,h.to q d a⟩
theorem n2 (aA:cl E)(g:1<=c/\c<6){s:c8}(e:s.aF<=9)(d:Kp E c G (ez E c s))(f:(ez E c s []).1.ask=some (cZ E c s))(b:cZ E c s≠[])(a:cost (cZ E c s)+hy s.aF<=hy (gr c).aF/\(cZ E c s).length<=1024):(s.aF<=9/\fz (cG E c) G=(cZ E c s,⟨0,0,0,0,0⟩,false)/\Kp E c G (ez E c s)/\cZ E c s≠[]/\cost (cZ E c s)+hy s.aF<=hy (gr c).aF/\(cZ E c s).length<=1024)\/(s.aF=10/\fz (cG E c) G=([],⟨0,s.di.1,s.di.2,jI E.L s.cU s.aX,0⟩,true))\/(s.aF=11/\∃ w,fz (cG E c) G=([],⟨3,0,0,0,w⟩,true)):=
 .inl ⟨e,d.ask aA g f,d,b,a⟩
theorem AW (h:(gr c).aF=12\/(gr c).aF<=1)(hw:gM (gr c)):P:=by rcases hw with⟨g,_⟩ | ⟨a,b⟩<;>omega
theorem Av (h:(gr c).aF=12\/(gr c).aF<=1)(hw:h8 (gr c)):P:=by rcases hw with⟨g,_⟩ | ⟨a,b⟩ | ⟨g,_⟩<;>omega
theorem SA (aA:cl E)(a:1<=c/\c<6)(e:(gr c).aF=12):je E rs A ns gr c [] (nE 0):=by
 refine⟨.inl e,?_,⟨λh=>(by have:4<=0:=h.1;omega),λh=>(by have:0=8:=h;omega)⟩,rfl,λh=>AW (.inl e) h,λh=>Av (.inl e) h,n2 aA a (by show 0<=9;omega) TX (Rv aA.e.n.1) (Bb aA.e.n.1) ?_⟩
 ·unfold cO;rw[eR];show∀ m,m<E.n->∀ d,hc m=some d->_;intro m _ d h;cases h
 ·rw[e];have:=QQ (E:=E) aA.e.n.2;show cost (iB E.n)+1675<=1680/\(iB E.n).length<=1024;omega
theorem Kp.congr {f a:bn->cq×dA}(h:Kp E c G f)(he:∀ X,f X=a X):Kp E c G a:=λX=>(h X).trans (he X)
theorem DK (aA:cl E)(a:1<=c/\c<6)(e:(gr c).aF<=1)(g:Kp E c G (k6 E c))(f:jf E A):je E rs A ns gr c G (nE 2):=by
 refine⟨(mR (b:=2) (by omega) (by omega)),?_,⟨λh=>(by have:4<=2:=h.1;omega),λh=>(by have:2=8:=h;omega)⟩,rfl,λh=>AW (.inr e) h,λh=>Av (.inr e) h,n2 aA a (by show 2<=9;omega) g (Si a.2) (by show gZ c≠[];simp[gZ]) ?_⟩
 ·unfold cO;rw[eR];exact⟨f,λd h=>by cases h⟩
 ·have:=QS (c:=c);have i:1670<=hy (gr c).aF:=by
   obtain e | e:(gr c).aF=0\/(gr c).aF=1:=by omega
   ·rw[e];show 1670<=1675;omega
   ·rw[e];exact dr _
  show cost (gZ c)+1669<=_/\(gZ c).length<=1024;omega
theorem FN:m ∈ kG n D↔m<n/\dE D m=1:=by
 grind[kG]
theorem SV (aA:cl E)(k:1<=c/\c<6)(e:(gr c).aF=0)(o:Kp E c G (ez E c (gr c)))(x:cO E rs A ns gr c)(p:kn E c (gr c) D):∃ s,je E rs A ns gr c (G++[D]) s:=by
 have u:=aA.e.n;have j:cZ E c (gr c)=iB E.n:=by grind[cZ]
 have r:ez E c (gr c)=qX E c:=by grind[ez]
 have hw:∀ i,i<E.n->dE D i=1\/(dE D i=2/\A.dO i=true):=λi l=>by
  obtain⟨d,y,z⟩:=p.bC (q:=i) (v:=c5 i 24 1) (by grind[iB,List.getElem?_range])
  grind[cO,wB]
 have a:=p.fit;rw[j]at a;rw[r]at o;have g:Kp E c (G++[D]) (mz E c (kG E.n D)):=o.next λX=>Q_ u.1 a (λi l=>(hw i l).imp id And.left) X
 have f:∀ m,m<E.n->m ∉ kG E.n D->A.dO m=true:=λm hm w=>by
  grind[FN]
 by_cases ax:kG E.n D=[]
 ·refine⟨_,DK aA k (by omega) (g.congr λX=>by grind[Sg]) λm hm=>f m hm (by grind)⟩
 ·have t:(kG E.n D).length<=5:=by
   grind[List.length_filter_le,dE,List.length_range,kG]
  refine⟨⟨1,hc,kG E.n D,[],0,[],[],[],(0,0)⟩,(mR (b:=1) (by omega) (by omega)),?_,⟨λh=>(by grind),λh=>(by grind)⟩,rfl,λh=>AW (.inr (by omega)) h,λh=>Av (.inr (by omega)) h,n2 aA k (by grind) g (Sh ax) (by show hg _≠[];unfold hg;simp_all) ?_⟩
  ·unfold cO;rw[eR];exact⟨f,λm hm=>(FN.1 hm).1,λq m d _ h=>by cases h⟩
  ·rw[e];have:=QR t;show cost (hg (kG E.n D))+1670<=1675/\(hg (kG E.n D)).length<=1024;omega
theorem SW (aA:cl E)(o:1<=c/\c<6)(e:(gr c).aF=1)(g:cZ E c (gr c)≠[])(h:Kp E c G (ez E c (gr c)))(f:cO E rs A ns gr c)(j:kn E c (gr c) D):∃ s,je E rs A ns gr c (G++[D]) s:=by
 have w:=aA.e.n;have b:cZ E c (gr c)=hg (gr c).eO:=by grind[cZ]
 have p:ez E c (gr c)=mz E c (gr c).eO:=by grind[ez]
 unfold cO at f;rw[e]at f;obtain⟨t,b8,u⟩:=f;have ax:(gr c).eO≠[]:=λk=>g (by rw[b,k];rfl)
 have l:∀ {q m:Nat},(gr c).eO[q]?=some m->∃ d,(gr c).bC q=some d/\D[q]?=some d:=λ{q m} x=>j.bC (q:=q) (v:=fV m 24 1 2) (by grind[hg])
 have a:=j.fit;rw[b]at a;rw[p]at h;refine⟨_,DK aA o (by omega) (h.next λX=>Q' ax a (λi r=>?_) X) λm hm=>?_⟩
 ·obtain⟨m,hm⟩:∃ m,(gr c).eO[i]?=some m:=⟨_,bW r⟩
  grind[wB]
 grind[List.mem_iff_getElem?]
theorem SX (aA:cl E)(j:1<=c/\c<6)(e:(gr c).aF=2)(l:Kp E c G (ez E c (gr c)))(k:cO E rs A ns gr c)(u:kn E c (gr c) D):∃ s,je E rs A ns gr c (G++[D]) s:=by
 have F:=aA.e.n;have g:cZ E c (gr c)=gZ c:=by grind[cZ]
 have C:ez E c (gr c)=k6 E c:=by grind[ez]
 unfold cO at k;rw[e]at k;obtain⟨w,b8⟩:=k;obtain⟨d,z,p⟩:=u.bC (q:=0) (v:=fV 0 49 0 (gJ c)) (by rw[g];rfl);have a:=u.fit;rw[g]at a;rw[C]at l;have hw:mc D=d_ d:=by
  cases D with
  |nil=>grind
  |cons x xs=>simp at p;subst p;rfl
 rcases b8 d z with⟨b1,az⟩ | ⟨c',b1,az,H,I⟩
 ·refine⟨nE 3,(mR (b:=3) (by omega) (by omega)),?_,⟨λh=>(by have:4<=3:=h.1;omega),λh=>(by have:3=8:=h;omega)⟩,rfl,λ_=>.inr ⟨by show 3<=3;omega,by show 3<=10;omega⟩,λ_=>.inr (.inl ⟨by show 3<=3;omega,by show 3<=8;omega⟩),n2 aA j (by show 3<=9;omega) (l.next λX=>Ra j.2 a (hw.trans b1) X) Sj (Bd _) ?_⟩
  ·unfold cO;rw[eR];exact⟨⟨w,az⟩,λq v d _ h=>by cases h⟩
  ·rw[e];have:=QU (E:=E) F.2;show cost (gP E.n)+1063<=1669/\(gP E.n).length<=1024;omega
 ·have r:d_ d≠0:=by grind[Ar]
  have o:=l.next λX=>Rb j.2 a (by grind) (by grind[Et]) X
  have t:∀ f,(gr c).bC 0=some f->d_ f≠0:=λf B=>by grind
  refine⟨nE 11,(mR (b:=11) (by omega) (by omega)),?_,⟨λh=>(by have:11<=7:=h.2;omega),λh=>(by have:11=8:=h;omega)⟩,rfl,λh=>?_,λh=>?_,.inr (.inr ⟨rfl,_,o.out aA j rfl rfl rfl⟩)⟩
  ·unfold cO;rw[eR];exact⟨c',b1,az,by grind[j1]⟩
  ·rcases h with⟨_,f,i,y⟩ | ⟨i,_⟩
   ·grind
   ·omega
  ·rcases h with⟨_,f,i,y⟩ | ⟨i,_⟩ | ⟨i,_⟩
   ·grind
   ·omega
   ·omega
end
end
end Go.Proofs.YtmkljjbioomepaaGreat
