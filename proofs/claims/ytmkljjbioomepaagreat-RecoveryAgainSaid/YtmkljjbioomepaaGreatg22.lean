import Derived.Test.YtmkljjbioomepaaGreatg21
set_option linter.all false
set_option maxHeartbeats 4000000
set_option maxRecDepth 100000
namespace Go.Proofs.YtmkljjbioomepaaGreat
open Go.Proofs.Tryz Go.bJ
variable {P:Prop}{c i j k m n q:Nat}{sp:c6}
section
open dF
theorem Ex (h:Int):dK h 0 % 2=1:=by
 unfold dK jV;have a:(BitVec.ofInt IntKind.u64.bits h ||| BitVec.ofInt IntKind.u64.bits (0+1)).toNat % 2=1:=by
  grind[BitVec.toNat_or,Nat.or_mod_two_eq_one]
 have b:=(BitVec.ofInt IntKind.u64.bits h ||| BitVec.ofInt IntKind.u64.bits (0+1)).isLt;rw[ly (by omega) (by have:2 ^ IntKind.u64.bits=18446744073709551616:=rfl;omega)];omega
theorem rT {α:Type}{k:Nat}:∀ {hS:List (List α)},(∀ b ∈ hS,b.length=k)->hS.flatten.length=hS.length*k
 | [],_=>by simp
 |b::hS,h=>by rw[lD,fF,h b fR,rT λc a=>h c (fG _ a),h3,uk,Nat.add_comm]
theorem Hz {E:Env}{v:bc}(h:(g6 E sp)[q]?=some v):∃ k m,sp[k]?=some m/\((q=k*3/\v=ca m 48 [0])\/(q=k*3+1/\v=ca m 56 (hk E))\/(q=k*3+2/\v=ca m 48 [iH E]/\(g6 E sp)[k*3]?=some (ca m 48 [0]))):=by
 have f:∀ b ∈ sp.map (λm=>[ca m 48 [0],ca m 56 (hk E),ca m 48 [iH E]]),b.length=3:=λb f=>by
  grind
 obtain⟨k,b,c,i,a⟩:=wO (by omega) f h;have d:=c;rw[fQ]at c;obtain⟨m,hm,rfl⟩:=lC.1 c;refine⟨k,m,hm,?_⟩;have g:=cS a;simp at g;obtain e | e | e:q-k*3=0\/q-k*3=1\/q-k*3=2:=by omega
 all_goals
  rw[e]at a;simp at a;subst a
 ·grind
 ·grind
 ·exact .inr (.inr ⟨by omega,rfl,ug (r:=0) f d rfl⟩)
theorem A7 {v:bc}(h:(fc n)[q]?=some v):(∃ m,m<n/\((q=2*m/\v=cb m 24 1)\/(q=2*m+1/\v=cb m 48 120)))\/(q=2*n/\v=cb 0 32 1):=by
 have a:∀ b ∈ (List.range n).map (λm=>[cb m 24 1,cb m 48 120]),b.length=2:=λb a=>by
  grind
 have f:((List.range n).map (λm=>[cb m 24 1,cb m 48 120])).flatten.length=2*n:=by
  rw[rT a]
  grind
 unfold fc at h;by_cases g:q<2*n
 ·rw[zr (by omega)]at h;obtain⟨k,b,c,d,e⟩:=wO (by omega) a h
  grind
 grind
def ik (gr:Nat->c1)(c:Nat)(g:c1):Nat->c1:=λk=>if k=c then g else gr k
theorem e5 (gr:Nat->c1)(c:Nat)(g:c1):ik gr c g c=g:=bh rfl
theorem kF {gr:Nat->c1}{g:c1}(h:k≠c):ik gr c g k=gr k:=aQ h
def c1.add (g:c1)(q:Nat)(d:cN):c1:={g with bg:=fD g.bg q d}
def rj (C:a9)(ns:List aD):Prop:=∀ (k:Nat) (l:ct) (y:aD),C.az[k]?=some l->ns[k]?=some y->∀ (a n:Int) (b:a_),l.pair.a1=cb k a n::b->l.pair.words=(y.words.drop a.toNat).take (8*l.pair.b4)
theorem rj.step {C:a9}{ns:List aD}(h:rj C ns){l:ct}{x:aD}(f:C.az[j]?=some l)(r:ns[j]?=some x){p:cH}{d:Option cN}(q:∀ (a n:Int) (b:a_),p.a1=cb j a n::b->p.words=(x.words.drop a.toNat).take (8*p.b4)):rj (C.comes j l p d) ns:=by
 intro k l' y c g a n b al;by_cases e:k=j
 ·subst e;obtain⟨l2,i,o⟩:=yV f p d
  grind
 ·rw[k8 e]at c;exact h k l' y c g a n b al
section
variable {E:Env}{A:bn}{rs:c6}{gr:Nat->c1}{c:Nat}
theorem m2.add (h:m2 E c (gr c)){q:Nat}{v:bc}(al:(c7 E c (gr c))[q]?=some v){d:cN}(g:d.code=0)(j:(d.words.length:Int)=v.v.hi):m2 E c ((gr c).add q d):=λq' a i=>by
 rcases ld i with⟨b,f⟩ | ⟨_,e⟩
 ·subst b f;exact⟨v,al,g,j⟩
 ·exact h q' a e
def c1.bare (g:c1):c1:={g with bg:=λ_=>none}
structure Hx (E:Env)(rs:c6)(A:bn)(gr:Nat->c1)(c:Nat)(ns:List aD)(j:Nat)(C:a9)(l:ct)(x:aD)(A':bn)(k7:c1):Prop where
 bare:k7.bare=(gr c).bare
 rep:hQ E A' (ns.set j (l.pair.step x).2.1)
 law:e8 E A'
 ok:cQ E rs A' (ns.set j (l.pair.step x).2.1) (ik gr c k7) c
 yT:mf E k7
 res:m2 E c k7
 s5:g8 (C.comes j l (l.pair.step x).1 (l.pair.step x).2.2) (c7 E c k7) k7.bg
 W8:k7.aE=3->rj (C.comes j l (l.pair.step x).1 (l.pair.step x).2.2) (ns.set j (l.pair.step x).2.1)
 py:o1 E A A'
 other:∀ c',c'≠c->Own E A c'->A'=A/\ns.set j (l.pair.step x).2.1=ns
 dM:ve rs A' (ik gr c k7)
 we:g' (gr c)->g' k7
theorem tJ:o1 E A A:=⟨dq.refl E A,λh=>h,λh=>h,λ_ _ _ h=>h,λ_ _ _ _ _ h=>h,λ_ _ _ h=>.inl h⟩
theorem Aw (e:1<=E.n){A':bn}(d:∃ m,m<E.n/\A.cX m=true)(hm:dq E A A'):o1 E A A':=by
 obtain⟨m,c,a⟩:=d;have no:¬ ff E A:=λh=>by rw[h m c]at a;cases a
 have b:¬ ff E A':=λh=>by have:=hm.cX m a;rw[h m c]at this;grind
 exact⟨hm,λh=>cp h no,λh=>cp h b,λh=>cp h no,λh=>cp h no,λh=>cp h no⟩
theorem mz {A':bn}(h:ve rs A gr)(b:A'.dM=A.dM){a:c1}(g:iD (gr c)->iD a):ve rs A' (ik gr c a):=by
 rcases h with h | ⟨c',d,e,f⟩
 ·exact .inl (b.trans h)
 ·refine .inr ⟨c',d,b.trans e,?_⟩
  grind[e5,kF]
theorem wP {a:c1}(h:g' (gr c)->g' a):∀ c',g' (gr c')->g' (ik gr c a c'):=λc' hw=>by
 grind[e5,kF]
theorem Tj (au:b8 E)(dx:1<=c/\c<6)(cy:c ∈ rs)(dT:∀ c ∈ rs,1<=c/\c<6){ns:List aD}{C:a9}{l:ct}{x:aD}{v:bc}{e2:a_}{cx:c6}(ad:hQ E A ns)(T:e8 E A)(H:cQ E rs A ns gr c)(aV:mf E (gr c))(af:m2 E c (gr c))(a':g8 C (c7 E c (gr c)) (gr c).bg)(o:Az E ns c j C (c7 E c (gr c)) (gr c).bg l x v e2 q cx)(bI:(gr c).aE=3->rj C ns)(O:ve rs A gr) :
  ∃ A' cj,Hx E rs A gr c ns j C l x A' cj:=by
 have a0:=au.e.n;have dv:=au.e.L;have i:=ad.mem j x o.node;have G:j<E.n:=by have:=cS o.node;rw[ad.len]at this;grind
 have dU:=i.aT.len;have dB:=au.jG;have t:=o.at_;have F:=o.ia;have ref:e9 E.n E.L v->l.pair.refusal v x=0:=λae=>by
  rw[AJ i.aT a0.2 ae o.pc o.pi dx.2]
  grind
 have fin:∀ {d:cN},(l.pair.step x).1=l.pair.done->(l.pair.step x).2.2=some d->g8 (C.comes j l (l.pair.step x).1 (l.pair.step x).2.2) (c7 E c ((gr c).add q d)) ((gr c).add q d).bg:=λ{d} z I=>by rw[z,I];exact a'.done o.lane o.ia (by show l.pair.a1.tail=e2;grind) o.pl d
 have Z:∀ (q':Nat) (bk:bc),q'<q->(c7 E c (gr c))[q']?=some bk->bk.node.toNat=j->∃ d,(gr c).bg q'=some d/\d.code=0:=λq' bk z I a8=>by
  obtain⟨d,aH⟩:=a'.before o.lane o.pl z I a8;obtain⟨v2,_,Y,_⟩:=af q' d aH
  grind
 have s:∀ d,mf E ((gr c).add q d):=λd=>aV
 have M:∀ {P:Prop},Own E A c->∀ c',c'≠c->Own E A c'->P:=λh c' aO bx=>cp (h.one bx).symm aO
 have R:(gr c).aE≠3->∀ {P:Prop},(gr c).aE=3->P:=λh {P} bx=>cp bx h
 have one:∀ {a:Nat} {ws:a7},v=ca j (a:Int) ws->e9 E.n E.L v->a % 8=0->ws.length<=8->a+ws.length<=x.words.length->l.pair.step x=(l.pair.done,x.write a ws,some ⟨0,[]⟩):=λ{a ws} e ae de cm dA=>by have D:=ref ae;rw[e]at F D;exact Hw o.cg F D de (o.nb _ _ F rfl) dA cm
 have aZ:∀ {a:Nat},v=cb j (a:Int) 1->e9 E.n E.L v->a<x.words.length->l.pair.step x=(l.pair.done,x,some ⟨0,[x.get a]⟩):=λ{a} e ae de=>by
  have D:=ref ae;rw[e]at F D;have cP:(cb j (a:Int) 1).v.pieces=[((a:Int),1)]:=pk (v:=(cb j (a:Int) 1).v) (by show(1:Int)<=1;omega) (by show(a:Int) % 8+1<=8;omega) (by show(0:Int)<=a;omega);rw[EZ o.cg F D cP];have he:=Mr (x:=cb j (a:Int) 1) rfl (by show(0:Int)<=a;omega) (n:=x) (by show((a:Int)).toNat<_;omega)
  grind[exec,cb]
 have same:∀ {d:cN},l.pair.step x=(l.pair.done,x,some d)->d.code=0->(d.words.length:Int)=v.v.hi->cQ E rs A ns (ik gr c ((gr c).add q d)) c->(iD (gr c)->iD ((gr c).add q d))->(g' (gr c)->g' ((gr c).add q d))->(gr c).aE≠3->∃ A' cj,Hx E rs A gr c ns j C l x A' cj:=λ{d} f z I a8 dd dt du=>by
  have V:(l.pair.step x).2.1=x:=by rw[f]
  exact⟨A,(gr c).add q d,rfl,by rw[V,lY o.node];exact ad,T,by rw[V,lY o.node];exact a8,s d,af.add t z I,fin (by rw[f]) (by rw[f]),R du,tJ,λ_ _ _=>⟨rfl,by rw[V,lY o.node]⟩,mz O rfl dd,dt⟩
 have dN:(gr c).aE<=9:=by
  grind[Nat.le_of_not_lt,c7]
 obtain e | e | e | e | e | e | e | e | e | e:(gr c).aE=0\/(gr c).aE=1\/(gr c).aE=2\/(gr c).aE=3\/(gr c).aE=4\/(gr c).aE=5\/(gr c).aE=6\/(gr c).aE=7\/(gr c).aE=8\/(gr c).aE=9:=by omega
 ·
  unfold cQ at H;rw[e]at H;have b:=t
  unfold c7 at b;rw[e]at b;simp only[eA,fQ]at b;obtain⟨m,hm,rfl⟩:=lC.1 b;have ao:=cS hm;rw[nO]at ao;rw[si ao]at hm;cases hm;have cR:q=j:=by have:=o.nd;grind[cb]
  subst cR;have f:=aZ (a:=24) rfl (mE a0.2 ao (by omega) (by omega) (by omega) (by omega) (.inr (by omega))) (by omega);refine same f rfl rfl ?_ (λh=>by rcases h with⟨g,_⟩ | ⟨g,_⟩ | ⟨g,_⟩<;>omega) (λh=>by rcases h with⟨g,_⟩ | ⟨g,_⟩<;>omega) (by omega);unfold cQ;rw[e5];simp only[c1.add,e];intro B ab d aH;rcases ld aH with⟨N,Y⟩ | ⟨_,N⟩
  ·subst N Y;show x.get 24=1\/(x.get 24=2/\_);rw[i.aT.d0]
   grind
  grind
 ·
  unfold cQ at H;rw[e]at H;obtain⟨K,bW,S⟩:=H;have b:=t
  unfold c7 at b;rw[e]at b;simp only[eJ,fQ]at b;obtain⟨m,hm,rfl⟩:=lC.1 b;have U:m=j:=by have:=o.nd;grind[c9]
  subst U;have f:=u1 (a:=24) (x:=x) o.cg F (ref (lo a0.2 G (by omega) (by omega) (by omega)));have bO:iD (gr c)->iD ((gr c).add q ⟨0,[x.get 24]⟩):=λh=>by rcases h with⟨g,_⟩ | ⟨g,_⟩ | ⟨g,_⟩<;>omega
  have aP:g' (gr c)->g' ((gr c).add q ⟨0,[x.get 24]⟩):=λh=>by rcases h with⟨g,_⟩ | ⟨g,_⟩<;>omega
  have cV:ed ⟨0,[x.get 24]⟩=1\/ed ⟨0,[x.get 24]⟩=2:=by
   show x.get 24=1\/x.get 24=2;rw[i.aT.d0]
   grind
  have Q:∀ {A':bn} {ns':List aD},dq E A A'->A'.c0 m=true->cQ E rs A' ns' (ik gr c ((gr c).add q ⟨0,[x.get 24]⟩)) c:=λ{A' ns'} r dy=>by
   unfold cQ;rw[e5];simp only[c1.add,e];refine⟨λB z I=>r.c0 B (K B z I),bW,λq' B d z I=>?_⟩;rcases ld I with⟨N,Y⟩ | ⟨_,N⟩
   ·grind
   ·obtain⟨b1,br⟩:=S q' B d z N;exact⟨r.c0 B b1,br⟩
  cases bA:A.c0 m with
  |true=>
   have u:x.dr ((24:Nat):Int) 1 2=x:=by unfold aD.dr;rw[hD,i.aT.d0,bA,aQ (by simp)]
   rw[u]at f;exact same f rfl rfl (Q (dq.refl E A) bA) bO aP (by omega)
  |false=>
   have dn:x.get 24=1:=by rw[i.aT.d0,bA];rfl
   have u:x.dr ((24:Nat):Int) 1 2={x with words:=x.words.set 24 2}:=by
    unfold aD.dr
    grind
   rw[u]at f;have r:dq E A (A.pC m):=P4;have V:(l.pair.step x).2.1={x with words:=x.words.set 24 2}:=by rw[f]
   refine⟨A.pC m,(gr c).add q ⟨0,[x.get 24]⟩,rfl,by rw[V];exact ad.fD o.node (i.Br au) (λB ab y bh=>bh.same (λ_ _=>rfl) rfl rfl rfl (by grind[bn.pC]) (λ_=>rfl)),T.Br m,Q r (by simp[bn.pC]),s _,af.add t rfl rfl,fin (by rw[f]) (by rw[f]),R (by omega),⟨r,λh=>h,λh=>h,λ_ _ _ h=>h,λ_ _ _ _ _ h=>h,λ_ _ _ h=>.inl h⟩,λc' _ bx=>?_,mz O rfl bO,aP⟩;have:=bx.1 m G
   grind
 ·
  have bP:¬ iD (gr c):=λh=>by
   rcases h with⟨_,d,z,_⟩ | ⟨g,_⟩ | ⟨g,_⟩
   ·have b:=t
    unfold c7 at b;rw[e]at b;have ao:=cS b;simp[ft]at ao;subst ao;rw[o.bg]at z;cases z
   ·omega
   ·omega
  have aP:¬ g' (gr c):=λh=>by
   rcases h with h | ⟨g,_⟩
   ·exact bP (.inl h)
   ·omega
  unfold cQ at H;rw[e]at H;have b:=t
  unfold c7 at b;rw[e]at b;have ao:=cS b;simp[ft]at ao;subst ao;simp[ft]at b;subst b;have W:j=0:=by have:=o.nd;grind[c9]
  subst W;have f:=u1 (a:=49) (x:=x) o.cg F (ref (lo a0.2 G (by omega) (by omega) (by omega)));have aX:=i.dM rfl;have Q:∀ {A':bn} {ns':List aD} {w:Int},dq E A A'->((w=0/\A'.dM=dp c)\/∃ c' ∈ rs,c'≠c/\w=dp c'/\g' (gr c'))->cQ E rs A' ns' (ik gr c ((gr c).add 0 ⟨0,[w]⟩)) c:=λ{A' ns' w} r hw=>by
   unfold cQ;rw[e5];simp only[c1.add,e];refine⟨r.bg H.1,λd aH=>?_⟩;rcases ld aH with⟨_,Y⟩ | ⟨N,_⟩
   ·subst Y;rcases hw with g | ⟨c',b1,br,b_,d9⟩
    ·exact .inl g
    ·exact .inr ⟨c',b1,br,b_,by grind[kF]⟩
   grind
  by_cases b3:A.dM=0
  ·rw [b3] at aX;have u:x.dr ((49:Nat):Int) 0 (dp c)={ x with words:=x.words.set 49 (dp c) }:=by
    unfold aD.dr
    grind
   rw[u,aX]at f;have r:dq E A (A.pD (dp c)):=Fo;have V:(l.pair.step x).2.1={x with words:=x.words.set 49 (dp c)}:=by rw[f]
   refine⟨A.pD (dp c),(gr c).add 0 ⟨0,[0]⟩,rfl,by rw[V];exact ad.fD o.node (i.tag au _) (λB ab y bh=>bh.same (λ_ _=>rfl) rfl rfl rfl rfl (λaB=>cp aB ab)),T.tag _,Q r (.inl ⟨rfl,rfl⟩),s _,af.add t rfl rfl,fin (by rw[f]) (by rw[f]),R (by omega),⟨r,λh=>h,λh=>h,λ_ _ _ h=>h,λ_ _ _ _ _ h=>h,λ_ _ _ h=>.inl h⟩,λc' _ bx=>?_,.inr ⟨c,cy,rfl,?_⟩,λh=>cp h aP⟩
   ·exact cp (bx.2.symm.trans b3) (Au c')
   ·rw[e5];exact .inl ⟨e,⟨0,[0]⟩,tY (gr c).bg 0 ⟨0,[0]⟩,rfl⟩
  ·obtain ⟨c',b1,br,b_⟩:∃ c' ∈ rs,A.dM=dp c'/\iD (gr c'):=by
    rcases O with h | h
    ·grind
    grind
   have aO:c'≠c:=λaB=>by grind
   have u:x.dr ((49:Nat):Int) 0 (dp c)=x:=by
    unfold aD.dr
    grind
   rw[u,aX]at f;refine same f rfl rfl (Q (dq.refl E A) (.inr ⟨c',b1,aO,br,?_⟩)) (λh=>cp h bP) (λh=>cp h aP) (by omega);rcases b_ with g | ⟨N,Y⟩ | ⟨N,Y⟩
   ·exact .inl g
   ·exact .inr ⟨N,by omega⟩
   ·exact .inr ⟨by omega,by omega⟩
 ·
  have cI:=H;unfold cQ at H;rw[e]at H;obtain⟨K,bW⟩:=H;have b:=t
  unfold c7 at b;rw[e]at b;have b:(fc E.n)[q]?=some v:=b;have ba:∃ a k:Nat,v=cb j (a:Int) (k:Int)/\e9 E.n E.L v/\(a % 8=0\/k=1)/\a+k<=x.words.length:=by
   rcases A7 b with⟨m,hm,⟨_,al⟩ | ⟨_,al⟩⟩ | ⟨_,al⟩
   ·have U:m=j:=by have:=o.nd;grind[cb]
    subst U;exact⟨24,1,al,by grind[mE],.inr rfl,by omega⟩
   ·have U:m=j:=by have:=o.nd;grind[cb]
    subst U;exact⟨48,120,al,by grind[mE],.inl (by omega),by omega⟩
   ·have U:j=0:=by have:=o.nd;grind[cb]
    subst U;exact⟨32,1,al,by grind[mE],.inr rfl,by omega⟩
  obtain⟨a,k,al,ae,cn,hlen⟩:=ba;have D:=ref ae;rw[al]at F D;have hw:=bI e j l x o.lane o.node _ _ _ F;rw[hD]at hw;obtain⟨s1,s2⟩:=S' (a:=a) (k:=k) o.cg F D cn hw hlen;have cT:ss ns v=(x.words.drop a).take k:=by unfold ss;rw[o.nd,o.node,al];rfl
  rcases s2 with⟨t1,t2⟩ | ⟨t1,t2⟩
  ·refine⟨A,gr c,rfl,by rw[s1,lY o.node];exact ad,T,by rw[s1,lY o.node];exact cI.stay (e5 _ _ _) (wP λh=>h),aV,af,?_,λ_=>?_,tJ,λ_ _ _=>⟨rfl,by rw[s1,lY o.node]⟩,mz O rfl λh=>h,λh=>h⟩
   ·rw[t1,t2];exact a'.more o.lane rfl
   ·rw[s1,lY o.node,t1,t2];refine(bI e).step o.lane o.node λb7 n' bq bb=>?_
    have bb:l.pair.a1=cb j b7 n'::bq:=bb;rw[F]at bb;injection bb with cU _;have:(a:Int)=b7:=ey bc.at_ cU
    grind
  ·refine⟨A,(gr c).add q ⟨0,(x.words.drop a).take k⟩,rfl,by rw[s1,lY o.node];exact ad,T,?_,s _,af.add t rfl ?_,fin t1 t2,λ_=>?_,tJ,λ_ _ _=>⟨rfl,by rw[s1,lY o.node]⟩,mz O rfl λh=>.inr (.inl ⟨by show 3<=(gr c).aE;omega,by show(gr c).aE<=8;omega⟩),λh=>.inr ⟨by show 3<=(gr c).aE;omega,by show(gr c).aE<=10;omega⟩⟩
   ·rw[s1,lY o.node];unfold cQ;rw[e5];simp only[c1.add,e]
    grind[ld]
   ·rw[al];show(((x.words.drop a).take k).length:Int)=k
    grind
   ·rw[s1,lY o.node,t1];exact(bI e).step o.lane o.node λb7 n' bq _=>by show[]=List.take (8*0) _;simp
 ·
  unfold cQ at H;rw[e]at H;obtain⟨K,bW,S,a5,b2,c5,da,dg,di⟩:=H;have b:=t
  unfold c7 at b;rw[e]at b;have b:(g6 E (gr c).sp)[q]?=some v:=b;have dG:iH E≠0:=zV au.seq;obtain⟨k,m,hm,aG⟩:=Hz b;have U:m=j:=by
   have:=o.nd
   grind[ca]
  subst U;have Q:∀ {A':bn} {ns':List aD} {d:cN},dq E A A'->(∀ p,A'.b6 0 p=A.b6 0 p)->A'.dM=A.dM->(∀ bj B,(gr c).sp[bj]?=some B->fD (gr c).bg q d (bj*3)=none->A'.cX B=false)->(v=ca m 48 [iH E]->A'.cX m=true)->cQ E rs A' ns' (ik gr c ((gr c).add q d)) c:=λ{A' ns' d} r dL bV cm d_=>by
   unfold cQ;rw[e5];simp only[c1.add,e];refine⟨⟨r.bg K.1,bV.trans K.2⟩,r.lb bW,?_,λp X=>by grind,λB z I=>r.cX B (b2 B z I),c5,da,cm,λq' B db z I=>?_⟩
   ·obtain⟨B,b1,br⟩:=S;exact⟨B,b1,r.cX B br⟩
   ·rcases ld I with⟨N,_⟩ | ⟨_,N⟩
    ·subst N;rw[b]at z;have z:=Option.some.inj z;have dC:B=m:=by rcases aG with⟨_,al⟩ | ⟨_,al⟩ | ⟨_,al,_⟩<;>(rw[al]at z;have:=ey bc.node z;grind[ca])
     grind
    ·exact r.cX B (di q' B db z N)
  have bX:∀ {A':bn} (d:cN),(∀ B,A'.cX B=A.cX B)->∀ bj B,(gr c).sp[bj]?=some B->fD (gr c).bg q d (bj*3)=none->A'.cX B=false:=λd dE bj B z I=>by
   grind[wH]
  have ag:∀ d,iD ((gr c).add q d):=λd=>.inr (.inl ⟨by show 3<=(gr c).aE;omega,by show(gr c).aE<=8;omega⟩)
  have ah:∀ d,g' ((gr c).add q d):=λd=>.inr ⟨by show 3<=(gr c).aE;omega,by show(gr c).aE<=10;omega⟩
  rcases aG with⟨bH,al⟩ | ⟨bH,al⟩ | ⟨bH,al,bC⟩
  ·have f:=one (a:=48) al (by grind[oS]) (by omega) (by simp) (by grind);have V:(l.pair.step x).2.1=x.write 48 [0]:=by rw[f]
   have cB:=dg k m hm (by rw[<-bH];exact o.bg);refine⟨A,(gr c).add q ⟨0,[]⟩,rfl,by rw[V];exact ad.fD o.node (i.YA au cB) (λ_ _ _ h=>h),T,Q (dq.refl E A) (λ_=>rfl) rfl (bX _ λ_=>rfl) (λh=>?_),s _,af.add t rfl (by rw[al];rfl),fin (by rw[f]) (by rw[f]),R (by omega),tJ,M K,mz O rfl λ_=>ag _,λ_=>ah _⟩;rw[al]at h;have:=ey bc.words h
   grind[ca]
  ·have d':=au.k2;have ae:e9 E.n E.L v:=by grind[oS]
   have D:=ref ae;have bl:=F;rw[al]at bl D;obtain⟨s1,s2,b5,dY,d8⟩:=AW (a:=56) o.cg bl D (by omega) (o.nb _ _ F (by rw[al];rfl)) (by omega);have cr:=i.fH (bW m G);have cF:Mem E A m (l.pair.step x).2.1:=i.low au b5 (by omega) (by omega) (λ_ _=>rfl) rfl (.inl (by omega)) (by rw[b5.get _ (by omega)];exact i.dO) (by rw[b5.get _ (by omega)];exact i.cX) (λdm=>by rw[b5.get _ (by omega)];exact i.dM dm) λ_ k ba=>dY k ba (.inr (cr k ba))
   have bm:hQ E A (ns.set m (l.pair.step x).2.1):=ad.fD o.node cF (λ_ _ _ h=>h);rcases d8 with⟨t1,t2,t3⟩ | ⟨t1,t2,t3⟩
   ·refine⟨A,gr c,rfl,bm,T,?_,aV,af,?_,R (by omega),tJ,M K,mz O rfl λh=>h,λh=>h⟩
    ·unfold cQ;rw[e5,e]
     grind
    ·rw[t2,t3];exact a'.more o.lane rfl
   ·refine⟨A,(gr c).add q ⟨0,[]⟩,rfl,bm,T,Q (dq.refl E A) (λ_=>rfl) rfl (bX _ λ_=>rfl) (λh=>?_),s _,af.add t rfl (by rw[al];rfl),fin t2 t3,R (by omega),tJ,M K,mz O rfl λ_=>ag _,λ_=>ah _⟩;rw[al]at h;have:=ey bc.at_ h
    grind[ca]
  ·have f:=one (a:=48) al (by grind[oS]) (by omega) (by simp) (by grind);have V:(l.pair.step x).2.1=x.write 48 [iH E]:=by rw[f]
   have r:dq E A (A.j9 m):=Fl;refine⟨A.j9 m,(gr c).add q ⟨0,[]⟩,rfl,by rw[V];exact ad.fD o.node (i.vL au) (λB ab y bh=>bh.same (λ_ _=>rfl) (by grind[bn.j9]) rfl rfl rfl (λ_=>rfl)),T.vL bW a5 m,Q r (λ_=>rfl) rfl (λbj B z I=>?_) (λ_=>by simp[bn.j9]),s _,af.add t rfl (by rw[al];rfl),fin (by rw[f]) (by rw[f]),R (by omega),Aw a0.1 S r,M K,mz O rfl λ_=>ag _,λ_=>ah _⟩;obtain⟨N,Y⟩:=wH I;have aO:B≠m:=λaB=>by
    subst aB;have cz:bj=k:=(Kb (cS z) da).1 (z.trans hm.symm);subst cz;obtain⟨d,b1,_⟩:=Z (bj*3) _ (by omega) (by unfold c7;rw[e];exact bC) (by simp[ca])
    grind
   simp only[bn.j9]
   grind
 ·
  unfold cQ at H;rw[e]at H;obtain⟨K,bW,S⟩:=H;have b:=t
  unfold c7 at b;rw[e]at b;simp only[eC,fQ]at b;obtain⟨p,X,rfl⟩:=lC.1 b;have W:j=0:=by have:=o.nd;grind[cb]
  subst W;have J:=b9 X;have cA:=au.pl J;have f:=aZ (a:=bz p*8) (by grind) (mE a0.2 G (by omega) (by omega) (by omega) (by omega) (.inl (by omega))) (by omega);refine same f rfl rfl ?_ (λ_=>.inr (.inl ⟨by show 3<=(gr c).aE;omega,by show(gr c).aE<=8;omega⟩)) (λ_=>.inr ⟨by show 3<=(gr c).aE;omega,by show(gr c).aE<=10;omega⟩) (by omega);unfold cQ;rw[e5];simp only[c1.add,e];refine⟨K,bW,λq' p' d z I=>?_⟩;rcases ld I with⟨N,Y⟩ | ⟨_,N⟩
  ·subst N Y;rw[X]at z;cases z;exact(i.dR au J (T.fz 0 G p J).1).2
  grind
 ·
  unfold cQ at H;rw[e]at H;obtain⟨K,bW,S,a5⟩:=H;have b:=t
  unfold c7 at b Z;rw[e]at b Z;have cu:∀ p ∈ bD E,p ∈ (gr c).l\/A.b6 j (bz p)=2:=λp X=>by
   rcases S.2.2 p X with g | g
   ·grind
   ·by_cases W:j=0
    ·grind
    ·exact .inr (T.mv j (by omega) G (T.oi (T.mu p X g) j (by omega) G) p X)
  obtain⟨a,ws,A',r1,cY,cZ,c2,dX,c3,c4,av,b0,cW,dW⟩:=Ga au ad T bW S.1 b o.nd o.node (λq' bk z I a8=>by obtain⟨d,N,Y⟩:=Z q' bk z I a8;exact a5 q' bk d I N Y) cu;have ae:e9 E.n E.L v:=by
   obtain⟨m,hm,_,⟨p,X,rfl⟩ | ⟨rfl,_⟩⟩:=xx b
   ·exact su au hm (S.1 p X)
   grind[sv]
  have f:=one r1 ae cY cZ c2;have V:(l.pair.step x).2.1=x.write a ws:=by rw[f]
  refine⟨A',(gr c).add q ⟨0,[]⟩,rfl,by grind,c3,?_,s _,af.add t rfl (by rw[r1];rfl),fin (by rw[f]) (by rw[f]),R (by omega),Aw a0.1 ⟨0,by omega,bW 0 (by omega)⟩ av,M K,mz O (ey Prod.fst b0) λ_=>.inr (.inl ⟨by show 3<=(gr c).aE;omega,by show(gr c).aE<=8;omega⟩),λ_=>.inr ⟨by show 3<=(gr c).aE;omega,by show(gr c).aE<=10;omega⟩⟩;unfold cQ;rw[e5];simp only[c1.add,e];refine⟨⟨av.bg K.1,(ey Prod.fst b0:A'.dM=A.dM).trans K.2⟩,av.am bW,⟨S.1,S.2.1,λp X=>(S.2.2 p X).imp id λg=>av.b6 0 _ g⟩,(a5.mono av).add b c4⟩
 ·
  unfold cQ at H;rw[e]at H;obtain⟨K,bW,bK,S,a5⟩:=H;have b:=t
  unfold c7 at b Z;rw[e]at b Z;obtain⟨a,ws,A',ec,r1,cY,cZ,c2,dX,c3,c4,av,b0,cW⟩:=Gb au ad T bW bK S.1 b o.nd o.node (λq' bk z I a8=>by obtain⟨d,N,Y⟩:=Z q' bk z I a8;exact a5 q' bk d I N Y);have ae:e9 E.n E.L v:=by
   obtain⟨_,⟨_,rfl⟩ | ⟨_,p,X,rfl⟩⟩:=xy b
   ·grind[sv]
   ·exact su au (by omega) (S.1 p X)
  have f:=one r1 ae cY cZ c2;have V:(l.pair.step x).2.1=x.write a ws:=by rw[f]
  refine⟨A',(gr c).add q ⟨0,[]⟩,rfl,by grind,c3,?_,s _,af.add t rfl (by rw[r1];rfl),fin (by rw[f]) (by rw[f]),R (by omega),Aw a0.1 ⟨0,by omega,bW 0 (by omega)⟩ av,M K,mz O (ey Prod.fst b0) λ_=>.inr (.inl ⟨by show 3<=(gr c).aE;omega,by show(gr c).aE<=8;omega⟩),λ_=>.inr ⟨by show 3<=(gr c).aE;omega,by show(gr c).aE<=10;omega⟩⟩;unfold cQ;rw[e5];simp only[c1.add,e];refine⟨⟨av.bg K.1,(ey Prod.fst b0:A'.dM=A.dM).trans K.2⟩,av.am bW,av.Bk bK,⟨S.1,S.2.1,λp X=>(S.2.2 p X).imp id λg=>av.b6 0 _ g⟩,(a5.mono av).add b c4⟩
 ·
  unfold cQ at H;rw[e]at H;obtain⟨K,bW,S,a5,b2,c5⟩:=H;have b:=t
  unfold c7 at b;rw[e]at b;simp only[fP,fQ]at b;obtain⟨p,X,rfl⟩:=lC.1 b;have W:j=0:=by have:=o.nd;grind[c9]
  subst W;have cA:=b2 p (b9 X);have ae:e9 E.n E.L (c9 0 (p.bt*8) (dK p.Head 0) p.Head):=lo a0.2 G (by omega) (by omega) (by omega);have cd:p.bt*8=((bz p*8:Nat):Int):=by grind
  rw[cd]at F;have f:=u1 (x:=x) o.cg F (by grind);have ag:∀ d,iD ((gr c).add q d):=λd=>.inr (.inl ⟨by show 3<=(gr c).aE;omega,by show(gr c).aE<=8;omega⟩)
  have ah:∀ d,g' ((gr c).add q d):=λd=>.inr ⟨by show 3<=(gr c).aE;omega,by show(gr c).aE<=10;omega⟩
  have Q:∀ {A':bn} {ns':List aD} {d:cN},dq E A A'->A'.dM=A.dM->ff E A'->(∀ p' ∈ bD E,A.b6 0 (bz p')=0->A'.b6 0 (bz p')=0)->(p ∈ bD E->A'.b6 0 (bz p)=0)->cQ E rs A' ns' (ik gr c ((gr c).add q d)) c:=λ{A' ns' d} r b3 cG ba dS=>by
   unfold cQ;rw[e5];simp only[c1.add,e];refine⟨⟨r.bg K.1,b3.trans K.2⟩,cG,S.imp id (λg p' aR=>ba p' aR (g p' aR)),a5,b2,λq' p' db z I a8=>?_⟩
   grind[ld]
  by_cases hw:p ∈ bD E/\A.b6 0 (bz p)=1
  ·obtain ⟨J,bT⟩:=hw;have ea:=(i.dR au J (by omega)).2.2 bT;have u:x.dr ((bz p * 8:Nat):Int) (dK p.Head 0) p.Head={ x with words:=x.words.set (bz p * 8) p.Head }:=by
    unfold aD.dr
    grind
   rw[u]at f;have V:(l.pair.step x).2.1={x with words:=x.words.set (bz p*8) p.Head}:=by rw[f]
   have r:dq E A (A.hj 0 (bz p) 0):=w2 λaB=>by omega
   have ba:∀ B,∀ p' ∈ bD E,A.b6 B (bz p')=0->(A.hj 0 (bz p) 0).b6 B (bz p')=0:=λB p' _ h=>by
    grind[bn.hj]
   refine⟨A.hj 0 (bz p) 0,(gr c).add q ⟨0,[x.get (bz p*8)]⟩,rfl,by rw[V];exact ad.fD o.node (i.mG au J bT) (λB ab y bh=>bh.same (λp' _=>by grind[bn.hj]) rfl rfl rfl rfl (λ_=>rfl)),T.tv (by omega) (λaB=>by omega) (λ_ _=>bW) (λaB=>by omega) (λaB=>by omega) (λaB=>by omega),Q r rfl bW (ba 0) (λ_=>by simp[bn.hj]),s _,af.add t rfl rfl,fin (by rw[f]) (by rw[f]),R (by omega),⟨r,λh=>h,λh=>h,λ_ _ _ h=>h,λ_ B _ p' aR h=>ba B p' aR h,λ_ p' aR h=>.inr K.1⟩,M K,mz O rfl λ_=>ag _,λ_=>ah _⟩
  ·have aO:x.get (bz p * 8)≠dK p.Head 0:=by
    by_cases J:p ∈ bD E
    ·exactλh=>hw ⟨J,(i.dR au J (T.fz 0 G p J).1).2.1 h⟩
    ·intro h;have bM:∀ p' ∈ bD E,A.b6 0 (bz p')=0:=by
      grind
     have dz:x.get (bz p*8)=E.base (bz p) 0:=by
      by_cases bN:∃ p' ∈ bD E,bz p'=bz p
      ·obtain⟨p',z,I⟩:=bN;have:=i.b6 p' z;rw[bM p' z]at this;have:=this 0 (by omega)
       grind
      ·have:=i.gb (bz p) (by omega) (by omega) (λp' z I=>bN ⟨p',z,I⟩) 0 (by omega)
       grind
     have z:=au.cf (bz p) (by omega) (by omega)
     grind[Ex]
   have u:x.dr ((bz p*8:Nat):Int) (dK p.Head 0) p.Head=x:=by
    unfold aD.dr
    grind
   rw[u]at f;refine same f rfl rfl (Q (dq.refl E A) rfl bW (λ_ _ h=>h) λJ=>?_) (λ_=>ag _) (λ_=>ah _) (by omega);have I:=(T.fz 0 G p J).1;have a8:A.b6 0 (bz p)≠1:=λh=>hw ⟨J,h⟩
   have dd:A.b6 0 (bz p)≠2:=λh=>by
    have:=T.lf 0 G p J h 0 G;rw[bW 0 G]at this
    grind
   omega
 ·
  unfold cQ at H;rw[e]at H;obtain⟨K,bW,S⟩:=H;have b:=t
  unfold c7 at b;rw[e]at b;have ao:=cS b;simp[eP]at ao;subst ao;simp[eP]at b;subst b;have W:j=0:=by have:=o.nd;grind[c9]
  subst W;have f:=u1 (a:=49) (x:=x) o.cg F (ref (lo a0.2 G (by omega) (by omega) (by omega)));have bo:=bW o.bg;have eb:x.get 49=dp c:=(i.dM rfl).trans bo;have u:x.dr ((49:Nat):Int) (dp c) 0={x with words:=x.words.set 49 0}:=by
   unfold aD.dr
   grind
  rw[u]at f;have V:(l.pair.step x).2.1={x with words:=x.words.set 49 0}:=by rw[f]
  have r:dq E A (A.pD 0):=Fo;refine⟨A.pD 0,(gr c).add 0 ⟨0,[x.get 49]⟩,rfl,by rw[V];exact ad.fD o.node (i.tag au _) (λB ab y bh=>bh.same (λ_ _=>rfl) rfl rfl rfl rfl (λaB=>cp aB ab)),T.tag _,?_,s _,af.add t rfl rfl,fin (by rw[f]) (by rw[f]),R (by omega),⟨r,λh=>h,λh=>h,λ_ _ _ h=>h,λ_ _ _ _ _ h=>h,λ_ _ _ h=>.inl h⟩,M ⟨K,bo⟩,.inl rfl,λ_=>.inr ⟨by show 3<=(gr c).aE;omega,by show(gr c).aE<=10;omega⟩⟩;unfold cQ;rw[e5];simp only[c1.add,e];refine⟨K,λh=>(by grind[tY]),?_⟩;rcases S with g | ⟨N,Y⟩
  ·exact .inl g
  ·exact .inr ⟨⟨N.1,N.2.1,N.2.2⟩,Y⟩
end
end
section
open dF
theorem Mf {p:cH}{n:aD}(c:gu p){l l':ct}(d:l.pair=p)(b:l'.pair=(p.step n).1)(al:p.a1≠[]):jl l'<jl l:=by
 obtain⟨v,e2,a⟩:=um al;by_cases f:p.refusal v n=0
 ·exact Od c (λv2 i e=>by grind) d b al
 ·have g:=c.ih v e2 a;have h:=AK a f;unfold jl;rw[d,b,h,a];show(p.a1.tail.map _).sum-0<_
  grind
theorem N3 {C:a9}{l:ct}(x:aD)(j:C.az[m]?=some l)(g:gu l.pair)(al:l.pair.a1≠[]):jk (C.comes m l (l.pair.step x).1 (l.pair.step x).2.2)<jk C:=by
 have c:∃ l',(C.comes m l (l.pair.step x).1 (l.pair.step x).2.2).az=C.az.set m l'/\l'.pair=(l.pair.step x).1:=by
  cases(l.pair.step x).2.2 with
  |none=>exact⟨_,rfl,rfl⟩
  |some d=>exact⟨_,rfl,rfl⟩
 obtain⟨l',e,f⟩:=c;unfold jk;rw[e,mM];have h:=Mf g (l:=l) (l':=l') rfl f al;have:=Av (l:=C.az.map jl) (i:=m) (a:=jl l) (b:=jl l') (by grind);omega
theorem FL {p:cH}{x:aD}{v:bc}{e2:a_}(a:p.a1=v::e2)(b:v.kind=1\/(v.kind=3/\(v.at_.toNat<56\/168<=v.at_.toNat)))(i:Nat)(d:56<=i)(f:i<168):(p.step x).2.1.get i=x.get i:=by
 by_cases c:p.refusal v x=0
 ·have he:∀ pc,(exec v pc x).1.get i=x.get i:=λpc=>by
   unfold exec;rcases b with e | ⟨e,g⟩
   ·grind
   ·rw[aQ (by omega),aQ (by omega),bh e]
    grind[aD.dr,aD.get,List.getElem?_set_ne]
  rw[uE a c]
  grind
 grind[AK]
theorem Ax {g a:c1}(h:a.bare=g.bare):a.aE=g.aE:=by
 have:a.bare.aE=g.bare.aE:=by rw[h]
 exact this
structure kb (n:Nat)(C:a9):Prop where
 inc:C.inc=1
 live:C.alive=true
 az:C.az.length=n
 nb:∀ (k:Nat) (l:ct),C.az[k]?=some l->uM l.pair
theorem kb.comes {n:Nat}{C:a9}(h:kb n C){m:Nat}{l:ct}(b:C.az[m]?=some l)(x:aD):kb n (C.comes m l (l.pair.step x).1 (l.pair.step x).2.2):=by
 refine⟨?_,(Lw C m l _ _).trans h.live,?_,λk l' a=>?_⟩
 ·cases(l.pair.step x).2.2<;>exact h.inc
 ·cases(l.pair.step x).2.2<;>simp[a9.comes,h.az]
 ·by_cases e:k=m
  ·subst e;obtain⟨l2,c,d⟩:=yV b (l.pair.step x).1 (l.pair.step x).2.2;rw[c]at a;cases a;rw[d];exact Pb (h.nb k l b)
  ·rw[k8 e]at a;exact h.nb k l' a
theorem xz {E:Env}{F:ay}(p:cr F){C:a9}{l:ct}{x:aD}(k:F.aF[i]?=some C)(o:kb E.n C)(b:C.az[j]?=some l)(r:F.nodes[j]?=some x)(al:l.pair.a1≠[]){vs:a_}{bg:Nat->Option cN}(e:g8 C vs bg):∃ v e2 q cx,Az E F.nodes i j C vs bg l x v e2 q cx:=by obtain⟨v,e2,d⟩:=um al;obtain⟨q,cx,g,h,a,f⟩:=(e.lane j l b).head d;have c:=(p.cg.ok.aL i C k).lane j l b;exact⟨v,e2,q,cx,b,r,d,g,h,a,f,c.aL,c.inc.trans o.inc,p.cg.cC C (b9 k) l (b9 b),o.nb j l b⟩
structure gC (E:Env)(rs:c6)(F:ay)(A:bn)(g:fp)(gr:Nat->c1):Prop where
 ev:cr F
 lines:F.lines=E.L
 fY:F.bZ=[]
 o_:4<=F.aF.length
 rep:hQ E A F.nodes
 law:e8 E A
 r4:ve rs A gr
 cD:∃ C,F.aF[0]?=some C/\kb E.n C/\(g.aE<=4->g8 C (eb E g.aE) g.bg/\(g.aE=0->pS E C F.nodes))/\(5<=g.aE->C.batch=none/\hx C)
 qp:fg E A g
 tF:n4 E A g
 yH:g.aE=8->ff E A/\(∀ m,m<E.n->A.dO m=false)/\∀ m,m<E.n->∀ p ∈ bD E,A.b6 m (bz p)=0
 px:∀ c ∈ rs,∃ C,F.aF[c]?=some C/\kb E.n C/\((gr c).aE<=9->g8 C (c7 E c (gr c)) (gr c).bg/\((gr c).aE=3->rj C F.nodes))/\(10<=(gr c).aE->C.batch=none/\hx C)
 mB:∀ c ∈ rs,cQ E rs A F.nodes gr c/\mf E (gr c)/\m2 E c (gr c)/\(gr c).aE<=12
 vK:(∃ p ∈ bD E,A.b6 0 (bz p)=1)->h4 E A
 op:(∀ c ∈ rs,(gr c).aE=12)->∀ m,A.c0 m=false
 rest:∀ (c:Nat) (C:a9),c≠0->c ∉ rs->F.aF[c]?=some C->kb E.n C/\C.batch=none/\hx C
theorem o1.gb {E:Env}(b:1<=E.n){A A':bn}(h:o1 E A A'):oY E A A':=⟨h.mono,λ_=>h.rM,λ_ a p c=>h.vO a 0 b p c⟩
section
variable {E:Env}{rs:c6}{F bE:ay}{A:bn}{g:fp}{gr:Nat->c1}
theorem Ey (au:b8 E){ns:List aD}(h:cQ E rs A ns gr c)(hm:ff E A){v:bc}(al:(c7 E c (gr c))[q]?=some v):v.kind=1\/(v.kind=3/\(v.at_.toNat<56\/168<=v.at_.toNat)):=by
 have f:=au.e.n;have no:∀ {P:Prop},(∃ m,m<E.n/\A.cX m=true)->P:=λ⟨m,b,a⟩=>by rw[hm m b]at a;cases a
 unfold cQ at h;unfold c7 at al;split at al
 ·obtain⟨m,_,rfl⟩:=cW.1 (b9 al);exact .inl rfl
 ·obtain⟨m,_,rfl⟩:=cW.1 (b9 al);exact .inr ⟨rfl,.inl (by show((24:Int)).toNat<56;omega)⟩
 ·have:=b9 al;simp only[ft,sl]at this;subst this;exact .inr ⟨rfl,.inl (by show((49:Int)).toNat<56;omega)⟩
 ·rcases A7 al with⟨m,_,⟨_,rfl⟩ | ⟨_,rfl⟩⟩ | ⟨_,rfl⟩<;>exact .inl rfl
 ·simp_all
 ·rename_i e;rw[e]at h;exact no ⟨0,by omega,h.2.1 0 (by omega)⟩
 ·rename_i e;rw[e]at h;exact no ⟨0,by omega,h.2.1 0 (by omega)⟩
 ·rename_i e;rw[e]at h;exact no ⟨0,by omega,h.2.1 0 (by omega)⟩
 ·rename_i e;rw[e]at h;obtain⟨p,d,rfl⟩:=cW.1 (b9 al);have:=h.2.2.2.2.1 p d;exact .inr ⟨rfl,.inr (by show 168<=(p.bt*8).toNat;omega)⟩
 ·have:=b9 al;simp only[eP,sl]at this;subst this;exact .inr ⟨rfl,.inl (by show((49:Int)).toNat<56;omega)⟩
 grind
theorem SF {A:bn}{g:fp}(d:1<=E.n)(h:fg E A g)(a:e8 E A)(c:g.aE<=4):(∃ p ∈ bD E,A.b6 0 (bz p)=1)->h4 E A:=λ⟨p,e,b⟩=>by
 unfold fg at h;split at h
 ·grind
 ·grind
 ·grind
 ·exact(a.l2 0 (by omega) (h.1 0 (by omega))).1
 ·exact(a.l2 0 (by omega) (h.1 0 (by omega))).1
 ·omega
 grind
theorem SG {A A':bn}(q:1<=E.n)(g:e8 E A)(c:e8 E A')(d:o1 E A A')(i:(∃ p ∈ bD E,A.b6 0 (bz p)=1)->h4 E A):(∃ p ∈ bD E,A'.b6 0 (bz p)=1)->h4 E A':=λ⟨p,b,l⟩=>by
 by_cases hm:ff E A'
 ·have a:=d.some_ hm;refine d.mono.lb (i ⟨p,b,?_⟩);have k:=(g.fz 0 (by omega) p b).1;have j:A.b6 0 (bz p)≠0:=λe=>by have:=d.vO a 0 (by omega) p b e;omega
  have f:A.b6 0 (bz p)≠2:=λe=>by
   have:=g.lf 0 (by omega) p b e 0 (by omega);rw[a 0 (by omega)]at this
   grind
  omega
 ·have:∃ m,m<E.n/\A'.cX m=true:=by
   refine Classical.byContradiction λo=>hm λm hm=>?_
   grind
  obtain⟨m,h,f⟩:=this;exact(c.l2 m h f).1
theorem Ez {ns:List aD}(h:cQ E rs A ns gr c)(a:(gr c).aE=3):Own E A c:=h.own (.inr (.inl ⟨by omega,by omega⟩))
theorem FM (au:b8 E)(R:∀ c ∈ rs,1<=c/\c<6)(h:gC E rs F A g gr)(bk:fC i m F=some bE) :
  ∃ A' L W,gC E rs bE A' L W/\L.aE=g.aE/\(∀ c,(W c).bare=(gr c).bare)/\(5<=g.aE->o1 E A A')/\dq E A A'/\(i=0\/i ∈ rs)/\∃ C C',F.aF[i]?=some C/\bE.aF[i]?=some C'/\jk C'<jk C/\∀ k,k≠i->bE.aF[k]?=F.aF[k]?:=by
 obtain⟨C,l,x,G,H,ae,al,r⟩:=iR.1 bk;have u:=h.ev.fC bk;have I:=cS G;have o:l.pair.a1≠[]:=λe=>al (by grind)
 have bq:gu l.pair:=h.ev.cg.cC C (b9 G) l (b9 H);have J:=au.e.n;have t:bE.aF[i]?=some (C.comes m l (l.pair.step x).1 (l.pair.step x).2.2):=by grind
 have N:∀ k,k≠i->bE.aF[k]?=F.aF[k]?:=λk bD=>by grind
 have f:bE.nodes=F.nodes.set m (l.pair.step x).2.1:=by rw[r]
 have ad:=N3 x H bq o;by_cases Z:i=0
 ·subst Z;obtain ⟨aB,af,ag,aV,aX⟩:=h.cD;rw [G] at af;cases af;have K:g.aE<=4:=by
   refine sd λI=>?_
   exact o ((aX I).2 m l H)
  obtain⟨B,aG⟩:=aV K;obtain⟨v,e2,q,cx,Y⟩:=xz h.ev G ag H ae o B;obtain⟨A',L,st⟩:=Hy au h.rep h.law h.qp h.tF K B Y aG;have aH:m<E.n:=by have:=cS ae;rw[h.rep.len]at this;grind
  have j:∀ c ∈ rs,Own E A c->A'=A/\bE.nodes=F.nodes:=λc _ aQ=>by rw[f];exact st.stay (aQ.1 m aH)
  refine⟨A',L,gr,⟨u,by rw[r];exact h.lines,by rw[r];exact h.fY,by rw[r];simpa using h.o_,by rw[f];exact st.rep,st.law,?_,⟨_,t,ag.comes H x,λ_=>⟨by rw[st.aE];exact st.s5,λe=>by rw[f];exact st.TD (by rw[<-st.aE];exact e)⟩,λe=>cp e (by rw[st.aE];omega)⟩,st.ok,st.res,λe=>cp e (by rw[st.aE];omega),λc s=>?_,λc s=>?_,SF J.1 st.ok st.law (by rw[st.aE];grind),λM m=>by rw[st.c0];exact h.op M m,λc O S D av=>h.rest c O S D (by grind)⟩,st.aE,λc=>rfl,λe=>by omega,st.gb.mono,.inl rfl,C,_,G,t,ad,N⟩
  ·rcases h.r4 with e | ⟨c,a,b,d⟩
   ·exact .inl (st.dM.trans e)
   ·exact .inr ⟨c,a,st.dM.trans b,d⟩
  ·obtain⟨O,bb,U,P,V⟩:=h.px c s;have:=R c s;refine⟨O,by grind,U,λe=>⟨(P e).1,λT=>?_⟩,V⟩
   rw[(j c s (Ez (h.mB c s).1 T)).2]
   grind
  ·obtain⟨ah,aZ,a0,bm⟩:=h.mB c s;refine⟨?_,aZ,a0,bm⟩;by_cases M:iD (gr c)
   ·obtain⟨a',ao⟩:=j c s (ah.own M)
    grind
   ·exact ah.gb rfl M st.gb λ_ w=>w
 ·by_cases z:i ∈ rs
  ·have X:=R i z;obtain ⟨aB,af,ag,aV,aX⟩:=h.px i z;rw [G] at af;cases af;obtain ⟨ah,aZ,a0,bm⟩:=h.mB i z;have K:(gr i).aE<=9:=by
    refine sd λI=>?_
    exact o ((aX I).2 m l H)
   obtain⟨B,aR⟩:=aV K;obtain⟨v,e2,q,cx,Y⟩:=xz h.ev G ag H ae o B;obtain⟨A',L,st⟩:=Tj au X z R h.rep h.law ah aZ a0 B Y aR h.r4;have br:L.aE=(gr i).aE:=Ax st.bare;have Q:∀ c,(ik gr i L c).bare=(gr c).bare:=λc=>by
    by_cases e:c=i
    ·subst e;rw[e5];exact st.bare
    grind[kF]
   have j:∀ c ∈ rs,c≠i->Own E A c->A'=A/\bE.nodes=F.nodes:=λc _ aO aQ=>by rw[f];exact st.other c aO aQ
   refine⟨A',g,ik gr i L,⟨u,by rw[r];exact h.lines,by rw[r];exact h.fY,by rw[r];simpa using h.o_,by rw[f];exact st.rep,st.law,st.dM,?_,h.qp.rec J.1 st.py,h.tF.mono st.py.mono,λe=>?_,λc s=>?_,λc s=>?_,SG J.1 h.law st.law st.py h.vK,λM=>(by grind[e5]),λc O S D av=>h.rest c O S D (by grind)⟩,rfl,Q,λ_=>st.py,st.py.mono,.inr z,C,_,G,t,ad,N⟩
   ·obtain⟨aB,bb,U,P,V⟩:=h.cD;refine⟨aB,by grind,U,λe=>⟨(P e).1,λa8=>?_⟩,V⟩
    have aP:ff E A:=by
     have:=h.qp
     grind[fg]
    have ab:=Ey au ah aP Y.at_;intro k l' y S D bl av bh;have bC:=au.k2;rw[f]at D;by_cases ba:k=m
    ·subst ba;rw[kX (cS ae)]at D;cases D;rw[FL Y.ia ab _ (by omega) (by omega)];exact(P e).2 a8 k l' x S ae bl av bh
    ·rw[jN (λao=>ba ao.symm)]at D;exact(P e).2 a8 k l' y S D bl av bh
   ·obtain⟨a,b,d⟩:=h.yH e;exact⟨st.py.rM a,λm hm=>st.py.dO a m hm (b m hm),λm hm p bj=>st.py.vO a m hm p bj (d m hm p bj)⟩
   ·by_cases e:c=i
    ·subst e;rw[e5];exact⟨_,t,ag.comes H x,λ_=>⟨st.s5,λT=>by rw[f];exact st.W8 T⟩,λe=>cp e (by grind)⟩
    ·obtain⟨O,bb,U,P,V⟩:=h.px c s;rw[kF e];refine⟨O,by grind,U,λbo=>⟨(P bo).1,λT=>?_⟩,V⟩
     rw[(j c s e (Ez (h.mB c s).1 T)).2]
     grind
   ·by_cases e:c=i
    ·subst e;rw[e5];exact⟨by rw[f];exact st.ok,st.yT,st.res,by grind⟩
    ·obtain⟨a5,bx,bz,bA⟩:=h.mB c s;rw[kF e];refine⟨?_,bx,bz,bA⟩;by_cases M:iD (gr c)
     ·obtain⟨a',ao⟩:=j c s e (a5.own M);rw[a',ao];exact a5.stay (kF e) (wP st.we)
     ·exact a5.gb (kF e) M (st.py.gb J.1) (wP st.we)
  ·exact cp ((h.rest i C Z z G).2.2 m l H) o
end
end
section
open dF
def h2:Nat->Nat
 | 0=>1675
 | 1=>1670
 | 2=>1669
 | 3=>1063
 | 4=>498
 | 5=>486
 | 6=>98
 | 7=>1
 | 8=>1
 | 12=>1680
 | _=>0
theorem zf {k:Nat}:∀ {hS:List a_},(∀ b ∈ hS,cost b<=k)->cost hS.flatten<=hS.length*k
 | [],_=>by simp[cost]
 |b::hS,h=>by
  have d:=zf λc a=>h c (fG _ a)
  grind[List.mem_cons_self,List.flatten_cons,pt,List.length_cons,Nat.succ_mul]
theorem wg {vs:a_}{K:Nat}(h:cost vs<=n*k)(b:n<=m)(a:m*k<=K):cost vs<=K:=mK h (mK (ui _ b) a)
section
variable {E:Env}{c:Nat}
theorem Gc (n:Nat):(fc n).length=n*2+1:=by unfold fc;rw[fF,rT (k:=2) (λb a=>by grind)];simp
theorem SH (E:Env)(sp:c6):(g6 E sp).length=sp.length*3:=by unfold g6;rw[rT (k:=3) (λb a=>by grind)];simp
theorem Sd (E:Env)(l:List aN):(gp E l).length=(E.n-1)*(l.length+1):=by unfold gp;rw[rT (k:=l.length+1) (λb a=>by grind)];simp
theorem QU (a:E.n<=5):cost (eA E.n)<=5/\(eA E.n).length<=1024:=by
 refine⟨?_,by grind[eA]⟩;have h:cost (eA E.n)<=(eA E.n).length*1:=my λv al=>by obtain⟨m,_,rfl⟩:=cW.1 al;exact db _
 grind[wg,eA]
theorem QV {e1:c6}(a:e1.length<=5):cost (eJ e1)<=5/\(eJ e1).length<=1024:=by
 refine⟨?_,by grind[eJ]⟩;have h:cost (eJ e1)<=(eJ e1).length*1:=my λv al=>by obtain⟨m,_,rfl⟩:=cW.1 al;exact db _
 grind[wg,eJ]
theorem QW:cost (ft c)<=1/\(ft c).length<=1024:=by
 refine⟨?_,by simp[ft]⟩;have h:cost (ft c)<=(ft c).length*1:=my λv al=>by simp only[ft,sl]at al;subst al;exact db _
 exact h
theorem QY:cost (eP c)<=1/\(eP c).length<=1024:=by
 refine⟨?_,by simp[eP]⟩;have h:cost (eP c)<=(eP c).length*1:=my λv al=>by simp only[eP,sl]at al;subst al;exact db _
 exact h
theorem qJ {v:bc}(h:v.v.count.toNat<=k):cost [v]<=k:=by
 have h:cost [v]<=([v]:a_).length*k:=my λu hu=>by
  grind
 grind
theorem QZ (f:E.n<=5):cost (fc E.n)<=606/\(fc E.n).length<=1024:=by
 refine⟨?_,by grind[Gc]⟩;unfold fc;rw[pt];have a:cost ((List.range E.n).map λm=>[cb m 24 1,cb m 48 120]).flatten<=((List.range E.n).map λm=>[cb m 24 1,cb m 48 120]).length*121:=zf λb d=>by
  obtain⟨m,_,rfl⟩:=cW.1 d;have:cost ([cb m 24 1]++[cb m 48 120])<=121:=by rw[pt];have a:cost [cb m 24 1]<=1:=qJ (db _);have c:cost [cb m 48 120]<=120:=qJ (db _);omega
  grind
 have c:=wg a (show _<=5 by grind) (db (5*121));have e:cost [cb 0 32 1]<=1:=qJ (db _);omega
theorem Q0 (au:b8 E)(f:sp.length<=5):cost (g6 E sp)<=565/\(g6 E sp).length<=1024:=by
 refine⟨?_,by grind[SH]⟩;unfold g6;have a:cost (sp.map λm=>[ca m 48 [0],ca m 56 (hk E),ca m 48 [iH E]]).flatten<=(sp.map λm=>[ca m 48 [0],ca m 56 (hk E),ca m 48 [iH E]]).length*113:=zf λb c=>by
  obtain⟨m,_,rfl⟩:=cW.1 c;have:cost ([ca m 48 [0]]++([ca m 56 (hk E)]++[ca m 48 [iH E]]))<=113:=by
   rw[pt,pt];have a:cost [ca m 48 [0]]<=1:=qJ (db _);have d:cost [ca m 56 (hk E)]<=111:=qJ (by have:=au.k2;show((hk E).length:Int).toNat<=111;omega)
   have e:cost [ca m 48 [iH E]]<=1:=qJ (db _);omega
  grind
 grind
theorem Q1 (au:b8 E):cost (eC (bD E))<=12/\(eC (bD E)).length<=1024:=by
 refine⟨?_,by have:=au.k2.2;grind[eC]⟩;have h:cost (eC (bD E))<=(eC (bD E)).length*1:=my λv al=>by obtain⟨m,_,rfl⟩:=cW.1 al;exact db _
 exact wg h (show _<=12 by unfold eC;simpa using au.k2.2) (by omega)
theorem Q2 {a:List aN}(b:a.length<=12):cost (fP a)<=12/\(fP a).length<=1024:=by
 refine⟨?_,by grind[fP]⟩;have h:cost (fP a)<=(fP a).length*1:=my λv al=>by obtain⟨m,_,rfl⟩:=cW.1 al;exact db _
 grind[wg,fP]
theorem EA {l:List aN}(a:l.length<=12):cost (l.map (fo m))<=96:=by
 have h:cost (l.map (fo m))<=(l.map (fo m)).length*8:=my λv al=>by obtain⟨m,_,rfl⟩:=cW.1 al;exact db _
 grind
theorem FN {l:List aN}(b:l.length<=12):cost (gI E l)<=97/\(gI E l).length<=1024:=by
 refine⟨?_,by grind[gI]⟩;have h:gI E l=[ca 0 32 [dt E]]++l.map (fo 0):=rfl;rw[h,pt];have a:cost [ca 0 32 [dt E]]<=1:=qJ (db _)
 grind[EA]
theorem FO (d:E.n<=5){l:List aN}(f:l.length<=12):cost (gp E l)<=388/\(gp E l).length<=1024:=by
 refine⟨?_,by have:=Sd E l;have e:(E.n-1)*(l.length+1)<=4*13:=wm (by omega) (by omega);omega⟩;unfold gp;have a:cost ((List.range (E.n-1)).map λm=>l.map (fo (m+1))++[ca (m+1) 32 [dt E]]).flatten<=((List.range (E.n-1)).map λm=>l.map (fo (m+1))++[ca (m+1) 32 [dt E]]).length*97:=zf λb c=>by
  obtain⟨m,_,rfl⟩:=cW.1 c;rw[pt];have a:cost [ca (m+1) 32 [dt E]]<=1:=qJ (db _)
  grind[EA]
 grind
end
theorem wQ {D:ck}{d:cN}(h:D[q]?=some d):di D q=ed d:=by
 grind[di]
def hJ:Nat->Option cN:=λ_=>none
def lO (aE:Nat):c1:=⟨aE,hJ,[],[],0,[],[],[],(0,0)⟩
def nN (aE:Nat):Nat:=if aE<=7 then aE else aE-1
theorem nE {a b:Nat}(h:a<b)(c:¬ (a=7/\b=8)):a=12\/nN a<nN b:=.inr (by grind[nN])
structure jO (E:Env)(rs:c6)(A:bn)(ns:List aD)(gr:Nat->c1)(c:Nat)(G:a3)(s:c1):Prop where
 up:(gr c).aE=12\/nN (gr c).aE<nN s.aE
 ok:cQ E rs A ns (ik gr c s) c
 yT:mf E s
 bg:s.bg=hJ
 we:g' (gr c)->g' s
 holds:iD (gr c)->iD s
 go:(s.aE<=9/\fx (bC E c) G=(c7 E c s,⟨0,0,0,0,0⟩,false)/\Kp E c G (eH E c s)/\c7 E c s≠[]/\cost (c7 E c s)+h2 s.aE<=h2 (gr c).aE/\(c7 E c s).length<=1024)\/(s.aE=10/\fx (bC E c) G=([],⟨0,s.bU.1,s.bU.2,fT E.L s.cE s.Ls,0⟩,true))\/(s.aE=11/\∃ w,fx (bC E c) G=([],⟨3,0,0,0,w⟩,true))
section
variable {E:Env}{rs:c6}{A:bn}{ns:List aD}{gr:Nat->c1}{c:Nat}{G:a3}{D:ck}
structure k0 (E:Env)(c:Nat)(g:c1)(D:ck):Prop where
 fit:Fit (c7 E c g) D
 to:∀ q d,g.bg q=some d->D[q]?=some d
 all:∀ q,q<(c7 E c g).length->∃ d,g.bg q=some d
theorem k0.bg (h:k0 E c (gr c) D){q:Nat}{v:bc}(al:(c7 E c (gr c))[q]?=some v):∃ d,(gr c).bg q=some d/\D[q]?=some d:=by obtain⟨d,a⟩:=h.all q (cS al);exact⟨d,a,h.to q d a⟩
theorem oI (au:b8 E)(g:1<=c/\c<6){s:c1}(e:s.aE<=9)(d:Kp E c G (eH E c s))(f:(eH E c s []).1.ask=some (c7 E c s))(b:c7 E c s≠[])(a:cost (c7 E c s)+h2 s.aE<=h2 (gr c).aE/\(c7 E c s).length<=1024):(s.aE<=9/\fx (bC E c) G=(c7 E c s,⟨0,0,0,0,0⟩,false)/\Kp E c G (eH E c s)/\c7 E c s≠[]/\cost (c7 E c s)+h2 s.aE<=h2 (gr c).aE/\(c7 E c s).length<=1024)\/(s.aE=10/\fx (bC E c) G=([],⟨0,s.bU.1,s.bU.2,fT E.L s.cE s.Ls,0⟩,true))\/(s.aE=11/\∃ w,fx (bC E c) G=([],⟨3,0,0,0,w⟩,true)):=
 .inl ⟨e,d.ask au g f,d,b,a⟩
theorem AM (h:(gr c).aE=12\/(gr c).aE<=1)(hw:g' (gr c)):P:=by rcases hw with⟨g,_⟩ | ⟨a,b⟩<;>omega
theorem Ay (h:(gr c).aE=12\/(gr c).aE<=1)(hw:iD (gr c)):P:=by rcases hw with⟨g,_⟩ | ⟨a,b⟩ | ⟨g,_⟩<;>omega
theorem Se (au:b8 E)(a:1<=c/\c<6)(e:(gr c).aE=12):jO E rs A ns gr c [] (lO 0):=by
 refine⟨.inl e,?_,⟨λh=>(by have:4<=0:=h.1;omega),λh=>(by have:0=8:=h;omega)⟩,rfl,λh=>AM (.inl e) h,λh=>Ay (.inl e) h,oI au a (by show 0<=9;omega) vH (AO au.e.n.1) (u5 au.e.n.1) ?_⟩
 ·unfold cQ;rw[e5];show∀ m,m<E.n->∀ d,hJ m=some d->_;intro m _ d h;cases h
 ·rw[e];have:=QU (E:=E) au.e.n.2;show cost (eA E.n)+1675<=1680/\(eA E.n).length<=1024;omega
theorem Kp.congr {f f':a3->cd×dB}(h:Kp E c G f)(he:∀ X,f X=f' X):Kp E c G f':=λX=>(h X).trans (he X)
theorem Dw (au:b8 E)(a:1<=c/\c<6)(e:(gr c).aE<=1)(g:Kp E c G (kB E c))(f:iL E A):jO E rs A ns gr c G (lO 2):=by
 refine⟨(nE (b:=2) (by omega) (by omega)),?_,⟨λh=>(by have:4<=2:=h.1;omega),λh=>(by have:2=8:=h;omega)⟩,rfl,λh=>AM (.inr e) h,λh=>Ay (.inr e) h,oI au a (by show 2<=9;omega) g (GA a.2) (by show ft c≠[];simp[ft]) ?_⟩
 ·unfold cQ;rw[e5];exact⟨f,λd h=>by cases h⟩
 ·have:=QW (c:=c);have i:1670<=h2 (gr c).aE:=by
   obtain e | e:(gr c).aE=0\/(gr c).aE=1:=by omega
   ·rw[e];show 1670<=1675;omega
   ·rw[e];exact db _
  show cost (ft c)+1669<=_/\(ft c).length<=1024;omega
theorem Gd:m ∈ j8 n D↔m<n/\di D m=1:=by
 grind[j8]
theorem Tk (au:b8 E)(k:1<=c/\c<6)(e:(gr c).aE=0)(o:Kp E c G (eH E c (gr c)))(x:cQ E rs A ns gr c)(p:k0 E c (gr c) D):∃ s,jO E rs A ns gr c (G++[D]) s:=by
 have u:=au.e.n;have j:c7 E c (gr c)=eA E.n:=by grind[c7]
 have r:eH E c (gr c)=rz E c:=by grind[eH]
 have hw:∀ i,i<E.n->di D i=1\/(di D i=2/\A.c0 i=true):=λi l=>by
  obtain⟨d,y,z⟩:=p.bg (q:=i) (v:=cb i 24 1) (by grind[eA,List.getElem?_range])
  grind[cQ,wQ]
 have a:=p.fit;rw[j]at a;rw[r]at o;have g:Kp E c (G++[D]) (mn E c (j8 E.n D)):=o.next λX=>As u.1 a (λi l=>(hw i l).imp id And.left) X
 have f:∀ m,m<E.n->m ∉ j8 E.n D->A.c0 m=true:=λm hm w=>by
  grind[Gd]
 by_cases aq:j8 E.n D=[]
 ·refine⟨_,Dw au k (by omega) (g.congr λX=>by grind[Gy]) λm hm=>f m hm (by grind)⟩
 ·have t:(j8 E.n D).length<=5:=by
   grind[List.length_filter_le,di,List.length_range,j8]
  refine⟨⟨1,hJ,j8 E.n D,[],0,[],[],[],(0,0)⟩,(nE (b:=1) (by omega) (by omega)),?_,⟨λh=>(by grind),λh=>(by grind)⟩,rfl,λh=>AM (.inr (by omega)) h,λh=>Ay (.inr (by omega)) h,oI au k (by grind) g (Gz aq) (by show eJ _≠[];unfold eJ;simp_all) ?_⟩
  ·unfold cQ;rw[e5];exact⟨f,λm hm=>(Gd.1 hm).1,λq m d _ h=>by cases h⟩
  ·rw[e];have:=QV t;show cost (eJ (j8 E.n D))+1670<=1675/\(eJ (j8 E.n D)).length<=1024;omega
theorem Tl (au:b8 E)(o:1<=c/\c<6)(e:(gr c).aE=1)(g:c7 E c (gr c)≠[])(h:Kp E c G (eH E c (gr c)))(f:cQ E rs A ns gr c)(j:k0 E c (gr c) D):∃ s,jO E rs A ns gr c (G++[D]) s:=by
 have w:=au.e.n;have b:c7 E c (gr c)=eJ (gr c).e1:=by grind[c7]
 have p:eH E c (gr c)=mn E c (gr c).e1:=by grind[eH]
 unfold cQ at f;rw[e]at f;obtain⟨t,bW,u⟩:=f;have aq:(gr c).e1≠[]:=λk=>g (by rw[b,k];rfl)
 have l:∀ {q m:Nat},(gr c).e1[q]?=some m->∃ d,(gr c).bg q=some d/\D[q]?=some d:=λ{q m} x=>j.bg (q:=q) (v:=c9 m 24 1 2) (by grind[eJ])
 have a:=j.fit;rw[b]at a;rw[p]at h;refine⟨_,Dw au o (by omega) (h.next λX=>FY aq a (λi r=>?_) X) λm hm=>?_⟩
 ·obtain⟨m,hm⟩:∃ m,(gr c).e1[i]?=some m:=⟨_,b2 r⟩
  grind[wQ]
 grind[List.mem_iff_getElem?]
theorem SK (au:b8 E)(j:1<=c/\c<6)(e:(gr c).aE=2)(o:Kp E c G (eH E c (gr c)))(l:cQ E rs A ns gr c)(w:k0 E c (gr c) D):∃ s,jO E rs A ns gr c (G++[D]) s:=by
 have H:=au.e.n;have g:c7 E c (gr c)=ft c:=by grind[c7]
 have F:eH E c (gr c)=kB E c:=by grind[eH]
 unfold cQ at l;rw[e]at l;obtain⟨y,bW⟩:=l;obtain⟨d,B,r⟩:=w.bg (q:=0) (v:=c9 0 49 0 (dp c)) (by rw[g];rfl);have a:=w.fit;rw[g]at a;rw[F]at o;have hw:mU D=ed d:=by
  cases D with
  |nil=>grind
  |cons x xs=>simp at r;subst r;rfl
 rcases bW d B with⟨b1,k⟩ | ⟨c',b1,k,I,J⟩
 ·refine⟨lO 3,(nE (b:=3) (by omega) (by omega)),?_,⟨λh=>(by have:4<=3:=h.1;omega),λh=>(by have:3=8:=h;omega)⟩,rfl,λ_=>.inr ⟨by show 3<=3;omega,by show 3<=10;omega⟩,λ_=>.inr (.inl ⟨by show 3<=3;omega,by show 3<=8;omega⟩),oI au j (by show 3<=9;omega) (o.next λX=>FZ j.2 a (hw.trans b1) X) GB (NE _) ?_⟩
  ·unfold cQ;rw[e5];exact⟨⟨y,k⟩,λq v d _ h=>by cases h⟩
  ·rw[e];have:=QZ (E:=E) H.2;show cost (fc E.n)+1063<=1669/\(fc E.n).length<=1024;omega
 ·have t:ed d≠0:=by grind[Au]
  have p:=o.next λX=>Rl j.2 a (by grind) (by grind[Et]) X
  have u:∀ f,(gr c).bg 0=some f->ed f≠0:=λf C=>by grind
  refine⟨lO 11,(nE (b:=11) (by omega) (by omega)),?_,⟨λh=>(by have:11<=7:=h.2;omega),λh=>(by have:11=8:=h;omega)⟩,rfl,λh=>?_,λh=>?_,.inr (.inr ⟨rfl,_,p.out au j rfl rfl rfl⟩)⟩
  ·unfold cQ;rw[e5];exact⟨c',b1,k,by grind[kF]⟩
  ·rcases h with⟨_,f,i,z⟩ | ⟨i,_⟩
   ·grind
   ·omega
  ·rcases h with⟨_,f,i,z⟩ | ⟨i,_⟩ | ⟨i,_⟩
   ·grind
   ·omega
   ·omega
end
end
end Go.Proofs.YtmkljjbioomepaaGreat
