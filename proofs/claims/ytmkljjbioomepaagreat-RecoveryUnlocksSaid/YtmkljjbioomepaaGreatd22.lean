import Derived.Test.YtmkljjbioomepaaGreatd21
import Derived.Test.YtmkljjbioomepaaGreatd20
set_option linter.all false
namespace Go.Proofs.YtmkljjbioomepaaGreat
open Go.Proofs.Tryz Go.bs
section
def fr (bt:Nat->Option aM) (q:Nat) (d:aM):Nat->Option aM:=λk=>if k=q then some d else bt k
theorem s3 (bt:Nat->Option aM) (q:Nat) (d:aM):fr bt q d q=some d:=if_pos rfl
theorem rG {bt:Nat->Option aM} {q k:Nat} {d:aM} (h:k≠q):fr bt q d k=bt k:=if_neg h
structure zM (vs:List aQ) (bt:Nat->Option aM) (j:Nat) (l:cA):Prop where
 len:l.bC.length=l.pair.a3.length
 wP:l.bC.Pairwise (·<·)
 at_:∀ (t q:Nat),l.bC[t]?=some q->∃ v,vs[q]?=some v/\l.pair.a3[t]?=some v/\v.node.toNat=j/\bt q=none
structure gO (C:bh) (vs:List aQ) (bt:Nat->Option aM):Prop where
 live:C.alive=true
 ds:∃ ds,C.batch=some ds/\ds.length=vs.length/\∀ q d,bt q=some d->ds[q]?=some d
 lane:∀ (j:Nat) (l:cA),C.az[j]?=some l->zM vs bt j l
 left:∀ q,q<vs.length->bt q=none->∃ (j:Nat) (l:cA),C.az[j]?=some l/\q ∈ l.bC
theorem zM.head {vs:List aQ} {bt:Nat->Option aM} {j:Nat} {l:cA} (h:zM vs bt j l) {x:aQ} {xs:List aQ} (al:l.pair.a3=x::xs):∃ q cl,l.bC=q::cl/\vs[q]?=some x/\x.node.toNat=j/\bt q=none:=by
 have a:=h.len;rw [al] at a;cases c:l.bC with
 |nil=>rw [c] at a;cases a
 |cons q cl=>obtain ⟨v,d,b,e,f⟩:=h.at_ 0 q (by rw [c];rfl);rw [al] at b;cases b;exact ⟨q,cl,rfl,d,e,f⟩
theorem gO.more {C:bh} {vs:List aQ} {bt:Nat->Option aM} (h:gO C vs bt) {j:Nat} {l:cA} (d:C.az[j]?=some l) {p:cR} (f:p.a3=l.pair.a3):gO (C.comes j l p none) vs bt:=by
 have b:=b3 d;refine ⟨h.live,h.ds,λi l' a=>?_,λq r aq=>?_⟩
 ·by_cases e:i=j
  ·subst e;simp [bh.comes,b] at a;subst a;have c:=h.lane _ l d;exact ⟨by show l.bC.length=p.a3.length;rw [f];exact c.len,c.wP,λt q s=>by obtain ⟨v,g,k,n,o⟩:=c.at_ t q s;exact ⟨v,g,by show p.a3[t]?=some v;rw [f];exact k,n,o⟩⟩
  ·rw [kC e] at a;exact h.lane i l' a
 ·obtain ⟨i,l',a,hm⟩:=h.left q r aq;by_cases e:i=j
  ·subst e;rw [d] at a;cases a;exact ⟨i,{ l with pair:=p },by simp [bh.comes,b],hm⟩
  ·exact ⟨i,l',by rw [kC e];exact a,hm⟩
theorem gO.done {C:bh} {vs:List aQ} {bt:Nat->Option aM} (h:gO C vs bt) {j:Nat} {l:cA} (D:C.az[j]?=some l) {x:aQ} {xs:List aQ} (al:l.pair.a3=x::xs) {p:cR} (G:p.a3=xs) {q:Nat} {cl:cT} (c:l.bC=q::cl) (d:aM) :
  gO (C.comes j l p (some d)) vs (fr bt q d):=by
 have u:=b3 D;have z:=h.lane j l D;obtain ⟨ds,I,hlen,B⟩:=h.ds;have F:vs[q]?=some x/\x.node.toNat=j:=by obtain ⟨cH,K,e,n,r,_⟩:=z.head al;rw [c] at e;cases e;exact ⟨n,r⟩
 have J:q<vs.length:=b3 F.1;have b:=z.wP;rw [c,Bz] at b;refine ⟨h.live,⟨ds.set q d,?_,by rw [o0];exact hlen,λk e s=>?_⟩,λi l' g=>?_,λk s aq=>?_⟩
 ·simp [bh.comes,I,c]
 ·by_cases f:k=q
  ·subst f;rw [s3] at s;cases s;rw [g5 (by omega)]
  ·rw [rG f] at s;rw [gN (λH=>f H.symm)];exact B k e s
 ·by_cases e:i=j
  ·subst e;simp [bh.comes,u] at g;subst g;refine ⟨?_,?_,λt k E=>?_⟩
   ·show l.bC.tail.length=p.a3.length;have:=z.len;rw [c,al] at this;rw [c,G];simpa using this
   ·show l.bC.tail.Pairwise (·<·);rw [c];exact b.2
   ·have w:cl[t]?=some k:=by have:l.bC.tail[t]?=some k:=E;rw [c] at this;exact this
    obtain ⟨v,n,r,y,A⟩:=z.at_ (t+1) k (by rw [c];simpa using w);have a:k≠q:=by have:=b.1 k (b5 w);omega
    refine ⟨v,n,?_,y,by rw [rG a];exact A⟩;show p.a3[t]?=some v;rw [al] at r;rw [G];simpa using r
  ·rw [kC e] at g;have o:=h.lane i l' g;refine ⟨o.len,o.wP,λt k E=>?_⟩;obtain ⟨v,n,r,y,A⟩:=o.at_ t k E;have a:k≠q:=λf=>by subst f;rw [F.1] at n;cases n;exact e (y.symm.trans F.2)
   exact ⟨v,n,r,y,by rw [rG a];exact A⟩
 ·have a:k≠q:=λe=>by rw [e,s3] at aq;cases aq
  rw [rG a] at aq;obtain ⟨i,l',g,hm⟩:=h.left k s aq;by_cases e:i=j
  ·subst e;rw [D] at g;cases g;rw [c] at hm;rcases eU.1 hm with f | f
   ·exact absurd f a
   ·exact ⟨i,⟨p,l.bC.tail⟩,by simp [bh.comes,u],by show k ∈ l.bC.tail;rw [c];exact f⟩
  ·exact ⟨i,l',by rw [kC e];exact g,hm⟩
theorem gO.all {C:bh} {vs:List aQ} {bt:Nat->Option aM} (h:gO C vs bt) (he:∀ (j:Nat) (l:cA),C.az[j]?=some l->l.pair.a3=[]):∃ ds,C.batch=some ds/\ds.length=vs.length/\(∀ q d,bt q=some d->ds[q]?=some d)/\∀ q,q<vs.length->∃ d,bt q=some d:=by
 obtain ⟨ds,b,c,e⟩:=h.ds;refine ⟨ds,b,c,e,λq f=>?_⟩;cases aq:bt q with
 |some d=>exact ⟨d,rfl⟩
 |none=>obtain ⟨j,l,a,hm⟩:=h.left q f aq;have:=(h.lane j l a).len;rw [he j l a] at this;rw [lI.1 this] at hm;cases hm
structure oh (vs:List aQ) (k:Nat) (C:bh):Prop where
 lane:∀ (j:Nat) (l:cA),C.az[j]?=some l->l.bC.length=l.pair.a3.length/\l.bC.Pairwise (·<·)/\∀ (t q:Nat),l.bC[t]?=some q->q<k/\∃ v,vs[q]?=some v/\l.pair.a3[t]?=some v/\v.node.toNat=j
 left:∀ q,q<k->∃ (j:Nat) (l:cA),C.az[j]?=some l/\q ∈ l.bC
theorem oh.one {vs:List aQ} {k:Nat} {C:bh} (h:oh vs k C) {v:aQ} (al:vs[k]?=some v) (E:v.node.toNat<C.az.length):oh vs (k+1) (C.e5 k v):=by
 refine ⟨λj l r=>?_,λq F=>?_⟩
 ·obtain ⟨cN,z,D⟩:=uP r;obtain ⟨o,w,p⟩:=h.lane j cN z;rcases D with ⟨g,n,_⟩ | ⟨g,n,y⟩
  ·rw [g,n];exact ⟨o,w,λt q c=>by obtain ⟨a,b⟩:=p t q c;exact ⟨by omega,b⟩⟩
  ·rw [g,n];refine ⟨by simp [o],?_,λt q c=>?_⟩
   ·rw [List.pairwise_append];refine ⟨w,List.pairwise_singleton _ _,λa A b B=>?_⟩;obtain ⟨t,c⟩:=ei.1 A;have:=(p t a c).1;simp at B <;> omega
   ·by_cases s:t<cN.bC.length
    ·rw [h3 s] at c;obtain ⟨a,u,b1,aB,x⟩:=p t q c;exact ⟨by omega,u,b1,by rw [h3 (by omega)];exact aB,x⟩
    ·rw [h4 (by omega)] at c;have f:t - cN.bC.length=0:=by have:=b3 c;simp at this <;> omega
     rw [f] at c;simp at c;subst c;exact ⟨by omega,v,al,by rw [h4 (by omega),<-o,f];rfl,y⟩
 ·have d:∀ i,(C.e5 k v).az[i]?=(C.az[i]?).map λl=>if v.node.toNat=i then (⟨{ l.pair with a3:=l.pair.a3++[v] },l.bC++[k]⟩:cA) else l:=λi=>by
   unfold bh.e5;simp only [rA];cases C.az[i]? with
   |none=>rfl
   |some l=>by_cases e:v.node.toNat=i<;>simp [e]
  by_cases e:q=k
  ·subst e;refine ⟨v.node.toNat,_,by rw [d,bE E];rfl,?_⟩;simp
  ·obtain ⟨j,l,r,hm⟩:=h.left q (by omega);refine ⟨j,_,by rw [d,r];rfl,?_⟩;split
   ·exact vF _ hm
   ·exact hm
theorem oh.from {vs:List aQ}:∀ (us:List aQ) {k:Nat} {C:bh},oh vs k C->(∀ i,us[i]?=vs[k+i]?)->(∀ v ∈ us,v.node.toNat<C.az.length)->oh vs (k+us.length) (C.fc k us)
 | [],k,C,h,hu,a=>h
 |u::us,k,C,h,hu,a=>by
  have b:=h.one (v:=u) (by have:=hu 0;simpa using this.symm) (a u eO);have d:(C.e5 k u).az.length=C.az.length:=by simp [bh.e5]
  have c:=oh.from us b (λi=>by have:=hu (i+1);rw [n4] at this;rw [this];congr 1;omega) (λv al=>by rw [d];exact a v (fw _ al));rw [hh,show k+(us.length+1)=k+1+us.length by omega];exact c
theorem gO.post {C:bh} {vs:List aQ} (u:C.alive=true) (he:∀ (j:Nat) (l:cA),C.az[j]?=some l->l.pair.a3=[]/\l.bC=[]) (w:∀ v ∈ vs,v.node.toNat<C.az.length):gO (C.j0 vs) vs λ_=>none:=by
 have s:oh vs 0 C:=⟨λj l a=>by obtain ⟨g,n⟩:=he j l a;rw [g,n];exact ⟨rfl,List.Pairwise.nil,λt q b=>by simp at b⟩,λq c=>by omega⟩
 have h:=oh.from vs s (λi=>by rw [gM]) w;rw [gM] at h;refine ⟨?_,⟨List.replicate vs.length ⟨0,[]⟩,rfl,by simp,λq d e=>by cases e⟩,λj l a=>?_,λq c _=>h.left q c⟩
 ·have:∀ (us:List aQ) (D:bh) (k:Nat),(D.fc k us).alive=D.alive:=λus=>by
   induction us with
   |nil=>intro D k;rfl
   |cons v vs x=>intro D k;exact (x (D.e5 k v) (k+1)).trans rfl
  exact (this vs C 0).trans u
 ·obtain ⟨o,p,r⟩:=h.lane j l a;exact ⟨o,p,λt q b=>by obtain ⟨_,v,b1,aB,f⟩:=r t q b;exact ⟨v,b1,aB,f,rfl⟩⟩
end
section
theorem Jf (C:bh) (j:Nat) (l:cA) (p:cR) (d:Option aM):(C.comes j l p d).alive=C.alive:=by cases d<;>rfl
theorem Cu {n:aN} {a:Nat} {ws:a8} (h:a+ws.length<=n.words.length):(n.write a ws).words.length=n.words.length:=by unfold aN.write;simp;omega
theorem pF {n:aN} {a:Nat} {ws:a8} (h:a+ws.length<=n.words.length) (i:Nat):(n.write a ws).get i=if a<=i/\i<a+ws.length then ws.getD (i - a) 0 else n.get i:=by
 unfold aN.write aN.get;simp only [dq];by_cases b:i<a
 ·rw [if_neg (by omega),lF,h3 (by simp;omega),tl b]
 ·by_cases c:i<a+ws.length
  ·rw [if_pos ⟨by omega,c⟩,lF,h4 (by simp;omega),h3 (by simp;omega)];congr 2;simp;omega
  ·rw [if_neg (by omega),h4 (by simp;omega),kv];congr 2;simp;omega
theorem Nm {n:aN} {a:Nat} (h:a<n.words.length) (v:Int) (i:Nat):({ n with words:=n.words.set a v }:aN).get i=if i=a then v else n.get i:=by
 unfold aN.get;simp only [dq];by_cases e:i=a
 ·subst e;rw [if_pos rfl,g5 h];rfl
 ·rw [if_neg e,gN (λb=>e b.symm)]
theorem MB {n:aN} {a:Nat} (h:a<n.words.length):n.read a 1=[n.get a]:=by unfold aN.read;simp only [fD];rw [oZ h];have b:=aN.get_some h;rw [bE h] at b;simp at b;simp [b]
theorem mt {v:aG} (c:1<=v.count) (d:v.bZ % 8+v.count<=8) (b:0<=v.bZ):v.pieces=[(v.bZ,v.count)]:=by
 unfold aG.pieces;obtain ⟨f,a⟩:∃ f,v.count.toNat=f+1:=⟨v.count.toNat - 1,by omega⟩;rw [a,hL,if_neg (by omega)];have e:(if 8 - v.bZ % 8<v.count then 8 - v.bZ % 8 else v.count)=v.count:=by
  split
  ·omega
  ·rfl
 rw [e];cases f with
 |zero=>rfl
 |succ f=>rw [hL,if_pos (by omega)]
structure iw (N L:Nat) (x:aQ):Prop where
 valid:∀ m:Int,N<=m->m<=5->x.v.valid m L=0
 node:0<=x.node/\x.node<N
 key:x.key=1
 ee:x.ee=1
theorem vk {p:cR} {n:aN} {x:aQ} {xs:List aQ} (al:p.a3=x::xs) (a:p.refusal x n=0) :
  p.step n=if p.bz+1<x.v.pieces.length then ({ p with bz:=p.bz+1,words:=p.words++(exec x (x.v.pieces.getD p.bz (0,0)) n).2 },(exec x (x.v.pieces.getD p.bz (0,0)) n).1,none)
   else (p.done,(exec x (x.v.pieces.getD p.bz (0,0)) n).1,some ⟨0,p.words++(exec x (x.v.pieces.getD p.bz (0,0)) n).2⟩):=by
 unfold cR.step;rw [al];simp only;rw [if_neg (by rw [a];simp)]
theorem Dx {p:cR} {n:aN} {x:aQ} {xs:List aQ} (c:fS p) (al:p.a3=x::xs) (d:p.refusal x n=0) {pc:Int×Int} (b:x.v.pieces=[pc]):p.step n=(p.done,(exec x pc n).1,some ⟨0,(exec x pc n).2⟩):=by
 have a:=c.hX x xs al;rw [b] at a;have he:p.bz=0:=by simp at a;exact a
 rw [vk al d,b,he];simp [c.zero he]
structure pf (a k:Nat) (n n':aN):Prop where
 len:n'.words.length=n.words.length
 down:n'.down=n.down
 get:∀ i,i<a\/a+k<=i->n'.get i=n.get i
theorem MC {x:aQ} (a:x.kind=3) {n:aN} (pc:Int×Int):exec x pc n=(n.fx x.at_ x.old x.new,[n.get x.at_.toNat]):=by unfold exec;rw [if_neg (by omega),if_neg (by omega),if_pos a]
theorem Ki {x:aQ} (a:x.kind=1) (c:0<=x.at_) {n:aN} (b:x.at_.toNat<n.words.length):exec x (x.at_,1) n=(n,[n.get x.at_.toNat]):=by
 unfold exec;rw [if_pos a];have:n.read x.at_ 1=[n.get x.at_.toNat]:=by have h:=MB b;rw [show ((x.at_.toNat:Nat):Int)=x.at_ by omega] at h;exact h
 simp only [this]
end
section
def nf (j:c0):List aQ:=py j (e' j.aW+8) (fo j.seq j.writes)
def ng (j:c0):List aQ:=py j (e' j.aW) [fX j.seq]
structure Fit (vs:List aQ) (ds:List aM):Prop where
 len:ds.length=vs.length
 each:∀ (q:Nat) (v:aQ) (d:aM),vs[q]?=some v->ds[q]?=some d->d.code=0/\(d.words.length:Int)=v.v.iW
theorem BQ:∀ {ds:List aM},(∀ d ∈ ds,d.code=0)->hB ds=0
 | [],_=>rfl
 |d::ds,h=>by unfold hB;rw [if_pos (h d eO)];exact BQ λx a=>h x (fw _ a)
theorem Fit.Rt {vs:List aQ} {ds:List aM} (h:Fit vs ds):hB ds=0:=BQ λd aq=>by
 obtain ⟨q,c⟩:=ei.1 aq;have b:=b3 c;have a:q<vs.length:=by rw [<-h.len];exact b
 exact (h.each q vs[q] d (bE a) c).1
theorem Fit.kD {vs:List aQ} {ds:List aM} (h:Fit vs ds):Go.Proofs.YtmkljjbioomepaaGreat.kD vs ds=true:=by unfold Go.Proofs.YtmkljjbioomepaaGreat.kD;rw [ep,decide_eq_true_eq,fE];refine ⟨h.len.symm,λp e=>?_⟩;obtain ⟨q,f⟩:=ei.1 e;obtain ⟨c,d⟩:=BK.1 f;obtain ⟨a,b⟩:=h.each q p.1 p.2 c d;unfold ss;rw [if_pos a];exact decide_eq_true b
theorem Bd {vs:List aQ} (h:vs≠[]) (a:Int):cm [] vs a=⟨false,[],(0,0),[],some vs,false⟩:=by
 have c:vs.length≠0:=λe=>h (lI.1 e)
 have b:batch [] vs=⟨[],false,[],some vs,false⟩:=by unfold batch;rw [if_neg c]
 unfold cm;rw [b];rfl
theorem Bv {vs:List aQ} {d:List aM} (G:List (List aM)) (al:vs≠[]) (h:Fit vs d) (a:Int):cm (d::G) vs a=⟨true,d,(0,0),G,none,false⟩:=by
 have c:vs.length≠0:=λe=>al (lI.1 e)
 have b:batch (d::G) vs=⟨d,true,G,none,false⟩:=by unfold batch;rw [if_neg c];simp only [h.kD,if_true]
 unfold cm;rw [b];simp only [h.Rt];rfl
theorem Cv (G:List (List aM)) (a:Int):cm G [] a=⟨true,[],(0,0),G,none,false⟩:=by have b:batch G []=⟨[],true,G,none,false⟩:=if_pos rfl;unfold cm;rw [b];rfl
set_option linter.unusedSectionVars false
section
variable {j:c0} (al:j.valid=0) (eJ:j.writes≠[])
include al eJ
theorem If (G:List (List aM)):r8 j G=cm G (nf j) 1:=by unfold r8 nJ nf;rw [if_neg eJ]
theorem K' (G:List (List aM)):tP j G=cm G (ng j) 2:=by unfold tP nJ ng;rw [if_neg eJ]
theorem MD (G:List (List aM)):nD j G=cm G (h8 j) 3:=by unfold nD;rw [if_neg eJ]
theorem Nn:dG j≠[]:=by
 unfold dG;cases h:j.writes with
 |nil=>exact absurd h eJ
 |cons p l=>simp
theorem No {D:List aM} (a:Fit (dG j) D) (b:iB (rg j) D=false) (G:List (List aM)):kl j (D::G)=⟨true,[],(0,0),G,none,false⟩:=by unfold kl;rw [Bv G (Nn al eJ) a];simp only [b,if_true];rfl
end
end
section
def ro (n:Nat):jt:=⟨0,stM n⟩
theorem ft.iz {A:a6} {aw:Nat->Tag} {w0 w u:ak} {aJ:Nat} {L B:a6} {dz:Nat->Tag} {X a:bR} (t:ft A aw w aJ L u B dz X) (c:b6 A aw w aJ a) (e:ai w0 w) (b:∀ k,A k->w0.heap.size<=k):ai w0 u:=
 e.trans t.next.aA λk f d=>by have:=b k (c.e9 k d);omega
theorem Np {A:a6} {w u:ak} {a:an} {xs:ax} (b:bk w a xs) (e:ai w u) (d:∀ k,A k->w.heap.size<=k):o' A u a xs:=by
 refine ⟨b.new e,?_⟩;by_cases c:xs=[]
 ·exact .inl c
 ·refine .inr ?_;cases a with
  |none=>trivial
  |some a=>intro h;have:=d _ h;have:=b.lt c;omega
namespace e7
def conv:Conv:=⟨c0,Int×Int,ed⟩
structure qp (A:a6) (w:ak) (r:dt) (j:c0):Prop where
 at_:p4 w r j
 view:gp A w r.View j.v
 Xs:(E6 j.reads).flatten=[]\/gA A r.Reads
 Xu:(ia j.writes).flatten=[]\/gA A r.eH
 lV:o7 j
theorem gp.aA {A A':a6} {w w':ak} {r:c2} {v:jt} (h:gp A w r v) (b:ao A w w') (a:∀ k,k<w.heap.size->A' k->A k):gp A' w' r v:=
 ⟨h.num,h.len,h.cap,h.rd.aA b h.off,gA.aA h.rd h.off a,h.small⟩
theorem qp.aA {A A':a6} {w w':ak} {r:dt} {j:c0} (h:qp A w r j) (d:ao A w w') (c:∀ k,k<w.heap.size->A' k->A k):qp A' w' r j:=by obtain ⟨a,al,e,hw,aq⟩:=h;have b:=gp.aA al d c;exact ⟨⟨a.aW,a.seq,a.lines,⟨A',b⟩,a.rd.aA d e,a.len,a.eB,⟨a.bV.rd.aA d hw,a.bV.len,a.bV.eB,a.bV.u64⟩⟩,b,gA.aA a.rd e c,gA.aA a.bV.rd hw c,aq⟩
end e7
end
section
open e7
def bg (m:Nat):a0:=⟨(m:Int),1,true⟩
def cD (m:Nat) (a:Int) (ws:a8):aQ:=⟨2,(m:Int),a,0,0,0,ws,1,1⟩
def wW (a old new:Int):aQ:=⟨3,0,a,0,old,new,[],1,1⟩
def AX (a:Int):aQ:=⟨1,0,a,1,0,0,[],1,1⟩
theorem nh {n L m:Nat} {a:Int} {ws:a8} (l:n<=5) (hm:m<n) (h:1<=L/\L<=256) (i:24<=a) (e:1<=ws.length) (f:ws.length<=1000) (g:a+ws.length<=L * 8):iw n L (cD m a ws):=by
 refine ⟨λk j d=>?_,⟨by show (0:Int)<=m;omega,by show (m:Int)<n;omega⟩,rfl,rfl⟩;have b:(cD m a ws).v.count=ws.length:=rfl;have c:(cD m a ws).v.inside k L=true:=by unfold aG.inside aG.cN aG.c9;rw [b];apply decide_eq_true;show 1<=k/\k<=5/\1<=(L:Int)/\(L:Int)<=256/\0<=(m:Int)/\(m:Int)<k/\0<=a/\a<(L:Int) * 8/\(ws.length:Int)<=1024/\(a+ws.length - 1) / 8<(L:Int)/\(a+ws.length - 1) / 8 - a / 8<128;omega
 unfold aG.valid;rw [b,if_neg (by omega),c,if_neg (by simp),if_neg];unfold aG.cN aG.c9 aG.last;rw [b];show ¬ (a / 8<=(if (2:Int)=1 then 3 else 2)/\(if (2:Int)=1 then 3 else 2)<(a+ws.length - 1) / 8);rw [if_neg (by omega)];omega
structure Env where
 n:Nat
 L:Nat
 base:Nat->Nat->Int
 fi:Nat->Int
 ids:cT
 a9:Nat->c0
 Xt:Bool
def Env.on (E:Env) (i:Nat):Prop:=i ∈ E.ids
structure ey (E:Env) (i:Nat) (j:c0):Prop where
 cE:j.aW=(i:Int)
 i6:i<6
 valid:j.valid=0
 view:j.v=ro E.n
 some_:j.writes≠[]
 eB:j.writes.length<=12
 x4:j.reads.length<=24
 line:∀ p ∈ j.writes,∃ l:Nat,p.bm=(l:Int)/\96<=l/\l<E.L
 Xr:∀ s ∈ j.reads,∃ l:Nat,s.bm=(l:Int)/\96<=l/\l<E.L
 uniq:∀ p ∈ j.writes,∀ q ∈ j.writes,p.bm=q.bm->p=q
 nodup:(j.writes.map (·.bm)).Nodup
 head:∀ p ∈ j.writes,p.Head=E.base p.bm.toNat 0
 SC:∀ p ∈ j.writes,∀ k:Nat,k<6->eK p.Head k≠p.Head/\(eK p.Head k=eK p.Head i->k=i)
 next:∀ p ∈ j.writes,lB p.Head≠p.Head
 Xq:∀ s ∈ j.reads,s.Head=E.base s.bm.toNat 0
 Xp:∀ s ∈ j.reads,∀ p ∈ j.writes,s.bm≠p.bm
structure qj (E:Env):Prop where
 n:1<=E.n/\E.n<=5
 L:98<=E.L/\E.L<=256
 ids:E.ids.Nodup
 bQ:∀ i,E.on i->ey E i (E.a9 i)
section
variable {E:Env} {i:Nat} {j:c0}
theorem ey.mem (h:ey E i j):j.v.mem=(List.range E.n).map bg:=by rw [h.view];rfl
theorem ey.num (h:ey E i j):j.v.number=0:=by rw [h.view];rfl
theorem ey.bS (h:ey E i j) (b:1<=E.n):sB j=bg 0:=by unfold sB;rw [h.mem];obtain ⟨k,a⟩:∃ k,E.n=k+1:=⟨E.n - 1,by omega⟩;rw [a,tg];rfl
theorem ey.tail (h:ey E i j):j.v.mem.tail=(List.range (E.n - 1)).map λm=>bg (m+1):=by
 rw [h.mem];cases a:E.n with
 |zero=>rfl
 |succ k=>rw [tg];simp
theorem ey.log (h:ey E i j) (a:Int) (ws:a8):py j a ws=(List.range E.n).map λm=>cD m a ws:=by unfold py;rw [h.mem,h.num,rC];rfl
theorem ey.fx (h:ey E i j) (a:1<=E.n) (p:aK):lT j p=wW (p.bm * 8) p.Head (eK p.Head i):=by unfold lT;rw [h.num,h.bS a,h.cE];rfl
theorem ey.read (h:ey E i j) (a:1<=E.n) (s:eQ):n7 j s=AX (s.bm * 8):=by unfold n7;rw [h.num,h.bS a];rfl
def fO (m:Nat) (p:aK):aQ:=cD m (p.bm * 8) (iJ p)
def ow (i:Nat) (seq:Int) (m:Nat):aQ:=cD m (32+(i:Int)) [seq]
theorem ey.dx (h:ey E i j) (m:Nat) (p:aK):jG j (bg m) p=fO m p:=by unfold jG;rw [h.num];rfl
theorem ey.clock (h:ey E i j) (m:Nat):lo j (bg m)=ow i j.seq m:=by unfold lo;rw [h.num,h.cE];rfl
theorem ey.Gm (h:ey E i j) (a:1<=E.n):dG j=(j.writes.map λp=>wW (p.bm * 8) p.Head (eK p.Head i))++j.reads.map λs=>AX (s.bm * 8):=by
 unfold dG;congr 1
 ·exact rB λp _=>h.fx a p
 ·exact rB λs _=>h.read a s
theorem ey.FK (h:ey E i j):qi j=((List.range (E.n - 1)).map λm=>(j.writes.map (fO (m+1))++[ow i j.seq (m+1)])).flatten:=by
 unfold qi;rw [h.tail,rC];congr 1;refine rB λm _=>?_
 show kf j (bg (m+1))=_;unfold kf;rw [if_neg h.some_,h.clock];congr 1;exact rB λp _=>h.dx (m+1) p
theorem ey.FW (h:ey E i j) (b:1<=E.n):h8 j=ow i j.seq 0::j.writes.map (fO 0):=by have hm:=h.mem;unfold h8;obtain ⟨k,a⟩:∃ k,E.n=k+1:=⟨E.n - 1,by omega⟩;rw [a,tg] at hm;rw [hm];simp only [gj];rw [h.clock];congr 1;exact rB λp _=>h.dx 0 p
theorem ey.z' (h:ey E i j):nf j=(List.range E.n).map λm=>cD m (56+120 * (i:Int)) (fo j.seq j.writes):=by
 unfold nf;rw [h.log,h.cE];have e:e' (i:Int)+8=56+120 * (i:Int):=by unfold e';omega
 rw [e]
theorem ey.AB (h:ey E i j):ng j=(List.range E.n).map λm=>cD m (48+120 * (i:Int)) [fX j.seq]:=by unfold ng;rw [h.log,h.cE];rfl
end
end
section
open e7
structure wJ (L:Nat) (dj:Bool) (n:aN):Prop where
 up:n.down=false
 len:n.words.length=L * 8
 key:n.get 0=1
 ee:n.get 1=1
 d0:n.get 24=if dj=true then 2 else 1
 dV:∀ c:Nat,1<=c->c<6->n.get (24+c)=1
theorem ED {N L:Nat} {dj:Bool} {n:aN} (a:wJ L dj n) (l:N<=5) {x:aQ} (d:iw N L x) {p:cR} {c:Nat} (k:p.aW=c) (j:p.inc=1) (i:c<6):p.refusal x n=if x.v.cls=1/\x.v.Kind=1 then 0 else if dj=true/\c=0 then 5 else 0:=by
 unfold cR.refusal;rw [if_neg (by rw [a.up];simp),a.len,show L * 8 / 8=L by omega,if_neg (by rw [d.valid 5 (by omega) (by omega)];simp)];have e:(24+p.aW).toNat=24+c:=by rw [k];omega
 rw [e,a.key,a.ee,j];unfold aG.check;split
 ·rfl
 have h:¬ (x.v.cq<0\/x.v.cq≠1\/x.v.Key≠1):=by show ¬ (x.ee<0\/x.ee≠1\/x.key≠1);rw [d.key,d.ee];omega
 have g:∀ b:Int,(if (1:Int)<0\/(1:Int)<b then (5:Int) else if x.v.cls=1 then 0 else if x.v.cq<0\/x.v.cq≠1\/x.v.Key≠1 then 5 else 0)=if 1<b then 5 else 0:=λb=>by
  rw [if_neg h];by_cases aq:1<b
  ·rw [if_pos (.inr aq),if_pos aq]
  ·rw [if_neg (by omega),if_neg aq];split<;>rfl
 rw [g];by_cases f:c=0
 ·subst f;rw [mb,a.d0];cases dj<;>rfl
 ·rw [a.dV c (by omega) i,if_neg (by decide),if_neg (λe=>f e.2)]
theorem pf.aU {a k L:Nat} {dj:Bool} {n n':aN} (h:pf a k n n') (b:wJ L dj n) (f:30<=a):wJ L dj n':=
 ⟨h.down.trans b.up,h.len.trans b.len,(h.get 0 (by omega)).trans b.key,(h.get 1 (by omega)).trans b.ee,by rw [h.get 24 (by omega)];exact b.d0,λc d e=>by rw [h.get (24+c) (by omega)];exact b.dV c d e⟩
abbrev bM (E:Env):List aK:=(E.a9 0).writes
abbrev dd (E:Env):Int:=(E.a9 0).seq
abbrev g3 (E:Env):a8:=fo (dd E) (bM E)
abbrev il (E:Env):Int:=fX (dd E)
abbrev br (p:aK):Nat:=p.bm.toNat
structure cg (E:Env):Prop where
 e:qj E
 one:E.ids=[0]
 rd:(E.a9 0).reads=[]
 SB:∀ p ∈ bM E,eK p.Head 0≠lB p.Head
 dI:fH (dd E) (bM E) E.L=0
 lV:o7 (E.a9 0)
 u64:∀ p ∈ bM E,cj p.Head
 fi:0<=E.fi 0/\E.fi 0<dd E
 ch:∀ l,96<=l->l<E.L->E.base l 0 % 2=0
theorem cg.bQ {E:Env} (h:cg E):ey E 0 (E.a9 0):=h.e.bQ 0 (by unfold Env.on;rw [h.one];simp)
theorem cg.seq {E:Env} (h:cg E):1<=dd E/\dd E<1073741824:=by obtain ⟨_,a,_⟩:=jy h.dI;exact ⟨a.1,a.2.1⟩
theorem cg.pl {E:Env} (h:cg E) {p:aK} (c:p ∈ bM E):96<=br p/\br p<E.L/\p.bm=(br p:Int):=by
 obtain ⟨l,e,a,b⟩:=h.bQ.line p c;have:br p=l:=by show p.bm.toNat=l;rw [e];rfl
 rw [this];exact ⟨a,b,e⟩
theorem cg.inj {E:Env} (h:cg E) {p q:aK} (a:p ∈ bM E) (b:q ∈ bM E) (e:br p=br q):p=q:=
 h.bQ.uniq p a q b (by rw [(h.pl a).2.2,(h.pl b).2.2,e])
theorem cg.lS {E:Env} (h:cg E):(g3 E).length=3+9 * (bM E).length/\(bM E).length<=12:=⟨pD _ _,h.bQ.eB⟩
structure bu where
 bV:Nat->Nat->Nat
 cM:Nat->Bool
 dJ:Nat->Bool
 ez:Nat->Bool
 dj:Nat->Bool
 dZ:Int
def qt (E:Env) (p:aK) (s:Nat) (x:aN):Prop:=match s with
 | 0=>∀ k,k<8->x.get (br p * 8+k)=E.base (br p) k
 | 1=>x.get (br p * 8)=eK p.Head 0/\∀ k,1<=k->k<8->x.get (br p * 8+k)=E.base (br p) k
 | _=>∀ k,k<8->x.get (br p * 8+k)=(iJ p).getD k 0
structure Mem (E:Env) (A:bu) (m:Nat) (x:aN):Prop where
 aU:wJ E.L (A.dj m) x
 bV:∀ p ∈ bM E,qt E p (A.bV m (br p)) x
 gE:∀ l:Nat,96<=l->l<E.L->(∀ p ∈ bM E,br p≠l)->∀ k,k<8->x.get (l * 8+k)=E.base l k
 cO:∀ c:Nat,1<=c->c<6->x.get (32+c)=E.fi c
 dJ:x.get 32=if A.dJ m=true then dd E else E.fi 0
 cM:x.get 48=if A.cM m=true then il E else 0
 dZ:m=0->x.get 49=A.dZ
 ez:A.ez m=true->∀ k,k<(g3 E).length->x.get (56+k)=(g3 E).getD k 0
structure jM (E:Env) (A:bu) (bp:List aN):Prop where
 len:bp.length=E.n
 mem:∀ (m:Nat) (x:aN),bp[m]?=some x->Mem E A m x
structure e8 (E:Env) (A:bu):Prop where
 cN:∀ m,m<E.n->∀ p ∈ bM E,A.bV m (br p)<=2/\(1<=m->A.bV m (br p)≠1)
 l2:∀ m,m<E.n->A.cM m=true->(∀ b4,b4<E.n->A.ez b4=true)/\∀ p ∈ bM E,A.bV 0 (br p)≠0
 iM:∀ m,m<E.n->∀ p ∈ bM E,A.bV m (br p)=2->∀ b4,b4<E.n->A.cM b4=true
 nI:∀ m,m<E.n->A.dJ m=true->∀ b4,b4<E.n->A.cM b4=true
 lX:∀ p ∈ bM E,A.bV 0 (br p)=2->A.dJ 0=true
 k':A.dJ 0=true->∀ m,1<=m->m<E.n->A.dJ m=true
 ld:∀ m,1<=m->m<E.n->A.dJ m=true->∀ p ∈ bM E,A.bV m (br p)=2
def h5 (E:Env) (A:bu):Prop:=∀ m,m<E.n->A.cM m=true
def gk (E:Env) (A:bu):Prop:=∀ m,m<E.n->A.cM m=false
def iu (E:Env) (A:bu):Prop:=∀ m,m<E.n->A.ez m=true
def jq (E:Env) (A:bu):Prop:=∀ m,m<E.n->A.dj m=true
def qe (E:Env) (A:bu):Prop:=∀ m,1<=m->m<E.n->A.dJ m=true
def oa (E:Env) (A:bu):Prop:=h5 E A/\A.dJ 0=true/\∀ p ∈ bM E,A.bV 0 (br p)=2
def r0 (E:Env) (A:bu):Prop:=jq E A/\gk E A/\∀ p ∈ bM E,A.bV 0 (br p)=0
structure dp (E:Env) (A A':bu):Prop where
 cM:∀ m,A.cM m=true->A'.cM m=true
 dJ:∀ m,A.dJ m=true->A'.dJ m=true
 ez:∀ m,A.ez m=true->A'.ez m=true
 dj:∀ m,A.dj m=true->A'.dj m=true
 bV:∀ m l,A.bV m l=2->A'.bV m l=2
theorem dp.refl (E:Env) (A:bu):dp E A A:=⟨λ_ h=>h,λ_ h=>h,λ_ h=>h,λ_ h=>h,λ_ _ h=>h⟩
theorem dp.am {E:Env} {A A':bu} (h:dp E A A') (g:h5 E A):h5 E A':=λm hm=>h.cM m (g m hm)
theorem dp.lb {E:Env} {A A':bu} (h:dp E A A') (g:iu E A):iu E A':=λm hm=>h.ez m (g m hm)
theorem dp.bt {E:Env} {A A':bu} (h:dp E A A') (g:jq E A):jq E A':=λm hm=>h.dj m (g m hm)
theorem dp.qE {E:Env} {A A':bu} (h:dp E A A') (g:qe E A):qe E A':=λm a hm=>h.dJ m (g m a hm)
theorem dp.FV {E:Env} {A A':bu} (h:dp E A A') (g:oa E A):oa E A':=⟨h.am g.1,h.dJ 0 g.2.1,λp a=>h.bV 0 _ (g.2.2 p a)⟩
def bu.g2 (A:bu) (m l s:Nat):bu:={ A with bV:=λb4 l'=>if b4=m/\l'=l then s else A.bV b4 l' }
def bu.jF (A:bu) (m:Nat):bu:={ A with cM:=λb4=>if b4=m then true else A.cM b4 }
def bu.ly (A:bu) (m:Nat):bu:={ A with dJ:=λb4=>if b4=m then true else A.dJ b4 }
def bu.pR (A:bu) (m:Nat):bu:={ A with ez:=λb4=>if b4=m then true else A.ez b4 }
def bu.oQ (A:bu) (m:Nat):bu:={ A with dj:=λb4=>if b4=m then true else A.dj b4 }
def bu.q' (A:bu) (t:Int):bu:={ A with dZ:=t }
section
variable {E:Env} {A:bu} {bp:List aN} {m:Nat} {x gh:aN}
theorem jM.fr (h:jM E A bp) {A':bu} (d:bp[m]?=some x) (hm:Mem E A' m gh) (c:∀ b4,b4≠m->∀ y,Mem E A b4 y->Mem E A' b4 y):jM E A' (bp.set m gh):=by
 refine ⟨by simpa using h.len,λb4 y a=>?_⟩;by_cases e:m=b4
 ·subst e;rw [g5 (b3 d)] at a;cases a;exact hm
 ·rw [gN e] at a;exact c b4 (λb=>e b.symm) y (h.mem b4 y a)
theorem Mem.same (h:Mem E A m x) {A':bu} (b:∀ p ∈ bM E,A'.bV m (br p)=A.bV m (br p)) (c:A'.cM m=A.cM m) (d:A'.dJ m=A.dJ m) (f:A'.ez m=A.ez m) (g:A'.dj m=A.dj m) (i:m=0->A'.dZ=A.dZ):Mem E A' m x:=
 ⟨by rw [g];exact h.aU,λp a=>by rw [b p a];exact h.bV p a,h.gE,h.cO,by rw [d];exact h.dJ,by rw [c];exact h.cM,λe=>by rw [i e];exact h.dZ e,by rw [f];exact h.ez⟩
theorem qt.gv {p:aK} {s a k:Nat} (h:qt E p s x) (e:pf a k x gh) (aq:a+k<=br p * 8\/br p * 8+8<=a):qt E p s gh:=by
 have g:∀ b,b<8->gh.get (br p * 8+b)=x.get (br p * 8+b):=λb c=>e.get _ (by omega)
 unfold qt at h ⊢;split at h
 ·exact λb c=>by rw [g b c];exact h b c
 ·exact ⟨by have:=g 0 (by omega);rw [mb] at this;rw [this];exact h.1,λb d c=>by rw [g b c];exact h.2 b d c⟩
 ·exact λb c=>by rw [g b c];exact h b c
theorem Mem.low (ay:cg E) (h:Mem E A m x) {a k:Nat} (b:pf a k x gh) (u:30<=a) (z:a+k<=768) {A':bu} (o:∀ p ∈ bM E,A'.bV m (br p)=A.bV m (br p)) (g:A'.dj m=A.dj m)
  (r:38<=a\/a+k<=33) (f:gh.get 32=if A'.dJ m=true then dd E else E.fi 0) (j:gh.get 48=if A'.cM m=true then il E else 0) (q:m=0->gh.get 49=A'.dZ) (e:A'.ez m=true->∀ k,k<(g3 E).length->gh.get (56+k)=(g3 E).getD k 0):Mem E A' m gh:=
 ⟨by rw [g];exact b.aU h.aU u,λp n=>by rw [o p n];exact (h.bV p n).gv b (by have:=ay.pl n;omega),λl d s t y i=>by rw [b.get _ (by omega)];exact h.gE l d s t y i,λc d w=>by rw [b.get _ (by omega)];exact h.cO c d w,f,j,q,e⟩
theorem Mem.dx (ay:cg E) (h:Mem E A m x) {p:aK} (f:p ∈ bM E) (a:pf (br p * 8) 8 x gh) {s:Nat} (t:qt E p s gh):Mem E (A.g2 m (br p) s) m gh:=by
 have u:=ay.pl f;refine ⟨a.aU h.aU (by omega),λq j=>?_,λl b n i k d=>?_,λc b r=>by rw [a.get _ (by omega)];exact h.cO c b r,by rw [a.get _ (by omega)];exact h.dJ,by rw [a.get _ (by omega)];exact h.cM,λe=>by rw [a.get _ (by omega)];exact h.dZ e,λo k d=>?_⟩
 ·show qt E q (if m=m/\br q=br p then s else A.bV m (br q)) gh;by_cases e:br q=br p
  ·rw [if_pos ⟨rfl,e⟩,ay.inj j f e];exact t
  ·rw [if_neg (λg=>e g.2)];exact (h.bV q j).gv a (by omega)
 ·have:=i p f;rw [a.get _ (by omega)];exact h.gE l b n i k d
 ·have:=ay.lS;rw [a.get _ (by omega)];exact h.ez o k d
end
end
section
open e7
section
variable {E:Env} {A:bu} {m:Nat} {p:aK}
theorem e8.Rs (h:e8 E A) (m:Nat):e8 E (A.pR m):=by
 obtain ⟨cN,l2,iM,nI,lX,k',ld⟩:=h;refine ⟨cN,λk b e=>⟨λc a=>?_,(l2 k b e).2⟩,iM,nI,lX,k',ld⟩;have:=(l2 k b e).1 c a;simp only [bu.pR];split
 ·rfl
 ·exact this
theorem e8.Ae (h:e8 E A) (m:Nat):e8 E (A.oQ m):=⟨h.cN,h.l2,h.iM,h.nI,h.lX,h.k',h.ld⟩
theorem e8.tag (h:e8 E A) (t:Int):e8 E (A.q' t):=⟨h.cN,h.l2,h.iM,h.nI,h.lX,h.k',h.ld⟩
theorem e8.jA (h:e8 E A) {l s:Nat} (j:s<=2) (n:1<=m->s≠1) (o:s=0->m=0->gk E A) (r:s=2->h5 E A) (t:s=2->m=0->A.dJ 0=true) (u:1<=m->A.bV m l=2->s=2):e8 E (A.g2 m l s):=by
 obtain ⟨cN,l2,iM,nI,lX,k',ld⟩:=h;have e:∀ k q,(A.g2 m l s).bV k q=if k=m/\q=l then s else A.bV k q:=λ_ _=>rfl
 refine ⟨λk a p b=>?_,λk a hm=>⟨(l2 k a hm).1,λp b=>?_⟩,λk a p b=>?_,nI,λp b=>?_,k',λk c a d p b=>?_⟩
 ·rw [e];split
  ·rename_i g;rw [g.1];exact ⟨j,n⟩
  ·exact cN k a p b
 ·rw [e];split
  ·rename_i g;intro f;have hm:A.cM k=true:=hm;rw [o f g.1.symm k a] at hm;cases hm
  ·exact (l2 k a hm).2 p b
 ·rw [e];split
  ·exact r
  ·exact iM k a p b
 ·rw [e];split
  ·rename_i g;exact λi=>t i g.1.symm
  ·exact lX p b
 ·rw [e];split
  ·rename_i g;have:=ld k c a d p b;rw [g.1,g.2] at this;exact u (by omega) this
  ·exact ld k c a d p b
theorem e8.uN (h:e8 E A) (f:iu E A) (d:∀ p ∈ bM E,A.bV 0 (br p)≠0) (m:Nat):e8 E (A.jF m):=by
 obtain ⟨cN,l2,iM,nI,lX,k',ld⟩:=h;have up:∀ k,A.cM k=true->(A.jF m).cM k=true:=λk b=>by simp only [bu.jF];split;rfl;exact b
 exact ⟨cN,λk b e=>⟨f,d⟩,λk b p d e c a=>up c (iM k b p d e c a),λk b e c a=>up c (nI k b e c a),lX,k',ld⟩
theorem e8.ux (h:e8 E A) (l:h5 E A) (i:m=0->qe E A) (j:1<=m->∀ p ∈ bM E,A.bV m (br p)=2):e8 E (A.ly m):=by
 obtain ⟨cN,l2,iM,nI,lX,k',ld⟩:=h;have e:∀ k,(A.ly m).dJ k=if k=m then true else A.dJ k:=λ_=>rfl
 have up:∀ k,A.dJ k=true->(A.ly m).dJ k=true:=λk c=>by rw [e];split;rfl;exact c
 refine ⟨cN,l2,iM,λk c _=>l,λp d f=>up 0 (lX p d f),λb k a c=>?_,λk a c b p d=>?_⟩
 ·rw [e] at b;by_cases g:0=m
  ·exact up k (i g.symm k a c)
  ·rw [if_neg g] at b;exact up k (k' b k a c)
 ·rw [e] at b;by_cases g:k=m
  ·rw [g];exact j (by omega) p d
  ·rw [if_neg g] at b;exact ld k a c b p d
theorem vK {l s:Nat} (h:A.bV m l=2->s=2):dp E A (A.g2 m l s):=⟨λ_ h=>h,λ_ h=>h,λ_ h=>h,λ_ h=>h,λk q e=>by
 show (if k=m/\q=l then s else A.bV k q)=2;split
 ·rename_i g;rw [g.1,g.2] at e;exact h e
 ·exact e⟩
theorem Eh:dp E A (A.jF m):=⟨λk h=>by simp only [bu.jF];split;rfl;exact h,λ_ h=>h,λ_ h=>h,λ_ h=>h,λ_ _ h=>h⟩
theorem Ei:dp E A (A.ly m):=⟨λ_ h=>h,λk h=>by simp only [bu.ly];split;rfl;exact h,λ_ h=>h,λ_ h=>h,λ_ _ h=>h⟩
theorem Nq:dp E A (A.pR m):=⟨λ_ h=>h,λ_ h=>h,λk h=>by simp only [bu.pR];split;rfl;exact h,λ_ h=>h,λ_ _ h=>h⟩
theorem Nr:dp E A (A.oQ m):=⟨λ_ h=>h,λ_ h=>h,λ_ h=>h,λk h=>by simp only [bu.oQ];split;rfl;exact h,λ_ _ h=>h⟩
theorem Ej {t:Int}:dp E A (A.q' t):=⟨λ_ h=>h,λ_ h=>h,λ_ h=>h,λ_ h=>h,λ_ _ h=>h⟩
end
section
variable {E:Env} {A:bu} {bp:List aN} {m:Nat} {x:aN}
theorem Mem.wr (h:Mem E A m x) (ay:cg E) {a:Nat} {ws:a8} (b:a+ws.length<=E.L * 8):pf a ws.length x (x.write a ws):=
 ⟨Cu (by rw [h.aU.len];exact b),rfl,λi c=>by rw [pF (by rw [h.aU.len];exact b),if_neg (by omega)]⟩
theorem cg.mE {E:Env} (h:cg E):784<=E.L * 8:=by have:=h.e.L;omega
theorem Mem.uN (ay:cg E) (h:Mem E A m x):Mem E (A.jF m) m (x.write 48 [il E]):=by
 have b:=ay.mE;have g:=pF (n:=x) (a:=48) (ws:=[il E]) (by rw [h.aU.len];simp;omega);refine h.low ay (h.wr ay (by simp;omega)) (by omega) (by simp) (λ_ _=>rfl) rfl (.inl (by omega)) ?_ ?_ (λe=>?_) λb k c=>?_
 ·rw [g,if_neg (by simp)];exact h.dJ
 ·rw [g,if_pos (by simp)];simp [bu.jF]
 ·rw [g,if_neg (by simp)];exact h.dZ e
 ·rw [g,if_neg (by simp;omega)];exact h.ez b k c
theorem Mem.WL (ay:cg E) (h:Mem E A m x) (c:A.cM m=false):Mem E A m (x.write 48 [0]):=by
 have b:=ay.mE;have g:=pF (n:=x) (a:=48) (ws:=[0]) (by rw [h.aU.len];simp;omega);refine h.low ay (h.wr ay (by simp;omega)) (by omega) (by simp) (λ_ _=>rfl) rfl (.inl (by omega)) ?_ ?_ (λe=>?_) λb k d=>?_
 ·rw [g,if_neg (by simp)];exact h.dJ
 ·rw [g,if_pos (by simp),c];simp
 ·rw [g,if_neg (by simp)];exact h.dZ e
 ·rw [g,if_neg (by simp;omega)];exact h.ez b k d
theorem Mem.ux (ay:cg E) (h:Mem E A m x):Mem E (A.ly m) m (x.write 32 [dd E]):=by
 have b:=ay.mE;have g:=pF (n:=x) (a:=32) (ws:=[dd E]) (by rw [h.aU.len];simp;omega);refine h.low ay (h.wr ay (by simp;omega)) (by omega) (by simp) (λ_ _=>rfl) rfl (.inr (by simp)) ?_ ?_ (λe=>?_) λb k c=>?_
 ·rw [g,if_pos (by simp)];simp [bu.ly]
 ·rw [g,if_neg (by simp)];exact h.cM
 ·rw [g,if_neg (by simp)];exact h.dZ e
 ·rw [g,if_neg (by simp;omega)];exact h.ez b k c
theorem Mem.new (ay:cg E) (h:Mem E A m x) {p:aK} (b:p ∈ bM E):Mem E (A.g2 m (br p) 2) m (x.write (br p * 8) (iJ p)):=by
 have d:=ay.pl b;refine h.dx ay b (h.wr ay (a:=br p * 8) (ws:=iJ p) (by show br p * 8+8<=_;omega)) λk c=>?_
 rw [pF (by rw [h.aU.len];show br p * 8+8<=_;omega),if_pos (by show br p * 8<=br p * 8+k/\br p * 8+k<br p * 8+8;omega)];congr 1;omega
theorem Mem.st (h:Mem E A m x) (ay:cg E) {a:Nat} (b:a<E.L * 8) (v:Int):pf a 1 x { x with words:=x.words.set a v }/\∀ i,({ x with words:=x.words.set a v }:aN).get i=if i=a then v else x.get i:=by have g:=Nm (n:=x) (a:=a) (by rw [h.aU.len];exact b) v;exact ⟨⟨by simp,rfl,λi c=>by rw [g,if_neg (by omega)]⟩,g⟩
theorem Mem.SD (ay:cg E) (h:Mem E A m x) {p:aK} (d:p ∈ bM E) (e:A.bV m (br p)=0):Mem E (A.g2 m (br p) 1) m { x with words:=x.words.set (br p * 8) (eK p.Head 0) }:=by have n:=ay.pl d;obtain ⟨c,g⟩:=h.st ay (a:=br p * 8) (by omega) (eK p.Head 0);have b:=h.bV p d;rw [e] at b;refine h.dx ay d ⟨c.len,c.down,λi l=>c.get i (by omega)⟩ ⟨by rw [g,if_pos rfl],λk j f=>?_⟩;rw [g,if_neg (by omega)];exact b k f
theorem Mem.l8 (ay:cg E) (h:Mem E A m x) {p:aK} (c:p ∈ bM E) (f:A.bV m (br p)=1):Mem E (A.g2 m (br p) 0) m { x with words:=x.words.set (br p * 8) p.Head }:=by
 have n:=ay.pl c;obtain ⟨d,g⟩:=h.st ay (a:=br p * 8) (by omega) p.Head;have b:=h.bV p c;rw [f] at b;refine h.dx ay c ⟨d.len,d.down,λi l=>d.get i (by omega)⟩ λk j=>?_
 by_cases e:k=0
 ·subst e;rw [g,if_pos (by omega)];exact ay.bQ.head p c
 ·rw [g,if_neg (by omega)];exact b.2 k (by omega) j
theorem Mem.Ae (ay:cg E) (h:Mem E A m x):Mem E (A.oQ m) m { x with words:=x.words.set 24 2 }:=by
 have j:=ay.mE;obtain ⟨n,g⟩:=h.st ay (a:=24) (by omega) 2;have bW:∀ i,i≠24->({ x with words:=x.words.set 24 2 }:aN).get i=x.get i:=λi s=>by rw [g,if_neg s]
 refine ⟨⟨h.aU.up,n.len.trans h.aU.len,(bW 0 (by omega)).trans h.aU.key,(bW 1 (by omega)).trans h.aU.ee,by rw [g,if_pos rfl];simp [bu.oQ],λc b d=>by rw [bW _ (by omega)];exact h.aU.dV c b d⟩,λp o=>(h.bV p o).gv n (by have:=ay.pl o;omega),λl b q r k f=>by rw [bW _ (by omega)];exact h.gE l b q r k f,λc b d=>by rw [bW _ (by omega)];exact h.cO c b d,by rw [bW _ (by omega)];exact h.dJ,by rw [bW _ (by omega)];exact h.cM,λe=>by rw [bW _ (by omega)];exact h.dZ e,λj k f=>by rw [bW _ (by omega)];exact h.ez j k f⟩
theorem Mem.tag (ay:cg E) (h:Mem E A 0 x) (t:Int):Mem E (A.q' t) 0 { x with words:=x.words.set 49 t }:=by
 have b:=ay.mE;obtain ⟨c,g⟩:=h.st ay (a:=49) (by omega) t;refine h.low ay c (by omega) (by omega) (λ_ _=>rfl) rfl (.inl (by omega)) ?_ ?_ (λe=>?_) λb k d=>?_
 ·rw [g,if_neg (by omega)];exact h.dJ
 ·rw [g,if_neg (by omega)];exact h.cM
 ·rw [g,if_pos rfl];rfl
 ·rw [g,if_neg (by omega)];exact h.ez b k d
theorem Mem.aq (ay:cg E) (h:Mem E A m x) {p:aK} (d:p ∈ bM E) (i:A.bV m (br p)<=2):(A.bV m (br p)=0->x.get (br p * 8)=p.Head)/\(x.get (br p * 8)=eK p.Head 0↔A.bV m (br p)=1):=by
 have a:=h.bV p d;have g:=ay.bQ;have j:=g.head p d;have f:=(g.SC p d 0 (by omega)).1;have k:=ay.SB p d;generalize l:A.bV m (br p)=s at a i ⊢
 match s,a,i with
 | 0,a,_=>have e:=a 0 (by omega);rw [mb] at e;have c:x.get (br p * 8)=p.Head:=e.trans j.symm;exact ⟨λ_=>c,⟨λb=>absurd (b.symm.trans c) f,λb=>by cases b⟩⟩
 | 1,a,_=>exact ⟨λe=>(by cases e),⟨λ_=>rfl,λ_=>a.1⟩⟩
 | 2,a,_=>have e:=a 0 (by omega);rw [mb] at e;have c:x.get (br p * 8)=lB p.Head:=e;exact ⟨λe=>(by cases e),⟨λb=>absurd (b.symm.trans c) k,λb=>by cases b⟩⟩
end
end
end Go.Proofs.YtmkljjbioomepaaGreat
