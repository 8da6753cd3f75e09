import Derived.Test.YtgpmeaicjonenaaGreata28
import Derived.Test.YtgpmeaicjonenaaGreata27
set_option linter.unusedVariables false
namespace Go.Proofs.YtgpmeaicjonenaaGreat
open Go.Eng
def Below (C:Comp) (k:Nat):Prop:=∀ (i:Nat) (l:Lane),C.lanes[i]?=some l→∀ q ∈ l.places,q<k
theorem xb {C:Comp} {k:Nat} {v:Verb} {i:Nat} {l:Lane} (h:(C.postOne k v).lanes[i]?=some l):∃ l0,C.lanes[i]?=some l0∧((l.places=l0.places∧l.pair.verbs=l0.pair.verbs∧v.node.toNat≠i)∨(l.places=l0.places++[k]∧l.pair.verbs=l0.pair.verbs++[v]∧v.node.toNat=i)):=by
 unfold Comp.postOne at h
 simp only [List.getElem?_modify] at h
 cases hl:C.lanes[i]? with
 |none=>rw [hl] at h;simp at h
 |some l0=>
  rw [hl] at h
  refine ⟨l0,rfl,?_⟩
  by_cases e:v.node.toNat=i
  ·right
   simp [e] at h
   subst h
   exact ⟨rfl,rfl,e⟩
  ·left
   simp [e] at h
   subst h
   exact ⟨rfl,rfl,e⟩
theorem Ci:∀ {ls:List Lane} {j:Nat} {l:Lane},ls[j]?=some l→l.pair.verbs≠[]→0<pend ls:=by
 intro ls j l hl hv
 rcases Nat.eq_zero_or_pos (pend ls) with e | e
 ·exact absurd (nC e l (List.mem_of_getElem? hl)) hv
 ·exact e
theorem v3 {cv:Conv} {F:Fab} {t:Tk cv} (h:0<F.waiting t.client):turn F t=(F,t):=by
 unfold turn
 rw [if_pos (.inr (.inr h))]
theorem Bw {F:Fab} (hf:Fine F) {c j:Nat} {F':Fab} (h:stepL c j F=some F'):0<F.waiting c:=by
 obtain ⟨C,l,n,hC,hl,hn,hv,rfl⟩:=fC.1 h
 have hw:=(hf.good.ok.client c C hC).waiting
 have hp:=Ci hl (λe=>hv (by rw [e];rfl))
 unfold Fab.waiting
 have h1:F.cl (c:Int)=some C:=by
  unfold Fab.cl
  rw [if_neg (by omega)]
  simpa using hC
 rw [h1]
 show 0<C.waiting
 omega
end Go.Proofs.YtgpmeaicjonenaaGreat
namespace Go.Proofs.YtgpmeaicjonenaaGreat
open Go.Eng
theorem ka (F:Fab) (c:Nat):F.cl (c:Int)=F.clients[c]?:=by
 unfold Fab.cl
 rw [if_neg (by omega)]
 simp
end Go.Proofs.YtgpmeaicjonenaaGreat
namespace Go.Proofs.YtgpmeaicjonenaaGreat
open Go.Eng
section
variable {cv:Conv}
theorem Fine.stepL {F F':Fab} (h:Fine F) {c j:Nat} (hs:stepL c j F=some F'):Fine F':=by
 have h1:=h.step ⟨-1,c,j⟩
 rw [qG hs] at h1
 exact h1
end
end Go.Proofs.YtgpmeaicjonenaaGreat
namespace Go.Proofs.YtgpmeaicjonenaaGreat
open Go.Eng
def upd (dn:Nat→Option Done) (q:Nat) (d:Done):Nat→Option Done:=λk=>if k=q then some d else dn k
theorem jI (dn:Nat→Option Done) (q:Nat) (d:Done):upd dn q d q=some d:=if_pos rfl
theorem ld {dn:Nat→Option Done} {q k:Nat} {d:Done} (h:k≠q):upd dn q d k=dn k:=if_neg h
structure LnB (vs:List Verb) (dn:Nat→Option Done) (j:Nat) (l:Lane):Prop where
 len:l.places.length=l.pair.verbs.length
 asc:l.places.Pairwise (·<·)
 at_:∀ (t q:Nat),l.places[t]?=some q→∃ v,vs[q]?=some v∧l.pair.verbs[t]?=some v∧v.node.toNat=j∧dn q=none
structure Bt (C:Comp) (vs:List Verb) (dn:Nat→Option Done):Prop where
 live:C.alive=true
 ds:∃ ds,C.batch=some ds∧ds.length=vs.length∧∀ q d,dn q=some d→ds[q]?=some d
 lane:∀ (j:Nat) (l:Lane),C.lanes[j]?=some l→LnB vs dn j l
 left:∀ q,q<vs.length→dn q=none→∃ (j:Nat) (l:Lane),C.lanes[j]?=some l∧q ∈ l.places
theorem LnB.head {vs:List Verb} {dn:Nat→Option Done} {j:Nat} {l:Lane} (h:LnB vs dn j l) {x:Verb} {xs:List Verb} (hv:l.pair.verbs=x::xs):∃ q ps,l.places=q::ps∧vs[q]?=some x∧x.node.toNat=j∧dn q=none:=by
 have hl:=h.len
 rw [hv] at hl
 cases hp:l.places with
 |nil=>rw [hp] at hl;cases hl
 |cons q ps=>
  obtain ⟨v,h1,h2,h3,h4⟩:=h.at_ 0 q (by rw [hp];rfl)
  rw [hv] at h2
  cases h2
  exact ⟨q,ps,rfl,h1,h3,h4⟩
theorem Bt.more {C:Comp} {vs:List Verb} {dn:Nat→Option Done} (h:Bt C vs dn) {j:Nat} {l:Lane} (hl:C.lanes[j]?=some l) {p:Pair} (hp:p.verbs=l.pair.verbs):Bt (C.comes j l p none) vs dn:=by
 have hlt:=aN hl
 refine ⟨h.live,h.ds,λi l' hi=>?_,λq hq hd=>?_⟩
 ·by_cases e:i=j
  ·subst e
   simp [Comp.comes,hlt] at hi
   subst hi
   have hL:=h.lane _ l hl
   exact ⟨by show l.places.length=p.verbs.length;rw [hp];exact hL.len,hL.asc,λt q ht=>by
    obtain ⟨v,g1,g2,g3,g4⟩:=hL.at_ t q ht
    exact ⟨v,g1,by show p.verbs[t]?=some v;rw [hp];exact g2,g3,g4⟩⟩
  ·rw [kt e] at hi
   exact h.lane i l' hi
 ·obtain ⟨i,l',hi,hm⟩:=h.left q hq hd
  by_cases e:i=j
  ·subst e
   rw [hl] at hi
   cases hi
   exact ⟨i,{ l with pair:=p },by simp [Comp.comes,hlt],hm⟩
  ·exact ⟨i,l',by rw [kt e];exact hi,hm⟩
theorem Bt.done {C:Comp} {vs:List Verb} {dn:Nat→Option Done} (h:Bt C vs dn) {j:Nat} {l:Lane} (hl:C.lanes[j]?=some l) {x:Verb} {xs:List Verb} (hv:l.pair.verbs=x::xs) {p:Pair} (hp:p.verbs=xs) {q:Nat} {ps:List Nat} (hq:l.places=q::ps) (d:Done) :
  Bt (C.comes j l p (some d)) vs (upd dn q d):=by
 have hlt:=aN hl
 have hL:=h.lane j l hl
 obtain ⟨ds,hb,hlen,hds⟩:=h.ds
 have hx:vs[q]?=some x∧x.node.toNat=j:=by
  obtain ⟨q',ps',e,g1,g2,_⟩:=hL.head hv
  rw [hq] at e
  cases e
  exact ⟨g1,g2⟩
 have hql:q<vs.length:=aN hx.1
 have hasc:=hL.asc
 rw [hq,List.pairwise_cons] at hasc
 refine ⟨h.live,⟨ds.set q d,?_,by rw [List.length_set];exact hlen,λk e hk=>?_⟩,λi l' hi=>?_,λk hk hd=>?_⟩
 ·simp [Comp.comes,hb,hq]
 ·by_cases e2:k=q
  ·subst e2
   rw [jI] at hk
   cases hk
   rw [List.getElem?_set_self (by omega)]
  ·rw [ld e2] at hk
   rw [List.getElem?_set_ne (λe3=>e2 e3.symm)]
   exact hds k e hk
 ·by_cases e:i=j
  ·subst e
   simp [Comp.comes,hlt] at hi
   subst hi
   refine ⟨?_,?_,λt k ht=>?_⟩
   ·show l.places.tail.length=p.verbs.length
    have:=hL.len
    rw [hq,hv] at this
    rw [hq,hp]
    simpa using this
   ·show l.places.tail.Pairwise (·<·)
    rw [hq]
    exact hasc.2
   ·have ht':ps[t]?=some k:=by have:l.places.tail[t]?=some k:=ht;rw [hq] at this;exact this
    obtain ⟨v,g1,g2,g3,g4⟩:=hL.at_ (t+1) k (by rw [hq];simpa using ht')
    have hne:k≠q:=by have:=hasc.1 k (List.mem_of_getElem? ht');omega
    refine ⟨v,g1,?_,g3,by rw [ld hne];exact g4⟩
    show p.verbs[t]?=some v
    rw [hv] at g2
    rw [hp]
    simpa using g2
  ·rw [kt e] at hi
   have hL':=h.lane i l' hi
   refine ⟨hL'.len,hL'.asc,λt k ht=>?_⟩
   obtain ⟨v,g1,g2,g3,g4⟩:=hL'.at_ t k ht
   have hne:k≠q:=λe2=>by
    subst e2
    rw [hx.1] at g1
    cases g1
    exact e (g3.symm.trans hx.2)
   exact ⟨v,g1,g2,g3,by rw [ld hne];exact g4⟩
 ·have hne:k≠q:=λe=>by rw [e,jI] at hd;cases hd
  rw [ld hne] at hd
  obtain ⟨i,l',hi,hm⟩:=h.left k hk hd
  by_cases e:i=j
  ·subst e
   rw [hl] at hi
   cases hi
   rw [hq] at hm
   rcases List.mem_cons.1 hm with e2 | e2
   ·exact absurd e2 hne
   ·exact ⟨i,⟨p,l.places.tail⟩,by simp [Comp.comes,hlt],by show k ∈ l.places.tail;rw [hq];exact e2⟩
  ·exact ⟨i,l',by rw [kt e];exact hi,hm⟩
theorem Bt.all {C:Comp} {vs:List Verb} {dn:Nat→Option Done} (h:Bt C vs dn) (he:∀ (j:Nat) (l:Lane),C.lanes[j]?=some l→l.pair.verbs=[]):∃ ds,C.batch=some ds∧ds.length=vs.length∧(∀ q d,dn q=some d→ds[q]?=some d)∧∀ q,q<vs.length→∃ d,dn q=some d:=by
 obtain ⟨ds,h1,h2,h3⟩:=h.ds
 refine ⟨ds,h1,h2,h3,λq hq=>?_⟩
 cases hd:dn q with
 |some d=>exact ⟨d,rfl⟩
 |none=>
  obtain ⟨j,l,hl,hm⟩:=h.left q hq hd
  have:=(h.lane j l hl).len
  rw [he j l hl] at this
  rw [List.length_eq_zero_iff.1 this] at hm
  cases hm
structure PB (vs:List Verb) (k:Nat) (C:Comp):Prop where
 lane:∀ (j:Nat) (l:Lane),C.lanes[j]?=some l→l.places.length=l.pair.verbs.length∧l.places.Pairwise (·<·)∧∀ (t q:Nat),l.places[t]?=some q→q<k∧∃ v,vs[q]?=some v∧l.pair.verbs[t]?=some v∧v.node.toNat=j
 left:∀ q,q<k→∃ (j:Nat) (l:Lane),C.lanes[j]?=some l∧q ∈ l.places
theorem PB.one {vs:List Verb} {k:Nat} {C:Comp} (h:PB vs k C) {v:Verb} (hv:vs[k]?=some v) (hn:v.node.toNat<C.lanes.length):PB vs (k+1) (C.postOne k v):=by
 refine ⟨λj l hl=>?_,λq hq=>?_⟩
 ·obtain ⟨l0,h0,hc⟩:=xb hl
  obtain ⟨g1,g2,g3⟩:=h.lane j l0 h0
  rcases hc with ⟨e1,e2,_⟩ | ⟨e1,e2,e3⟩
  ·rw [e1,e2]
   exact ⟨g1,g2,λt q ht=>by obtain ⟨a,b⟩:=g3 t q ht;exact ⟨by omega,b⟩⟩
  ·rw [e1,e2]
   refine ⟨by simp [g1],?_,λt q ht=>?_⟩
   ·rw [List.pairwise_append]
    refine ⟨g2,List.pairwise_singleton _ _,λa ha b hb=>?_⟩
    obtain ⟨t,ht⟩:=List.mem_iff_getElem?.1 ha
    have:=(g3 t a ht).1
    simp at hb <;> omega
   ·by_cases hlt:t<l0.places.length
    ·rw [List.getElem?_append_left hlt] at ht
     obtain ⟨a,u,b1,b2,b3⟩:=g3 t q ht
     exact ⟨by omega,u,b1,by rw [List.getElem?_append_left (by omega)];exact b2,b3⟩
    ·rw [List.getElem?_append_right (by omega)] at ht
     have ht0:t - l0.places.length=0:=by have:=aN ht;simp at this <;> omega
     rw [ht0] at ht
     simp at ht
     subst ht
     exact ⟨by omega,v,hv,by rw [List.getElem?_append_right (by omega),←g1,ht0];rfl,e3⟩
 ·have hget:∀ i,(C.postOne k v).lanes[i]?=(C.lanes[i]?).map λl=>if v.node.toNat=i then (⟨{ l.pair with verbs:=l.pair.verbs++[v] },l.places++[k]⟩:Lane) else l:=λi=>by
   unfold Comp.postOne
   simp only [List.getElem?_modify]
   cases C.lanes[i]? with
   |none=>rfl
   |some l=>by_cases e:v.node.toNat=i<;>simp [e]
  by_cases e:q=k
  ·subst e
   refine ⟨v.node.toNat,_,by rw [hget,List.getElem?_eq_getElem hn];rfl,?_⟩
   simp
  ·obtain ⟨j,l,hl,hm⟩:=h.left q (by omega)
   refine ⟨j,_,by rw [hget,hl];rfl,?_⟩
   split
   ·exact List.mem_append_left _ hm
   ·exact hm
theorem PB.from {vs:List Verb}:∀ (us:List Verb) {k:Nat} {C:Comp},PB vs k C→(∀ i,us[i]?=vs[k+i]?)→(∀ v ∈ us,v.node.toNat<C.lanes.length)→PB vs (k+us.length) (C.postFrom k us)
 | [],k,C,h,hu,hn=>h
 |u::us,k,C,h,hu,hn=>by
  have h1:=h.one (v:=u) (by have:=hu 0;simpa using this.symm) (hn u List.mem_cons_self)
  have hl:(C.postOne k u).lanes.length=C.lanes.length:=by simp [Comp.postOne]
  have h2:=PB.from us h1 (λi=>by have:=hu (i+1);rw [List.getElem?_cons_succ] at this;rw [this];congr 1;omega) (λv hv=>by rw [hl];exact hn v (List.mem_cons_of_mem _ hv))
  rw [List.length_cons,show k+(us.length+1)=k+1+us.length by omega]
  exact h2
theorem Bt.post {C:Comp} {vs:List Verb} (ha:C.alive=true) (he:∀ (j:Nat) (l:Lane),C.lanes[j]?=some l→l.pair.verbs=[]∧l.places=[]) (hn:∀ v ∈ vs,v.node.toNat<C.lanes.length):Bt (C.posted' vs) vs λ_=>none:=by
 have h0:PB vs 0 C:=⟨λj l hl=>by
  obtain ⟨e1,e2⟩:=he j l hl
  rw [e1,e2]
  exact ⟨rfl,List.Pairwise.nil,λt q ht=>by simp at ht⟩,λq hq=>by omega⟩
 have h:=PB.from vs h0 (λi=>by rw [Nat.zero_add]) hn
 rw [Nat.zero_add] at h
 refine ⟨?_,⟨List.replicate vs.length ⟨0,[]⟩,rfl,by simp,λq d e=>by cases e⟩,λj l hl=>?_,λq hq _=>h.left q hq⟩
 ·have:∀ (us:List Verb) (D:Comp) (k:Nat),(D.postFrom k us).alive=D.alive:=λus=>by
   induction us with
   |nil=>intro D k;rfl
   |cons v vs ih=>intro D k;exact (ih (D.postOne k v) (k+1)).trans rfl
  exact (this vs C 0).trans ha
 ·obtain ⟨g1,g2,g3⟩:=h.lane j l hl
  exact ⟨g1,g2,λt q ht=>by obtain ⟨_,v,b1,b2,b3⟩:=g3 t q ht;exact ⟨v,b1,b2,b3,rfl⟩⟩
end Go.Proofs.YtgpmeaicjonenaaGreat
namespace Go.Proofs.YtgpmeaicjonenaaGreat
open Go.Eng
theorem xd (C:Comp) (j:Nat) (l:Lane) (p:Pair) (d:Option Done):(C.comes j l p d).alive=C.alive:=by cases d<;>rfl
theorem sq {n:aP} {a:Nat} {ws:List Int} (h:a+ws.length≤n.words.length):(n.write a ws).words.length=n.words.length:=by
 unfold aP.write
 simp
 omega
theorem sr {n:aP} {a:Nat} {ws:List Int} (h:a+ws.length≤n.words.length) (i:Nat):(n.write a ws).get i=if a≤i∧i<a+ws.length then ws.getD (i - a) 0 else n.get i:=by
 unfold aP.write aP.get
 simp only [List.getD_eq_getElem?_getD]
 by_cases h1:i<a
 ·rw [if_neg (by omega),List.append_assoc,List.getElem?_append_left (by simp;omega),List.getElem?_take_of_lt h1]
 ·by_cases h2:i<a+ws.length
  ·rw [if_pos ⟨by omega,h2⟩,List.append_assoc,List.getElem?_append_right (by simp;omega),List.getElem?_append_left (by simp;omega)]
   congr 2
   simp
   omega
  ·rw [if_neg (by omega),List.getElem?_append_right (by simp;omega),List.getElem?_drop]
   congr 2
   simp
   omega
theorem AB {n:aP} {a:Nat} (h:a<n.words.length) (v:Int) (i:Nat):({ n with words:=n.words.set a v }:aP).get i=if i=a then v else n.get i:=by
 unfold aP.get
 simp only [List.getD_eq_getElem?_getD]
 by_cases e:i=a
 ·subst e
  rw [if_pos rfl,List.getElem?_set_self h]
  rfl
 ·rw [if_neg e,List.getElem?_set_ne (λe2=>e e2.symm)]
theorem xP {n:aP} {a:Nat} (h:a<n.words.length):n.read a 1=[n.get a]:=by
 unfold aP.read
 simp only [Int.toNat_natCast]
 rw [List.drop_eq_getElem_cons h]
 have hs:=aP.get_some h
 rw [List.getElem?_eq_getElem h] at hs
 simp at hs
 simp [hs]
theorem fZ {v:aJ} (h1:1≤v.count) (h2:v.At % 8+v.count≤8) (h0:0≤v.At):v.pieces=[(v.At,v.count)]:=by
 unfold aJ.pieces
 obtain ⟨f,hf⟩:∃ f,v.count.toNat=f+1:=⟨v.count.toNat - 1,by omega⟩
 rw [hf,cE,if_neg (by omega)]
 have e:(if 8 - v.At % 8<v.count then 8 - v.At % 8 else v.count)=v.count:=by
  split
  ·omega
  ·rfl
 rw [e]
 cases f with
 |zero=>rfl
 |succ f=>rw [cE,if_pos (by omega)]
structure NFix (L:Nat) (n:aP):Prop where
 up:n.down=false
 len:n.words.length=L * 8
 key:n.get 0=1
 boot:n.get 1=1
 door:∀ c:Nat,c<6→n.get (24+c)=1
structure VGo (N L:Nat) (x:Verb):Prop where
 valid:∀ m:Int,N≤m→m≤5→x.v.valid m L=0
 node:0≤x.node∧x.node<N
 key:x.key=1
 boot:x.boot=1
theorem gV {N L:Nat} {n:aP} (hn:NFix L n) (hN:N≤5) {x:Verb} (hx:VGo N L x) {p:Pair} {c:Nat} (hc:c<6) (hp:p.client=c) (hi:p.inc=1):p.refusal x n=0:=by
 unfold Pair.refusal
 rw [if_neg (by rw [hn.up];simp),hn.len,show L * 8 / 8=L by omega,if_neg (by rw [hx.valid 5 (by omega) (by omega)];simp)]
 have hd:=hn.door c hc
 have e:(24+p.client).toNat=24+c:=by rw [hp];omega
 rw [e,hn.key,hn.boot,hi]
 unfold aJ.check
 split
 ·rfl
 ·rw [if_neg (by omega)]
  split
  ·rfl
  ·rw [if_neg]
   show ¬ (x.boot<0∨x.boot≠1∨x.key≠1)
   rw [hx.key,hx.boot]
   omega
theorem xe {p:Pair} {n:aP} {x:Verb} {xs:List Verb} (hv:p.verbs=x::xs) (hr:p.refusal x n=0) :
  p.step n=if p.executed+1<x.v.pieces.length then ({ p with executed:=p.executed+1,words:=p.words++(exec x (x.v.pieces.getD p.executed (0,0)) n).2 },(exec x (x.v.pieces.getD p.executed (0,0)) n).1,none)
   else (p.done,(exec x (x.v.pieces.getD p.executed (0,0)) n).1,some ⟨0,p.words++(exec x (x.v.pieces.getD p.executed (0,0)) n).2⟩):=by
 unfold Pair.step
 rw [hv]
 simp only
 rw [if_neg (by rw [hr];simp)]
theorem rq {p:Pair} {n:aP} {x:Verb} {xs:List Verb} (hP:bO p) (hv:p.verbs=x::xs) (hr:p.refusal x n=0) {pc:Int×Int} (h1:x.v.pieces=[pc]):p.step n=(p.done,(exec x pc n).1,some ⟨0,(exec x pc n).2⟩):=by
 have hl:=hP.rdy x xs hv
 rw [h1] at hl
 have he:p.executed=0:=by simp at hl;exact hl
 rw [xe hv hr,h1,he]
 simp [hP.zero he]
structure NFr (a k:Nat) (n n':aP):Prop where
 len:n'.words.length=n.words.length
 down:n'.down=n.down
 get:∀ i,i<a∨a+k≤i→n'.get i=n.get i
theorem NFr.fix {a k L:Nat} {n n':aP} (h:NFr a k n n') (hn:NFix L n) (ha:30≤a):NFix L n':=
 ⟨h.down.trans hn.up,h.len.trans hn.len,(h.get 0 (by omega)).trans hn.key,(h.get 1 (by omega)).trans hn.boot,λc hc=>by rw [h.get (24+c) (by omega)];exact hn.door c hc⟩
theorem yZ {x:Verb} (hk:x.kind=2) (h0:0≤x.at_) {n:aP} (hl:x.at_+x.words.length≤n.words.length) {pc:Int×Int} (hpc:pc ∈ x.v.pieces):NFr x.at_.toNat x.words.length n (exec x pc n).1∧(exec x pc n).2=[]:=by
 have hcount:x.v.count=x.words.length:=by
  unfold aJ.count
  have:x.v.Kind=2:=hk
  simp [this]
  rfl
 have hin:=kb _ _ _ (show 0≤x.v.At from h0) pc hpc
 rw [hcount] at hin
 have hAt:x.v.At=x.at_:=rfl
 rw [hAt] at hin
 have e:exec x pc n=(n.write pc.1.toNat ((x.words.drop (pc.1 - x.at_).toNat).take pc.2.toNat),[]):=by
  unfold exec
  rw [if_neg (by omega),if_pos hk]
 rw [e]
 have hwl:((x.words.drop (pc.1 - x.at_).toNat).take pc.2.toNat).length=pc.2.toNat:=by simp;omega
 refine ⟨⟨sq (by rw [hwl];omega),rfl,λi hi=>?_⟩,rfl⟩
 rw [sr (by rw [hwl];omega),hwl,if_neg (by omega)]
theorem Cj {x:Verb} (hk:x.kind=2) {n:aP}:exec x (x.at_,(x.words.length:Int)) n=(n.write x.at_.toNat x.words,[]):=by
 unfold exec
 rw [if_neg (by omega),if_pos hk]
 simp
theorem Cl {x:Verb} (hk:x.kind=3) {n:aP} (pc:Int×Int):exec x pc n=(n.cas x.at_ x.old x.new,[n.get x.at_.toNat]):=by
 unfold exec
 rw [if_neg (by omega),if_neg (by omega),if_pos hk]
theorem y5 {x:Verb} (hk:x.kind=1) (h0:0≤x.at_) {n:aP} (hl:x.at_.toNat<n.words.length):exec x (x.at_,1) n=(n,[n.get x.at_.toNat]):=by
 unfold exec
 rw [if_pos hk]
 have:n.read x.at_ 1=[n.get x.at_.toNat]:=by
  have h:=xP hl
  rw [show ((x.at_.toNat:Nat):Int)=x.at_ by omega] at h
  exact h
 simp only [this]
end Go.Proofs.YtgpmeaicjonenaaGreat
namespace Go.Proofs.YtgpmeaicjonenaaGreat
open Go.Eng
def fD (j:CJob):List Verb:=logV j (qC j.client+8) (ot j.seq j.writes)
def iP (j:CJob):List Verb:=logV j (qC j.client) [wU j.seq]
structure Fit (vs:List Verb) (ds:List Done):Prop where
 len:ds.length=vs.length
 each:∀ (q:Nat) (v:Verb) (d:Done),vs[q]?=some v→ds[q]?=some d→d.code=0∧(d.words.length:Int)=v.v.rets
theorem tH:∀ {ds:List Done},(∀ d ∈ ds,d.code=0)→fT ds=0
 | [],_=>rfl
 |d::ds,h=>by
  unfold fT
  rw [if_pos (h d List.mem_cons_self)]
  exact tH λx hx=>h x (List.mem_cons_of_mem _ hx)
theorem Fit.codes {vs:List Verb} {ds:List Done} (h:Fit vs ds):fT ds=0:=tH λd hd=>by
 obtain ⟨q,hq⟩:=List.mem_iff_getElem?.1 hd
 have hlt:=aN hq
 have hlt':q<vs.length:=by rw [←h.len];exact hlt
 exact (h.each q vs[q] d (List.getElem?_eq_getElem hlt') hq).1
theorem Fit.fitL {vs:List Verb} {ds:List Done} (h:Fit vs ds):Go.Proofs.YtgpmeaicjonenaaGreat.fitL vs ds=true:=by
 unfold Go.Proofs.YtgpmeaicjonenaaGreat.fitL
 rw [Bool.and_eq_true,decide_eq_true_eq,List.all_eq_true]
 refine ⟨h.len.symm,λp hp=>?_⟩
 obtain ⟨q,hq⟩:=List.mem_iff_getElem?.1 hp
 obtain ⟨h1,h2⟩:=List.getElem?_zip_eq_some.1 hq
 obtain ⟨g1,g2⟩:=h.each q p.1 p.2 h1 h2
 unfold fitP
 rw [if_pos g1]
 exact decide_eq_true g2
theorem hH {vs:List Verb} (h:vs≠[]) (fate:Int):bL [] vs fate=⟨false,[],(0,0),[],some vs,false⟩:=by
 have hl:vs.length≠0:=λe=>h (List.length_eq_zero_iff.1 e)
 have hb:batch [] vs=⟨[],false,[],some vs,false⟩:=by unfold batch;rw [if_neg hl]
 unfold bL
 rw [hb]
 rfl
theorem fV {vs:List Verb} {d:List Done} (G:List (List Done)) (hv:vs≠[]) (h:Fit vs d) (fate:Int):bL (d::G) vs fate=⟨true,d,(0,0),G,none,false⟩:=by
 have hl:vs.length≠0:=λe=>hv (List.length_eq_zero_iff.1 e)
 have hb:batch (d::G) vs=⟨d,true,G,none,false⟩:=by unfold batch;rw [if_neg hl];simp only [h.fitL,if_true]
 unfold bL
 rw [hb]
 simp only [h.codes]
 rfl
theorem nD (G:List (List Done)) (fate:Int):bL G [] fate=⟨true,[],(0,0),G,none,false⟩:=by
 have hb:batch G []=⟨[],true,G,none,false⟩:=if_pos rfl
 unfold bL
 rw [hb]
 rfl
set_option linter.unusedSectionVars false
section
variable {j:CJob} (hv:j.valid=0) (hW:j.writes≠[])
include hv hW
theorem qH (hm:j.v.mem≠[]):fD j≠[]∧iP j≠[]:=by
 unfold fD iP logV
 simp [hm]
theorem v4 (G:List (List Done)):wX j G=bL G (fD j) 1:=by
 unfold wX logM fD
 rw [if_neg hW]
theorem v5 (G:List (List Done)):vS j G=bL G (iP j) 2:=by
 unfold vS logM iP
 rw [if_neg hW]
theorem rr (G:List (List Done)):finM j G=bL G (finV j) 3:=by
 unfold finM
 rw [if_neg hW]
theorem uu:aX j≠[]:=by
 unfold aX
 cases h:j.writes with
 |nil=>exact absurd h hW
 |cons p l=>simp
theorem E8 (hm:j.v.mem≠[]):bZ j []=(fD j,(0,0),false):=by
 have hr:runM j []=⟨false,[],(0,0),[],some (fD j),false⟩:=by
  unfold runM pV runL ia
  rw [v4 hv hW,hH (qH hv hW hm).1]
  rfl
 unfold bZ
 rw [if_neg (by rw [hv];simp),hr]
theorem AC (hm:j.v.mem≠[]) {d0:List Done} (h0:Fit (fD j) d0) (G:List (List Done)):runM j (d0::G)=runL [mF j,vS j,mE j,finM j] G:=by
 unfold runM pV
 rw [runL]
 unfold ia
 rw [v4 hv hW,fV G (qH hv hW hm).1 h0]
 simp only [if_true]
theorem E9 (hm:j.v.mem≠[]) {d0:List Done} (h0:Fit (fD j) d0):bZ j [d0]=(aX j,(0,0),false):=by
 have hr:runM j [d0]=⟨false,[],(0,0),[],some (aX j),false⟩:=by
  rw [AC hv hW hm h0,runL]
  unfold ia mF
  rw [hH (uu hv hW)]
  rfl
 unfold bZ
 rw [if_neg (by rw [hv];simp),hr]
theorem D9 {D:List Done} (hD:Fit (aX j) D) (hc:eM (dR j) D=false) (G:List (List Done)):mF j (D::G)=⟨true,[],(0,0),G,none,false⟩:=by
 unfold mF
 rw [fV G (uu hv hW) hD]
 simp only [hc,if_true]
 rfl
def iQ (j:CJob) (D:List Done):List Verb:=eO (aX j) (dR j) D
theorem uv {D:List Done} (hD:Fit (aX j) D) (hc:eM (dR j) D=true) (G:List (List Done)):mF j (D::G)=if (bL G (iQ j D) 1).ok=true then ⟨false,[],(7,1),(bL G (iQ j D) 1).got,none,false⟩ else bL G (iQ j D) 1:=by
 unfold mF iQ
 rw [fV G (uu hv hW) hD]
 simp only [hc]
 rfl
theorem Fa (hm:j.v.mem≠[]) {d0 D:List Done} (h0:Fit (fD j) d0) (hD:Fit (aX j) D) (hc:eM (dR j) D=true) (hu:iQ j D≠[]):bZ j [d0,D]=(iQ j D,(0,0),false):=by
 have hr:runM j [d0,D]=⟨false,[],(0,0),[],some (iQ j D),false⟩:=by
  rw [AC hv hW hm h0,runL]
  unfold ia
  rw [uv hv hW hD hc,hH hu]
  rfl
 unfold bZ
 rw [if_neg (by rw [hv];simp),hr]
theorem Fb (hm:j.v.mem≠[]) {d0 D:List Done} (h0:Fit (fD j) d0) (hD:Fit (aX j) D) (hc:eM (dR j) D=true) (hu:iQ j D=[]):bZ j [d0,D]=([],(7,1),true):=by
 have hr:runM j [d0,D]=⟨false,[],(7,1),[],none,false⟩:=by
  rw [AC hv hW hm h0,runL]
  unfold ia
  rw [uv hv hW hD hc,hu,nD]
  rfl
 unfold bZ
 rw [if_neg (by rw [hv];simp),hr]
 rfl
theorem Fc (hm:j.v.mem≠[]) {d0 D d5:List Done} (h0:Fit (fD j) d0) (hD:Fit (aX j) D) (hc:eM (dR j) D=true) (hu:iQ j D≠[]) (h5:Fit (iQ j D) d5):bZ j [d0,D,d5]=([],(7,1),true):=by
 have hr:runM j [d0,D,d5]=⟨false,[],(7,1),[],none,false⟩:=by
  rw [AC hv hW hm h0,runL]
  unfold ia
  rw [uv hv hW hD hc,fV [] hu h5]
  rfl
 unfold bZ
 rw [if_neg (by rw [hv];simp),hr]
 rfl
theorem Fd (hm:j.v.mem≠[]) {d0 D:List Done} (h0:Fit (fD j) d0) (hD:Fit (aX j) D) (hc:eM (dR j) D=false) (G:List (List Done)):runM j (d0::D::G)=runL [vS j,mE j,finM j] G:=by
 rw [AC hv hW hm h0,runL]
 unfold ia
 rw [D9 hv hW hD hc]
 simp only [if_true]
theorem Fe (hm:j.v.mem≠[]) {d0 D:List Done} (h0:Fit (fD j) d0) (hD:Fit (aX j) D) (hc:eM (dR j) D=false):bZ j [d0,D]=(iP j,(0,0),false):=by
 have hr:runM j [d0,D]=⟨false,[],(0,0),[],some (iP j),false⟩:=by
  rw [Fd hv hW hm h0 hD hc,runL]
  unfold ia
  rw [v5 hv hW,hH (qH hv hW hm).2]
  rfl
 unfold bZ
 rw [if_neg (by rw [hv];simp),hr]
theorem AD (hm:j.v.mem≠[]) {d0 D d2:List Done} (h0:Fit (fD j) d0) (hD:Fit (aX j) D) (hc:eM (dR j) D=false) (h2:Fit (iP j) d2) (G:List (List Done)):runM j (d0::D::d2::G)=runL [mE j,finM j] G:=by
 rw [Fd hv hW hm h0 hD hc,runL]
 unfold ia
 rw [v5 hv hW,fV G (qH hv hW hm).2 h2]
 simp only [if_true]
theorem Ff (hm:j.v.mem≠[]) {d0 D d2:List Done} (h0:Fit (fD j) d0) (hD:Fit (aX j) D) (hc:eM (dR j) D=false) (h2:Fit (iP j) d2) (hb:fU j≠[]):bZ j [d0,D,d2]=(fU j,(0,0),false):=by
 have hr:runM j [d0,D,d2]=⟨false,[],(0,0),[],some (fU j),false⟩:=by
  rw [AD hv hW hm h0 hD hc h2,runL]
  unfold ia mE
  rw [hH hb]
  rfl
 unfold bZ
 rw [if_neg (by rw [hv];simp),hr]
theorem tI (hm:j.v.mem≠[]):finV j≠[]:=by
 unfold finV
 cases h:j.v.mem with
 |nil=>exact absurd h hm
 |cons m l=>simp
theorem Fg (hm:j.v.mem≠[]) {d0 D d2 d3:List Done} (h0:Fit (fD j) d0) (hD:Fit (aX j) D) (hc:eM (dR j) D=false) (h2:Fit (iP j) d2) (hb:fU j≠[]) (h3:Fit (fU j) d3):bZ j [d0,D,d2,d3]=(finV j,(0,0),false):=by
 have hr:runM j [d0,D,d2,d3]=⟨false,[],(0,0),[],some (finV j),false⟩:=by
  rw [AD hv hW hm h0 hD hc h2,runL]
  unfold ia mE
  rw [fV [] hb h3]
  simp only [if_true]
  rw [runL]
  unfold ia
  rw [rr hv hW,hH (tI hv hW hm)]
  rfl
 unfold bZ
 rw [if_neg (by rw [hv];simp),hr]
theorem Ea (hm:j.v.mem≠[]) {d0 D d2:List Done} (h0:Fit (fD j) d0) (hD:Fit (aX j) D) (hc:eM (dR j) D=false) (h2:Fit (iP j) d2) (hb:fU j=[]):bZ j [d0,D,d2]=(finV j,(0,0),false):=by
 have hr:runM j [d0,D,d2]=⟨false,[],(0,0),[],some (finV j),false⟩:=by
  rw [AD hv hW hm h0 hD hc h2,runL]
  unfold ia mE
  rw [hb,nD]
  simp only [if_true]
  rw [runL]
  unfold ia
  rw [rr hv hW,hH (tI hv hW hm)]
  rfl
 unfold bZ
 rw [if_neg (by rw [hv];simp),hr]
theorem Fh (hm:j.v.mem≠[]) {d0 D d2 d3 d4:List Done} (h0:Fit (fD j) d0) (hD:Fit (aX j) D) (hc:eM (dR j) D=false) (h2:Fit (iP j) d2) (hb:fU j≠[]) (h3:Fit (fU j) d3) (h4:Fit (finV j) d4):bZ j [d0,D,d2,d3,d4]=([],(0,3),true):=by
 have hr:runM j [d0,D,d2,d3,d4]=ow []:=by
  rw [AD hv hW hm h0 hD hc h2,runL]
  unfold ia mE
  rw [fV [d4] hb h3]
  simp only [if_true]
  rw [runL]
  unfold ia
  rw [rr hv hW,fV [] (tI hv hW hm) h4]
  rfl
 unfold bZ
 rw [if_neg (by rw [hv];simp),hr]
 rfl
theorem Eb (hm:j.v.mem≠[]) {d0 D d2 d4:List Done} (h0:Fit (fD j) d0) (hD:Fit (aX j) D) (hc:eM (dR j) D=false) (h2:Fit (iP j) d2) (hb:fU j=[]) (h4:Fit (finV j) d4):bZ j [d0,D,d2,d4]=([],(0,3),true):=by
 have hr:runM j [d0,D,d2,d4]=ow []:=by
  rw [AD hv hW hm h0 hD hc h2,runL]
  unfold ia mE
  rw [hb,nD]
  simp only [if_true]
  rw [runL]
  unfold ia
  rw [rr hv hW,fV [] (tI hv hW hm) h4]
  rfl
 unfold bZ
 rw [if_neg (by rw [hv];simp),hr]
 rfl
end
end Go.Proofs.YtgpmeaicjonenaaGreat
namespace Go.Proofs.YtgpmeaicjonenaaGreat
open Go.Eng
def rg (n:Nat):Vw:=⟨0,stM n⟩
theorem TW.mine {A:Nat→Prop} {χ:Nat→Tag} {w0 w u:World} {fb:Nat} {L B:Nat→Prop} {ξ:Nat→Tag} {X X0:FabX} (t:TW A χ w fb L u B ξ X) (hF:aZ A χ w fb X0) (hn:New w0 w) (hA:∀ k,A k→w0.heap.size≤k):New w0 u:=
 hn.trans t.next.keep λk hk hc=>by
  have:=hA k (hF.avoid k hc)
  omega
theorem Ec {A:Nat→Prop} {w u:World} {a:Option Addr} {xs:List Value} (hr:Rd w a xs) (hn:New w u) (hA:∀ k,A k→w.heap.size≤k):Dat A u a xs:=by
 refine ⟨hr.new hn,?_⟩
 by_cases hx:xs=[]
 ·exact .inl hx
 ·refine .inr ?_
  cases a with
  |none=>trivial
  |some a=>
   intro h
   have:=hA _ h
   have:=hr.lt hx
   omega
namespace C12
def conv:Conv:=⟨CJob,Int×Int,bZ⟩
structure JAtC (A:Nat→Prop) (w:World) (r:aL) (j:CJob):Prop where
 at_:qT w r j
 view:ViewAt A w r.View j.v
 roff:(tA j.reads).flatten=[]∨Off A r.Reads
 woff:(nr j.writes).flatten=[]∨Off A r.Writes
 dat:wY j
theorem ViewAt.keep {A A':Nat→Prop} {w w':World} {r:aM} {v:Vw} (h:ViewAt A w r v) (hk:Keep A w w') (hM:∀ k,k<w.heap.size→A' k→A k):ViewAt A' w' r v:=
 ⟨h.num,h.len,h.cap,h.rd.keep hk h.off,Off.keep h.rd h.off hM,h.small⟩
theorem JAtC.keep {A A':Nat→Prop} {w w':World} {r:aL} {j:CJob} (h:JAtC A w r j) (hk:Keep A w w') (hM:∀ k,k<w.heap.size→A' k→A k):JAtC A' w' r j:=by
 obtain ⟨ha,hv,hr,hw,hd⟩:=h
 have hv':=ViewAt.keep hv hk hM
 exact ⟨⟨ha.client,ha.seq,ha.lines,⟨A',hv'⟩,ha.rd.keep hk hr,ha.len,ha.few,⟨ha.pg.rd.keep hk hw,ha.pg.len,ha.pg.few,ha.pg.u64⟩⟩,hv',Off.keep ha.rd hr hM,Off.keep ha.pg.rd hw hM,hd⟩
end C12
end Go.Proofs.YtgpmeaicjonenaaGreat
namespace Go.Proofs.YtgpmeaicjonenaaGreat
open Go.Eng C12
def mm (m:Nat):aE:=⟨(m:Int),1,true⟩
def wV (m:Nat) (a:Int) (ws:List Int):Verb:=⟨2,(m:Int),a,0,0,0,ws,1,1⟩
def cV (a old new:Int):Verb:=⟨3,0,a,0,old,new,[],1,1⟩
def rV (a:Int):Verb:=⟨1,0,a,1,0,0,[],1,1⟩
theorem Cm {n L m:Nat} {a:Int} {ws:List Int} (hn:n≤5) (hm:m<n) (hL:1≤L∧L≤256) (ha:24≤a) (h1:1≤ws.length) (h2:ws.length≤1000) (h3:a+ws.length≤L * 8):VGo n L (wV m a ws):=by
 refine ⟨λk hk hk5=>?_,⟨by show (0:Int)≤m;omega,by show (m:Int)<n;omega⟩,rfl,rfl⟩
 have hc:(wV m a ws).v.count=ws.length:=rfl
 have hi:(wV m a ws).v.inside k L=true:=by
  unfold aJ.inside aJ.l0 aJ.l1
  rw [hc]
  apply decide_eq_true
  show 1≤k∧k≤5∧1≤(L:Int)∧(L:Int)≤256∧0≤(m:Int)∧(m:Int)<k∧0≤a∧a<(L:Int) * 8∧(ws.length:Int)≤1024∧(a+ws.length - 1) / 8<(L:Int)∧(a+ws.length - 1) / 8 - a / 8<128
  omega
 unfold aJ.valid
 rw [hc,if_neg (by omega),hi,if_neg (by simp),if_neg]
 unfold aJ.l0 aJ.l1 aJ.last
 rw [hc]
 show ¬ (a / 8≤(if (2:Int)=1 then 3 else 2)∧(if (2:Int)=1 then 3 else 2)<(a+ws.length - 1) / 8)
 rw [if_neg (by omega)]
 omega
theorem FR {n L:Nat} {a old new:Int} (hn:1≤n∧n≤5) (hL:1≤L∧L≤256) (ha:32≤a) (h3:a+1≤L * 8):VGo n L (cV a old new):=by
 refine ⟨λk hk hk5=>?_,⟨by show (0:Int)≤0;omega,by show (0:Int)<n;omega⟩,rfl,rfl⟩
 have hc:(cV a old new).v.count=1:=rfl
 have hi:(cV a old new).v.inside k L=true:=by
  unfold aJ.inside aJ.l0 aJ.l1
  rw [hc]
  apply decide_eq_true
  show 1≤k∧k≤5∧1≤(L:Int)∧(L:Int)≤256∧0≤(0:Int)∧(0:Int)<k∧0≤a∧a<(L:Int) * 8∧(1:Int)≤1024∧(a+1 - 1) / 8<(L:Int)∧(a+1 - 1) / 8 - a / 8<128
  omega
 unfold aJ.valid
 rw [hc,if_neg (by omega),hi,if_neg (by simp),if_neg]
 unfold aJ.l0 aJ.l1 aJ.last
 rw [hc]
 show ¬ (a / 8≤(if (3:Int)=1 then 3 else 2)∧(if (3:Int)=1 then 3 else 2)<(a+1 - 1) / 8)
 rw [if_neg (by omega)]
 omega
theorem FT {n L:Nat} {a:Int} (hn:1≤n∧n≤5) (hL:1≤L∧L≤256) (ha:32≤a) (h3:a+1≤L * 8):VGo n L (rV a):=by
 refine ⟨λk hk hk5=>?_,⟨by show (0:Int)≤0;omega,by show (0:Int)<n;omega⟩,rfl,rfl⟩
 have hc:(rV a).v.count=1:=rfl
 have hi:(rV a).v.inside k L=true:=by
  unfold aJ.inside aJ.l0 aJ.l1
  rw [hc]
  apply decide_eq_true
  show 1≤k∧k≤5∧1≤(L:Int)∧(L:Int)≤256∧0≤(0:Int)∧(0:Int)<k∧0≤a∧a<(L:Int) * 8∧(1:Int)≤1024∧(a+1 - 1) / 8<(L:Int)∧(a+1 - 1) / 8 - a / 8<128
  omega
 unfold aJ.valid
 rw [hc,if_neg (by omega),hi,if_neg (by simp),if_neg]
 unfold aJ.l0 aJ.l1 aJ.last
 rw [hc]
 show ¬ (a / 8≤(if (1:Int)=1 then 3 else 2)∧(if (1:Int)=1 then 3 else 2)<(a+1 - 1) / 8)
 rw [if_pos rfl]
 omega
structure Env where
 n:Nat
 L:Nat
 base:Nat→Nat→Int
 bc:Nat→Int
 ids:List Nat
 J:Nat→CJob
 tr:Bool
def Env.on (E:Env) (i:Nat):Prop:=i ∈ E.ids
structure cG (E:Env) (i:Nat) (j:CJob):Prop where
 cl:j.client=(i:Int)
 i6:i<6
 valid:j.valid=0
 view:j.v=rg E.n
 some_:j.writes≠[]
 few:j.writes.length≤12
 rfew:j.reads.length≤24
 line:∀ p ∈ j.writes,∃ l:Nat,p.Line=(l:Int)∧96≤l∧l<E.L
 rline:∀ s ∈ j.reads,∃ l:Nat,s.Line=(l:Int)∧96≤l∧l<E.L
 uniq:∀ p ∈ j.writes,∀ q ∈ j.writes,p.Line=q.Line→p=q
 nodup:(j.writes.map (·.Line)).Nodup
 head:∀ p ∈ j.writes,p.Head=E.base p.Line.toNat 0
 locks:∀ p ∈ j.writes,∀ k:Nat,k<6→eT p.Head k≠p.Head∧(eT p.Head k=eT p.Head i→k=i)
 next:∀ p ∈ j.writes,rf p.Head≠p.Head
 rhead:∀ s ∈ j.reads,s.Head=E.base s.Line.toNat 0
 rdis:∀ s ∈ j.reads,∀ p ∈ j.writes,s.Line≠p.Line
structure eU (E:Env):Prop where
 n:1≤E.n∧E.n≤5
 L:98≤E.L∧E.L≤256
 ids:E.ids.Nodup
 job:∀ i,E.on i→cG E i (E.J i)
section
variable {E:Env} {i:Nat} {j:CJob}
theorem cG.mem (h:cG E i j):j.v.mem=(List.range E.n).map mm:=by rw [h.view];rfl
theorem cG.num (h:cG E i j):j.v.number=0:=by rw [h.view];rfl
theorem cG.m0 (h:cG E i j) (hn:1≤E.n):m0Of j=mm 0:=by
 unfold m0Of
 rw [h.mem]
 obtain ⟨k,hk⟩:∃ k,E.n=k+1:=⟨E.n - 1,by omega⟩
 rw [hk,List.range_succ_eq_map]
 rfl
theorem cG.tail (h:cG E i j):j.v.mem.tail=(List.range (E.n - 1)).map λm=>mm (m+1):=by
 rw [h.mem]
 cases hk:E.n with
 |zero=>rfl
 |succ k=>
  rw [List.range_succ_eq_map]
  simp
theorem cG.log (h:cG E i j) (a:Int) (ws:List Int):logV j a ws=(List.range E.n).map λm=>wV m a ws:=by
 unfold logV
 rw [h.mem,h.num,List.map_map]
 rfl
theorem cG.cas (h:cG E i j) (hn:1≤E.n) (p:aG):casV j p=cV (p.Line * 8) p.Head (eT p.Head i):=by
 unfold casV
 rw [h.num,h.m0 hn,h.cl]
 rfl
theorem cG.read (h:cG E i j) (hn:1≤E.n) (s:aV):sY j s=rV (s.Line * 8):=by
 unfold sY
 rw [h.num,h.m0 hn]
 rfl
def pgV (m:Nat) (p:aG):Verb:=wV m (p.Line * 8) (appL p)
def ckV (i:Nat) (seq:Int) (m:Nat):Verb:=wV m (32+(i:Int)) [seq]
theorem cG.page (h:cG E i j) (m:Nat) (p:aG):nB j (mm m) p=pgV m p:=by
 unfold nB
 rw [h.num]
 rfl
theorem cG.clock (h:cG E i j) (m:Nat):l5 j (mm m)=ckV i j.seq m:=by
 unfold l5
 rw [h.num,h.cl]
 rfl
theorem cG.lockL (h:cG E i j) (hn:1≤E.n):aX j=(j.writes.map λp=>cV (p.Line * 8) p.Head (eT p.Head i))++j.reads.map λs=>rV (s.Line * 8):=by
 unfold aX
 congr 1
 ·exact List.map_congr_left λp _=>h.cas hn p
 ·exact List.map_congr_left λs _=>h.read hn s
theorem cG.backL (h:cG E i j):fU j=((List.range (E.n - 1)).map λm=>(j.writes.map (pgV (m+1))++[ckV i j.seq (m+1)])).flatten:=by
 unfold fU
 rw [h.tail,List.map_map]
 congr 1
 refine List.map_congr_left λm _=>?_
 show memV j (mm (m+1))=_
 unfold memV
 rw [if_neg h.some_,h.clock]
 congr 1
 exact List.map_congr_left λp _=>h.page (m+1) p
theorem cG.finL (h:cG E i j) (hn:1≤E.n):finV j=ckV i j.seq 0::j.writes.map (pgV 0):=by
 have hm:=h.mem
 unfold finV
 obtain ⟨k,hk⟩:∃ k,E.n=k+1:=⟨E.n - 1,by omega⟩
 rw [hk,List.range_succ_eq_map] at hm
 rw [hm]
 simp only [List.map_cons]
 rw [h.clock]
 congr 1
 exact List.map_congr_left λp _=>h.page 0 p
theorem cG.bodyE (h:cG E i j):fD j=(List.range E.n).map λm=>wV m (56+120 * (i:Int)) (ot j.seq j.writes):=by
 unfold fD
 rw [h.log,h.cl]
 have e:qC (i:Int)+8=56+120 * (i:Int):=by unfold qC;omega
 rw [e]
theorem cG.markE (h:cG E i j):iP j=(List.range E.n).map λm=>wV m (48+120 * (i:Int)) [wU j.seq]:=by
 unfold iP
 rw [h.log,h.cl]
 rfl
end
end Go.Proofs.YtgpmeaicjonenaaGreat
