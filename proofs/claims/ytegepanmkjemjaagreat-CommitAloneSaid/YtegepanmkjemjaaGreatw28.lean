import Derived.Test.YtegepanmkjemjaaGreatw27
import Derived.Test.YtegepanmkjemjaaGreatw26
set_option linter.unusedVariables false
namespace Go.Proofs.YtegepanmkjemjaaGreat
open Go.Eng
theorem nf (F:Fab) (c:Nat):F.cl (c:Int)=F.clients[c]?:=by
 unfold Fab.cl
 rw [if_neg (by omega)]
 simp
theorem pD:∀ (vs:List Verb) (C:Comp) (k:Nat),(C.postFrom k vs).lanes.length=C.lanes.length
 | [],C,k=>rfl
 |v::vs,C,k=>by
  rw [qB,pD vs]
  simp [Comp.postOne]
theorem Solo.setC {c:Nat} {F:Fab} (h:Solo c F) {C':Comp} (ha:pQ C') (hl:C'.lanes.length≤F.nodes.length):Solo c (F.setC (c:Int) C'):=by
 unfold Fab.setC
 rw [Int.toNat_natCast]
 refine ⟨h.orph,λi C hi hC=>?_,λC hC=>?_,λC hC=>?_⟩
 ·simp only [List.getElem?_set_ne (λe=>hi e.symm)] at hC
  exact h.idle i C hi hC
 ·have hlt:c<F.clients.length:=by
   have:=aO hC
   simpa using this
  simp only [List.getElem?_set_self hlt] at hC
  cases hC
  exact ha
 ·have hlt:c<F.clients.length:=by
   have:=aO hC
   simpa using this
  simp only [List.getElem?_set_self hlt] at hC
  cases hC
  exact hl
def Bs (c:Nat) (F:Fab):Prop:=∀ C,F.clients[c]?=some C→∀ l ∈ C.lanes,l.pair.verbs=[]
theorem Solo.post {c:Nat} {F:Fab} (h:Solo c F) (hq:Bs c F) (vs:List Verb):Solo c (F.post (c:Int) vs).2:=by
 unfold Fab.post
 rw [nf]
 cases hC:F.clients[c]? with
 |none=>exact h
 |some C=>
  simp only
  split
  ·exact h
  split
  ·exact h
  split
  ·exact h
  split
  ·exact h
  split
  ·exact h
  have hap:=h.apart C hC
  have hbl:Below C 0:=λi l hl q hqq=>by
   have h1:=hap.len i l hl
   rw [hq C hC l (List.mem_of_getElem? hl)] at h1
   rw [List.eq_nil_of_length_eq_zero h1] at hqq
   cases hqq
  have hap':=pQ.postFrom vs hap hbl
  exact h.setC (C':=C.posted' vs) (yE hap' rfl) (by show (C.postFrom 0 vs).lanes.length≤_;rw [pD];exact h.lanes C hC)
theorem Solo.take {c:Nat} {F:Fab} (h:Solo c F):Solo c (F.take (c:Int)).2∧(Bs c F→Bs c (F.take (c:Int)).2):=by
 unfold Fab.take
 rw [nf]
 cases hC:F.clients[c]? with
 |none=>exact ⟨h,id⟩
 |some C=>
  simp only
  split
  ·exact ⟨h,id⟩
  cases hb:C.batch with
  |none=>exact ⟨h,id⟩
  |some ds=>
   simp only
   split
   ·exact ⟨h,id⟩
   refine ⟨h.setC (C':={ C with batch:=none }) (yE (h.apart C hC) rfl) (h.lanes C hC),λhq C' hC'=>?_⟩
   unfold Fab.setC at hC'
   rw [Int.toNat_natCast] at hC'
   simp only [List.getElem?_set_self (aO hC)] at hC'
   cases hC'
   exact hq C hC
theorem Da {F:Fab} (hf:Fine F) {c:Nat} (h:¬ 0<F.waiting (c:Int)):Bs c F:=by
 intro C hC l hl
 have hw:=(hf.good.ok.client c C hC).waiting
 unfold Fab.waiting at h
 rw [nf,hC] at h
 have h:¬ 0<C.waiting:=h
 exact mA (by omega) l hl
theorem Solo.tail {cv:Conv} {c:Nat} {F:Fab} {t:Tk cv} (h:Solo c F) (hq:Bs c F) (hc:t.client=(c:Int)):Solo c (sn F t).1:=by
 unfold sn
 rw [hc]
 split
 ·exact h
 split
 ·exact h
 split
 ·exact h.post hq _
 ·exact h.post hq _
theorem Solo.turn {cv:Conv} {c:Nat} {F:Fab} {t:Tk cv} (h:Solo c F) (hf:Fine F) (hc:t.client=(c:Int)):Solo c (turn F t).1:=by
 unfold Go.Proofs.YtegepanmkjemjaaGreat.turn
 rw [hc]
 split
 ·exact h
 ·rename_i hn
  have hq:=Da hf (c:=c) λe=>hn (.inr (.inr e))
  refine Solo.tail h.take.1 (h.take.2 hq) ?_
  cases (F.take (c:Int)).1<;>exact hc
theorem x5 {cv:Conv} {F:Fab} {t:Tk cv}:(turn F t).2.client=t.client:=by
 unfold Go.Proofs.YtegepanmkjemjaaGreat.turn
 split
 ·rfl
 ·unfold sn
  split
  ·cases (F.take t.client).1<;>rfl
  split
  ·cases (F.take t.client).1<;>rfl
  split
  ·cases (F.take t.client).1<;>rfl
  ·cases (F.take t.client).1<;>rfl
theorem Solo.step {c j:Nat} {F F':Fab} (h:Solo c F) (hs:stepL c j F=some F'):Solo c F':=by
 have hap:=(wW c).keep h.apart hs
 obtain ⟨C,l,n,hC,hl,hn,hv,rfl⟩:=ef.1 hs
 refine ⟨h.orph,λi C' hi hC'=>?_,hap,λC' hC'=>?_⟩
 ·simp only [List.getElem?_set_ne (λe=>hi e.symm)] at hC'
  exact h.idle i C' hi hC'
 ·simp only [List.getElem?_set_self (aO hC)] at hC'
  cases hC'
  have h1:=h.lanes C hC
  simp only [List.length_set]
  cases (l.pair.step n).2.2<;>simp [Comp.comes]<;>exact h1
end Go.Proofs.YtegepanmkjemjaaGreat
namespace Go.Proofs.YtegepanmkjemjaaGreat
open Go.Eng
section
variable {cv:Conv}
def sr (c j:Nat) (s:Fab×Tk cv):Option (Fab×Tk cv):=(stepL c j s.1).map λF'=>turn F' s.2
structure OkP (c:Nat) (s:Fab×Tk cv):Prop where
 fine:Fine s.1
 solo:Solo c s.1
 cl:s.2.client=(c:Int)
theorem Fine.stepL {F F':Fab} (h:Fine F) {c j:Nat} (hs:stepL c j F=some F'):Fine F':=by
 have h1:=h.step ⟨-1,c,j⟩
 rw [oL hs] at h1
 exact h1
theorem j1 {c j:Nat} {s s':Fab×Tk cv}:sr c j s=some s'↔∃ F',stepL c j s.1=some F'∧s'=turn F' s.2:=by
 unfold sr
 cases h:stepL c j s.1 with
 |none=>simp
 |some F'=>simp [eq_comm]
theorem OkP.turn {c:Nat} {F:Fab} {t:Tk cv} (h:OkP c (F,t)):OkP c (turn F t):=
 ⟨h.fine.turn t,h.solo.turn h.fine h.cl,by rw [x5];exact h.cl⟩
theorem OkP.stepL {c j:Nat} {F F':Fab} {t:Tk cv} (h:OkP c (F,t)) (hs:stepL c j F=some F'):OkP c (F',t):=⟨h.fine.stepL hs,h.solo.step hs,h.cl⟩
theorem wX (c:Nat):x4 (sr (cv:=cv) c) (OkP c):=by
 refine ⟨λ{i s s1} hok h=>?_,λ{i j s s1 s2} hok h1 h2=>?_⟩
 ·obtain ⟨F,t⟩:=s
  obtain ⟨F',hs,rfl⟩:=j1.1 h
  exact (hok.stepL hs).turn
 ·obtain ⟨F,t⟩:=s
  obtain ⟨F1,hs1,rfl⟩:=j1.1 h1
  obtain ⟨F2,hs2,rfl⟩:=j1.1 h2
  rcases (wW c).dia hok.solo.apart hs1 hs2 with e | ⟨F3,h3,h4⟩
  ·exact .inl (by rw [e])
  ·have hc:t.client=(c:Int):=hok.cl
   have w1:turn F1 t=(F1,t):=qQ (by rw [hc];exact zf (hok.stepL hs1).fine h3)
   have w2:turn F2 t=(F2,t):=qQ (by rw [hc];exact zf (hok.stepL hs2).fine h4)
   refine .inr ⟨turn F3 t,?_,?_⟩
   ·simp only [w1]
    exact j1.2 ⟨F3,h3,rfl⟩
   ·simp only [w2]
    exact j1.2 ⟨F3,h4,rfl⟩
theorem Bu (F:Fab) (t:Tk cv):turns F [t]=((turn F t).1,[(turn F t).2]):=rfl
theorem rU {c:Nat} (cs sch:List Int):∀ (f n:Nat) {F:Fab} {t:Tk cv} {k:Nat} {e:Fab×Tk cv},OkP c (F,t)→Norm (sr c) k (turn F t) e→k<f→driveGo cs sch [] f n F [t]=(e.1,[e.2])
 | 0,n,F,t,k,e,hok,hn,hk=>by omega
 |f+1,n,F,t,k,e,hok,hn,hk=>by
  have hok1:=hok.turn
  unfold driveGo
  have hh:happens F cs n []=F:=rfl
  rw [hh,Bu]
  rcases hok1.solo.rstep sch n with ⟨h1,h2⟩ | ⟨j,F',h1,h2⟩
  ·rw [h1,if_neg (by simp)]
   cases hn with
   |nil _=>rfl
   |cons i hi _=>
    obtain ⟨F',hs,_⟩:=j1.1 hi
    rw [h2 i] at hs
    cases hs
  ·rw [h2,if_pos rfl]
   obtain ⟨k',rfl,hn'⟩:=hn.after (wX c) hok1 (j1.2 ⟨F',h1,rfl⟩)
   exact rU cs sch f (n+1) (OkP.stepL hok1 h1) hn' (by omega)
theorem zS {c:Nat} {F:Fab} {t:Tk cv} (hok:OkP c (F,t)) {k:Nat} {e:Fab×Tk cv} (hn:Norm (sr c) k (turn F t) e) (sch:List Int) {most:Nat} (hk:k<most):drive F [t] sch [] most=((turn e.1 e.2).1,[(turn e.1 e.2).2]):=by
 unfold drive
 rw [rU _ sch most 0 hok hn hk]
 rfl
def tv (c:Nat) (s:Fab×Tk cv):Nat→Nat→Option (Fab×Tk cv)
 | 0,_=>none
 |q+1,j=>match sr c j s with
  |some s'=>some s'
  |none=>tv c s q (j+1)
theorem tz {c:Nat} {s s':Fab×Tk cv}:∀ {q j:Nat},tv c s q j=some s'→∃ i,sr c i s=some s'
 | 0,j,h=>by cases h
 |q+1,j,h=>by
  unfold tv at h
  cases hs:sr c j s with
  |some s1=>rw [hs] at h;exact ⟨j,hs.trans h⟩
  |none=>rw [hs] at h;exact tz h
theorem tA {c:Nat} {s:Fab×Tk cv}:∀ {q j:Nat},tv c s q j=none→∀ i,j≤i→i<j+q→sr c i s=none
 | 0,j,h,i,h1,h2=>by omega
 |q+1,j,h,i,h1,h2=>by
  unfold tv at h
  cases hs:sr c j s with
  |some s1=>rw [hs] at h;cases h
  |none=>
   rw [hs] at h
   by_cases e:i=j
   ·rw [e];exact hs
   ·exact tA h i (by omega) (by omega)
def runP (c:Nat):Nat→Fab×Tk cv→Option (Nat×(Fab×Tk cv))
 | 0,_=>none
 |f+1,s=>match tv c s 5 0 with
  |none=>some (0,s)
  |some s'=>(runP c f s').map λx=>(x.1+1,x.2)
theorem wY {c:Nat}:∀ {f:Nat} {s:Fab×Tk cv} {k:Nat} {e:Fab×Tk cv},OkP c s→runP c f s=some (k,e)→Norm (sr c) k s e
 | 0,s,k,e,hok,h=>by cases h
 |f+1,s,k,e,hok,h=>by
  unfold runP at h
  cases hs:tv c s 5 0 with
  |none=>
   rw [hs] at h
   cases h
   refine .nil λi=>?_
   by_cases hi:i<5
   ·exact tA hs i (by omega) (by omega)
   ·cases hx:sr c i s with
    |none=>rfl
    |some s'=>
     obtain ⟨F',h1,_⟩:=j1.1 hx
     obtain ⟨C,l,n,hC,hl,hn,_⟩:=ef.1 h1
     have h2:=aO hn
     have h3:=hok.fine.good.ok.nodes
     omega
  |some s'=>
   rw [hs] at h
   obtain ⟨i,hi⟩:=tz hs
   simp only at h
   cases hr:runP c f s' with
   |none=>rw [hr] at h;cases h
   |some x=>
    rw [hr] at h
    cases h
    exact .cons i hi (wY ((wX c).keep hok hi) hr)
theorem Bv {c:Nat} {F:Fab} {t:Tk cv} (hok:OkP c (F,t)) {f k:Nat} {e:Fab×Tk cv} (hr:runP c f (turn F t)=some (k,e)) (sch:List Int) {most:Nat} (hk:k<most):drive F [t] sch [] most=((turn e.1 e.2).1,[(turn e.1 e.2).2]):=
 zS hok (wY hok.turn hr) sch hk
end
end Go.Proofs.YtegepanmkjemjaaGreat
namespace Go.Proofs.YtegepanmkjemjaaGreat
open Go.Eng
def upd (dn:Nat→Option Done) (q:Nat) (d:Done):Nat→Option Done:=λk=>if k=q then some d else dn k
theorem jT (dn:Nat→Option Done) (q:Nat) (d:Done):upd dn q d q=some d:=if_pos rfl
theorem lI {dn:Nat→Option Done} {q k:Nat} {d:Done} (h:k≠q):upd dn q d k=dn k:=if_neg h
structure LnB (vs:List Verb) (dn:Nat→Option Done) (j:Nat) (l:Lane):Prop where
 len:l.places.length=l.pair.verbs.length
 asc:l.places.Pairwise (·<·)
 at_:∀ (t q:Nat),l.places[t]?=some q→∃ v,vs[q]?=some v∧l.pair.verbs[t]?=some v∧v.node.toNat=j∧dn q=none
structure Bt (C:Comp) (vs:List Verb) (dn:Nat→Option Done):Prop where
 live:C.alive=true
 ds:∃ ds,C.batch=some ds∧ds.length=vs.length∧∀ q d,dn q=some d→ds[q]?=some d
 lane:∀ (j:Nat) (l:Lane),C.lanes[j]?=some l→LnB vs dn j l
 left:∀ q,q<vs.length→dn q=none→∃ (j:Nat) (l:Lane),C.lanes[j]?=some l∧q ∈ l.places
theorem LnB.head {vs:List Verb} {dn:Nat→Option Done} {j:Nat} {l:Lane} (h:LnB vs dn j l) {x:Verb} {xs:List Verb} (hv:l.pair.verbs=x::xs):∃ q ps,l.places=q::ps∧vs[q]?=some x∧x.node.toNat=j∧dn q=none:=by
 have hl:=h.len
 rw [hv] at hl
 cases hp:l.places with
 |nil=>rw [hp] at hl;cases hl
 |cons q ps=>
  obtain ⟨v,h1,h2,h3,h4⟩:=h.at_ 0 q (by rw [hp];rfl)
  rw [hv] at h2
  cases h2
  exact ⟨q,ps,rfl,h1,h3,h4⟩
theorem Bt.more {C:Comp} {vs:List Verb} {dn:Nat→Option Done} (h:Bt C vs dn) {j:Nat} {l:Lane} (hl:C.lanes[j]?=some l) {p:Pair} (hp:p.verbs=l.pair.verbs):Bt (C.comes j l p none) vs dn:=by
 have hlt:=aO hl
 refine ⟨h.live,h.ds,λi l' hi=>?_,λq hq hd=>?_⟩
 ·by_cases e:i=j
  ·subst e
   simp [Comp.comes,hlt] at hi
   subst hi
   have hL:=h.lane _ l hl
   exact ⟨by show l.places.length=p.verbs.length;rw [hp];exact hL.len,hL.asc,λt q ht=>by
    obtain ⟨v,g1,g2,g3,g4⟩:=hL.at_ t q ht
    exact ⟨v,g1,by show p.verbs[t]?=some v;rw [hp];exact g2,g3,g4⟩⟩
  ·rw [eE e] at hi
   exact h.lane i l' hi
 ·obtain ⟨i,l',hi,hm⟩:=h.left q hq hd
  by_cases e:i=j
  ·subst e
   rw [hl] at hi
   cases hi
   exact ⟨i,{ l with pair:=p },by simp [Comp.comes,hlt],hm⟩
  ·exact ⟨i,l',by rw [eE e];exact hi,hm⟩
theorem Bt.done {C:Comp} {vs:List Verb} {dn:Nat→Option Done} (h:Bt C vs dn) {j:Nat} {l:Lane} (hl:C.lanes[j]?=some l) {x:Verb} {xs:List Verb} (hv:l.pair.verbs=x::xs) {p:Pair} (hp:p.verbs=xs) {q:Nat} {ps:List Nat} (hq:l.places=q::ps) (d:Done) :
  Bt (C.comes j l p (some d)) vs (upd dn q d):=by
 have hlt:=aO hl
 have hL:=h.lane j l hl
 obtain ⟨ds,hb,hlen,hds⟩:=h.ds
 have hx:vs[q]?=some x∧x.node.toNat=j:=by
  obtain ⟨q',ps',e,g1,g2,_⟩:=hL.head hv
  rw [hq] at e
  cases e
  exact ⟨g1,g2⟩
 have hql:q<vs.length:=aO hx.1
 have hasc:=hL.asc
 rw [hq,List.pairwise_cons] at hasc
 refine ⟨h.live,⟨ds.set q d,?_,by rw [List.length_set];exact hlen,λk e hk=>?_⟩,λi l' hi=>?_,λk hk hd=>?_⟩
 ·simp [Comp.comes,hb,hq]
 ·by_cases e2:k=q
  ·subst e2
   rw [jT] at hk
   cases hk
   rw [List.getElem?_set_self (by omega)]
  ·rw [lI e2] at hk
   rw [List.getElem?_set_ne (λe3=>e2 e3.symm)]
   exact hds k e hk
 ·by_cases e:i=j
  ·subst e
   simp [Comp.comes,hlt] at hi
   subst hi
   refine ⟨?_,?_,λt k ht=>?_⟩
   ·show l.places.tail.length=p.verbs.length
    have:=hL.len
    rw [hq,hv] at this
    rw [hq,hp]
    simpa using this
   ·show l.places.tail.Pairwise (·<·)
    rw [hq]
    exact hasc.2
   ·have ht':ps[t]?=some k:=by have:l.places.tail[t]?=some k:=ht;rw [hq] at this;exact this
    obtain ⟨v,g1,g2,g3,g4⟩:=hL.at_ (t+1) k (by rw [hq];simpa using ht')
    have hne:k≠q:=by have:=hasc.1 k (List.mem_of_getElem? ht');omega
    refine ⟨v,g1,?_,g3,by rw [lI hne];exact g4⟩
    show p.verbs[t]?=some v
    rw [hv] at g2
    rw [hp]
    simpa using g2
  ·rw [eE e] at hi
   have hL':=h.lane i l' hi
   refine ⟨hL'.len,hL'.asc,λt k ht=>?_⟩
   obtain ⟨v,g1,g2,g3,g4⟩:=hL'.at_ t k ht
   have hne:k≠q:=λe2=>by
    subst e2
    rw [hx.1] at g1
    cases g1
    exact e (g3.symm.trans hx.2)
   exact ⟨v,g1,g2,g3,by rw [lI hne];exact g4⟩
 ·have hne:k≠q:=λe=>by rw [e,jT] at hd;cases hd
  rw [lI hne] at hd
  obtain ⟨i,l',hi,hm⟩:=h.left k hk hd
  by_cases e:i=j
  ·subst e
   rw [hl] at hi
   cases hi
   rw [hq] at hm
   rcases List.mem_cons.1 hm with e2 | e2
   ·exact absurd e2 hne
   ·exact ⟨i,⟨p,l.places.tail⟩,by simp [Comp.comes,hlt],by show k ∈ l.places.tail;rw [hq];exact e2⟩
  ·exact ⟨i,l',by rw [eE e];exact hi,hm⟩
theorem Bt.all {C:Comp} {vs:List Verb} {dn:Nat→Option Done} (h:Bt C vs dn) (he:∀ (j:Nat) (l:Lane),C.lanes[j]?=some l→l.pair.verbs=[]):∃ ds,C.batch=some ds∧ds.length=vs.length∧(∀ q d,dn q=some d→ds[q]?=some d)∧∀ q,q<vs.length→∃ d,dn q=some d:=by
 obtain ⟨ds,h1,h2,h3⟩:=h.ds
 refine ⟨ds,h1,h2,h3,λq hq=>?_⟩
 cases hd:dn q with
 |some d=>exact ⟨d,rfl⟩
 |none=>
  obtain ⟨j,l,hl,hm⟩:=h.left q hq hd
  have:=(h.lane j l hl).len
  rw [he j l hl] at this
  rw [List.length_eq_zero_iff.1 this] at hm
  cases hm
structure PB (vs:List Verb) (k:Nat) (C:Comp):Prop where
 lane:∀ (j:Nat) (l:Lane),C.lanes[j]?=some l→l.places.length=l.pair.verbs.length∧l.places.Pairwise (·<·)∧∀ (t q:Nat),l.places[t]?=some q→q<k∧∃ v,vs[q]?=some v∧l.pair.verbs[t]?=some v∧v.node.toNat=j
 left:∀ q,q<k→∃ (j:Nat) (l:Lane),C.lanes[j]?=some l∧q ∈ l.places
theorem PB.one {vs:List Verb} {k:Nat} {C:Comp} (h:PB vs k C) {v:Verb} (hv:vs[k]?=some v) (hn:v.node.toNat<C.lanes.length):PB vs (k+1) (C.postOne k v):=by
 refine ⟨λj l hl=>?_,λq hq=>?_⟩
 ·obtain ⟨l0,h0,hc⟩:=kW hl
  obtain ⟨g1,g2,g3⟩:=h.lane j l0 h0
  rcases hc with ⟨e1,e2,_⟩ | ⟨e1,e2,e3⟩
  ·rw [e1,e2]
   exact ⟨g1,g2,λt q ht=>by obtain ⟨a,b⟩:=g3 t q ht;exact ⟨by omega,b⟩⟩
  ·rw [e1,e2]
   refine ⟨by simp [g1],?_,λt q ht=>?_⟩
   ·rw [List.pairwise_append]
    refine ⟨g2,List.pairwise_singleton _ _,λa ha b hb=>?_⟩
    obtain ⟨t,ht⟩:=List.mem_iff_getElem?.1 ha
    have:=(g3 t a ht).1
    simp at hb <;> omega
   ·by_cases hlt:t<l0.places.length
    ·rw [List.getElem?_append_left hlt] at ht
     obtain ⟨a,u,b1,b2,b3⟩:=g3 t q ht
     exact ⟨by omega,u,b1,by rw [List.getElem?_append_left (by omega)];exact b2,b3⟩
    ·rw [List.getElem?_append_right (by omega)] at ht
     have ht0:t - l0.places.length=0:=by have:=aO ht;simp at this <;> omega
     rw [ht0] at ht
     simp at ht
     subst ht
     exact ⟨by omega,v,hv,by rw [List.getElem?_append_right (by omega),←g1,ht0];rfl,e3⟩
 ·have hget:∀ i,(C.postOne k v).lanes[i]?=(C.lanes[i]?).map λl=>if v.node.toNat=i then (⟨{ l.pair with verbs:=l.pair.verbs++[v] },l.places++[k]⟩:Lane) else l:=λi=>by
   unfold Comp.postOne
   simp only [List.getElem?_modify]
   cases C.lanes[i]? with
   |none=>rfl
   |some l=>by_cases e:v.node.toNat=i<;>simp [e]
  by_cases e:q=k
  ·subst e
   refine ⟨v.node.toNat,_,by rw [hget,List.getElem?_eq_getElem hn];rfl,?_⟩
   simp
  ·obtain ⟨j,l,hl,hm⟩:=h.left q (by omega)
   refine ⟨j,_,by rw [hget,hl];rfl,?_⟩
   split
   ·exact List.mem_append_left _ hm
   ·exact hm
theorem PB.from {vs:List Verb}:∀ (us:List Verb) {k:Nat} {C:Comp},PB vs k C→(∀ i,us[i]?=vs[k+i]?)→(∀ v ∈ us,v.node.toNat<C.lanes.length)→PB vs (k+us.length) (C.postFrom k us)
 | [],k,C,h,hu,hn=>h
 |u::us,k,C,h,hu,hn=>by
  have h1:=h.one (v:=u) (by have:=hu 0;simpa using this.symm) (hn u List.mem_cons_self)
  have hl:(C.postOne k u).lanes.length=C.lanes.length:=by simp [Comp.postOne]
  have h2:=PB.from us h1 (λi=>by have:=hu (i+1);rw [List.getElem?_cons_succ] at this;rw [this];congr 1;omega) (λv hv=>by rw [hl];exact hn v (List.mem_cons_of_mem _ hv))
  rw [List.length_cons,show k+(us.length+1)=k+1+us.length by omega]
  exact h2
theorem Bt.post {C:Comp} {vs:List Verb} (ha:C.alive=true) (he:∀ (j:Nat) (l:Lane),C.lanes[j]?=some l→l.pair.verbs=[]∧l.places=[]) (hn:∀ v ∈ vs,v.node.toNat<C.lanes.length):Bt (C.posted' vs) vs λ_=>none:=by
 have h0:PB vs 0 C:=⟨λj l hl=>by
  obtain ⟨e1,e2⟩:=he j l hl
  rw [e1,e2]
  exact ⟨rfl,List.Pairwise.nil,λt q ht=>by simp at ht⟩,λq hq=>by omega⟩
 have h:=PB.from vs h0 (λi=>by rw [Nat.zero_add]) hn
 rw [Nat.zero_add] at h
 refine ⟨?_,⟨List.replicate vs.length ⟨0,[]⟩,rfl,by simp,λq d e=>by cases e⟩,λj l hl=>?_,λq hq _=>h.left q hq⟩
 ·have:∀ (us:List Verb) (D:Comp) (k:Nat),(D.postFrom k us).alive=D.alive:=λus=>by
   induction us with
   |nil=>intro D k;rfl
   |cons v vs ih=>intro D k;exact (ih (D.postOne k v) (k+1)).trans rfl
  exact (this vs C 0).trans ha
 ·obtain ⟨g1,g2,g3⟩:=h.lane j l hl
  exact ⟨g1,g2,λt q ht=>by obtain ⟨_,v,b1,b2,b3⟩:=g3 t q ht;exact ⟨v,b1,b2,b3,rfl⟩⟩
end Go.Proofs.YtegepanmkjemjaaGreat
namespace Go.Proofs.YtegepanmkjemjaaGreat
open Go.Eng
theorem tB {n:aP} {a:Nat} {ws:List Int} (h:a+ws.length≤n.words.length):(n.write a ws).words.length=n.words.length:=by
 unfold aP.write
 simp
 omega
theorem tC {n:aP} {a:Nat} {ws:List Int} (h:a+ws.length≤n.words.length) (i:Nat):(n.write a ws).get i=if a≤i∧i<a+ws.length then ws.getD (i - a) 0 else n.get i:=by
 unfold aP.write aP.get
 simp only [List.getD_eq_getElem?_getD]
 by_cases h1:i<a
 ·rw [if_neg (by omega),List.append_assoc,List.getElem?_append_left (by simp;omega),List.getElem?_take_of_lt h1]
 ·by_cases h2:i<a+ws.length
  ·rw [if_pos ⟨by omega,h2⟩,List.append_assoc,List.getElem?_append_right (by simp;omega),List.getElem?_append_left (by simp;omega)]
   congr 2
   simp
   omega
  ·rw [if_neg (by omega),List.getElem?_append_right (by simp;omega),List.getElem?_drop]
   congr 2
   simp
   omega
theorem Bw {n:aP} {a:Nat} (h:a<n.words.length) (v:Int) (i:Nat):({ n with words:=n.words.set a v }:aP).get i=if i=a then v else n.get i:=by
 unfold aP.get
 simp only [List.getD_eq_getElem?_getD]
 by_cases e:i=a
 ·subst e
  rw [if_pos rfl,List.getElem?_set_self h]
  rfl
 ·rw [if_neg e,List.getElem?_set_ne (λe2=>e e2.symm)]
theorem Db {n:aP} {a:Nat} (h:a<n.words.length):n.read a 1=[n.get a]:=by
 unfold aP.read
 simp only [Int.toNat_natCast]
 rw [List.drop_eq_getElem_cons h]
 have hs:=aP.get_some h
 rw [List.getElem?_eq_getElem h] at hs
 simp at hs
 simp [hs]
theorem jB {v:aL} (h1:1≤v.count) (h2:v.At % 8+v.count≤8) (h0:0≤v.At):v.pieces=[(v.At,v.count)]:=by
 unfold aL.pieces
 obtain ⟨f,hf⟩:∃ f,v.count.toNat=f+1:=⟨v.count.toNat - 1,by omega⟩
 rw [hf,cA,if_neg (by omega)]
 have e:(if 8 - v.At % 8<v.count then 8 - v.At % 8 else v.count)=v.count:=by
  split
  ·omega
  ·rfl
 rw [e]
 cases f with
 |zero=>rfl
 |succ f=>rw [cA,if_pos (by omega)]
structure NFix (L:Nat) (n:aP):Prop where
 up:n.down=false
 len:n.words.length=L * 8
 key:n.get 0=1
 boot:n.get 1=1
 door:∀ c:Nat,c<6→n.get (24+c)=1
structure VGo (N L:Nat) (x:Verb):Prop where
 valid:∀ m:Int,N≤m→m≤5→x.v.valid m L=0
 node:0≤x.node∧x.node<N
 key:x.key=1
 boot:x.boot=1
theorem jC {N L:Nat} {n:aP} (hn:NFix L n) (hN:N≤5) {x:Verb} (hx:VGo N L x) {p:Pair} {c:Nat} (hc:c<6) (hp:p.client=c) (hi:p.inc=1):p.refusal x n=0:=by
 unfold Pair.refusal
 rw [if_neg (by rw [hn.up];simp),hn.len,show L * 8 / 8=L by omega,if_neg (by rw [hx.valid 5 (by omega) (by omega)];simp)]
 have hd:=hn.door c hc
 have e:(24+p.client).toNat=24+c:=by rw [hp];omega
 rw [e,hn.key,hn.boot,hi]
 unfold aL.check
 split
 ·rfl
 ·rw [if_neg (by omega)]
  split
  ·rfl
  ·rw [if_neg]
   show ¬ (x.boot<0∨x.boot≠1∨x.key≠1)
   rw [hx.key,hx.boot]
   omega
theorem x6 {p:Pair} {n:aP} {x:Verb} {xs:List Verb} (hv:p.verbs=x::xs) (hr:p.refusal x n=0) :
  p.step n=if p.executed+1<x.v.pieces.length then ({ p with executed:=p.executed+1,words:=p.words++(exec x (x.v.pieces.getD p.executed (0,0)) n).2 },(exec x (x.v.pieces.getD p.executed (0,0)) n).1,none)
   else (p.done,(exec x (x.v.pieces.getD p.executed (0,0)) n).1,some ⟨0,p.words++(exec x (x.v.pieces.getD p.executed (0,0)) n).2⟩):=by
 unfold Pair.step
 rw [hv]
 simp only
 rw [if_neg (by rw [hr];simp)]
theorem vx {p:Pair} {n:aP} {x:Verb} {xs:List Verb} (hP:bR p) (hv:p.verbs=x::xs) (hr:p.refusal x n=0) {pc:Int×Int} (h1:x.v.pieces=[pc]):p.step n=(p.done,(exec x pc n).1,some ⟨0,(exec x pc n).2⟩):=by
 have hl:=hP.rdy x xs hv
 rw [h1] at hl
 have he:p.executed=0:=by simp at hl;exact hl
 rw [x6 hv hr,h1,he]
 simp [hP.zero he]
structure NFr (a k:Nat) (n n':aP):Prop where
 len:n'.words.length=n.words.length
 down:n'.down=n.down
 get:∀ i,i<a∨a+k≤i→n'.get i=n.get i
theorem NFr.fix {a k L:Nat} {n n':aP} (h:NFr a k n n') (hn:NFix L n) (ha:30≤a):NFix L n':=
 ⟨h.down.trans hn.up,h.len.trans hn.len,(h.get 0 (by omega)).trans hn.key,(h.get 1 (by omega)).trans hn.boot,λc hc=>by rw [h.get (24+c) (by omega)];exact hn.door c hc⟩
theorem zT {x:Verb} (hk:x.kind=2) (h0:0≤x.at_) {n:aP} (hl:x.at_+x.words.length≤n.words.length) {pc:Int×Int} (hpc:pc ∈ x.v.pieces):NFr x.at_.toNat x.words.length n (exec x pc n).1∧(exec x pc n).2=[]:=by
 have hcount:x.v.count=x.words.length:=by
  unfold aL.count
  have:x.v.Kind=2:=hk
  simp [this]
  rfl
 have hin:=kx _ _ _ (show 0≤x.v.At from h0) pc hpc
 rw [hcount] at hin
 have hAt:x.v.At=x.at_:=rfl
 rw [hAt] at hin
 have e:exec x pc n=(n.write pc.1.toNat ((x.words.drop (pc.1 - x.at_).toNat).take pc.2.toNat),[]):=by
  unfold exec
  rw [if_neg (by omega),if_pos hk]
 rw [e]
 have hwl:((x.words.drop (pc.1 - x.at_).toNat).take pc.2.toNat).length=pc.2.toNat:=by simp;omega
 refine ⟨⟨tB (by rw [hwl];omega),rfl,λi hi=>?_⟩,rfl⟩
 rw [tC (by rw [hwl];omega),hwl,if_neg (by omega)]
theorem Dc {x:Verb} (hk:x.kind=2) {n:aP}:exec x (x.at_,(x.words.length:Int)) n=(n.write x.at_.toNat x.words,[]):=by
 unfold exec
 rw [if_neg (by omega),if_pos hk]
 simp
theorem Dd {x:Verb} (hk:x.kind=3) {n:aP} (pc:Int×Int):exec x pc n=(n.cas x.at_ x.old x.new,[n.get x.at_.toNat]):=by
 unfold exec
 rw [if_neg (by omega),if_neg (by omega),if_pos hk]
theorem zU {x:Verb} (hk:x.kind=1) (h0:0≤x.at_) {n:aP} (hl:x.at_.toNat<n.words.length):exec x (x.at_,1) n=(n,[n.get x.at_.toNat]):=by
 unfold exec
 rw [if_pos hk]
 have:n.read x.at_ 1=[n.get x.at_.toNat]:=by
  have h:=Db hl
  rw [show ((x.at_.toNat:Nat):Int)=x.at_ by omega] at h
  exact h
 simp only [this]
end Go.Proofs.YtegepanmkjemjaaGreat
namespace Go.Proofs.YtegepanmkjemjaaGreat
open Go.Eng
def fJ (j:CJob):List Verb:=logV j (ry j.client+8) (pe j.seq j.writes)
def iV (j:CJob):List Verb:=logV j (ry j.client) [xW j.seq]
structure Fit (vs:List Verb) (ds:List Done):Prop where
 len:ds.length=vs.length
 each:∀ (q:Nat) (v:Verb) (d:Done),vs[q]?=some v→ds[q]?=some d→d.code=0∧(d.words.length:Int)=v.v.rets
theorem uH:∀ {ds:List Done},(∀ d ∈ ds,d.code=0)→oB ds=0
 | [],_=>rfl
 |d::ds,h=>by
  unfold oB
  rw [if_pos (h d List.mem_cons_self)]
  exact uH λx hx=>h x (List.mem_cons_of_mem _ hx)
theorem Fit.codes {vs:List Verb} {ds:List Done} (h:Fit vs ds):oB ds=0:=uH λd hd=>by
 obtain ⟨q,hq⟩:=List.mem_iff_getElem?.1 hd
 have hlt:=aO hq
 have hlt':q<vs.length:=by rw [←h.len];exact hlt
 exact (h.each q vs[q] d (List.getElem?_eq_getElem hlt') hq).1
theorem Fit.fitL {vs:List Verb} {ds:List Done} (h:Fit vs ds):Go.Proofs.YtegepanmkjemjaaGreat.fitL vs ds=true:=by
 unfold Go.Proofs.YtegepanmkjemjaaGreat.fitL
 rw [Bool.and_eq_true,decide_eq_true_eq,List.all_eq_true]
 refine ⟨h.len.symm,λp hp=>?_⟩
 obtain ⟨q,hq⟩:=List.mem_iff_getElem?.1 hp
 obtain ⟨h1,h2⟩:=List.getElem?_zip_eq_some.1 hq
 obtain ⟨g1,g2⟩:=h.each q p.1 p.2 h1 h2
 unfold fitP
 rw [if_pos g1]
 exact decide_eq_true g2
theorem im {vs:List Verb} (h:vs≠[]) (fate:Int):bL [] vs fate=⟨false,[],(0,0),[],some vs,false⟩:=by
 have hl:vs.length≠0:=λe=>h (List.length_eq_zero_iff.1 e)
 have hb:batch [] vs=⟨[],false,[],some vs,false⟩:=by unfold batch;rw [if_neg hl]
 unfold bL
 rw [hb]
 rfl
theorem hU {vs:List Verb} {d:List Done} (G:List (List Done)) (hv:vs≠[]) (h:Fit vs d) (fate:Int):bL (d::G) vs fate=⟨true,d,(0,0),G,none,false⟩:=by
 have hl:vs.length≠0:=λe=>hv (List.length_eq_zero_iff.1 e)
 have hb:batch (d::G) vs=⟨d,true,G,none,false⟩:=by unfold batch;rw [if_neg hl];simp only [h.fitL,if_true]
 unfold bL
 rw [hb]
 simp only [h.codes]
 rfl
theorem oC (G:List (List Done)) (fate:Int):bL G [] fate=⟨true,[],(0,0),G,none,false⟩:=by
 have hb:batch G []=⟨[],true,G,none,false⟩:=if_pos rfl
 unfold bL
 rw [hb]
 rfl
set_option linter.unusedSectionVars false
section
variable {j:CJob} (hv:j.valid=0) (hW:j.writes≠[])
include hv hW
theorem rB (hm:j.v.mem≠[]):fJ j≠[]∧iV j≠[]:=by
 unfold fJ iV logV
 simp [hm]
theorem wZ (G:List (List Done)):xY j G=bL G (fJ j) 1:=by
 unfold xY logM fJ
 rw [if_neg hW]
theorem xb (G:List (List Done)):wM j G=bL G (iV j) 2:=by
 unfold wM logM iV
 rw [if_neg hW]
theorem sB (G:List (List Done)):finM j G=bL G (finV j) 3:=by
 unfold finM
 rw [if_neg hW]
theorem vy:aW j≠[]:=by
 unfold aW
 cases h:j.writes with
 |nil=>exact absurd h hW
 |cons p l=>simp
theorem Gj (hm:j.v.mem≠[]):cH j []=(fJ j,(0,0),false):=by
 have hr:runM j []=⟨false,[],(0,0),[],some (fJ j),false⟩:=by
  unfold runM qO runL iq
  rw [wZ hv hW,im (rB hv hW hm).1]
  rfl
 unfold cH
 rw [if_neg (by rw [hv];simp),hr]
theorem Bx (hm:j.v.mem≠[]) {d0:List Done} (h0:Fit (fJ j) d0) (G:List (List Done)):runM j (d0::G)=runL [nv j,wM j,nt j,finM j] G:=by
 unfold runM qO
 rw [runL]
 unfold iq
 rw [wZ hv hW,hU G (rB hv hW hm).1 h0]
 simp only [if_true]
theorem Gk (hm:j.v.mem≠[]) {d0:List Done} (h0:Fit (fJ j) d0):cH j [d0]=(aW j,(0,0),false):=by
 have hr:runM j [d0]=⟨false,[],(0,0),[],some (aW j),false⟩:=by
  rw [Bx hv hW hm h0,runL]
  unfold iq nv
  rw [im (vy hv hW)]
  rfl
 unfold cH
 rw [if_neg (by rw [hv];simp),hr]
theorem E3 {D:List Done} (hD:Fit (aW j) D) (hc:fA (dO j) D=false) (G:List (List Done)):nv j (D::G)=⟨true,[],(0,0),G,none,false⟩:=by
 unfold nv
 rw [hU G (vy hv hW) hD]
 simp only [hc,if_true]
 rfl
def iW (j:CJob) (D:List Done):List Verb:=fP (aW j) (dO j) D
theorem vz {D:List Done} (hD:Fit (aW j) D) (hc:fA (dO j) D=true) (G:List (List Done)):nv j (D::G)=if (bL G (iW j D) 1).ok=true then ⟨false,[],(7,1),(bL G (iW j D) 1).got,none,false⟩ else bL G (iW j D) 1:=by
 unfold nv iW
 rw [hU G (vy hv hW) hD]
 simp only [hc]
 rfl
theorem Gl (hm:j.v.mem≠[]) {d0 D:List Done} (h0:Fit (fJ j) d0) (hD:Fit (aW j) D) (hc:fA (dO j) D=true) (hu:iW j D≠[]):cH j [d0,D]=(iW j D,(0,0),false):=by
 have hr:runM j [d0,D]=⟨false,[],(0,0),[],some (iW j D),false⟩:=by
  rw [Bx hv hW hm h0,runL]
  unfold iq
  rw [vz hv hW hD hc,im hu]
  rfl
 unfold cH
 rw [if_neg (by rw [hv];simp),hr]
theorem Gm (hm:j.v.mem≠[]) {d0 D:List Done} (h0:Fit (fJ j) d0) (hD:Fit (aW j) D) (hc:fA (dO j) D=true) (hu:iW j D=[]):cH j [d0,D]=([],(7,1),true):=by
 have hr:runM j [d0,D]=⟨false,[],(7,1),[],none,false⟩:=by
  rw [Bx hv hW hm h0,runL]
  unfold iq
  rw [vz hv hW hD hc,hu,oC]
  rfl
 unfold cH
 rw [if_neg (by rw [hv];simp),hr]
 rfl
theorem Gn (hm:j.v.mem≠[]) {d0 D d5:List Done} (h0:Fit (fJ j) d0) (hD:Fit (aW j) D) (hc:fA (dO j) D=true) (hu:iW j D≠[]) (h5:Fit (iW j D) d5):cH j [d0,D,d5]=([],(7,1),true):=by
 have hr:runM j [d0,D,d5]=⟨false,[],(7,1),[],none,false⟩:=by
  rw [Bx hv hW hm h0,runL]
  unfold iq
  rw [vz hv hW hD hc,hU [] hu h5]
  rfl
 unfold cH
 rw [if_neg (by rw [hv];simp),hr]
 rfl
theorem Gp (hm:j.v.mem≠[]) {d0 D:List Done} (h0:Fit (fJ j) d0) (hD:Fit (aW j) D) (hc:fA (dO j) D=false) (G:List (List Done)):runM j (d0::D::G)=runL [wM j,nt j,finM j] G:=by
 rw [Bx hv hW hm h0,runL]
 unfold iq
 rw [E3 hv hW hD hc]
 simp only [if_true]
theorem Gq (hm:j.v.mem≠[]) {d0 D:List Done} (h0:Fit (fJ j) d0) (hD:Fit (aW j) D) (hc:fA (dO j) D=false):cH j [d0,D]=(iV j,(0,0),false):=by
 have hr:runM j [d0,D]=⟨false,[],(0,0),[],some (iV j),false⟩:=by
  rw [Gp hv hW hm h0 hD hc,runL]
  unfold iq
  rw [xb hv hW,im (rB hv hW hm).2]
  rfl
 unfold cH
 rw [if_neg (by rw [hv];simp),hr]
theorem By (hm:j.v.mem≠[]) {d0 D d2:List Done} (h0:Fit (fJ j) d0) (hD:Fit (aW j) D) (hc:fA (dO j) D=false) (h2:Fit (iV j) d2) (G:List (List Done)):runM j (d0::D::d2::G)=runL [nt j,finM j] G:=by
 rw [Gp hv hW hm h0 hD hc,runL]
 unfold iq
 rw [xb hv hW,hU G (rB hv hW hm).2 h2]
 simp only [if_true]
theorem Gr (hm:j.v.mem≠[]) {d0 D d2:List Done} (h0:Fit (fJ j) d0) (hD:Fit (aW j) D) (hc:fA (dO j) D=false) (h2:Fit (iV j) d2) (hb:gE j≠[]):cH j [d0,D,d2]=(gE j,(0,0),false):=by
 have hr:runM j [d0,D,d2]=⟨false,[],(0,0),[],some (gE j),false⟩:=by
  rw [By hv hW hm h0 hD hc h2,runL]
  unfold iq nt
  rw [im hb]
  rfl
 unfold cH
 rw [if_neg (by rw [hv];simp),hr]
theorem uI (hm:j.v.mem≠[]):finV j≠[]:=by
 unfold finV
 cases h:j.v.mem with
 |nil=>exact absurd h hm
 |cons m l=>simp
theorem Gs (hm:j.v.mem≠[]) {d0 D d2 d3:List Done} (h0:Fit (fJ j) d0) (hD:Fit (aW j) D) (hc:fA (dO j) D=false) (h2:Fit (iV j) d2) (hb:gE j≠[]) (h3:Fit (gE j) d3):cH j [d0,D,d2,d3]=(finV j,(0,0),false):=by
 have hr:runM j [d0,D,d2,d3]=⟨false,[],(0,0),[],some (finV j),false⟩:=by
  rw [By hv hW hm h0 hD hc h2,runL]
  unfold iq nt
  rw [hU [] hb h3]
  simp only [if_true]
  rw [runL]
  unfold iq
  rw [sB hv hW,im (uI hv hW hm)]
  rfl
 unfold cH
 rw [if_neg (by rw [hv];simp),hr]
theorem E4 (hm:j.v.mem≠[]) {d0 D d2:List Done} (h0:Fit (fJ j) d0) (hD:Fit (aW j) D) (hc:fA (dO j) D=false) (h2:Fit (iV j) d2) (hb:gE j=[]):cH j [d0,D,d2]=(finV j,(0,0),false):=by
 have hr:runM j [d0,D,d2]=⟨false,[],(0,0),[],some (finV j),false⟩:=by
  rw [By hv hW hm h0 hD hc h2,runL]
  unfold iq nt
  rw [hb,oC]
  simp only [if_true]
  rw [runL]
  unfold iq
  rw [sB hv hW,im (uI hv hW hm)]
  rfl
 unfold cH
 rw [if_neg (by rw [hv];simp),hr]
theorem Gt (hm:j.v.mem≠[]) {d0 D d2 d3 d4:List Done} (h0:Fit (fJ j) d0) (hD:Fit (aW j) D) (hc:fA (dO j) D=false) (h2:Fit (iV j) d2) (hb:gE j≠[]) (h3:Fit (gE j) d3) (h4:Fit (finV j) d4):cH j [d0,D,d2,d3,d4]=([],(0,3),true):=by
 have hr:runM j [d0,D,d2,d3,d4]=pi []:=by
  rw [By hv hW hm h0 hD hc h2,runL]
  unfold iq nt
  rw [hU [d4] hb h3]
  simp only [if_true]
  rw [runL]
  unfold iq
  rw [sB hv hW,hU [] (uI hv hW hm) h4]
  rfl
 unfold cH
 rw [if_neg (by rw [hv];simp),hr]
 rfl
theorem E5 (hm:j.v.mem≠[]) {d0 D d2 d4:List Done} (h0:Fit (fJ j) d0) (hD:Fit (aW j) D) (hc:fA (dO j) D=false) (h2:Fit (iV j) d2) (hb:gE j=[]) (h4:Fit (finV j) d4):cH j [d0,D,d2,d4]=([],(0,3),true):=by
 have hr:runM j [d0,D,d2,d4]=pi []:=by
  rw [By hv hW hm h0 hD hc h2,runL]
  unfold iq nt
  rw [hb,oC]
  simp only [if_true]
  rw [runL]
  unfold iq
  rw [sB hv hW,hU [] (uI hv hW hm) h4]
  rfl
 unfold cH
 rw [if_neg (by rw [hv];simp),hr]
 rfl
end
end Go.Proofs.YtegepanmkjemjaaGreat
