import Derived.Test.YtegepanmkjemjaaGreatp21
import Derived.Test.YtegepanmkjemjaaGreatProg
import Derived.Test.YtegepanmkjemjaaGreatp03
set_option linter.unusedVariables false
namespace Go.Proofs.YtegepanmkjemjaaGreat
open Go.Eng
theorem ja {x:dN} {i:Nat}:∀ {ls:List Lane} {j:Nat},x ∈ cN i j ls↔∃ q l,ls[q]?=some l∧0<l.pair.verbs.length∧x=⟨-1,i,(j+q:Nat)⟩
 | [],j=>by simp [cN]
 |l::ls,j=>by
  unfold cN
  rw [List.mem_append,ja (ls:=ls) (j:=j+1)]
  constructor
  ·rintro (h | ⟨q,l',h1,h2,h3⟩)
   ·split at h
    ·rename_i hv
     simp at h
     exact ⟨0,l,rfl,hv,by rw [h];simp⟩
    ·cases h
   ·exact ⟨q+1,l',by simpa using h1,h2,by rw [h3];congr 2;omega⟩
  ·rintro ⟨q,l',h1,h2,h3⟩
   cases q with
   |zero=>
    left
    simp at h1
    subst h1
    rw [if_pos h2,h3]
    simp
   |succ q=>exact .inr ⟨q,l',by simpa using h1,h2,by rw [h3];congr 2;omega⟩
theorem jc {x:dN}:∀ {cs:List Comp} {i:Nat},x ∈ bY i cs↔∃ q C,cs[q]?=some C∧x ∈ cN (i+q) 0 C.lanes
 | [],i=>by simp [bY]
 |C::cs,i=>by
  unfold bY
  rw [List.mem_append,jc (cs:=cs) (i:=i+1)]
  constructor
  ·rintro (h | ⟨q,C',h1,h2⟩)
   ·exact ⟨0,C,rfl,h⟩
   ·exact ⟨q+1,C',by simpa using h1,by rw [show i+(q+1)=i+1+q by omega];exact h2⟩
  ·rintro ⟨q,C',h1,h2⟩
   cases q with
   |zero=>
    left
    simp at h1
    subst h1
    exact h2
   |succ q=>exact .inr ⟨q,C',by simpa using h1,by rw [show i+1+q=i+(q+1) by omega];exact h2⟩
structure Solo (c:Nat) (F:Fab):Prop where
 orph:F.orphans=[]
 idle:∀ (i:Nat) (C:Comp),i≠c→F.clients[i]?=some C→∀ (j:Nat) (l:Lane),C.lanes[j]?=some l→l.pair.verbs=[]
 apart:zm c F
 lanes:∀ C,F.clients[c]?=some C→C.lanes.length≤F.nodes.length
theorem Solo.choice {c:Nat} {F:Fab} (h:Solo c F) {x:dN} (hx:x ∈ F.choices):∃ (j:Nat) (F':Fab),x=⟨-1,c,j⟩∧stepL c j F=some F':=by
 unfold Fab.choices at hx
 rw [h.orph] at hx
 rcases List.mem_append.1 hx with hx | hx
 ·obtain ⟨q,C,hC,hx⟩:=jc.1 hx
  obtain ⟨j,l,hl,hv,rfl⟩:=ja.1 hx
  rw [Nat.zero_add] at *
  by_cases e:q=c
  ·subst e
   have hlt:=aU hl
   have hlen:=h.lanes C hC
   exact ⟨j,_,by rw [Nat.zero_add],eM.2 ⟨C,l,F.nodes[j],hC,hl,List.getElem?_eq_getElem (by omega),by omega,rfl⟩⟩
  ·rw [h.idle q C e hC j l hl] at hv
   simp at hv
 ·simp [eJ] at hx
theorem tH {c j:Nat} {F F':Fab} (h:stepL c j F=some F'):(⟨-1,c,j⟩:dN) ∈ F.choices:=by
 obtain ⟨C,l,n,hC,hl,hn,hv,rfl⟩:=eM.1 h
 unfold Fab.choices
 refine List.mem_append.2 (.inl (jc.2 ⟨c,C,hC,ja.2 ⟨j,l,hl,by omega,?_⟩⟩))
 simp
theorem Solo.rstep {c:Nat} {F:Fab} (h:Solo c F) (sch:List Int) (n:Nat):(rstep F sch n=(false,F)∧∀ j,stepL c j F=none)∨∃ j F',stepL c j F=some F'∧rstep F sch n=(true,F'):=by
 unfold Go.Proofs.YtegepanmkjemjaaGreat.rstep
 cases hx:F.choices[pq F sch n]? with
 |some x=>
  obtain ⟨j,F',rfl,hs⟩:=h.choice (List.mem_of_getElem? hx)
  exact .inr ⟨j,F',hs,qS hs⟩
 |none=>
  refine .inl ⟨rfl,λj=>?_⟩
  cases hs:stepL c j F with
  |none=>rfl
  |some F'=>
   have hm:=tH hs
   have hpos:0<F.choices.length:=List.length_pos_of_mem hm
   have hlt:pq F sch n<F.choices.length:=by
    unfold pq
    split
    ·have h1:=Int.emod_nonneg (sch.getD n 0) (b:=(F.choices.length:Int)) (by omega)
     have h2:=Int.emod_lt_of_pos (sch.getD n 0) (b:=(F.choices.length:Int)) (by omega)
     omega
    ·exact hpos
   rw [List.getElem?_eq_getElem hlt] at hx
   cases hx
end Go.Proofs.YtegepanmkjemjaaGreat
namespace Go.Proofs.YtegepanmkjemjaaGreat
open Go.Eng
def Below (C:Comp) (k:Nat):Prop:=∀ (i:Nat) (l:Lane),C.lanes[i]?=some l→∀ q ∈ l.places,q<k
theorem kH {C:Comp} {k:Nat} {v:Verb} {i:Nat} {l:Lane} (h:(C.postOne k v).lanes[i]?=some l):∃ l0,C.lanes[i]?=some l0∧((l.places=l0.places∧l.pair.verbs=l0.pair.verbs∧v.node.toNat≠i)∨(l.places=l0.places++[k]∧l.pair.verbs=l0.pair.verbs++[v]∧v.node.toNat=i)):=by
 unfold Comp.postOne at h
 simp only [List.getElem?_modify] at h
 cases hl:C.lanes[i]? with
 |none=>rw [hl] at h;simp at h
 |some l0=>
  rw [hl] at h
  refine ⟨l0,rfl,?_⟩
  by_cases e:v.node.toNat=i
  ·right
   simp [e] at h
   subst h
   exact ⟨rfl,rfl,e⟩
  ·left
   simp [e] at h
   subst h
   exact ⟨rfl,rfl,e⟩
theorem m7.postOne {C:Comp} {k:Nat} {v:Verb} (h:m7 C) (hb:Below C k):m7 (C.postOne k v)∧Below (C.postOne k v) (k+1):=by
 refine ⟨⟨λi l hl=>?_,λi j l l' hne hl hl' q hq hq'=>?_⟩,λi l hl q hq=>?_⟩
 ·obtain ⟨l0,h0,hc⟩:=kH hl
  have hlen:=h.len i l0 h0
  rcases hc with ⟨e1,e2,_⟩ | ⟨e1,e2,_⟩
  ·rw [e1,e2,hlen]
  ·rw [e1,e2,List.length_append,List.length_append,hlen];rfl
 ·obtain ⟨l0,h0,hc⟩:=kH hl
  obtain ⟨l1,h1,hc'⟩:=kH hl'
  have hap:=h.apart i j l0 l1 hne h0 h1
  rcases hc with ⟨e1,_,e3⟩ | ⟨e1,_,e3⟩<;>rcases hc' with ⟨f1,_,f3⟩ | ⟨f1,_,f3⟩
  ·rw [e1] at hq;rw [f1] at hq';exact hap q hq hq'
  ·rw [e1] at hq;rw [f1] at hq'
   rcases List.mem_append.1 hq' with g | g
   ·exact hap q hq g
   ·simp at g
    have:=hb i l0 h0 q hq
    omega
  ·rw [e1] at hq;rw [f1] at hq'
   rcases List.mem_append.1 hq with g | g
   ·exact hap q g hq'
   ·simp at g
    have:=hb j l1 h1 q hq'
    omega
  ·exact hne (e3.symm.trans f3)
 ·obtain ⟨l0,h0,hc⟩:=kH hl
  rcases hc with ⟨e1,_,_⟩ | ⟨e1,_,_⟩
  ·rw [e1] at hq
   have:=hb i l0 h0 q hq
   omega
  ·rw [e1] at hq
   rcases List.mem_append.1 hq with g | g
   ·have:=hb i l0 h0 q g
    omega
   ·simp at g
    omega
theorem m7.postFrom:∀ (vs:List Verb) {C:Comp} {k:Nat},m7 C→Below C k→m7 (C.postFrom k vs)
 | [],C,k,h,hb=>h
 |v::vs,C,k,h,hb=>by
  obtain ⟨h1,h2⟩:=h.postOne (v:=v) hb
  exact m7.postFrom vs h1 h2
theorem uh {C C':Comp} (h:m7 C) (e:C'.lanes=C.lanes):m7 C':=⟨by rw [e];exact h.len,by rw [e];exact h.apart⟩
theorem yr:∀ {ls:List Lane} {j:Nat} {l:Lane},ls[j]?=some l→l.pair.verbs≠[]→0<pend ls:=by
 intro ls j l hl hv
 rcases Nat.eq_zero_or_pos (pend ls) with e | e
 ·exact absurd (n0 e l (List.mem_of_getElem? hl)) hv
 ·exact e
theorem sB {cv:Conv} {F:Fab} {t:Tk cv} (h:0<F.waiting t.client):turn F t=(F,t):=by
 unfold turn
 rw [if_pos (.inr (.inr h))]
theorem uN {F:Fab} (hf:Fine F) {c j:Nat} {F':Fab} (h:stepL c j F=some F'):0<F.waiting c:=by
 obtain ⟨C,l,n,hC,hl,hn,hv,rfl⟩:=eM.1 h
 have hw:=(hf.good.ok.client c C hC).waiting
 have hp:=yr hl (λe=>hv (by rw [e];rfl))
 unfold Fab.waiting
 have h1:F.cl (c:Int)=some C:=by
  unfold Fab.cl
  rw [if_neg (by omega)]
  simpa using hC
 rw [h1]
 show 0<C.waiting
 omega
end Go.Proofs.YtegepanmkjemjaaGreat
namespace Go.Proofs.YtegepanmkjemjaaGreat
open Go.Eng
theorem wT (F:Fab) (c:Nat):F.cl (c:Int)=F.clients[c]?:=by
 unfold Fab.cl
 rw [if_neg (by omega)]
 simp
theorem mO:∀ (vs:List Verb) (C:Comp) (k:Nat),(C.postFrom k vs).lanes.length=C.lanes.length
 | [],C,k=>rfl
 |v::vs,C,k=>by
  rw [nN,mO vs]
  simp [Comp.postOne]
theorem Solo.setC {c:Nat} {F:Fab} (h:Solo c F) {C':Comp} (ha:m7 C') (hl:C'.lanes.length≤F.nodes.length):Solo c (F.setC (c:Int) C'):=by
 unfold Fab.setC
 rw [Int.toNat_natCast]
 refine ⟨h.orph,λi C hi hC=>?_,λC hC=>?_,λC hC=>?_⟩
 ·simp only [List.getElem?_set_ne (λe=>hi e.symm)] at hC
  exact h.idle i C hi hC
 ·have hlt:c<F.clients.length:=by
   have:=aU hC
   simpa using this
  simp only [List.getElem?_set_self hlt] at hC
  cases hC
  exact ha
 ·have hlt:c<F.clients.length:=by
   have:=aU hC
   simpa using this
  simp only [List.getElem?_set_self hlt] at hC
  cases hC
  exact hl
def wU (c:Nat) (F:Fab):Prop:=∀ C,F.clients[c]?=some C→∀ l ∈ C.lanes,l.pair.verbs=[]
theorem Solo.post {c:Nat} {F:Fab} (h:Solo c F) (hq:wU c F) (vs:List Verb):Solo c (F.post (c:Int) vs).2:=by
 unfold Fab.post
 rw [wT]
 cases hC:F.clients[c]? with
 |none=>exact h
 |some C=>
  simp only
  split
  ·exact h
  split
  ·exact h
  split
  ·exact h
  split
  ·exact h
  split
  ·exact h
  have hap:=h.apart C hC
  have hbl:Below C 0:=λi l hl q hqq=>by
   have h1:=hap.len i l hl
   rw [hq C hC l (List.mem_of_getElem? hl)] at h1
   rw [List.eq_nil_of_length_eq_zero h1] at hqq
   cases hqq
  have hap':=m7.postFrom vs hap hbl
  exact h.setC (C':=C.posted' vs) (uh hap' rfl) (by show (C.postFrom 0 vs).lanes.length≤_;rw [mO];exact h.lanes C hC)
theorem Solo.take {c:Nat} {F:Fab} (h:Solo c F):Solo c (F.take (c:Int)).2∧(wU c F→wU c (F.take (c:Int)).2):=by
 unfold Fab.take
 rw [wT]
 cases hC:F.clients[c]? with
 |none=>exact ⟨h,id⟩
 |some C=>
  simp only
  split
  ·exact ⟨h,id⟩
  cases hb:C.batch with
  |none=>exact ⟨h,id⟩
  |some ds=>
   simp only
   split
   ·exact ⟨h,id⟩
   refine ⟨h.setC (C':={ C with batch:=none }) (uh (h.apart C hC) rfl) (h.lanes C hC),λhq C' hC'=>?_⟩
   unfold Fab.setC at hC'
   rw [Int.toNat_natCast] at hC'
   simp only [List.getElem?_set_self (aU hC)] at hC'
   cases hC'
   exact hq C hC
theorem yt {F:Fab} (hf:Fine F) {c:Nat} (h:¬ 0<F.waiting (c:Int)):wU c F:=by
 intro C hC l hl
 have hw:=(hf.good.ok.client c C hC).waiting
 unfold Fab.waiting at h
 rw [wT,hC] at h
 have h:¬ 0<C.waiting:=h
 exact n0 (by omega) l hl
theorem Solo.tail {cv:Conv} {c:Nat} {F:Fab} {t:Tk cv} (h:Solo c F) (hq:wU c F) (hc:t.client=(c:Int)):Solo c (qC F t).1:=by
 unfold qC
 rw [hc]
 split
 ·exact h
 split
 ·exact h
 split
 ·exact h.post hq _
 ·exact h.post hq _
theorem Solo.turn {cv:Conv} {c:Nat} {F:Fab} {t:Tk cv} (h:Solo c F) (hf:Fine F) (hc:t.client=(c:Int)):Solo c (turn F t).1:=by
 unfold Go.Proofs.YtegepanmkjemjaaGreat.turn
 rw [hc]
 split
 ·exact h
 ·rename_i hn
  have hq:=yt hf (c:=c) λe=>hn (.inr (.inr e))
  refine Solo.tail h.take.1 (h.take.2 hq) ?_
  cases (F.take (c:Int)).1<;>exact hc
theorem tI {cv:Conv} {F:Fab} {t:Tk cv}:(turn F t).2.client=t.client:=by
 unfold Go.Proofs.YtegepanmkjemjaaGreat.turn
 split
 ·rfl
 ·unfold qC
  split
  ·cases (F.take t.client).1<;>rfl
  split
  ·cases (F.take t.client).1<;>rfl
  split
  ·cases (F.take t.client).1<;>rfl
  ·cases (F.take t.client).1<;>rfl
theorem Solo.step {c j:Nat} {F F':Fab} (h:Solo c F) (hs:stepL c j F=some F'):Solo c F':=by
 have hap:=(sA c).keep h.apart hs
 obtain ⟨C,l,n,hC,hl,hn,hv,rfl⟩:=eM.1 hs
 refine ⟨h.orph,λi C' hi hC'=>?_,hap,λC' hC'=>?_⟩
 ·simp only [List.getElem?_set_ne (λe=>hi e.symm)] at hC'
  exact h.idle i C' hi hC'
 ·simp only [List.getElem?_set_self (aU hC)] at hC'
  cases hC'
  have h1:=h.lanes C hC
  simp only [List.length_set]
  cases (l.pair.step n).2.2<;>simp [Comp.comes]<;>exact h1
end Go.Proofs.YtegepanmkjemjaaGreat
namespace Go.Proofs.YtegepanmkjemjaaGreat
open Go.Eng
section
variable {cv:Conv}
def pr (c j:Nat) (s:Fab×Tk cv):Option (Fab×Tk cv):=(stepL c j s.1).map λF'=>turn F' s.2
structure OkP (c:Nat) (s:Fab×Tk cv):Prop where
 fine:Fine s.1
 solo:Solo c s.1
 cl:s.2.client=(c:Int)
theorem Fine.stepL {F F':Fab} (h:Fine F) {c j:Nat} (hs:stepL c j F=some F'):Fine F':=by
 have h1:=h.step ⟨-1,c,j⟩
 rw [qS hs] at h1
 exact h1
theorem ib {c j:Nat} {s s':Fab×Tk cv}:pr c j s=some s'↔∃ F',stepL c j s.1=some F'∧s'=turn F' s.2:=by
 unfold pr
 cases h:stepL c j s.1 with
 |none=>simp
 |some F'=>simp [eq_comm]
theorem OkP.turn {c:Nat} {F:Fab} {t:Tk cv} (h:OkP c (F,t)):OkP c (turn F t):=
 ⟨h.fine.turn t,h.solo.turn h.fine h.cl,by rw [tI];exact h.cl⟩
theorem OkP.stepL {c j:Nat} {F F':Fab} {t:Tk cv} (h:OkP c (F,t)) (hs:stepL c j F=some F'):OkP c (F',t):=⟨h.fine.stepL hs,h.solo.step hs,h.cl⟩
theorem sC (c:Nat):tG (pr (cv:=cv) c) (OkP c):=by
 refine ⟨λ{i s s1} hok h=>?_,λ{i j s s1 s2} hok h1 h2=>?_⟩
 ·obtain ⟨F,t⟩:=s
  obtain ⟨F',hs,rfl⟩:=ib.1 h
  exact (hok.stepL hs).turn
 ·obtain ⟨F,t⟩:=s
  obtain ⟨F1,hs1,rfl⟩:=ib.1 h1
  obtain ⟨F2,hs2,rfl⟩:=ib.1 h2
  rcases (sA c).dia hok.solo.apart hs1 hs2 with e | ⟨F3,h3,h4⟩
  ·exact .inl (by rw [e])
  ·have hc:t.client=(c:Int):=hok.cl
   have w1:turn F1 t=(F1,t):=sB (by rw [hc];exact uN (hok.stepL hs1).fine h3)
   have w2:turn F2 t=(F2,t):=sB (by rw [hc];exact uN (hok.stepL hs2).fine h4)
   refine .inr ⟨turn F3 t,?_,?_⟩
   ·simp only [w1]
    exact ib.2 ⟨F3,h3,rfl⟩
   ·simp only [w2]
    exact ib.2 ⟨F3,h4,rfl⟩
theorem wV (F:Fab) (t:Tk cv):turns F [t]=((turn F t).1,[(turn F t).2]):=rfl
theorem oZ {c:Nat} (cs sch:List Int):∀ (f n:Nat) {F:Fab} {t:Tk cv} {k:Nat} {e:Fab×Tk cv},OkP c (F,t)→Norm (pr c) k (turn F t) e→k<f→driveGo cs sch [] f n F [t]=(e.1,[e.2])
 | 0,n,F,t,k,e,hok,hn,hk=>by omega
 |f+1,n,F,t,k,e,hok,hn,hk=>by
  have hok1:=hok.turn
  unfold driveGo
  have hh:happens F cs n []=F:=rfl
  rw [hh,wV]
  rcases hok1.solo.rstep sch n with ⟨h1,h2⟩ | ⟨j,F',h1,h2⟩
  ·rw [h1,if_neg (by simp)]
   cases hn with
   |nil _=>rfl
   |cons i hi _=>
    obtain ⟨F',hs,_⟩:=ib.1 hi
    rw [h2 i] at hs
    cases hs
  ·rw [h2,if_pos rfl]
   obtain ⟨k',rfl,hn'⟩:=hn.after (sC c) hok1 (ib.2 ⟨F',h1,rfl⟩)
   exact oZ cs sch f (n+1) (OkP.stepL hok1 h1) hn' (by omega)
theorem vp {c:Nat} {F:Fab} {t:Tk cv} (hok:OkP c (F,t)) {k:Nat} {e:Fab×Tk cv} (hn:Norm (pr c) k (turn F t) e) (sch:List Int) {most:Nat} (hk:k<most):drive F [t] sch [] most=((turn e.1 e.2).1,[(turn e.1 e.2).2]):=by
 unfold drive
 rw [oZ _ sch most 0 hok hn hk]
 rfl
def pW (c:Nat) (s:Fab×Tk cv):Nat→Nat→Option (Fab×Tk cv)
 | 0,_=>none
 |q+1,j=>match pr c j s with
  |some s'=>some s'
  |none=>pW c s q (j+1)
theorem pX {c:Nat} {s s':Fab×Tk cv}:∀ {q j:Nat},pW c s q j=some s'→∃ i,pr c i s=some s'
 | 0,j,h=>by cases h
 |q+1,j,h=>by
  unfold pW at h
  cases hs:pr c j s with
  |some s1=>rw [hs] at h;exact ⟨j,hs.trans h⟩
  |none=>rw [hs] at h;exact pX h
theorem pY {c:Nat} {s:Fab×Tk cv}:∀ {q j:Nat},pW c s q j=none→∀ i,j≤i→i<j+q→pr c i s=none
 | 0,j,h,i,h1,h2=>by omega
 |q+1,j,h,i,h1,h2=>by
  unfold pW at h
  cases hs:pr c j s with
  |some s1=>rw [hs] at h;cases h
  |none=>
   rw [hs] at h
   by_cases e:i=j
   ·rw [e];exact hs
   ·exact pY h i (by omega) (by omega)
def runP (c:Nat):Nat→Fab×Tk cv→Option (Nat×(Fab×Tk cv))
 | 0,_=>none
 |f+1,s=>match pW c s 5 0 with
  |none=>some (0,s)
  |some s'=>(runP c f s').map λx=>(x.1+1,x.2)
theorem sD {c:Nat}:∀ {f:Nat} {s:Fab×Tk cv} {k:Nat} {e:Fab×Tk cv},OkP c s→runP c f s=some (k,e)→Norm (pr c) k s e
 | 0,s,k,e,hok,h=>by cases h
 |f+1,s,k,e,hok,h=>by
  unfold runP at h
  cases hs:pW c s 5 0 with
  |none=>
   rw [hs] at h
   cases h
   refine .nil λi=>?_
   by_cases hi:i<5
   ·exact pY hs i (by omega) (by omega)
   ·cases hx:pr c i s with
    |none=>rfl
    |some s'=>
     obtain ⟨F',h1,_⟩:=ib.1 hx
     obtain ⟨C,l,n,hC,hl,hn,_⟩:=eM.1 h1
     have h2:=aU hn
     have h3:=hok.fine.good.ok.nodes
     omega
  |some s'=>
   rw [hs] at h
   obtain ⟨i,hi⟩:=pX hs
   simp only at h
   cases hr:runP c f s' with
   |none=>rw [hr] at h;cases h
   |some x=>
    rw [hr] at h
    cases h
    exact .cons i hi (sD ((sC c).keep hok hi) hr)
theorem wW {c:Nat} {F:Fab} {t:Tk cv} (hok:OkP c (F,t)) {f k:Nat} {e:Fab×Tk cv} (hr:runP c f (turn F t)=some (k,e)) (sch:List Int) {most:Nat} (hk:k<most):drive F [t] sch [] most=((turn e.1 e.2).1,[(turn e.1 e.2).2]):=
 vp hok (sD hok.turn hr) sch hk
end
end Go.Proofs.YtegepanmkjemjaaGreat
namespace Go.Proofs.YtegepanmkjemjaaGreat
open Go.Proofs.Tryz
open Go.Eng IntKind
variable (w:World) (R:Value→World→Prop)
theorem pZ (p0:aN):fnW prog f107 [p0.val] R w=(∀ b1 w1,b1=w.heap.size→w1=w.alloc (.cells p0.cells.toArray 30)→∀ b2 w2,b2=w1.heap.size→w2=w1.alloc (.cells #[(.int .i64 0),(.int .i64 0),(.bool false)] 103)→∃ a b c,w2.cell? ⟨b1,1,none⟩=some (.slice a b c)∧(bif (((b:Nat):Int) == 0) then (wrAt w2 ⟨b2,0,none⟩ 0 [(.int .i64 0),(.int .i64 0),(.bool false)]∧∀ w3,w3=puts w2 ⟨b2,0,none⟩ 0 [(.int .i64 0),(.int .i64 0),(.bool false)]→aC.ex λh=>aD w3 ⟨b2,0,none⟩ 0 h.cells∧w3=w3∧R (.tuple #[h.val,(.bool false)]) w3) else (∃ d f g,w2.cell? ⟨b1,1,none⟩=some (.slice d f g)∧idxS d f 0 3 λad=>aC.ex λr=>aD w2 ad 0 r.cells∧wrAt w2 ⟨b2,0,none⟩ 0 r.cells∧∀ w4,w4=puts w2 ⟨b2,0,none⟩ 0 r.cells→aC.ex λi=>aD w4 ⟨b2,0,none⟩ 0 i.cells∧w4=w4∧R (.tuple #[i.val,(.bool true)]) w4))):=by kernel_rfl
def eN (s1:Int) (s2:Addr) (a:Option Addr) (b c:Nat) (d f:Int) (j:LV):LV:=jq j 0 1 (.int .i64 s1::.pointer (some s2)::jq j 1 25 (.slice a b c::.int .i64 d::.int .i64 f::jq j 26 50 []))
def lS (a:Addr) (j:LV):LV:=jq j 0 2 (.pointer (some a)::jq j 2 78 [])
def fU (s2:Addr) (a:Option Addr) (b c:Nat) (d f:Int) (j:LV):LV:=jq j 0 2 (.pointer (some s2)::jq j 2 59 (.slice a b c::.int .i64 d::.int .i64 f::jq j 61 16 []))
def lT (a:Addr) (j:LV):LV:=jq j 0 2 (.pointer (some a)::jq j 2 78 [])
theorem rC (p0:aN) (p1:Int):fnW prog f141 [p0.val,.int .i64 p1] R w=(∀ b1 w1,b1=w.heap.size→w1=w.alloc (.cells p0.cells.toArray 30)→Calls prog 171 #[.int .i64 p1] w1 λe w2=>∃ a,e=.returned (.bool a)∧(bif (!a) then (R (.int .i64 1) w2) else (∃ b,w2.cell? ⟨b1,0,none⟩=some (.int .i64 b)∧(bif (decide ((b:Int)<0)) then (R (.int .i64 2) w2) else (∃ c,w2.cell? ⟨b1,0,none⟩=some (.int .i64 c)∧(bif (decide ((c:Int)≥16)) then (R (.int .i64 2) w2) else (∃ d f g,w2.cell? ⟨b1,1,none⟩=some (.slice d f g)∧(bif (((f:Nat):Int) == 0) then (R (.int .i64 1) w2) else (∃ h i k,w2.cell? ⟨b1,1,none⟩=some (.slice h i k)∧bV prog (.loop (sub (aG f141) [1,1,0,1,0,0])) (eN p1 ⟨b1,0,none⟩ h i k (i:Nat) 0 (p0.val::undef::ji 0::uq 4 (jb (!a)::ji p1::jb a::jb (!a)::jb (decide ((c:Int)≥16))::jp ⟨b1,0,none⟩::ji b::jb (decide ((b:Int)<0))::jb false::jp ⟨b1,0,none⟩::ji c::jb (decide ((c:Int)≥16))::jb (decide ((c:Int)≥16))::jb (((f:Nat):Int) == 0)::jp ⟨b1,1,none⟩::js d f g::jn f::jb (((f:Nat):Int) == 0)::jp ⟨b1,1,none⟩::uq 50 []))) (aI 1 (nx f141 [1,1,1] R)) w2))))))))):=by kernel_rfl
theorem lU (s1:Int) (s2:Addr) (a:Option Addr) (b c:Nat) (d f:Int) (j:LV) (N1:LV→World→Prop):W prog (sub (aG f141) [1,1,0,1,0,0]) (eN s1 s2 a b c d f j) (seqQ N1 (aI 1 (nx f141 [1,1,1] R))) w=((bif (decide ((f:Int)<d)) then (idxS a b f 3 λad=>aC.ex λr=>aD w ad 0 r.cells∧∀ b1 w1,b1=w.heap.size→w1=w.alloc (.cells #[.int .i64 0,.int .i64 0,.bool false] 103)→wrAt w1 ⟨b1,0,none⟩ 0 r.cells∧∀ w2,w2=puts w1 ⟨b1,0,none⟩ 0 r.cells→∀ w3,w3=w2.drew→∃ Sx:World→Prop,Sx w3∧∃ g,(∀ u,Sx u→u.cell? ⟨b1,0,none⟩=some (.int .i64 g))∧(bif (decide ((g:Int)<0)) then (R (.int .i64 1) w3) else (∃ h,(∀ u,Sx u→u.cell? ⟨b1,0,none⟩=some (.int .i64 h))∧(bif (decide ((h:Int)≥s1)) then (R (.int .i64 1) w3) else ((bif (decide ((f:Int)>0)) then (∃ i,(∀ u,Sx u→u.cell? ⟨b1,0,none⟩=some (.int .i64 i))∧∃ k l m,(∀ u,Sx u→u.cell? ⟨s2.block,s2.off+1,none⟩=some (.slice k l m))∧idxS k l (i64.wrap (f - 1)) 3 λo=>∃ n,(∀ u,Sx u→u.cell? o=some (.int .i64 n))∧(bif (decide ((i:Int)≤n)) then (R (.int .i64 1) w3) else (N1 (eN s1 s2 a b c d (i64.wrap (f+1)) (jg j 0::jg j 1::jg j 2::ji f::jp ⟨b1,0,none⟩::jq j 5 21 (jb (decide ((f:Int)<d))::ji f::jp ad::r.val::jp ⟨b1,0,none⟩::ji g::jb (decide ((g:Int)<0))::jb false::jp ⟨b1,0,none⟩::ji h::ji s1::jb (decide ((h:Int)≥s1))::jb (decide ((h:Int)≥s1))::jb false::ji f::jb (decide ((f:Int)>0))::jb true::jp ⟨b1,0,none⟩::ji i::jf s2 1::js k l m::ji f::ji (i64.wrap (f - 1))::jp o::jp o::ji n::jb (decide ((i:Int)≤n))::jb (decide ((i:Int)≤n))::jb (decide ((i:Int)≤n))::ji (i64.wrap (f+1))::jq j 56 20 []))) w3))) else (N1 (eN s1 s2 a b c d (i64.wrap (f+1)) (jg j 0::jg j 1::jg j 2::ji f::jp ⟨b1,0,none⟩::jq j 5 21 (jb (decide ((f:Int)<d))::ji f::jp ad::r.val::jp ⟨b1,0,none⟩::ji g::jb (decide ((g:Int)<0))::jb false::jp ⟨b1,0,none⟩::ji h::ji s1::jb (decide ((h:Int)≥s1))::jb (decide ((h:Int)≥s1))::jb false::ji f::jb (decide ((f:Int)>0))::jb false::uq 10 (jb false::jb false::ji (i64.wrap (f+1))::jq j 56 20 [])))) w3))))))) else (W prog (sub (aG f141) [1,1,1]) (lS s2 (jg j 0::ji s1::jq j 1 25 (js a b c::ji d::ji f::jb (decide ((f:Int)<d))::jq j 27 49 []))) (retQ prog f141 R) w))):=by kernel_rfl
theorem n3 (a:Addr) (j:LV):W prog (sub (aG f141) [1,1,1]) (lS a j) (retQ prog f141 R) w=(∃ b c d,w.cell? ⟨a.block,a.off+1,none⟩=some (.slice b c d)∧bV prog (.loop (sub (aG f141) [1,1,1,0,1,0,0])) (fU a b c d (c:Nat) 0 (jq j 0 60 (jf a 1::jq j 64 16 []))) (aI 3 (nx f141 [1,1,1,1] R)) w):=by kernel_rfl
theorem lV (s2:Addr) (a:Option Addr) (b c:Nat) (d f:Int) (j:LV) (N2:LV→World→Prop):W prog (sub (aG f141) [1,1,1,0,1,0,0]) (fU s2 a b c d f j) (seqQ N2 (aI 3 (nx f141 [1,1,1,1] R))) w=((bif (decide ((f:Int)<d)) then (idxS a b f 3 λad=>aC.ex λr=>aD w ad 0 r.cells∧∀ b1 w1,b1=w.heap.size→w1=w.alloc (.cells #[.int .i64 0,.int .i64 0,.bool false] 103)→wrAt w1 ⟨b1,0,none⟩ 0 r.cells∧∀ w2,w2=puts w1 ⟨b1,0,none⟩ 0 r.cells→∃ g,w2.cell? ⟨b1,1,none⟩=some (.int .i64 g)∧(bif (decide ((g:Int)<1)) then (R (.int .i64 2) w2) else (∃ h,w2.cell? ⟨b1,1,none⟩=some (.int .i64 h)∧(bif (decide ((h:Int)>31)) then (R (.int .i64 2) w2) else (N2 (fU s2 a b c d (i64.wrap (f+1)) (jq j 0 7 (jp ⟨b1,0,none⟩::jq j 8 53 (jb (decide ((f:Int)<d))::jp ad::r.val::jp ⟨b1,1,none⟩::ji g::jb (decide ((g:Int)<1))::jb false::jp ⟨b1,1,none⟩::ji h::jb (decide ((h:Int)>31))::jb (decide ((h:Int)>31))::ji (i64.wrap (f+1))::jq j 73 4 [])))) w2))))) else (W prog (sub (aG f141) [1,1,1,1]) (lT s2 (jq j 0 61 (js a b c::ji d::ji f::jb (decide ((f:Int)<d))::jq j 62 15 []))) (retQ prog f141 R) w))):=by kernel_rfl
theorem n4 (a:Addr) (j:LV):W prog (sub (aG f141) [1,1,1,1]) (lT a j) (retQ prog f141 R) w=(∃ b c d,w.cell? ⟨a.block,a.off+1,none⟩=some (.slice b c d)∧Calls prog 172 #[.slice b c d,.func (.func 173) #[] #[]] w λe w1=>∃ f,e=.returned (.bool f)∧(bif (!f) then (R (.int .i64 13) w1) else (R (.int .i64 0) w1))):=by kernel_rfl
theorem p5 (p0:Int):fnW prog f171 [.int .i64 p0] R w=((bif (decide ((p0:Int)≥1)) then (R (.bool (decide ((p0:Int)≤5))) w) else (R (.bool false) w))):=by kernel_rfl
theorem eg (p0:Option Addr) (a b:Nat) (p1:Value):fnW prog f172 [.slice p0 a b,p1] R w=(Calls prog 195 #[.slice p0 a b,p1] w λe w1=>∃ c,e=.returned (.int .i64 c)∧R (.bool (decide ((c:Int)≥0))) w1):=by kernel_rfl
theorem qD (p0:aC):fnW prog f173 [p0.val] R w=(∀ b1 w1,b1=w.heap.size→w1=w.alloc (.cells p0.cells.toArray 103)→∃ a,w1.cell? ⟨b1,2,none⟩=some (.bool a)∧R (.bool a) w1):=by kernel_rfl
theorem p6 (p0:aN):fnW prog f187 [p0.val] R w=(∀ b1 w1,b1=w.heap.size→w1=w.alloc (.cells p0.cells.toArray 30)→∃ a b c,w1.cell? ⟨b1,1,none⟩=some (.slice a b c)∧(bif (((b:Nat):Int) == 0) then (R (.slice none 0 0) w1) else (∃ d f g,w1.cell? ⟨b1,1,none⟩=some (.slice d f g)∧sl3 d f g 1 (f:Nat) (g:Nat) 3 λxa xl xc=>Calls prog 204 #[.slice xa xl xc] w1 λe w2=>∃ h i k,e=.returned (.slice h i k)∧R (.slice h i k) w2))):=by kernel_rfl
def aY (s0:Option Addr) (a b:Nat) (s1:Value) (s7 s8:Int) (j:LV):LV:=.slice s0 a b::s1::jq j 0 5 (.int .i64 s7::.int .i64 s8::jq j 5 10 [])
def cA  (j:LV):LV:=jq j 0 19 []
theorem et (p0:Option Addr) (a b:Nat) (p1:Value):fnW prog f195 [.slice p0 a b,p1] R w=(bV prog (.loop (sub (aG f195) [1,0,1,0,0])) (aY p0 a b p1 (a:Nat) 0 (uq 2 (ji 0::undef::js p0 a b::uq 10 []))) (aI 0 (nx f195 [1,1] R)) w):=by kernel_rfl
theorem dM (s0:Option Addr) (a b:Nat) (s1:Value) (s7 s8:Int) (j:LV) (N1:LV→World→Prop):W prog (sub (aG f195) [1,0,1,0,0]) (aY s0 a b s1 s7 s8 j) (seqQ N1 (aI 0 (nx f195 [1,1] R))) w=((bif (decide ((s8:Int)<s7)) then (idxS s0 a s8 3 λad=>aC.ex λr=>aD w ad 0 r.cells∧mg prog s1 #[r.val] w λe w1=>∃ c,e=.returned (.bool c)∧(bif c then (R (.int .i64 s8) w1) else (N1 (aY s0 a b s1 s7 (i64.wrap (s8+1)) [jg j 0,jg j 1,jg j 2,ji s8,jg j 4,jb (decide ((s8:Int)<s7)),ji s8,s1,js s0 a b,ji s8,jp ad,r.val,jb c,jg j 13,ji (i64.wrap (s8+1))]) w1))) else (W prog (sub (aG f195) [1,1]) (cA  (js s0 a b::s1::jq j 0 5 (ji s7::ji s8::jb (decide ((s8:Int)<s7))::jq j 6 9 []))) (retQ prog f195 R) w))):=by kernel_rfl
theorem dV  (j:LV):W prog (sub (aG f195) [1,1]) (cA  j) (retQ prog f195 R) w=(R (.int .i64 (-1)) w):=by kernel_rfl
theorem p7 (p0:aN) (p1:aC) (p2:Bool) (p3:aK):fnW prog f202 [p0.val,p1.val,.bool p2,p3.val] R w=(∀ b1 w1,b1=w.heap.size→w1=w.alloc (.cells p0.cells.toArray 30)→∀ b2 w2,b2=w1.heap.size→w2=w1.alloc (.cells p1.cells.toArray 103)→∀ b3 w3,b3=w2.heap.size→w3=w2.alloc (.cells p3.cells.toArray 166)→∀ b4 w4,b4=w3.heap.size→w4=w3.alloc (.cells #[.int .i64 0,.int .i64 0,.int .i64 0,.int .i64 0,.int .u64 0,.int .u64 0,.slice none 0 0,.int .u64 0,.int .i64 0] 166)→∀ w5,w5=w4.drew→∃ Sx:World→Prop,Sx w5∧∃ a,(∀ u,Sx u→u.cell? ⟨b2,0,none⟩=some (.int .i64 a))∧∃ b,(∀ u,Sx u→u.cell? ⟨b2,1,none⟩=some (.int .i64 b))∧(∃ u,w5.cell? ⟨b3,1,none⟩=some u)∧w5.frozen? ⟨b3,1,none⟩=false∧∀ w6,w6=w5.setCell ⟨b3,1,none⟩ (.int .i64 a)→Sx w6∧(∃ u,w6.cell? ⟨b3,8,none⟩=some u)∧w6.frozen? ⟨b3,8,none⟩=false∧∀ w7,w7=w6.setCell ⟨b3,8,none⟩ (.int .i64 b)→∃ c,w7.cell? ⟨b1,0,none⟩=some (.int .i64 c)∧Calls prog 90 #[.int .i64 c,.bool p2] w7 λe w8=>∃ d f,e=.returned (.tuple #[.int .u64 d,.int .i64 f])∧(∃ u,w8.cell? ⟨b3,7,none⟩=some u)∧w8.frozen? ⟨b3,7,none⟩=false∧∀ w9,w9=w8.setCell ⟨b3,7,none⟩ (.int .u64 d)→∃ g h i,w9.cell? ⟨b3,6,none⟩=some (.slice g h i)∧Calls prog 53 #[.slice g h i] w9 λe n=>∃ k l m,e=.returned (.slice k l m)∧(∃ u,n.cell? ⟨b3,6,none⟩=some u)∧n.frozen? ⟨b3,6,none⟩=false∧∀ o,o=n.setCell ⟨b3,6,none⟩ (.slice k l m)→aK.ex λr=>aD o ⟨b3,0,none⟩ 0 r.cells∧wrAt o ⟨b4,0,none⟩ 0 r.cells∧∀ p,p=puts o ⟨b4,0,none⟩ 0 r.cells→aK.ex λq=>aD p ⟨b4,0,none⟩ 0 q.cells∧p=p∧R q.val p):=by kernel_rfl
end Go.Proofs.YtegepanmkjemjaaGreat
