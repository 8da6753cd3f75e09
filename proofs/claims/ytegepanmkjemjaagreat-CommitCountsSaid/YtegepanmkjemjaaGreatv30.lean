import Derived.Test.YtegepanmkjemjaaGreatv29
set_option linter.unusedVariables false
namespace Go.Proofs.YtegepanmkjemjaaGreat
open Go.Eng
section
variable {S I:Type} (st:I→S→Option S) (ok:S→Prop)
inductive Norm:Nat→S→S→Prop
 |nil {s:S}:(∀ i,st i s=none)→Norm 0 s s
 |cons {k:Nat} {s s1 t:S} (i:I):st i s=some s1→Norm k s1 t→Norm (k+1) s t
structure xB:Prop where
 keep:∀ {i:I} {s s1:S},ok s→st i s=some s1→ok s1
 dia:∀ {i j:I} {s s1 s2:S},ok s→st i s=some s1→st j s=some s2→s1=s2∨∃ s3,st j s1=some s3∧st i s2=some s3
variable {st ok}
theorem Norm.after (hd:xB st ok) {k:Nat} {s t:S} (h:Norm st k s t):∀ {s2:S} {j:I},ok s→st j s=some s2→∃ k',k=k'+1∧Norm st k' s2 t:=by
 induction h with
 |nil h=>intro s2 j hok hj;rw [h j] at hj;cases hj
 | @cons k s s1 t i h1 hn ih=>
  intro s2 j hok hj
  rcases hd.dia hok h1 hj with e | ⟨s3,h3,h4⟩
  ·subst e
   exact ⟨k,rfl,hn⟩
  ·obtain ⟨k',rfl,hn'⟩:=ih (hd.keep hok h1) h3
   exact ⟨k'+1,rfl,.cons i h4 hn'⟩
theorem Norm.end {k:Nat} {s t:S} (h:Norm st k s t):∀ i,st i t=none:=by
 induction h with
 |nil h=>exact h
 |cons i h1 hn ih=>exact ih
end
def stepL (c j:Nat) (F:Fab):Option Fab:=match F.clients[c]? with
 |none=>none
 |some C=>match C.lanes[j]?,F.nodes[j]? with
  |some l,some n=>if l.pair.verbs.length=0 then none else some { F with nodes:=F.nodes.set j (l.pair.step n).2.1,clients:=F.clients.set c (C.comes j l (l.pair.step n).1 (l.pair.step n).2.2) }
  | _,_=>none
theorem eU {c j:Nat} {F F':Fab}:stepL c j F=some F'↔∃ C l n,F.clients[c]?=some C∧C.lanes[j]?=some l∧F.nodes[j]?=some n∧l.pair.verbs.length≠0∧F'={ F with nodes:=F.nodes.set j (l.pair.step n).2.1,clients:=F.clients.set c (C.comes j l (l.pair.step n).1 (l.pair.step n).2.2) }:=by
 unfold stepL
 constructor
 ·intro h
  cases hC:F.clients[c]? with
  |none=>rw [hC] at h;cases h
  |some C=>
   rw [hC] at h
   simp only at h
   cases hl:C.lanes[j]? with
   |none=>rw [hl] at h;cases h
   |some l=>
    rw [hl] at h
    cases hn:F.nodes[j]? with
    |none=>rw [hn] at h;cases h
    |some n=>
     rw [hn] at h
     simp only at h
     split at h
     ·cases h
     ·rename_i hv
      exact ⟨C,l,n,rfl,hl,rfl,hv,(Option.some.inj h).symm⟩
 ·rintro ⟨C,l,n,hC,hl,hn,hv,rfl⟩
  rw [hC]
  simp only [hl,hn,if_neg hv]
theorem re {c j:Nat} {F F':Fab} (h:stepL c j F=some F'):F.step ⟨-1,c,j⟩=(true,F'):=by
 obtain ⟨C,l,n,hC,hl,hn,hv,rfl⟩:=eU.1 h
 unfold Fab.step
 have h1:F.cl (c:Int)=some C:=by
  unfold Fab.cl
  rw [if_neg (by omega)]
  simpa using hC
 simp only [show ¬ (0:Int)≤-1 by omega,show ¬ (-1:Int) < -1 by omega,if_false,h1,show ¬ ((j:Nat):Int)<0 by omega,Int.toNat_natCast,hl,hn,if_neg hv]
structure pG (C:Comp):Prop where
 len:∀ (i:Nat) (l:Lane),C.lanes[i]?=some l→l.places.length=l.pair.verbs.length
 apart:∀ (i j:Nat) (l l':Lane),i≠j→C.lanes[i]?=some l→C.lanes[j]?=some l'→∀ k ∈ l.places,k ∉ l'.places
theorem eV {C:Comp} {j:Nat} {l:Lane} {p:Pair} {d:Option Done} {i:Nat} (h:i≠j):(C.comes j l p d).lanes[i]?=C.lanes[i]?:=by
 cases d<;>simp [Comp.comes,List.getElem?_set_ne (λe=>h e.symm)]
theorem zp {C:Comp} {i j:Nat} {l l':Lane} {p p':Pair} {d d':Option Done} (h:i≠j) (hp:d.isSome→d'.isSome→l.places.headD 0≠l'.places.headD 0):(C.comes i l p d).comes j l' p' d'=(C.comes j l' p' d').comes i l p d:=by
 cases d with
 |none=>cases d' with
  |none=>simp [Comp.comes,List.set_comm _ _ h]
  |some y=>simp [Comp.comes,List.set_comm _ _ h]
 |some x=>cases d' with
  |none=>simp [Comp.comes,List.set_comm _ _ h]
  |some y=>
   have h1:=hp rfl rfl
   unfold Comp.comes
   simp only [List.set_comm _ _ h]
   cases hb:C.batch with
   |none=>rfl
   |some ds=>
    simp only [Option.map_some]
    rw [List.set_comm _ _ h1]
theorem FJ (p:Pair) (n:aO):((p.step n).2.2=none∧(p.step n).1.verbs=p.verbs)∨(∃ d,(p.step n).2.2=some d∧(p.step n).1.verbs=p.verbs.tail):=by
 unfold Pair.step
 cases hv:p.verbs with
 |nil=>left;exact ⟨rfl,hv⟩
 |cons x xs=>
  simp only
  split
  ·right;exact ⟨_,rfl,by simp [Pair.done,hv]⟩
  ·split
   ·left;exact ⟨rfl,rfl⟩
   ·right;exact ⟨_,rfl,by simp [Pair.done,hv]⟩
theorem zq {C:Comp} {j:Nat} {l:Lane} {n:aO} (hl:C.lanes[j]?=some l):∃ l',(C.comes j l (l.pair.step n).1 (l.pair.step n).2.2).lanes[j]?=some l'∧((l'.places=l.places∧l'.pair.verbs=l.pair.verbs)∨(l'.places=l.places.tail∧l'.pair.verbs=l.pair.verbs.tail)):=by
 have hlt:=aP hl
 rcases FJ l.pair n with ⟨h1,h2⟩ | ⟨d,h1,h2⟩
 ·rw [h1]
  exact ⟨{ l with pair:=(l.pair.step n).1 },by simp only [Comp.comes];rw [List.getElem?_set_self hlt],.inl ⟨rfl,h2⟩⟩
 ·rw [h1]
  exact ⟨⟨(l.pair.step n).1,l.places.tail⟩,by simp only [Comp.comes];rw [List.getElem?_set_self hlt],.inr ⟨rfl,h2⟩⟩
theorem pG.comes {C:Comp} {j:Nat} {l:Lane} {n:aO} (h:pG C) (hl:C.lanes[j]?=some l):pG (C.comes j l (l.pair.step n).1 (l.pair.step n).2.2):=by
 obtain ⟨l',hl',hc⟩:=zq (n:=n) hl
 have hsub:∀ k ∈ l'.places,k ∈ l.places:=λk hk=>by
  rcases hc with ⟨e,_⟩ | ⟨e,_⟩
  ·rw [e] at hk;exact hk
  ·rw [e] at hk;exact List.mem_of_mem_tail hk
 refine ⟨λi li hi=>?_,λi i' li li' hne hi hi' k hk=>?_⟩
 ·by_cases e:i=j
  ·subst e
   rw [hl'] at hi
   cases hi
   have hlen:=h.len i l hl
   rcases hc with ⟨e1,e2⟩ | ⟨e1,e2⟩
   ·rw [e1,e2,hlen]
   ·rw [e1,e2,List.length_tail,List.length_tail,hlen]
  ·rw [eV e] at hi
   exact h.len i li hi
 ·by_cases e:i=j
  ·subst e
   rw [hl'] at hi
   cases hi
   rw [eV (λe=>hne e.symm)] at hi'
   exact h.apart i i' l li' hne hl hi' k (hsub k hk)
  ·rw [eV e] at hi
   by_cases e':i'=j
   ·subst e'
    rw [hl'] at hi'
    cases hi'
    exact λhk'=>h.apart i i' li l hne hi hl k hk (hsub k hk')
   ·rw [eV e'] at hi'
    exact h.apart i i' li li' hne hi hi' k hk
def DA (c:Nat) (F:Fab):Prop:=∀ C,F.clients[c]?=some C→pG C
theorem wu (c:Nat):xB (stepL c) (DA c):=by
 refine ⟨λ{j F F1} hok h=>?_,λ{i j F F1 F2} hok h1 h2=>?_⟩
 ·obtain ⟨C,l,n,hC,hl,hn,hv,rfl⟩:=eU.1 h
  intro C' hC'
  have hlt:=aP hC
  simp only [List.getElem?_set_self hlt] at hC'
  cases hC'
  exact (hok C hC).comes hl
 ·by_cases e:i=j
  ·subst e
   rw [h1] at h2
   exact .inl (Option.some.inj h2)
  ·right
   obtain ⟨C,l,n,hC,hl,hn,hv,rfl⟩:=eU.1 h1
   obtain ⟨C',l',n',hC',hl',hn',hv',rfl⟩:=eU.1 h2
   rw [hC] at hC'
   cases hC'
   have hlt:=aP hC
   have hap:=hok C hC
   have hlen:=hap.len i l hl
   have hlen':=hap.len j l' hl'
   have hp:l.places.headD 0≠l'.places.headD 0:=by
    cases hx:l.places with
    |nil=>rw [hx] at hlen;exact absurd hlen.symm hv
    |cons x xs=>cases hy:l'.places with
     |nil=>rw [hy] at hlen';exact absurd hlen'.symm hv'
     |cons y ys=>
      intro e2
      have e2:x=y:=e2
      exact hap.apart i j l l' e hl hl' x (by rw [hx];exact List.mem_cons_self) (by rw [hy,e2];exact List.mem_cons_self)
   refine ⟨_,eU.2 ⟨_,l',n',List.getElem?_set_self hlt,by rw [eV (λe2=>e e2.symm)];exact hl',by simp only [List.getElem?_set_ne e];exact hn',hv',rfl⟩,eU.2 ⟨_,l,n,List.getElem?_set_self hlt,by rw [eV e];exact hl,by simp only [List.getElem?_set_ne (λe2=>e e2.symm)];exact hn,hv,?_⟩⟩
   simp only [List.set_set]
   rw [List.set_comm _ _ e,zp e λ_ _=>hp]
end Go.Proofs.YtegepanmkjemjaaGreat
namespace Go.Proofs.YtegepanmkjemjaaGreat
open Go.Eng
theorem iF {x:eA} {i:Nat}:∀ {ls:List Lane} {j:Nat},x ∈ dE i j ls↔∃ q l,ls[q]?=some l∧0<l.pair.verbs.length∧x=⟨-1,i,(j+q:Nat)⟩
 | [],j=>by simp [dE]
 |l::ls,j=>by
  unfold dE
  rw [List.mem_append,iF (ls:=ls) (j:=j+1)]
  constructor
  ·rintro (h | ⟨q,l',h1,h2,h3⟩)
   ·split at h
    ·rename_i hv
     simp at h
     exact ⟨0,l,rfl,hv,by rw [h];simp⟩
    ·cases h
   ·exact ⟨q+1,l',by simpa using h1,h2,by rw [h3];congr 2;omega⟩
  ·rintro ⟨q,l',h1,h2,h3⟩
   cases q with
   |zero=>
    left
    simp at h1
    subst h1
    rw [if_pos h2,h3]
    simp
   |succ q=>exact .inr ⟨q,l',by simpa using h1,h2,by rw [h3];congr 2;omega⟩
theorem iG {x:eA}:∀ {cs:List Comp} {i:Nat},x ∈ cP i cs↔∃ q C,cs[q]?=some C∧x ∈ dE (i+q) 0 C.lanes
 | [],i=>by simp [cP]
 |C::cs,i=>by
  unfold cP
  rw [List.mem_append,iG (cs:=cs) (i:=i+1)]
  constructor
  ·rintro (h | ⟨q,C',h1,h2⟩)
   ·exact ⟨0,C,rfl,h⟩
   ·exact ⟨q+1,C',by simpa using h1,by rw [show i+(q+1)=i+1+q by omega];exact h2⟩
  ·rintro ⟨q,C',h1,h2⟩
   cases q with
   |zero=>
    left
    simp at h1
    subst h1
    exact h2
   |succ q=>exact .inr ⟨q,C',by simpa using h1,by rw [show i+1+q=i+(q+1) by omega];exact h2⟩
structure Solo (c:Nat) (F:Fab):Prop where
 orph:F.orphans=[]
 idle:∀ (i:Nat) (C:Comp),i≠c→F.clients[i]?=some C→∀ (j:Nat) (l:Lane),C.lanes[j]?=some l→l.pair.verbs=[]
 apart:DA c F
 lanes:∀ C,F.clients[c]?=some C→C.lanes.length≤F.nodes.length
theorem Solo.choice {c:Nat} {F:Fab} (h:Solo c F) {x:eA} (hx:x ∈ F.choices):∃ (j:Nat) (F':Fab),x=⟨-1,c,j⟩∧stepL c j F=some F':=by
 unfold Fab.choices at hx
 rw [h.orph] at hx
 rcases List.mem_append.1 hx with hx | hx
 ·obtain ⟨q,C,hC,hx⟩:=iG.1 hx
  obtain ⟨j,l,hl,hv,rfl⟩:=iF.1 hx
  rw [Nat.zero_add] at *
  by_cases e:q=c
  ·subst e
   have hlt:=aP hl
   have hlen:=h.lanes C hC
   exact ⟨j,_,by rw [Nat.zero_add],eU.2 ⟨C,l,F.nodes[j],hC,hl,List.getElem?_eq_getElem (by omega),by omega,rfl⟩⟩
  ·rw [h.idle q C e hC j l hl] at hv
   simp at hv
 ·simp [fA] at hx
theorem sQ {c j:Nat} {F F':Fab} (h:stepL c j F=some F'):(⟨-1,c,j⟩:eA) ∈ F.choices:=by
 obtain ⟨C,l,n,hC,hl,hn,hv,rfl⟩:=eU.1 h
 unfold Fab.choices
 refine List.mem_append.2 (.inl (iG.2 ⟨c,C,hC,iF.2 ⟨j,l,hl,by omega,?_⟩⟩))
 simp
theorem Solo.rstep {c:Nat} {F:Fab} (h:Solo c F) (sch:List Int) (n:Nat):(rstep F sch n=(false,F)∧∀ j,stepL c j F=none)∨∃ j F',stepL c j F=some F'∧rstep F sch n=(true,F'):=by
 unfold Go.Proofs.YtegepanmkjemjaaGreat.rstep
 cases hx:F.choices[pF F sch n]? with
 |some x=>
  obtain ⟨j,F',rfl,hs⟩:=h.choice (List.mem_of_getElem? hx)
  exact .inr ⟨j,F',hs,re hs⟩
 |none=>
  refine .inl ⟨rfl,λj=>?_⟩
  cases hs:stepL c j F with
  |none=>rfl
  |some F'=>
   have hm:=sQ hs
   have hpos:0<F.choices.length:=List.length_pos_of_mem hm
   have hlt:pF F sch n<F.choices.length:=by
    unfold pF
    split
    ·have h1:=Int.emod_nonneg (sch.getD n 0) (b:=(F.choices.length:Int)) (by omega)
     have h2:=Int.emod_lt_of_pos (sch.getD n 0) (b:=(F.choices.length:Int)) (by omega)
     omega
    ·exact hpos
   rw [List.getElem?_eq_getElem hlt] at hx
   cases hx
end Go.Proofs.YtegepanmkjemjaaGreat
namespace Go.Proofs.YtegepanmkjemjaaGreat
open Go.Eng
def Below (C:Comp) (k:Nat):Prop:=∀ (i:Nat) (l:Lane),C.lanes[i]?=some l→∀ q ∈ l.places,q<k
theorem kS {C:Comp} {k:Nat} {v:Verb} {i:Nat} {l:Lane} (h:(C.postOne k v).lanes[i]?=some l):∃ l0,C.lanes[i]?=some l0∧((l.places=l0.places∧l.pair.verbs=l0.pair.verbs∧v.node.toNat≠i)∨(l.places=l0.places++[k]∧l.pair.verbs=l0.pair.verbs++[v]∧v.node.toNat=i)):=by
 unfold Comp.postOne at h
 simp only [List.getElem?_modify] at h
 cases hl:C.lanes[i]? with
 |none=>rw [hl] at h;simp at h
 |some l0=>
  rw [hl] at h
  refine ⟨l0,rfl,?_⟩
  by_cases e:v.node.toNat=i
  ·right
   simp [e] at h
   subst h
   exact ⟨rfl,rfl,e⟩
  ·left
   simp [e] at h
   subst h
   exact ⟨rfl,rfl,e⟩
theorem pG.postOne {C:Comp} {k:Nat} {v:Verb} (h:pG C) (hb:Below C k):pG (C.postOne k v)∧Below (C.postOne k v) (k+1):=by
 refine ⟨⟨λi l hl=>?_,λi j l l' hne hl hl' q hq hq'=>?_⟩,λi l hl q hq=>?_⟩
 ·obtain ⟨l0,h0,hc⟩:=kS hl
  have hlen:=h.len i l0 h0
  rcases hc with ⟨e1,e2,_⟩ | ⟨e1,e2,_⟩
  ·rw [e1,e2,hlen]
  ·rw [e1,e2,List.length_append,List.length_append,hlen];rfl
 ·obtain ⟨l0,h0,hc⟩:=kS hl
  obtain ⟨l1,h1,hc'⟩:=kS hl'
  have hap:=h.apart i j l0 l1 hne h0 h1
  rcases hc with ⟨e1,_,e3⟩ | ⟨e1,_,e3⟩<;>rcases hc' with ⟨f1,_,f3⟩ | ⟨f1,_,f3⟩
  ·rw [e1] at hq;rw [f1] at hq';exact hap q hq hq'
  ·rw [e1] at hq;rw [f1] at hq'
   rcases List.mem_append.1 hq' with g | g
   ·exact hap q hq g
   ·simp at g
    have:=hb i l0 h0 q hq
    omega
  ·rw [e1] at hq;rw [f1] at hq'
   rcases List.mem_append.1 hq with g | g
   ·exact hap q g hq'
   ·simp at g
    have:=hb j l1 h1 q hq'
    omega
  ·exact hne (e3.symm.trans f3)
 ·obtain ⟨l0,h0,hc⟩:=kS hl
  rcases hc with ⟨e1,_,_⟩ | ⟨e1,_,_⟩
  ·rw [e1] at hq
   have:=hb i l0 h0 q hq
   omega
  ·rw [e1] at hq
   rcases List.mem_append.1 hq with g | g
   ·have:=hb i l0 h0 q g
    omega
   ·simp at g <;> omega
theorem pG.postFrom:∀ (vs:List Verb) {C:Comp} {k:Nat},pG C→Below C k→pG (C.postFrom k vs)
 | [],C,k,h,hb=>h
 |v::vs,C,k,h,hb=>by
  obtain ⟨h1,h2⟩:=h.postOne (v:=v) hb
  exact pG.postFrom vs h1 h2
theorem yh {C C':Comp} (h:pG C) (e:C'.lanes=C.lanes):pG C':=⟨by rw [e];exact h.len,by rw [e];exact h.apart⟩
theorem CP:∀ {ls:List Lane} {j:Nat} {l:Lane},ls[j]?=some l→l.pair.verbs≠[]→0<pend ls:=by
 intro ls j l hl hv
 rcases Nat.eq_zero_or_pos (pend ls) with e | e
 ·exact absurd (og e l (List.mem_of_getElem? hl)) hv
 ·exact e
theorem sR {cv:Conv} {F:Fab} {t:Tk cv} (h:0<F.waiting t.client):turn F t=(F,t):=by
 unfold turn
 rw [if_pos (.inr (.inr h))]
theorem yM {F:Fab} (hf:Fine F) {c j:Nat} {F':Fab} (h:stepL c j F=some F'):0<F.waiting c:=by
 obtain ⟨C,l,n,hC,hl,hn,hv,rfl⟩:=eU.1 h
 have hw:=(hf.good.ok.client c C hC).waiting
 have hp:=CP hl (λe=>hv (by rw [e];rfl))
 unfold Fab.waiting
 have h1:F.cl (c:Int)=some C:=by
  unfold Fab.cl
  rw [if_neg (by omega)]
  simpa using hC
 rw [h1]
 show 0<C.waiting
 omega
end Go.Proofs.YtegepanmkjemjaaGreat
namespace Go.Proofs.YtegepanmkjemjaaGreat
open Go.Eng
theorem pm (F:Fab) (c:Nat):F.cl (c:Int)=F.clients[c]?:=by
 unfold Fab.cl
 rw [if_neg (by omega)]
 simp
theorem pn:∀ (vs:List Verb) (C:Comp) (k:Nat),(C.postFrom k vs).lanes.length=C.lanes.length
 | [],C,k=>rfl
 |v::vs,C,k=>by
  rw [qm,pn vs]
  simp [Comp.postOne]
theorem Solo.setC {c:Nat} {F:Fab} (h:Solo c F) {C':Comp} (ha:pG C') (hl:C'.lanes.length≤F.nodes.length):Solo c (F.setC (c:Int) C'):=by
 unfold Fab.setC
 rw [Int.toNat_natCast]
 refine ⟨h.orph,λi C hi hC=>?_,λC hC=>?_,λC hC=>?_⟩
 ·simp only [List.getElem?_set_ne (λe=>hi e.symm)] at hC
  exact h.idle i C hi hC
 ·have hlt:c<F.clients.length:=by
   have:=aP hC
   simpa using this
  simp only [List.getElem?_set_self hlt] at hC
  cases hC
  exact ha
 ·have hlt:c<F.clients.length:=by
   have:=aP hC
   simpa using this
  simp only [List.getElem?_set_self hlt] at hC
  cases hC
  exact hl
def AZ (c:Nat) (F:Fab):Prop:=∀ C,F.clients[c]?=some C→∀ l ∈ C.lanes,l.pair.verbs=[]
theorem Solo.post {c:Nat} {F:Fab} (h:Solo c F) (hq:AZ c F) (vs:List Verb):Solo c (F.post (c:Int) vs).2:=by
 unfold Fab.post
 rw [pm]
 cases hC:F.clients[c]? with
 |none=>exact h
 |some C=>
  simp only
  split
  ·exact h
  split
  ·exact h
  split
  ·exact h
  split
  ·exact h
  split
  ·exact h
  have hap:=h.apart C hC
  have hbl:Below C 0:=λi l hl q hqq=>by
   have h1:=hap.len i l hl
   rw [hq C hC l (List.mem_of_getElem? hl)] at h1
   rw [List.eq_nil_of_length_eq_zero h1] at hqq
   cases hqq
  have hap':=pG.postFrom vs hap hbl
  exact h.setC (C':=C.posted' vs) (yh hap' rfl) (by show (C.postFrom 0 vs).lanes.length≤_;rw [pn];exact h.lanes C hC)
theorem Solo.take {c:Nat} {F:Fab} (h:Solo c F):Solo c (F.take (c:Int)).2∧(AZ c F→AZ c (F.take (c:Int)).2):=by
 unfold Fab.take
 rw [pm]
 cases hC:F.clients[c]? with
 |none=>exact ⟨h,id⟩
 |some C=>
  simp only
  split
  ·exact ⟨h,id⟩
  cases hb:C.batch with
  |none=>exact ⟨h,id⟩
  |some ds=>
   simp only
   split
   ·exact ⟨h,id⟩
   refine ⟨h.setC (C':={ C with batch:=none }) (yh (h.apart C hC) rfl) (h.lanes C hC),λhq C' hC'=>?_⟩
   unfold Fab.setC at hC'
   rw [Int.toNat_natCast] at hC'
   simp only [List.getElem?_set_self (aP hC)] at hC'
   cases hC'
   exact hq C hC
theorem CQ {F:Fab} (hf:Fine F) {c:Nat} (h:¬ 0<F.waiting (c:Int)):AZ c F:=by
 intro C hC l hl
 have hw:=(hf.good.ok.client c C hC).waiting
 unfold Fab.waiting at h
 rw [pm,hC] at h
 have h:¬ 0<C.waiting:=h
 exact og (by omega) l hl
theorem Solo.tail {cv:Conv} {c:Nat} {F:Fab} {t:Tk cv} (h:Solo c F) (hq:AZ c F) (hc:t.client=(c:Int)):Solo c (rN F t).1:=by
 unfold rN
 rw [hc]
 split
 ·exact h
 split
 ·exact h
 split
 ·exact h.post hq _
 ·exact h.post hq _
theorem Solo.turn {cv:Conv} {c:Nat} {F:Fab} {t:Tk cv} (h:Solo c F) (hf:Fine F) (hc:t.client=(c:Int)):Solo c (turn F t).1:=by
 unfold Go.Proofs.YtegepanmkjemjaaGreat.turn
 rw [hc]
 split
 ·exact h
 ·rename_i hn
  have hq:=CQ hf (c:=c) λe=>hn (.inr (.inr e))
  refine Solo.tail h.take.1 (h.take.2 hq) ?_
  cases (F.take (c:Int)).1<;>exact hc
theorem xC {cv:Conv} {F:Fab} {t:Tk cv}:(turn F t).2.client=t.client:=by
 unfold Go.Proofs.YtegepanmkjemjaaGreat.turn
 split
 ·rfl
 ·unfold rN
  split
  ·cases (F.take t.client).1<;>rfl
  split
  ·cases (F.take t.client).1<;>rfl
  split
  ·cases (F.take t.client).1<;>rfl
  ·cases (F.take t.client).1<;>rfl
theorem Solo.step {c j:Nat} {F F':Fab} (h:Solo c F) (hs:stepL c j F=some F'):Solo c F':=by
 have hap:=(wu c).keep h.apart hs
 obtain ⟨C,l,n,hC,hl,hn,hv,rfl⟩:=eU.1 hs
 refine ⟨h.orph,λi C' hi hC'=>?_,hap,λC' hC'=>?_⟩
 ·simp only [List.getElem?_set_ne (λe=>hi e.symm)] at hC'
  exact h.idle i C' hi hC'
 ·simp only [List.getElem?_set_self (aP hC)] at hC'
  cases hC'
  have h1:=h.lanes C hC
  simp only [List.length_set]
  cases (l.pair.step n).2.2<;>simp [Comp.comes]<;>exact h1
end Go.Proofs.YtegepanmkjemjaaGreat
namespace Go.Proofs.YtegepanmkjemjaaGreat
open Go.Eng
section
variable {cv:Conv}
def rP (c j:Nat) (s:Fab×Tk cv):Option (Fab×Tk cv):=(stepL c j s.1).map λF'=>turn F' s.2
structure OkP (c:Nat) (s:Fab×Tk cv):Prop where
 fine:Fine s.1
 solo:Solo c s.1
 cl:s.2.client=(c:Int)
theorem Fine.stepL {F F':Fab} (h:Fine F) {c j:Nat} (hs:stepL c j F=some F'):Fine F':=by
 have h1:=h.step ⟨-1,c,j⟩
 rw [re hs] at h1
 exact h1
theorem j1 {c j:Nat} {s s':Fab×Tk cv}:rP c j s=some s'↔∃ F',stepL c j s.1=some F'∧s'=turn F' s.2:=by
 unfold rP
 cases h:stepL c j s.1 with
 |none=>simp
 |some F'=>simp [eq_comm]
theorem OkP.turn {c:Nat} {F:Fab} {t:Tk cv} (h:OkP c (F,t)):OkP c (turn F t):=
 ⟨h.fine.turn t,h.solo.turn h.fine h.cl,by rw [xC];exact h.cl⟩
theorem OkP.stepL {c j:Nat} {F F':Fab} {t:Tk cv} (h:OkP c (F,t)) (hs:stepL c j F=some F'):OkP c (F',t):=⟨h.fine.stepL hs,h.solo.step hs,h.cl⟩
theorem wv (c:Nat):xB (rP (cv:=cv) c) (OkP c):=by
 refine ⟨λ{i s s1} hok h=>?_,λ{i j s s1 s2} hok h1 h2=>?_⟩
 ·obtain ⟨F,t⟩:=s
  obtain ⟨F',hs,rfl⟩:=j1.1 h
  exact (hok.stepL hs).turn
 ·obtain ⟨F,t⟩:=s
  obtain ⟨F1,hs1,rfl⟩:=j1.1 h1
  obtain ⟨F2,hs2,rfl⟩:=j1.1 h2
  rcases (wu c).dia hok.solo.apart hs1 hs2 with e | ⟨F3,h3,h4⟩
  ·exact .inl (by rw [e])
  ·have hc:t.client=(c:Int):=hok.cl
   have w1:turn F1 t=(F1,t):=sR (by rw [hc];exact yM (hok.stepL hs1).fine h3)
   have w2:turn F2 t=(F2,t):=sR (by rw [hc];exact yM (hok.stepL hs2).fine h4)
   refine .inr ⟨turn F3 t,?_,?_⟩
   ·simp only [w1]
    exact j1.2 ⟨F3,h3,rfl⟩
   ·simp only [w2]
    exact j1.2 ⟨F3,h4,rfl⟩
theorem A5 (F:Fab) (t:Tk cv):turns F [t]=((turn F t).1,[(turn F t).2]):=rfl
theorem rA {c:Nat} (cs sch:List Int):∀ (f n:Nat) {F:Fab} {t:Tk cv} {k:Nat} {e:Fab×Tk cv},OkP c (F,t)→Norm (rP c) k (turn F t) e→k<f→driveGo cs sch [] f n F [t]=(e.1,[e.2])
 | 0,n,F,t,k,e,hok,hn,hk=>by omega
 |f+1,n,F,t,k,e,hok,hn,hk=>by
  have hok1:=hok.turn
  unfold driveGo
  have hh:happens F cs n []=F:=rfl
  rw [hh,A5]
  rcases hok1.solo.rstep sch n with ⟨h1,h2⟩ | ⟨j,F',h1,h2⟩
  ·rw [h1,if_neg (by simp)]
   cases hn with
   |nil _=>rfl
   |cons i hi _=>
    obtain ⟨F',hs,_⟩:=j1.1 hi
    rw [h2 i] at hs
    cases hs
  ·rw [h2,if_pos rfl]
   obtain ⟨k',rfl,hn'⟩:=hn.after (wv c) hok1 (j1.2 ⟨F',h1,rfl⟩)
   exact rA cs sch f (n+1) (OkP.stepL hok1 h1) hn' (by omega)
theorem zr {c:Nat} {F:Fab} {t:Tk cv} (hok:OkP c (F,t)) {k:Nat} {e:Fab×Tk cv} (hn:Norm (rP c) k (turn F t) e) (sch:List Int) {most:Nat} (hk:k<most):drive F [t] sch [] most=((turn e.1 e.2).1,[(turn e.1 e.2).2]):=by
 unfold drive
 rw [rA _ sch most 0 hok hn hk]
 rfl
def sS (c:Nat) (s:Fab×Tk cv):Nat→Nat→Option (Fab×Tk cv)
 | 0,_=>none
 |q+1,j=>match rP c j s with
  |some s'=>some s'
  |none=>sS c s q (j+1)
theorem sT {c:Nat} {s s':Fab×Tk cv}:∀ {q j:Nat},sS c s q j=some s'→∃ i,rP c i s=some s'
 | 0,j,h=>by cases h
 |q+1,j,h=>by
  unfold sS at h
  cases hs:rP c j s with
  |some s1=>rw [hs] at h;exact ⟨j,hs.trans h⟩
  |none=>rw [hs] at h;exact sT h
theorem sU {c:Nat} {s:Fab×Tk cv}:∀ {q j:Nat},sS c s q j=none→∀ i,j≤i→i<j+q→rP c i s=none
 | 0,j,h,i,h1,h2=>by omega
 |q+1,j,h,i,h1,h2=>by
  unfold sS at h
  cases hs:rP c j s with
  |some s1=>rw [hs] at h;cases h
  |none=>
   rw [hs] at h
   by_cases e:i=j
   ·rw [e];exact hs
   ·exact sU h i (by omega) (by omega)
def runP (c:Nat):Nat→Fab×Tk cv→Option (Nat×(Fab×Tk cv))
 | 0,_=>none
 |f+1,s=>match sS c s 5 0 with
  |none=>some (0,s)
  |some s'=>(runP c f s').map λx=>(x.1+1,x.2)
theorem ww {c:Nat}:∀ {f:Nat} {s:Fab×Tk cv} {k:Nat} {e:Fab×Tk cv},OkP c s→runP c f s=some (k,e)→Norm (rP c) k s e
 | 0,s,k,e,hok,h=>by cases h
 |f+1,s,k,e,hok,h=>by
  unfold runP at h
  cases hs:sS c s 5 0 with
  |none=>
   rw [hs] at h
   cases h
   refine .nil λi=>?_
   by_cases hi:i<5
   ·exact sU hs i (by omega) (by omega)
   ·cases hx:rP c i s with
    |none=>rfl
    |some s'=>
     obtain ⟨F',h1,_⟩:=j1.1 hx
     obtain ⟨C,l,n,hC,hl,hn,_⟩:=eU.1 h1
     have h2:=aP hn
     have h3:=hok.fine.good.ok.nodes
     omega
  |some s'=>
   rw [hs] at h
   obtain ⟨i,hi⟩:=sT hs
   simp only at h
   cases hr:runP c f s' with
   |none=>rw [hr] at h;cases h
   |some x=>
    rw [hr] at h
    cases h
    exact .cons i hi (ww ((wv c).keep hok hi) hr)
theorem A6 {c:Nat} {F:Fab} {t:Tk cv} (hok:OkP c (F,t)) {f k:Nat} {e:Fab×Tk cv} (hr:runP c f (turn F t)=some (k,e)) (sch:List Int) {most:Nat} (hk:k<most):drive F [t] sch [] most=((turn e.1 e.2).1,[(turn e.1 e.2).2]):=
 zr hok (ww hok.turn hr) sch hk
end
end Go.Proofs.YtegepanmkjemjaaGreat
namespace Go.Proofs.YtegepanmkjemjaaGreat
open Go.Eng
def upd (dn:Nat→Option Done) (q:Nat) (d:Done):Nat→Option Done:=λk=>if k=q then some d else dn k
theorem lF (dn:Nat→Option Done) (q:Nat) (d:Done):upd dn q d q=some d:=if_pos rfl
theorem mX {dn:Nat→Option Done} {q k:Nat} {d:Done} (h:k≠q):upd dn q d k=dn k:=if_neg h
structure LnB (vs:List Verb) (dn:Nat→Option Done) (j:Nat) (l:Lane):Prop where
 len:l.places.length=l.pair.verbs.length
 asc:l.places.Pairwise (·<·)
 at_:∀ (t q:Nat),l.places[t]?=some q→∃ v,vs[q]?=some v∧l.pair.verbs[t]?=some v∧v.node.toNat=j∧dn q=none
structure Bt (C:Comp) (vs:List Verb) (dn:Nat→Option Done):Prop where
 live:C.alive=true
 ds:∃ ds,C.batch=some ds∧ds.length=vs.length∧∀ q d,dn q=some d→ds[q]?=some d
 lane:∀ (j:Nat) (l:Lane),C.lanes[j]?=some l→LnB vs dn j l
 left:∀ q,q<vs.length→dn q=none→∃ (j:Nat) (l:Lane),C.lanes[j]?=some l∧q ∈ l.places
theorem LnB.head {vs:List Verb} {dn:Nat→Option Done} {j:Nat} {l:Lane} (h:LnB vs dn j l) {x:Verb} {xs:List Verb} (hv:l.pair.verbs=x::xs):∃ q ps,l.places=q::ps∧vs[q]?=some x∧x.node.toNat=j∧dn q=none:=by
 have hl:=h.len
 rw [hv] at hl
 cases hp:l.places with
 |nil=>rw [hp] at hl;cases hl
 |cons q ps=>
  obtain ⟨v,h1,h2,h3,h4⟩:=h.at_ 0 q (by rw [hp];rfl)
  rw [hv] at h2
  cases h2
  exact ⟨q,ps,rfl,h1,h3,h4⟩
theorem Bt.more {C:Comp} {vs:List Verb} {dn:Nat→Option Done} (h:Bt C vs dn) {j:Nat} {l:Lane} (hl:C.lanes[j]?=some l) {p:Pair} (hp:p.verbs=l.pair.verbs):Bt (C.comes j l p none) vs dn:=by
 have hlt:=aP hl
 refine ⟨h.live,h.ds,λi l' hi=>?_,λq hq hd=>?_⟩
 ·by_cases e:i=j
  ·subst e
   simp [Comp.comes,hlt] at hi
   subst hi
   have hL:=h.lane _ l hl
   exact ⟨by show l.places.length=p.verbs.length;rw [hp];exact hL.len,hL.asc,λt q ht=>by
    obtain ⟨v,g1,g2,g3,g4⟩:=hL.at_ t q ht
    exact ⟨v,g1,by show p.verbs[t]?=some v;rw [hp];exact g2,g3,g4⟩⟩
  ·rw [eV e] at hi
   exact h.lane i l' hi
 ·obtain ⟨i,l',hi,hm⟩:=h.left q hq hd
  by_cases e:i=j
  ·subst e
   rw [hl] at hi
   cases hi
   exact ⟨i,{ l with pair:=p },by simp [Comp.comes,hlt],hm⟩
  ·exact ⟨i,l',by rw [eV e];exact hi,hm⟩
theorem Bt.done {C:Comp} {vs:List Verb} {dn:Nat→Option Done} (h:Bt C vs dn) {j:Nat} {l:Lane} (hl:C.lanes[j]?=some l) {x:Verb} {xs:List Verb} (hv:l.pair.verbs=x::xs) {p:Pair} (hp:p.verbs=xs) {q:Nat} {ps:List Nat} (hq:l.places=q::ps) (d:Done) :
  Bt (C.comes j l p (some d)) vs (upd dn q d):=by
 have hlt:=aP hl
 have hL:=h.lane j l hl
 obtain ⟨ds,hb,hlen,hds⟩:=h.ds
 have hx:vs[q]?=some x∧x.node.toNat=j:=by
  obtain ⟨q',ps',e,g1,g2,_⟩:=hL.head hv
  rw [hq] at e
  cases e
  exact ⟨g1,g2⟩
 have hql:q<vs.length:=aP hx.1
 have hasc:=hL.asc
 rw [hq,List.pairwise_cons] at hasc
 refine ⟨h.live,⟨ds.set q d,?_,by rw [List.length_set];exact hlen,λk e hk=>?_⟩,λi l' hi=>?_,λk hk hd=>?_⟩
 ·simp [Comp.comes,hb,hq]
 ·by_cases e2:k=q
  ·subst e2
   rw [lF] at hk
   cases hk
   rw [List.getElem?_set_self (by omega)]
  ·rw [mX e2] at hk
   rw [List.getElem?_set_ne (λe3=>e2 e3.symm)]
   exact hds k e hk
 ·by_cases e:i=j
  ·subst e
   simp [Comp.comes,hlt] at hi
   subst hi
   refine ⟨?_,?_,λt k ht=>?_⟩
   ·show l.places.tail.length=p.verbs.length
    have:=hL.len
    rw [hq,hv] at this
    rw [hq,hp]
    simpa using this
   ·show l.places.tail.Pairwise (·<·)
    rw [hq]
    exact hasc.2
   ·have ht':ps[t]?=some k:=by have:l.places.tail[t]?=some k:=ht;rw [hq] at this;exact this
    obtain ⟨v,g1,g2,g3,g4⟩:=hL.at_ (t+1) k (by rw [hq];simpa using ht')
    have hne:k≠q:=by have:=hasc.1 k (List.mem_of_getElem? ht');omega
    refine ⟨v,g1,?_,g3,by rw [mX hne];exact g4⟩
    show p.verbs[t]?=some v
    rw [hv] at g2
    rw [hp]
    simpa using g2
  ·rw [eV e] at hi
   have hL':=h.lane i l' hi
   refine ⟨hL'.len,hL'.asc,λt k ht=>?_⟩
   obtain ⟨v,g1,g2,g3,g4⟩:=hL'.at_ t k ht
   have hne:k≠q:=λe2=>by
    subst e2
    rw [hx.1] at g1
    cases g1
    exact e (g3.symm.trans hx.2)
   exact ⟨v,g1,g2,g3,by rw [mX hne];exact g4⟩
 ·have hne:k≠q:=λe=>by rw [e,lF] at hd;cases hd
  rw [mX hne] at hd
  obtain ⟨i,l',hi,hm⟩:=h.left k hk hd
  by_cases e:i=j
  ·subst e
   rw [hl] at hi
   cases hi
   rw [hq] at hm
   rcases List.mem_cons.1 hm with e2 | e2
   ·exact absurd e2 hne
   ·exact ⟨i,⟨p,l.places.tail⟩,by simp [Comp.comes,hlt],by show k ∈ l.places.tail;rw [hq];exact e2⟩
  ·exact ⟨i,l',by rw [eV e];exact hi,hm⟩
theorem Bt.all {C:Comp} {vs:List Verb} {dn:Nat→Option Done} (h:Bt C vs dn) (he:∀ (j:Nat) (l:Lane),C.lanes[j]?=some l→l.pair.verbs=[]):∃ ds,C.batch=some ds∧ds.length=vs.length∧(∀ q d,dn q=some d→ds[q]?=some d)∧∀ q,q<vs.length→∃ d,dn q=some d:=by
 obtain ⟨ds,h1,h2,h3⟩:=h.ds
 refine ⟨ds,h1,h2,h3,λq hq=>?_⟩
 cases hd:dn q with
 |some d=>exact ⟨d,rfl⟩
 |none=>
  obtain ⟨j,l,hl,hm⟩:=h.left q hq hd
  have:=(h.lane j l hl).len
  rw [he j l hl] at this
  rw [List.length_eq_zero_iff.1 this] at hm
  cases hm
structure PB (vs:List Verb) (k:Nat) (C:Comp):Prop where
 lane:∀ (j:Nat) (l:Lane),C.lanes[j]?=some l→l.places.length=l.pair.verbs.length∧l.places.Pairwise (·<·)∧∀ (t q:Nat),l.places[t]?=some q→q<k∧∃ v,vs[q]?=some v∧l.pair.verbs[t]?=some v∧v.node.toNat=j
 left:∀ q,q<k→∃ (j:Nat) (l:Lane),C.lanes[j]?=some l∧q ∈ l.places
theorem PB.one {vs:List Verb} {k:Nat} {C:Comp} (h:PB vs k C) {v:Verb} (hv:vs[k]?=some v) (hn:v.node.toNat<C.lanes.length):PB vs (k+1) (C.postOne k v):=by
 refine ⟨λj l hl=>?_,λq hq=>?_⟩
 ·obtain ⟨l0,h0,hc⟩:=kS hl
  obtain ⟨g1,g2,g3⟩:=h.lane j l0 h0
  rcases hc with ⟨e1,e2,_⟩ | ⟨e1,e2,e3⟩
  ·rw [e1,e2]
   exact ⟨g1,g2,λt q ht=>by obtain ⟨a,b⟩:=g3 t q ht;exact ⟨by omega,b⟩⟩
  ·rw [e1,e2]
   refine ⟨by simp [g1],?_,λt q ht=>?_⟩
   ·rw [List.pairwise_append]
    refine ⟨g2,List.pairwise_singleton _ _,λa ha b hb=>?_⟩
    obtain ⟨t,ht⟩:=List.mem_iff_getElem?.1 ha
    have:=(g3 t a ht).1
    simp at hb <;> omega
   ·by_cases hlt:t<l0.places.length
    ·rw [List.getElem?_append_left hlt] at ht
     obtain ⟨a,u,b1,b2,b3⟩:=g3 t q ht
     exact ⟨by omega,u,b1,by rw [List.getElem?_append_left (by omega)];exact b2,b3⟩
    ·rw [List.getElem?_append_right (by omega)] at ht
     have ht0:t - l0.places.length=0:=by have:=aP ht;simp at this <;> omega
     rw [ht0] at ht
     simp at ht
     subst ht
     exact ⟨by omega,v,hv,by rw [List.getElem?_append_right (by omega),←g1,ht0];rfl,e3⟩
 ·have hget:∀ i,(C.postOne k v).lanes[i]?=(C.lanes[i]?).map λl=>if v.node.toNat=i then (⟨{ l.pair with verbs:=l.pair.verbs++[v] },l.places++[k]⟩:Lane) else l:=λi=>by
   unfold Comp.postOne
   simp only [List.getElem?_modify]
   cases C.lanes[i]? with
   |none=>rfl
   |some l=>by_cases e:v.node.toNat=i<;>simp [e]
  by_cases e:q=k
  ·subst e
   refine ⟨v.node.toNat,_,by rw [hget,List.getElem?_eq_getElem hn];rfl,?_⟩
   simp
  ·obtain ⟨j,l,hl,hm⟩:=h.left q (by omega)
   refine ⟨j,_,by rw [hget,hl];rfl,?_⟩
   split
   ·exact List.mem_append_left _ hm
   ·exact hm
theorem PB.from {vs:List Verb}:∀ (us:List Verb) {k:Nat} {C:Comp},PB vs k C→(∀ i,us[i]?=vs[k+i]?)→(∀ v ∈ us,v.node.toNat<C.lanes.length)→PB vs (k+us.length) (C.postFrom k us)
 | [],k,C,h,hu,hn=>h
 |u::us,k,C,h,hu,hn=>by
  have h1:=h.one (v:=u) (by have:=hu 0;simpa using this.symm) (hn u List.mem_cons_self)
  have hl:(C.postOne k u).lanes.length=C.lanes.length:=by simp [Comp.postOne]
  have h2:=PB.from us h1 (λi=>by have:=hu (i+1);rw [List.getElem?_cons_succ] at this;rw [this];congr 1;omega) (λv hv=>by rw [hl];exact hn v (List.mem_cons_of_mem _ hv))
  rw [List.length_cons,show k+(us.length+1)=k+1+us.length by omega]
  exact h2
theorem Bt.post {C:Comp} {vs:List Verb} (ha:C.alive=true) (he:∀ (j:Nat) (l:Lane),C.lanes[j]?=some l→l.pair.verbs=[]∧l.places=[]) (hn:∀ v ∈ vs,v.node.toNat<C.lanes.length):Bt (C.posted' vs) vs λ_=>none:=by
 have h0:PB vs 0 C:=⟨λj l hl=>by
  obtain ⟨e1,e2⟩:=he j l hl
  rw [e1,e2]
  exact ⟨rfl,List.Pairwise.nil,λt q ht=>by simp at ht⟩,λq hq=>by omega⟩
 have h:=PB.from vs h0 (λi=>by rw [Nat.zero_add]) hn
 rw [Nat.zero_add] at h
 refine ⟨?_,⟨List.replicate vs.length ⟨0,[]⟩,rfl,by simp,λq d e=>by cases e⟩,λj l hl=>?_,λq hq _=>h.left q hq⟩
 ·have:∀ (us:List Verb) (D:Comp) (k:Nat),(D.postFrom k us).alive=D.alive:=λus=>by
   induction us with
   |nil=>intro D k;rfl
   |cons v vs ih=>intro D k;exact (ih (D.postOne k v) (k+1)).trans rfl
  exact (this vs C 0).trans ha
 ·obtain ⟨g1,g2,g3⟩:=h.lane j l hl
  exact ⟨g1,g2,λt q ht=>by obtain ⟨_,v,b1,b2,b3⟩:=g3 t q ht;exact ⟨v,b1,b2,b3,rfl⟩⟩
end Go.Proofs.YtegepanmkjemjaaGreat
