import Derived.Test.YtegepanmkjemjaaGreatt38
import Derived.Test.YtegepanmkjemjaaGreatt34
import Derived.Test.YtegepanmkjemjaaGreatt33
set_option linter.unusedVariables false
namespace Go.Proofs.YtegepanmkjemjaaGreat
open Go.Eng
theorem Bu {c j:Nat} {F F':Fab} (h:Fine F) (hs:stepL c j F=some F'):j<5:=by
 obtain ⟨C,l,n,hC,hl,hn,_⟩:=eB.1 hs
 have h2:=aU hn
 have h3:=h.good.ok.nodes
 omega
inductive Rch (c:Nat):Fab→Fab→Prop
 |refl (F:Fab):Rch c F F
 |step {F F1 F2:Fab} {j:Nat}:stepL c j F=some F1→Rch c F1 F2→Rch c F F2
def AllL (chk:List aP→Prop) (c:Nat) (F:Fab):Prop:=∀ F',Rch c F F'→chk F'.nodes
theorem AllL.step {chk:List aP→Prop} {c j:Nat} {F F':Fab} (h:AllL chk c F) (hs:stepL c j F=some F'):AllL chk c F':=λF2 h2=>h F2 (.step hs h2)
inductive EL (chk:List aP→Prop) (c:Nat):Nat→Fab→Prop
 |fin {j:Nat} {F:Fab}:5≤j→chk F.nodes→EL chk c j F
 |go {j:Nat} {F:Fab}:(∀ F1,stepL c j F=some F1→EL chk c j F1)→EL chk c (j+1) F→EL chk c j F
theorem EL.now {chk:List aP→Prop} {c j:Nat} {F:Fab} (h:EL chk c j F):chk F.nodes:=by
 induction h with
 |fin _ h=>exact h
 |go _ _ _ ih=>exact ih
section
variable {cv:Conv} {chk:List aP→Prop} {fin:Fab×Tk cv→Prop} {c:Nat}
inductive OrdB (chk:List aP→Prop) (fin:Fab×Tk cv→Prop) (c:Nat):Nat→Fab×Tk cv→Prop
 |last {s:Fab×Tk cv}:AllL chk c s.1→(∀ j,stepL c j s.1=none)→fin (turn s.1 s.2)→OrdB chk fin c 0 s
 |more {N k:Nat} {s:Fab×Tk cv} {Ff:Fab}:AllL chk c s.1→Norm (stepL c) (k+1) s.1 Ff→OrdB chk fin c N (turn Ff s.2)→OrdB chk fin c (N+k+1) s
def PreB (chk:List aP→Prop) (fin:Fab×Tk cv→Prop) (c N:Nat) (s:Fab×Tk cv):Prop:=
 AllL chk c s.1∧∃ k M Ff,Norm (stepL c) k s.1 Ff∧OrdB chk fin c M (turn Ff s.2)∧N=M+k
theorem OrdB.all {N:Nat} {s:Fab×Tk cv} (h:OrdB chk fin c N s):AllL chk c s.1:=by
 cases h with
 |last h=>exact h
 |more h=>exact h
theorem PreB.turn {N:Nat} {s:Fab×Tk cv} (hok:OkP c s) (h:PreB chk fin c N s):OrdB chk fin c N (Go.Proofs.YtegepanmkjemjaaGreat.turn s.1 s.2):=by
 obtain ⟨ha,k,M,Ff,hn,ho,rfl⟩:=h
 cases hn with
 |nil hno=>exact ho
 | @cons k s1 s2 t i h1 h2=>
  have hc:=hok.cl
  have hw:Go.Proofs.YtegepanmkjemjaaGreat.turn s.1 s.2=(s.1,s.2):=uZ (by rw [hc];exact yT hok.fine h1)
  rw [hw]
  exact .more ha (.cons i h1 h2) ho
theorem OrdB.stop {N:Nat} {s:Fab×Tk cv} (h:OrdB chk fin c N s) (hno:∀ j,stepL c j s.1=none):fin (turn s.1 s.2):=by
 cases h with
 |last _ _ h=>exact h
 |more _ hn _=>cases hn with
  |cons i h1 h2=>rw [hno i] at h1;cases h1
theorem OrdB.step {N j:Nat} {s:Fab×Tk cv} (hok:OkP c s) (h:OrdB chk fin c N s) {F':Fab} (hs:stepL c j s.1=some F'):chk F'.nodes∧∃ N',N=N'+1∧PreB chk fin c N' (F',s.2):=by
 cases h with
 |last _ hno _=>rw [hno j] at hs;cases hs
 | @more N k s Ff ha hn ho=>
  refine ⟨ha F' (.step hs (.refl _)),?_⟩
  obtain ⟨k',e,hn'⟩:=hn.after (sC c) hok.solo.apart hs
  exact ⟨N+k,rfl,ha.step hs,k',N,Ff,hn',ho,by omega⟩
theorem p9:∀ {ps:List Pair} {i:Nat} {x:eI},x ∈ eJ i ps→∃ q p,ps[q]?=some p∧x=⟨((i+q:Nat):Int),p.client,p.node⟩
 | [],i,x,h=>by simp [eJ] at h
 |p::ps,i,x,h=>by
  unfold eJ at h
  rcases List.mem_cons.1 h with h | h
  ·exact ⟨0,p,rfl,h⟩
  ·obtain ⟨q,p',h1,h2⟩:=p9 h
   exact ⟨q+1,p',by simpa using h1,by rw [h2];congr 1;omega⟩
theorem yG (p:Pair) (n:aP):(p.step n).1.node=p.node:=by
 unfold Pair.step
 split
 ·rfl
 ·split
  ·rfl
  ·simp only
   split<;>rfl
def Was (c:Nat) (F:Fab) (p:Pair):Prop:=∃ C l,F.clients[c]?=some C∧C.lanes[p.node.toNat]?=some l∧l.pair=p∧p.verbs≠[]
structure zy (chk:List aP→Prop) (c:Nat) (Fd F:Fab):Prop where
 fine:Fine F
 apart:Cp c F
 all:AllL chk c F
 nodes:Fd.nodes=F.nodes
 quiet:∀ (i:Nat) (C:Comp),Fd.clients[i]?=some C→∀ (j:Nat) (l:Lane),C.lanes[j]?=some l→l.pair.verbs=[]
 was:∀ p ∈ Fd.orphans,Was c F p
 nodup:(Fd.orphans.map λp=>p.node.toNat).Nodup
theorem yH {c:Nat} {C:Comp}:∀ {ls:List Lane} {j:Nat},(∀ (i:Nat) (l:Lane),ls[i]?=some l→l.pair.node=((j+i:Nat):Int))→((((ls.map Lane.pair).filter λp=>decide (0<p.verbs.length)).map λp=>p.node.toNat)).Pairwise (·<·)∧∀ q ∈ (((ls.map Lane.pair).filter λp=>decide (0<p.verbs.length)).map λp=>p.node.toNat),j≤q
 | [],j,h=>by simp
 |l::ls,j,h=>by
  obtain ⟨h1,h2⟩:=yH (c:=c) (C:=C) (ls:=ls) (j:=j+1) λi l' hl=>by
   have:=h (i+1) l' (by simpa using hl)
   rw [this]
   omega
  have h0:=h 0 l rfl
  by_cases hv:0<l.pair.verbs.length
  ·rw [List.map_cons,List.filter_cons_of_pos (by simpa using hv),List.map_cons]
   refine ⟨List.pairwise_cons.2 ⟨λq hq=>?_,h1⟩,λq hq=>?_⟩
   ·have:=h2 q hq
    rw [h0]
    omega
   ·rcases List.mem_cons.1 hq with e | e
    ·rw [e,h0];omega
    ·have:=h2 q e;omega
  ·rw [List.map_cons,List.filter_cons_of_neg (by simpa using hv)]
   exact ⟨h1,λq hq=>by have:=h2 q hq;omega⟩
theorem zy.of_die {s:Fab×Tk cv} (hok:OkP c s) (h:AllL chk c s.1) (hal:s.1.alive (c:Int)=true):zy chk c (s.1.die (c:Int)).2 s.1∧(s.1.die (c:Int)).2.alive (c:Int)=false:=by
 obtain ⟨F,t⟩:=s
 simp only at *
 unfold Fab.alive at hal
 rw [sD] at hal
 cases hC:F.clients[c]? with
 |none=>rw [hC] at hal;cases hal
 |some C=>
  rw [hC] at hal
  simp only at hal
  have hco:=hok.fine.good.ok.client c C hC
  have hd:F.die (c:Int)=(true,{ F with orphans:=F.orphans++(C.lanes.map Lane.pair).filter (λp=>decide (0<p.verbs.length)),clients:=F.clients.set c { C with alive:=false,lanes:=[],batch:=none,waiting:=0 } }):=by
   unfold Fab.die
   rw [sD,hC]
   simp only
   rw [if_neg (by rw [hal];simp),Int.toNat_natCast]
  rw [hd]
  have hso:F.orphans=[]:=hok.solo.orph
  have hlt:=aU hC
  refine ⟨⟨hok.fine,hok.solo.apart,h,rfl,λi C' hC' j l hl=>?_,λp hp=>?_,?_⟩,?_⟩
  ·simp only at hC'
   by_cases e:c=i
   ·subst e
    rw [List.getElem?_set_self hlt] at hC'
    cases hC'
    simp at hl
   ·rw [List.getElem?_set_ne e] at hC'
    exact hok.solo.idle i C' (λe2=>e e2.symm) hC' j l hl
  ·simp only [hso,List.nil_append] at hp
   obtain ⟨hp1,hp2⟩:=List.mem_filter.1 hp
   obtain ⟨l,hl,rfl⟩:=List.mem_map.1 hp1
   obtain ⟨j,hj⟩:=List.mem_iff_getElem?.1 hl
   have hn:=(hco.lane j l hj).node
   refine ⟨C,l,hC,by rw [hn];simpa using hj,rfl,λe=>?_⟩
   rw [e] at hp2
   simp at hp2
  ·simp only [hso,List.nil_append]
   exact ((yH (c:=c) (C:=C) (j:=0) λi l hl=>by rw [(hco.lane i l hl).node];omega).1).imp λh=>by omega
  ·unfold Fab.alive
   rw [sD]
   simp only [List.getElem?_set_self hlt]
theorem zy.rstep {Fd F:Fab} (h:zy chk c Fd F) (sch:List Int) (n:Nat):Go.Proofs.YtegepanmkjemjaaGreat.rstep Fd sch n=(false,Fd)∨∃ Fd' F',Go.Proofs.YtegepanmkjemjaaGreat.rstep Fd sch n=(true,Fd')∧chk Fd'.nodes∧zy chk c Fd' F'∧Fd'.clients=Fd.clients:=by
 unfold Go.Proofs.YtegepanmkjemjaaGreat.rstep
 cases hx:Fd.choices[sA Fd sch n]? with
 |none=>exact .inl rfl
 |some x=>
  refine .inr ?_
  have hm:=List.mem_of_getElem? hx
  unfold Fab.choices at hm
  rcases List.mem_append.1 hm with hm | hm
  ·obtain ⟨q,C,hC,hm⟩:=iQ.1 hm
   obtain ⟨j,l,hl,hv,rfl⟩:=iP.1 hm
   rw [h.quiet q C hC j l hl] at hv
   simp at hv
  ·obtain ⟨q,p,hp,rfl⟩:=p9 hm
   rw [Nat.zero_add]
   have hq:=aU hp
   obtain ⟨C,l,hC,hl,rfl,hv⟩:=h.was p (List.mem_of_getElem? hp)
   have hlt:=aU hC
   have hln:=h.apart
   have hj:l.pair.node.toNat<F.nodes.length:=by
    have h1:=aU hl
    have h2:=(h.fine.good.ok.client c C hC).lanes
    split at h2
    ·omega
    ·omega
   obtain ⟨nd,hn⟩:∃ nd,F.nodes[l.pair.node.toNat]?=some nd:=⟨_,List.getElem?_eq_getElem hj⟩
   have hvl:l.pair.verbs.length≠0:=λe=>hv (List.length_eq_zero_iff.1 e)
   have hs:stepL c l.pair.node.toNat F=some { F with nodes:=F.nodes.set l.pair.node.toNat (l.pair.step nd).2.1,clients:=F.clients.set c (C.comes l.pair.node.toNat l (l.pair.step nd).1 (l.pair.step nd).2.2) }:=eB.2 ⟨C,l,nd,hC,hl,hn,hvl,rfl⟩
   have hst:Fd.step ⟨(q:Int),l.pair.client,l.pair.node⟩=(true,{ Fd with nodes:=Fd.nodes.set l.pair.node.toNat (l.pair.step nd).2.1,orphans:=if (l.pair.step nd).1.verbs.length=0 then Fd.orphans.eraseIdx q else Fd.orphans.set q (l.pair.step nd).1 }):=by
    unfold Fab.step
    rw [if_pos (by show (0:Int)≤(q:Int);omega)]
    unfold Fab.stepOrphan
    simp only [Int.toNat_natCast,hp,h.nodes,hn]
   refine ⟨_,_,hst,?_,⟨h.fine.stepL hs,(sC c).keep h.apart hs,h.all.step hs,by simp only [h.nodes],h.quiet,λp' hp'=>?_,?_⟩,rfl⟩
   ·have:=h.all _ (.step hs (.refl _))
    simpa only [h.nodes] using this
   ·have hnode:=yG l.pair nd
    have hother:∀ p2,p2 ∈ Fd.orphans.eraseIdx q→Was c { F with nodes:=F.nodes.set l.pair.node.toNat (l.pair.step nd).2.1,clients:=F.clients.set c (C.comes l.pair.node.toNat l (l.pair.step nd).1 (l.pair.step nd).2.2) } p2:=by
     intro p2 hp2
     obtain ⟨C2,l2,hC2,hl2,rfl,hv2⟩:=h.was p2 (List.mem_of_mem_eraseIdx hp2)
     rw [hC] at hC2
     cases hC2
     have hne:l2.pair.node.toNat≠l.pair.node.toNat:=by
      obtain ⟨i2,hi2,hg2⟩:=List.mem_eraseIdx_iff_getElem?.1 hp2
      intro e
      have hnd:=h.nodup
      have g1:(Fd.orphans.map λp=>p.node.toNat)[i2]?=some l.pair.node.toNat:=by rw [List.getElem?_map,hg2];simp [e]
      have g2:(Fd.orphans.map λp=>p.node.toNat)[q]?=some l.pair.node.toNat:=by rw [List.getElem?_map,hp];rfl
      exact hi2 ((List.getElem?_inj (aU g1) hnd).1 (g1.trans g2.symm))
     exact ⟨_,l2,List.getElem?_set_self hlt,by rw [iA hne];exact hl2,rfl,hv2⟩
    simp only at hp'
    split at hp'
    ·exact hother p' hp'
    ·rename_i hv3
     obtain ⟨i2,hi2⟩:=List.mem_iff_getElem?.1 hp'
     by_cases e:q=i2
     ·subst e
      rw [List.getElem?_set_self hq] at hi2
      cases hi2
      have hlt2:=aU hl
      refine ⟨_,{ pair:=(l.pair.step nd).1,places:=((C.comes l.pair.node.toNat l (l.pair.step nd).1 (l.pair.step nd).2.2).lanes.getD l.pair.node.toNat l).places },List.getElem?_set_self hlt,?_,rfl,λe=>hv3 (by rw [e];rfl)⟩
      rw [hnode]
      cases (l.pair.step nd).2.2<;>simp [Comp.comes,hlt2]
     ·rw [List.getElem?_set_ne e] at hi2
      exact hother p' (List.mem_eraseIdx_iff_getElem?.2 ⟨i2,λe2=>e e2.symm,hi2⟩)
   ·have hnode:=yG l.pair nd
    simp only
    split
    ·exact h.nodup.sublist ((List.eraseIdx_sublist _ _).map _)
    ·rw [List.map_set,hnode]
     have:(Fd.orphans.map λp=>p.node.toNat).set q l.pair.node.toNat=Fd.orphans.map λp=>p.node.toNat:=by
      apply List.ext_getElem?
      intro i
      by_cases e:q=i
      ·subst e
       rw [List.getElem?_set_self (by simpa using hq),List.getElem?_map,hp]
       rfl
      ·rw [List.getElem?_set_ne e]
     rw [this]
     exact h.nodup
end
end Go.Proofs.YtegepanmkjemjaaGreat
namespace Go.Proofs.YtegepanmkjemjaaGreat
open Go.Eng C12
section
variable {cv:Conv}
def IS (x:aV):aV:={ x with down:=true }
def Gx (i:Nat) (s:St cv):St cv:=(s.1.modify i IS,s.2)
def xo (s:St cv):St cv:=(s.1,(turn s.2.1 s.2.2).1,(turn s.2.1 s.2.2).2)
theorem OkT.fail {s:St cv} (h:OkT s) (i:Nat):OkT (Gx i s):=by
 refine ⟨λx hx=>?_,by simp [Gx];exact h.len⟩
 obtain ⟨j,hj⟩:=List.mem_iff_getElem?.1 hx
 simp only [Gx] at hj
 rw [List.getElem?_modify] at hj
 cases hs:s.1[j]? with
 |none=>rw [hs] at hj;simp at hj
 |some y=>
  have hy:=h.ok y (List.mem_of_getElem? hs)
  rw [hs] at hj
  by_cases hij:i=j
  ·simp [hij] at hj
   subst hj
   exact ⟨hy.deep,hy.n⟩
  ·simp [hij] at hj
   subst hj
   exact hy
theorem xp {s:St cv} (h:OkT s):toP (xo s)=yF (toP s)∧OkT (xo s):=by
 obtain ⟨h1,h2⟩:=EA (T:=s.1) h.len s.2.2
 refine ⟨?_,h.ok,h2⟩
 unfold toP xo yF
 simp only
 rw [h1]
end
structure IT (n:Nat) (E:Fab×Tk conv):Prop where
 len:E.1.nodes.length=n
 lns:E.1.lines=100
 over:E.2.over=true
 bad:E.2.bad=false
 code:(outM E.2).1=0∨(outM E.2).1=4
 fate:1≤(outM E.2).2∧(outM E.2).2≤3
 sure:(outM E.2).1=0→(outM E.2).2=3
 mark:∀ q,q<n→(oh E.1 q).down=false→((outM E.2).2=1→(oh E.1 q).get 48≠22)∧((outM E.2).2=3→(oh E.1 q).get 48=22)
 page:∀ q,q<n→(oh E.1 q).down=false→(outM E.2).2≠3→∀ l,96≤l→l<100→bshr .u64 ((oh E.1 q).page l).Head 8=1∧((oh E.1 q).page l).Data0=0
end Go.Proofs.YtegepanmkjemjaaGreat
namespace Go.Proofs.YtegepanmkjemjaaGreat
open Go.Eng C12
def rawT (c j:Nat) (s:List aV×Fab):Option (List aV×Fab):=
 match s.2.clients[c]? with
 |none=>none
 |some C=>match C.lanes[j]?,s.1[j]? with
  |some l,some n=>if l.pair.verbs.length=0 then none else
   let r:=l.pair.stepT n
   some (s.1.set j r.2.1,{ s.2 with clients:=s.2.clients.set c (C.comes j l r.1 r.2.2) })
  | _,_=>none
def toF (s:List aV×Fab):Fab:=rep s.1 s.2
structure OkR (s:List aV×Fab):Prop where
 ok:∀ x ∈ s.1,x.Ok
 len:s.2.nodes.length=s.1.length
theorem C9 {s:List aV×Fab} {c j:Nat} (hf:Fine (toF s)) (hs:OkR s):stepL c j (toF s)=(rawT c j s).map toF∧∀ s',rawT c j s=some s'→OkR s':=by
 obtain ⟨T,F⟩:=s
 obtain ⟨hT,hl⟩:=hs
 unfold stepL rawT toF
 simp only
 have hcl:(rep T F).clients=F.clients:=rfl
 rw [hcl]
 cases hC:F.clients[c]? with
 |none=>exact ⟨rfl,λs' h=>by cases h⟩
 |some C=>
  simp only
  have hnd:(rep T F).nodes[j]?=(T[j]?).map aV.s:=by simp [rep]
  rw [hnd]
  cases hL:C.lanes[j]? with
  |none=>exact ⟨rfl,λs' h=>by cases h⟩
  |some l=>
   cases hN:T[j]? with
   |none=>exact ⟨rfl,λs' h=>by cases h⟩
   |some n=>
    simp only [Option.map_some]
    by_cases hv:l.pair.verbs.length=0
    ·rw [if_pos hv,if_pos hv]
     exact ⟨rfl,λs' h=>by cases h⟩
    ·rw [if_neg hv,if_neg hv]
     have hP:cS l.pair:=hf.good.cl C (List.mem_of_getElem? hC) l (List.mem_of_getElem? hL)
     obtain ⟨he,hok⟩:=An hP (hT n (List.mem_of_getElem? hN))
     rw [he]
     refine ⟨?_,λs' h=>?_⟩
     ·simp [rep,List.map_set]
     ·cases h
      refine ⟨λx hx=>?_,by simp only [List.length_set];exact hl⟩
      rcases List.mem_or_eq_of_mem_set hx with h | h
      ·exact hT x h
      ·rw [h];exact hok
def vy (c:Nat) (s:List aV×Fab):Nat→Nat→Option (List aV×Fab)
 | 0,_=>none
 |q+1,j=>match rawT c j s with
  |some s'=>some s'
  |none=>vy c s q (j+1)
def vz (c:Nat):Nat→List aV×Fab→Option (Nat×(List aV×Fab))
 | 0,_=>none
 |f+1,s=>match vy c s 5 0 with
  |none=>some (0,s)
  |some s'=>(vz c f s').map λx=>(x.1+1,x.2)
theorem vA {c:Nat} {s s':List aV×Fab}:∀ {q j:Nat},vy c s q j=some s'→∃ k,rawT c k s=some s'
 | 0,j,h=>by cases h
 |q+1,j,h=>by
  unfold vy at h
  cases hs:rawT c j s with
  |some s1=>rw [hs] at h;exact ⟨j,hs.trans h⟩
  |none=>rw [hs] at h;exact vA h
theorem vB {c:Nat} {s:List aV×Fab}:∀ {q j:Nat},vy c s q j=none→∀ k,j≤k→k<j+q→rawT c k s=none
 | 0,j,h,k,h1,h2=>by omega
 |q+1,j,h,k,h1,h2=>by
  unfold vy at h
  cases hs:rawT c j s with
  |some s1=>rw [hs] at h;cases h
  |none=>
   rw [hs] at h
   by_cases e:k=j
   ·rw [e];exact hs
   ·exact vB h k (by omega) (by omega)
theorem yI {c:Nat}:∀ {f:Nat} {s sf:List aV×Fab} {k:Nat},Fine (toF s)→OkR s→vz c f s=some (k,sf)→Norm (stepL c) k (toF s) (toF sf)∧Fine (toF sf)∧OkR sf
 | 0,s,sf,k,hf,hs,h=>by cases h
 |f+1,s,sf,k,hf,hs,h=>by
  unfold vz at h
  cases hx:vy c s 5 0 with
  |none=>
   rw [hx] at h
   cases h
   refine ⟨.nil λj=>?_,hf,hs⟩
   cases hj:stepL c j (toF s) with
   |none=>rfl
   |some F'=>
    have h5:=Bu hf hj
    rw [(C9 (c:=c) (j:=j) hf hs).1,vB hx j (by omega) (by omega)] at hj
    cases hj
  |some s1=>
   rw [hx] at h
   obtain ⟨j,hj⟩:=vA hx
   obtain ⟨h1,h2⟩:=C9 (c:=c) (j:=j) hf hs
   rw [hj] at h1
   have h1:stepL c j (toF s)=some (toF s1):=h1
   simp only at h
   cases hr:vz c f s1 with
   |none=>rw [hr] at h;cases h
   |some x=>
    rw [hr] at h
    cases h
    obtain ⟨g1,g2,g3⟩:=yI (hf.stepL h1) (h2 s1 hj) (show vz c f s1=some (x.1,x.2) from hr)
    exact ⟨.cons j h1 g1,g2,g3⟩
section
variable {cv:Conv}
theorem Da {S I:Type} {st:I→S→Option S} {s t:S} (h:Norm st 0 s t):∀ i,st i s=none:=by
 cases h with
 |nil h=>exact h
end
end Go.Proofs.YtegepanmkjemjaaGreat
namespace Go.Proofs.YtegepanmkjemjaaGreat
open Go.Proofs.Tryz
open Go.Eng C12
structure OrdQ (c:Nat) (lines:Int) (W:List aD) (ns:List aP):Prop where
 ord:OrdP c lines 3 W ns
 few:ns.length≤4
 long:∀ x ∈ ns,x.words.length=800
def mZ (chk:List aP→Prop) (sch:List Int) (die:Int) (K:Fab×Tk conv→Prop):Nat→Nat→Fab→Tk conv→Prop
 | 0,_,F,t=>K (turn F t)
 |m+1,n,F,t=>∀ F2,F2=(if (n:Int)=die then ((turn F t).1.die (turn F t).2.client).2 else (turn F t).1)→
  ((rstep F2 sch n).1=false→K (turn (rstep F2 sch n).2 (turn F t).2))∧((rstep F2 sch n).1=true→chk (rstep F2 sch n).2.nodes∧mZ chk sch die K m (n+1) (rstep F2 sch n).2 (turn F t).2)
def yJ (A:Nat→Prop) (χ:Nat→Tag) (w:World) (fb:Nat) (E:Fab×Tk conv) (v:Value) (w':World):Prop:=
 dN A χ w fb E.1 w' λB=>∃ la lc r',v=.tuple #[.slice la 1 lc,.bool true]∧Owns w' TTa 25 la 1 lc r'.cells∧(∀ k,isB la k→¬ B k)∧gz B w' r' E.2
structure Gy (c:Nat) (job:aM) (W:List aD):Prop where
 len:job.Writes_l=W.length
 cl:job.Client=c
 c6:c<6
 seq:job.Seq=3
 few:W.length≤100
 lines:∀ q ∈ W,96≤q.Line∧q.Line<100
theorem Ar (r:TR) (t:Tk conv):(nA [(r,t)]).flatten=r.cells:=by simp [nA]
set_option maxHeartbeats 4000000 in
theorem Gz {A:Nat→Prop} {χ:Nat→Tag} {w:World} {fb:Nat} {X:FabX} (h:aZ A χ w fb X) (hf:Fine X.pure) {r:TR} {t:Tk conv} (ht:gz A w r t) (hsh:vT t) {pa:Option Addr} {pc:Nat} (hpa:Rd w pa r.cells)
  {sch:List Int} {sa:Option Addr} {sc:Nat} (hsd:Dat A w sa (is sch)) (hsi:∀ x ∈ sch,I64 x) {c:Nat} {job:aM} {W:List aD} (hjd:Dat A w job.Writes (dF W).flatten) (hJ:Gy c job W) {die:Int} {most:Nat} (hm:most≤1000000)
  {K:Fab×Tk conv→Prop} (hgo:mZ (OrdQ c job.Lines W) sch die K most 0 X.pure t) :
  Does 28 [ptr fb,.slice pa 1 pc,job.val,.slice sa sch.length sc,.int .i64 die,.int .i64 most] w λv w'=>∃ E,K E∧yJ A χ w fb E v w':=by
 refine does Tryz.func28 ?_
 rw [ptr,qS]
 rintro b1 w0 hb1 hw0
 obtain ⟨hz1,hn0⟩:=aO hb1 hw0
 have hz1:Blk w0 b1 job.cells 34:=hz1
 clear hw0
 obtain ⟨inf,hi,hz,hsz,hby⟩:=jQ (T:=TTa) (z:=.agg #[(.int .i64 0),(.int .i64 0),(.int .i64 0),(.int .i64 0),(.int .i64 0),(.int .i64 0),(.int .i64 0),(.int .u64 0),(.int .i64 0),(.int .i64 0),(.int .i64 0),(.int .i64 0),(.slice none 0 0),(.slice none 0 0),(.slice none 0 0),(.slice none 0 0),(.bool false),(.bool false),(.int .i64 0),(.int .i64 0),(.slice none 0 0),(.int .i64 0),(.slice none 0 0),(.int .u64 0),(.int .i64 0)]) (n:=25) (m:=288) (by kernel_rfl)
 have hon:Owns w0 TTa inf.size none 0 0 []:=Owns.nil _ _ _
 obtain ⟨ap,apc,w1,hrun,hown,hk1,hap⟩:=Owns.append (P:=prog) (t:=TST) (ty:=TST) Tryz.underlying61 hi hz (by rw [hsz];rfl) (by omega) hon (s:=pa) (m:=1) (c:=pc) (news:=(nA [(r,t)]).flatten) (by rw [hsz,eA (jc [(r,t)])];simp [nA]) (by rw [Ar];exact hpa.new hn0) (tX [(r,t)]) (by omega) (by rw [hby];omega)
 rw [Nat.zero_add,List.nil_append,hsz] at hown
 rw [Nat.zero_add] at hrun
 have hn01:New w0 w1:=hk1.mono λk _ hb=>by obtain ⟨o,ho⟩:=hb;cases ho
 have hn1:New w w1:=hn0.new hn01
 have hlt1:=hz1.lt
 have hfr0:∀ k,isB ap k→w0.heap.size≤k:=λk hk=>by
  rcases hap with e | e
  ·rw [e] at hk;obtain ⟨o,ho⟩:=hk;cases ho
  ·rw [e] at hk;obtain ⟨o,ho⟩:=hk;simp at ho;omega
 have hs0:=hn0.size
 have hfr1:∀ k,isB ap k→w.heap.size≤k:=λk hk=>by have:=hfr0 k hk;omega
 have hmono:∀ k,k<w.heap.size→A k∨isB ap k→A k:=λk hlt hc=>hc.elim id λhb=>by have:=hfr1 k hb;omega
 have hT:TW A χ w fb (isB ap) w1 A χ X:=TW.start h hn1 λk hk=>⟨hfr1 k hk,hown.lt hk⟩
 have hbA:¬ (A b1∨isB ap b1):=λe=>e.elim (λe=>by have:=h.low _ e;omega) λe=>by have:=hfr0 _ e;omega
 have hD0:DW A χ w fb ap apc [(sa,is sch),(some ⟨b1,0,none⟩,job.cells),(job.Writes,(dF W).flatten)] w1 A χ X [(r,t)]:=by
  refine ⟨hT,hown,λx hx=>?_,λd hd=>?_,hf⟩
  ·simp at hx
   rw [hx]
   exact ⟨ht.keep (Keep.of_new hn1) hmono,hsh⟩
  ·simp at hd
   rcases hd with rfl | rfl | rfl
   ·exact hsd.keep (Keep.of_new hn1) hmono
   ·exact ⟨fP (New.blk hn01 hz1) (by rfl),.inr hbA⟩
   ·exact hjd.keep (Keep.of_new hn1) hmono
 refine ⟨ap,1,apc,w1,hrun,?_⟩
 clear hrun hk1 hT hon hz hby hsz hi inf hap
 generalize hRR:(λ(v:Value) (w':World)=>∃ E,K E∧yJ A χ w fb E v w')=R
 have hturn:∀ {z:World} {B:Nat→Prop} {ξ:Nat→Tag} {Y:FabX} {r2:TR} {t2:Tk conv} (N:Addr→TR→TR→Addr→World→Prop) (i:Int),i=0→DW A χ w fb ap apc [(sa,is sch),(some ⟨b1,0,none⟩,job.cells),(job.Writes,(dF W).flatten)] z B ξ Y [(r2,t2)]→
   (∀ (z':World) (B':Nat→Prop) (ξ':Nat→Tag) (Y':FabX) (r':TR) (ad ad1:Addr) (r1 r3:TR),DW A χ w fb ap apc [(sa,is sch),(some ⟨b1,0,none⟩,job.cells),(job.Writes,(dF W).flatten)] z' B' ξ' Y' [(r',(turn Y.pure t2).2)]→Y'.pure=(turn Y.pure t2).1→N ad r1 r3 ad1 z')→
   idxS ap 1 i 25 λad=>aC.ex λr=>aF z ad 0 r.cells∧Calls prog 44 #[(.pointer (some ⟨fb,0,none⟩)),r.val] z λe w1=>aC.ex λrTurn=>e=.returned rTurn.val∧idxS ap 1 i 25 λad1=>wrAt w1 ad1 0 rTurn.cells∧∀ w2,w2=puts w1 ad1 0 rTurn.cells→N ad r rTurn ad1 w2:=by
  intro z B ξ Y r2 t2 N i hi0 hD hN
  subst hi0
  obtain ⟨lb,hla⟩:=hD.la (by simp)
  rw [hla] at hD ⊢
  obtain ⟨ba,oa,hae,hca,hcell⟩:=hD.own.rd.row (jc [(r2,t2)]) (by omega) (i:=0) rfl
  simp at hae
  obtain ⟨rfl,rfl⟩:=hae
  have hx:=hD.tx _ (List.mem_singleton_self _)
  refine bB (by omega) (by omega) ?_
  refine aC.mk_ex r2 ⟨by simpa using hca,?_⟩
  refine aG (CP hD.tw.fab hD.fine.good hx.1 hx.2) ?_
  rintro v z1 hp1
  obtain ⟨B',ξ',Z',r',rfl,hw,hD',hZ'⟩:=hD.turned (i:=0) rfl hp1
  refine aC.mk_ex r' ⟨rfl,?_⟩
  refine bB (by omega) (by omega) ?_
  refine ⟨by simpa using hw,?_⟩
  rintro z2 hz2
  rw [←hla] at hD'
  refine hN z2 B' ξ' Z' r' _ _ _ _ ?_ hZ'
  rw [hz2]
  simpa using hD'
 have hlast:∀ (z:World) (B:Nat→Prop) (ξ:Nat→Tag) (Y:FabX) (r2:TR) (t2:Tk conv) (jj:List Value),DW A χ w fb ap apc [(sa,is sch),(some ⟨b1,0,none⟩,job.cells),(job.Writes,(dF W).flatten)] z B ξ Y [(r2,t2)]→K (turn Y.pure t2)→
   Go.Eng.W prog (sub (aB f28) [1,1,1]) (bZ ⟨fb,0,none⟩ ap 1 apc jj) (retQ prog f28 R) z:=by
  intro z B ξ Y r2 t2 jj hD hK
  rw [nB]
  refine aR mix (λm env z=>∃ (i:Nat) (B:Nat→Prop) (ξ:Nat→Tag) (Z:FabX) (rr:TR) (tt:Tk conv) (jj:List Value),m=1 - i∧i≤1∧env=eV ⟨fb,0,none⟩ ap 1 apc i jj∧DW A χ w fb ap apc [(sa,is sch),(some ⟨b1,0,none⟩,job.cells),(job.Writes,(dF W).flatten)] z B ξ Z [(rr,tt)]∧(i=0→K (turn Z.pure tt))∧(i=1→K (Z.pure,tt))) 1
   ⟨0,B,ξ,Y,r2,t2,_,rfl,by omega,rfl,hD,λ_=>hK,λe=>by cases e⟩ ?_
  clear hD hK
  rintro m env z ⟨i,B,ξ,Z,rr,tt,jj,rfl,hile,rfl,hD,h0,h1⟩
  rw [lP]
  refine aI (λhp=>?_) (λhp=>?_)
  ·have hi0:i=0:=by omega
   subst hi0
   refine hturn _ _ (by rfl) hD ?_
   rintro z' B' ξ' Y' r' ad ad1 r1 r3 hD' hY'
   rw [w64 (by omega) (by omega)]
   refine ⟨0,by omega,1,B',ξ',Y',r',_,_,rfl,by omega,rfl,hD',λe=>(by cases e),λ_=>?_⟩
   rw [hY']
   exact h0 rfl
  ·have hi1:i=1:=by omega
   subst hi1
   rw [nD,←hRR]
   refine ⟨(Z.pure,tt),h1 rfl,hD.tw.done ⟨ap,apc,rr,rfl,by have:=hD.own;rw [Ar] at this;exact this,λk hk hb=>?_,(hD.tx _ (List.mem_singleton_self _)).1.keep (Keep.refl _ _) λ_ _ e=>.inl e⟩⟩
   obtain ⟨l1,l2,l3⟩:=hD.tw.loc k hk
   rcases (hD.tw.next.iff k).1 hb with hc | hc
   ·exact hc l3
   ·omega
 have hstep:∀ {z:World} {B:Nat→Prop} {ξ:Nat→Tag} {Y:FabX} {r2:TR} {t2:Tk conv} {n:Nat} (N:Bool→aM→Bool→World→Prop) (J1:Bool→List Value),n<most→DW A χ w fb ap apc [(sa,is sch),(some ⟨b1,0,none⟩,job.cells),(job.Writes,(dF W).flatten)] z B ξ Y [(r2,t2)]→
   ((rstep Y.pure sch n).1=false→K (turn (rstep Y.pure sch n).2 t2))→((rstep Y.pure sch n).1=true→OrdQ c job.Lines W (rstep Y.pure sch n).2.nodes)→
   (∀ (b b':Bool) (rj:aM) (z':World) (B':Nat→Prop) (ξ':Nat→Tag) (Y':FabX),DW A χ w fb ap apc [(sa,is sch),(some ⟨b1,0,none⟩,job.cells),(job.Writes,(dF W).flatten)] z' B' ξ' Y' [(r2,t2)]→Y'.pure=(rstep Y.pure sch n).2→(rstep Y.pure sch n).1=true→N b rj b' z')→
   Calls prog 45 #[(.pointer (some ⟨fb,0,none⟩)),(.slice sa sch.length sc),(.int .i64 n)] z λe w2=>∃ rStep,e=.returned (.bool rStep)∧(bif (!rStep) then (Go.Eng.W prog (sub (aB f28) [1,1,1]) (bZ ⟨fb,0,none⟩ ap 1 apc (J1 rStep)) (retQ prog f28 R) w2) else (aM.ex λr=>aF w2 ⟨b1,0,none⟩ 0 r.cells∧
    Calls prog 47 #[(.pointer (some ⟨fb,0,none⟩)),r.val] w2 λe w3=>∃ rO,e=.returned (.bool rO)∧(bif (!rO) then (R (.tuple #[(.slice ap 1 apc),(.bool false)]) w3) else (N rStep r rO w3)))):=by
  intro z B ξ Y r2 t2 n N J1 hlt hD hK hC hN
  have hsr:=(hD.dat (sa,is sch) (by simp)).1
  refine aG (Cj hD.tw.fab hD.fine hsr hsi n) ?_
  rintro v z1 ⟨rfl,hp1⟩
  obtain ⟨B',ξ',Y',hD',hY',_⟩:=hD.op hp1 (hD.fine.rstep _ _)
  refine ⟨_,rfl,dV (λhb=>?_) (λhb=>?_)⟩
  ·exact hlast z1 B' ξ' Y' r2 t2 _ hD' (by rw [hY'];exact hK hb)
  ·have hq:=hC hb
   rw [←hY'] at hq
   have hns:Y'.pure.nodes=Y'.nodes.map ep.n:=rfl
   have hjr:=(hD'.dat (some ⟨b1,0,none⟩,job.cells) (by simp)).1
   refine aM.mk_ex job ⟨gG λj v hv=>by have:=hjr.cell hv;simpa using this,?_⟩
   have hlong:∀ x ∈ Y'.nodes,x.n.words.length=800:=λx hx=>hq.long _ (by rw [hns];exact List.mem_map_of_mem hx)
   have hI:Gw c job W z1 Y':=⟨(hD'.dat (job.Writes,(dF W).flatten) (by simp)).1,hJ.len,hJ.cl,hJ.c6,hJ.seq,by have:=hq.few;rw [hns] at this;simpa using this,λx hx=>by rw [hlong x hx];omega,λx hx q hqm=>by
    have:=hJ.lines q hqm
    rw [hlong x hx]
    omega,hJ.few,hq.ord⟩
   refine aG (C3 hD'.tw.fab hI) ?_
   rintro v z2 ⟨rfl,hn2⟩
   refine ⟨true,rfl,eC rfl ?_⟩
   exact hN _ _ _ z2 B' ξ' Y' (hD'.new hn2) hY' hb
 refine aR mix (λm env z=>∃ (n:Nat) (B:Nat→Prop) (ξ:Nat→Tag) (Y:FabX) (r2:TR) (t2:Tk conv) (jj:List Value),m=most - n∧n≤most∧env=bR ⟨fb,0,none⟩ ap 1 apc sa sch.length sc die most ⟨b1,0,none⟩ n jj∧DW A χ w fb ap apc [(sa,is sch),(some ⟨b1,0,none⟩,job.cells),(job.Writes,(dF W).flatten)] z B ξ Y [(r2,t2)]∧mZ (OrdQ c job.Lines W) sch die K (most - n) n Y.pure t2) most
  ⟨0,A,χ,X,r,t,_,rfl,by omega,rfl,hD0,hgo⟩ ?_
 clear hD0 hgo
 rintro m env z ⟨n,B,ξ,Y,r2,t2,jj,rfl,hnm,rfl,hD,hG⟩
 rw [lN]
 refine aI (λhp=>?_) (λhp=>?_)
 ·have hms:most - n=(most - (n+1))+1:=by omega
  rw [hms,mZ] at hG
  refine aR mix (λm env z=>∃ (i:Nat) (B:Nat→Prop) (ξ:Nat→Tag) (Z:FabX) (rr:TR) (tt:Tk conv) (jj:List Value),m=1 - i∧i≤1∧env=eU ⟨fb,0,none⟩ ap 1 apc sa sch.length sc die most ⟨b1,0,none⟩ n i jj∧DW A χ w fb ap apc [(sa,is sch),(some ⟨b1,0,none⟩,job.cells),(job.Writes,(dF W).flatten)] z B ξ Z [(rr,tt)]∧(i=0→Z.pure=Y.pure∧tt=t2)∧(i=1→(Z.pure,tt)=turn Y.pure t2)) 1
   ⟨0,B,ξ,Y,r2,t2,_,rfl,by omega,rfl,hD,λ_=>⟨rfl,rfl⟩,λe=>by cases e⟩ ?_
  clear hD
  rintro m env z ⟨i,B,ξ,Z,rr,tt,jj,rfl,hile,rfl,hD,h0,h1⟩
  rw [lO]
  refine aI (λhq=>?_) (λhq=>?_)
  ·have hi0:i=0:=by omega
   subst hi0
   obtain ⟨e1,rfl⟩:=h0 rfl
   refine hturn _ _ (by rfl) hD ?_
   rintro z' B' ξ' Y' r' ad ad1 r1 r3 hD' hY'
   rw [w64 (by omega) (by omega)]
   refine ⟨0,by omega,1,B',ξ',Y',r',_,_,rfl,by omega,rfl,hD',λe=>(by cases e),λ_=>?_⟩
   rw [hY',e1]
  ·have hi1:i=1:=by omega
   subst hi1
   have ht1:=h1 rfl
   rw [←ht1] at hG
   simp only at hG
   rw [nC]
   have hnext:∀ (F2:Fab),F2=(if (n:Int)=die then (Z.pure.die tt.client).2 else Z.pure)→∀ (z':World) (B':Nat→Prop) (ξ':Nat→Tag) (Y':FabX) (jj:List Value),DW A χ w fb ap apc [(sa,is sch),(some ⟨b1,0,none⟩,job.cells),(job.Writes,(dF W).flatten)] z' B' ξ' Y' [(rr,tt)]→Y'.pure=(rstep F2 sch n).2→(rstep F2 sch n).1=true→
     ∃ m,m<most - n∧∃ (n':Nat) (B:Nat→Prop) (ξ:Nat→Tag) (Y:FabX) (r2:TR) (t2:Tk conv) (jj':List Value),m=most - n'∧n'≤most∧bR ⟨fb,0,none⟩ ap 1 apc sa sch.length sc die most ⟨b1,0,none⟩ ((n+1:Nat):Int) jj=bR ⟨fb,0,none⟩ ap 1 apc sa sch.length sc die most ⟨b1,0,none⟩ n' jj'∧DW A χ w fb ap apc [(sa,is sch),(some ⟨b1,0,none⟩,job.cells),(job.Writes,(dF W).flatten)] z' B ξ Y [(r2,t2)]∧mZ (OrdQ c job.Lines W) sch die K (most - n') n' Y.pure t2:=by
    intro F2 hF2 z' B' ξ' Y' jj hD' hY' hb
    refine ⟨most - (n+1),by omega,n+1,B',ξ',Y',rr,tt,jj,rfl,by omega,rfl,hD',?_⟩
    rw [hY']
    exact ((hG F2 hF2).2 hb).2
   refine bG (λhd=>?_) (λhd=>?_)
   ·refine ig rfl ?_
    have hF2:(Z.pure.die tt.client).2=if (n:Int)=die then (Z.pure.die tt.client).2 else Z.pure:=by rw [if_pos hd]
    obtain ⟨lb,hla⟩:=hD.la (by simp)
    have hrow:=hD.own.rd.row (jc [(rr,tt)]) (by omega) (i:=0) rfl
    obtain ⟨ba,oa,hae,hca,hcell⟩:=hrow
    rw [hla] at hae
    simp at hae
    obtain ⟨rfl,rfl⟩:=hae
    have hx:=hD.tx _ (List.mem_singleton_self _)
    have e0:∀ (K:Addr→Prop),K ⟨lb,0+Int.toNat 0 * 25,none⟩→idxS ap 1 0 25 K:=λK hk=>by rw [hla];exact bB (by omega) (by omega) hk
    refine e0 _ ⟨rr.Client,by simpa using hcell 1 _ rfl,?_⟩
    rw [hx.1.client]
    refine aG (GX hD.tw.fab hD.fine.good.ok (by have:=hD.fine.le;simp [FabX.pure] at this;omega) _) ?_
    rintro v z1 ⟨rfl,hp1⟩
    obtain ⟨B',ξ',Y',hD',hY',_⟩:=hD.op hp1 (hD.fine.die _)
    refine ⟨_,rfl,?_⟩
    obtain ⟨g1,g2⟩:=hG _ hF2
    refine hstep (n:=n) _ _ (by omega) hD' (by rw [hY'];exact g1) (by rw [hY'];exact λhb=>(g2 hb).1) ?_
    rintro b b' rj z' B2 ξ2 Y2 hD2 hY2 hb2
    rw [w64 (x:=(n:Int)+1) (by omega) (by omega)]
    rw [hY'] at hY2 hb2
    exact hnext _ hF2 z' B2 ξ2 Y2 _ hD2 hY2 hb2
   ·have hF2:Z.pure=if (n:Int)=die then (Z.pure.die tt.client).2 else Z.pure:=by rw [if_neg hd]
    obtain ⟨g1,g2⟩:=hG _ hF2
    refine hstep (n:=n) _ _ (by omega) hD g1 (λhb=>(g2 hb).1) ?_
    rintro b b' rj z' B2 ξ2 Y2 hD2 hY2 hb2
    rw [w64 (x:=(n:Int)+1) (by omega) (by omega)]
    exact hnext _ hF2 z' B2 ξ2 Y2 _ hD2 hY2 hb2
 ·have hnm':most - n=0:=by omega
  rw [hnm',mZ] at hG
  exact hlast z B ξ Y r2 t2 _ hD hG
end Go.Proofs.YtegepanmkjemjaaGreat
