import Derived.Test.YtegepanmkjemjaaGreatt39
import Derived.Test.YtegepanmkjemjaaGreatt33
import Derived.Test.YtegepanmkjemjaaGreatProg
import Derived.Test.YtegepanmkjemjaaGreatt03
set_option linter.unusedVariables false
namespace Go.Proofs.YtegepanmkjemjaaGreat
open Go.Eng C12
structure Same (F F':Fab):Prop where
 live:F'.clients.map Comp.alive=F.clients.map Comp.alive
 lines:F'.lines=F.lines
 nodes:F'.nodes.length=F.nodes.length
theorem Same.refl (F:Fab):Same F F:=⟨rfl,rfl,rfl⟩
theorem Same.trans {F G H:Fab} (h:Same F G) (k:Same G H):Same F H:=⟨k.live.trans h.live,k.lines.trans h.lines,k.nodes.trans h.nodes⟩
theorem tZ {α β:Type} {f:α→β} {l:List α} {i:Nat} {x y:α} (h:l[i]?=some x) (e:f y=f x):(l.set i y).map f=l.map f:=by
 apply List.ext_getElem?
 intro j
 rw [List.getElem?_map,List.getElem?_map,List.getElem?_set]
 by_cases hij:i=j
 ·subst hij
  rw [if_pos rfl,if_pos (aU h),h]
  simp [e]
 ·rw [if_neg hij]
theorem yK (F:Fab) (c:Nat):F.alive (c:Int)=((F.clients.map Comp.alive)[c]?).getD false:=by
 unfold Fab.alive
 rw [sD,List.getElem?_map]
 cases F.clients[c]?<;>rfl
theorem Same.alive {F F':Fab} (h:Same F F') (c:Nat):F'.alive (c:Int)=F.alive (c:Int):=by rw [yK,yK,h.live]
theorem Same.setC {F:Fab} {c:Nat} {C C':Comp} (h:F.clients[c]?=some C) (e:C'.alive=C.alive):Same F (F.setC (c:Int) C'):=
 ⟨tZ (by simpa using h) e,rfl,rfl⟩
theorem Same.take (F:Fab) (c:Nat):Same F (F.take (c:Int)).2:=by
 unfold Fab.take
 rw [sD]
 cases h:F.clients[c]? with
 |none=>exact Same.refl F
 |some C=>
  simp only
  split
  ·exact Same.refl F
  ·cases C.batch with
   |none=>exact Same.refl F
   |some ds=>
    simp only
    split
    ·exact Same.refl F
    ·exact Same.setC h rfl
theorem q8:∀ (vs:List Verb) (C:Comp) (k:Nat),(C.postFrom k vs).alive=C.alive
 | [],_,_=>rfl
 |v::vs,C,k=>(q8 vs (C.postOne k v) (k+1)).trans rfl
theorem Same.post (F:Fab) (c:Nat) (vs:List Verb):Same F (F.post (c:Int) vs).2:=by
 unfold Fab.post
 rw [sD]
 cases h:F.clients[c]? with
 |none=>exact Same.refl F
 |some C=>
  simp only
  split
  ·exact Same.refl F
  ·split
   ·exact Same.refl F
   ·split
    ·exact Same.refl F
    ·split
     ·exact Same.refl F
     ·split
      ·exact Same.refl F
      ·exact Same.setC h (by unfold Comp.posted';exact q8 vs C 0)
theorem Same.turn {cv:Conv} (F:Fab) (t:Tk cv) {c:Nat} (hc:t.client=(c:Int)):Same F (turn F t).1:=by
 unfold Go.Proofs.YtegepanmkjemjaaGreat.turn
 split
 ·exact Same.refl F
 ·have h1:=Same.take F c
  rw [←hc] at h1
  have hf:(t.fed (F.take t.client).1).client=t.client:=by
   unfold Tk.fed
   cases (F.take t.client).1<;>rfl
  refine h1.trans ?_
  unfold tB
  rw [hf,hc]
  split
  ·exact Same.refl _
  ·split
   ·exact Same.refl _
   ·split
    ·exact Same.post _ c _
    ·exact Same.post _ c _
theorem zz (C:Comp) (j:Nat) (l:Lane) (p:Pair) (d:Option Done):(C.comes j l p d).alive=C.alive:=by cases d<;>rfl
theorem Same.stepL {c j:Nat} {F F':Fab} (h:stepL c j F=some F'):Same F F':=by
 obtain ⟨C,l,n,hC,hl,hn,hv,rfl⟩:=eB.1 h
 exact ⟨tZ hC (zz C j l _ _),rfl,by simp⟩
def EndW (c:Nat) (fin:Fab×Tk conv→Prop) (E:Fab×Tk conv):Prop:=E.1.alive (c:Int)=false∨fin E
theorem sX {cv:Conv} {F:Fab} {t:Tk cv} (h:F.alive t.client=false):turn F t=(F,t):=by
 unfold turn
 rw [if_pos (.inr (.inl h))]
theorem zB {c:Nat} {W:List aD} {F:Fab} (h:OrdP c 100 3 W F.nodes) (hf:Fine F) (hn:F.nodes.length≤4) (hl:F.lines=100):OrdQ c 100 W F.nodes:=
 ⟨h,hn,λx hx=>by
  have:=hf.good.ok.words x hx
  rw [this,hl]⟩
theorem wB (F:Fab) (sch:List Int) (n:Nat):(rstep F sch n).2.lines=F.lines∧(rstep F sch n).2.nodes.length=F.nodes.length:=by
 unfold rstep
 cases F.choices[sA F sch n]? with
 |none=>exact ⟨rfl,rfl⟩
 |some x=>
  simp only
  unfold Fab.step
  split
  ·unfold Fab.stepOrphan
   split
   ·exact ⟨rfl,rfl⟩
   ·split
    ·exact ⟨rfl,rfl⟩
    ·exact ⟨rfl,by simp⟩
  ·split
   ·exact ⟨rfl,rfl⟩
   ·split
    ·exact ⟨rfl,rfl⟩
    ·split
     ·exact ⟨rfl,rfl⟩
     ·split
      ·split
       ·exact ⟨rfl,rfl⟩
       ·exact ⟨rfl,by simp⟩
      ·exact ⟨rfl,rfl⟩
theorem wC {c:Nat} {W:List aD} {fin:Fab×Tk conv→Prop} {sch:List Int} {die:Int}:∀ (m n:Nat) {Fd F:Fab} {t:Tk conv},zy (OrdP c 100 3 W) c Fd F→Fine Fd→Fd.alive (c:Int)=false→t.client=(c:Int)→die<n→Fd.nodes.length≤4→Fd.lines=100→
  mZ (OrdQ c 100 W) sch die (EndW c fin) m n Fd t
 | 0,n,Fd,F,t,h,hf,ha,hc,hd,hn,hl=>by
  unfold mZ
  rw [sX (by rw [hc];exact ha)]
  exact .inl ha
 |m+1,n,Fd,F,t,h,hf,ha,hc,hd,hn,hl=>by
  unfold mZ
  rw [sX (by rw [hc];exact ha)]
  intro F2 hF2
  rw [if_neg (by omega)] at hF2
  simp only at hF2
  subst hF2
  have hf':=hf.rstep sch n
  obtain ⟨hl',hn'⟩:=wB F2 sch n
  rcases h.rstep sch n with e | ⟨Fd',F',e,hchk,hD,hcl⟩
  ·rw [e]
   refine ⟨λ_=>?_,λhb=>by cases hb⟩
   rw [sX (by rw [hc];exact ha)]
   exact .inl ha
  ·rw [e] at hf' hl' hn' ⊢
   have ha':Fd'.alive (c:Int)=false:=by
    unfold Fab.alive at ha ⊢
    unfold Fab.cl at ha ⊢
    rw [hcl]
    exact ha
   refine ⟨λhb=>(by cases hb),λ_=>⟨zB hchk hf' (by rw [hn'];exact hn) (hl'.trans hl),?_⟩⟩
   exact wC m (n+1) hD hf' ha' hc (by omega) (by rw [hn'];exact hn) (hl'.trans hl)
theorem vC {c:Nat} {W:List aD} {fin:Fab×Tk conv→Prop} {sch:List Int} {die:Int}:∀ (m n N:Nat) {F:Fab} {t:Tk conv},OkP c (F,t)→PreB (OrdP c 100 3 W) fin c N (F,t)→N<m→F.alive (c:Int)=true→F.nodes.length≤4→F.lines=100→
  mZ (OrdQ c 100 W) sch die (EndW c fin) m n F t
 | 0,n,N,F,t,hok,h,hN,ha,hn,hl=>by omega
 |m+1,n,N,F,t,hok,h,hN,ha,hn,hl=>by
  unfold mZ
  intro F2 hF2
  have ho:=h.turn hok
  have hok1:=hok.turn
  have hs:=Same.turn F t hok.cl
  have ha1:(turn F t).1.alive (c:Int)=true:=(hs.alive c).trans ha
  have hn1:(turn F t).1.nodes.length≤4:=by rw [hs.nodes];exact hn
  have hl1:(turn F t).1.lines=100:=hs.lines.trans hl
  have hc1:(turn F t).2.client=(c:Int):=hok1.cl
  simp only at ho
  generalize hG:turn F t=G at *
  obtain ⟨G,t1⟩:=G
  simp only at *
  by_cases hd:(n:Int)=die
  ·rw [if_pos hd,hc1] at hF2
   obtain ⟨hD,hdead⟩:=zy.of_die hok1 ho.all ha1
   simp only at hD hdead
   have hfd:Fine F2:=by rw [hF2];exact hok1.fine.die _
   have hdl:F2.lines=G.lines∧F2.nodes=G.nodes:=by
    rw [hF2]
    unfold Fab.die
    split
    ·exact ⟨rfl,rfl⟩
    ·split
     ·exact ⟨rfl,rfl⟩
     ·exact ⟨rfl,rfl⟩
   rw [←hF2] at hD hdead
   have hf':=hfd.rstep sch n
   obtain ⟨hl',hn'⟩:=wB F2 sch n
   rcases hD.rstep sch n with e | ⟨Fd',F',e,hchk,hD',hcl⟩
   ·rw [e]
    refine ⟨λ_=>?_,λhb=>by cases hb⟩
    rw [sX (by rw [hc1];exact hdead)]
    exact .inl hdead
   ·rw [e] at hf' hl' hn' ⊢
    have ha':Fd'.alive (c:Int)=false:=by
     unfold Fab.alive at hdead ⊢
     unfold Fab.cl at hdead ⊢
     rw [hcl]
     exact hdead
    have hn2:Fd'.nodes.length≤4:=by rw [hn',hdl.2];exact hn1
    have hl2:Fd'.lines=100:=by rw [hl',hdl.1];exact hl1
    refine ⟨λhb=>(by cases hb),λ_=>⟨zB hchk hf' hn2 hl2,?_⟩⟩
    exact wC m (n+1) hD' hf' ha' hc1 (by omega) hn2 hl2
  ·rw [if_neg hd] at hF2
   subst hF2
   rcases hok1.solo.rstep sch n with ⟨e,hno⟩ | ⟨j,F',hj,e⟩
   ·rw [e]
    exact ⟨λ_=>.inr (ho.stop hno),λhb=>by cases hb⟩
   ·rw [e]
    obtain ⟨hchk,N',rfl,hp⟩:=ho.step hok1 hj
    have hsj:=Same.stepL hj
    have hn2:F'.nodes.length≤4:=by rw [hsj.nodes];exact hn1
    have hl2:F'.lines=100:=hsj.lines.trans hl1
    refine ⟨λhb=>(by cases hb),λ_=>⟨zB hchk (hok1.fine.stepL hj) hn2 hl2,?_⟩⟩
    exact vC m (n+1) N' (hok1.stepL hj) hp (by omega) ((hsj.alive c).trans ha1) hn2 hl2
theorem zC {c N m:Nat} {W:List aD} {fin:Fab×Tk conv→Prop} {sch:List Int} {die:Int} {F:Fab} {t:Tk conv} (hok:OkP c (F,t)) (hno:∀ j,stepL c j F=none) (hchk:OrdP c 100 3 W F.nodes) (h:OrdB (OrdP c 100 3 W) fin c N (turn F t)) (hN:N<m) (ha:F.alive (c:Int)=true) (hn:F.nodes.length≤4) (hl:F.lines=100) :
  mZ (OrdQ c 100 W) sch die (EndW c fin) m 0 F t:=by
 refine vC m 0 N hok ⟨λF' hr=>?_,0,N,F,.nil hno,h,rfl⟩ hN ha hn hl
 cases hr with
 |refl=>exact hchk
 |step hs _=>rw [hno] at hs;cases hs
end Go.Proofs.YtegepanmkjemjaaGreat
namespace Go.Proofs.YtegepanmkjemjaaGreat
open Go.Eng C12
def locS (p:Pair) (n:aP):Option (Pair×aP):=if p.verbs.length=0 then none else some ((p.step n).1,(p.step n).2.1)
inductive LR:Pair→aP→Pair→aP→Prop
 |refl (p:Pair) (n:aP):LR p n p n
 |step {p p1 p2:Pair} {n n1 n2:aP}:locS p n=some (p1,n1)→LR p1 n1 p2 n2→LR p n p2 n2
theorem GA {c:Nat} {F F':Fab} (h:Rch c F F'):∀ {C:Comp},F.clients[c]?=some C→∃ C',F'.clients[c]?=some C'∧C'.lanes.length=C.lanes.length∧F'.nodes.length=F.nodes.length∧∀ (j:Nat) (n':aP),F'.nodes[j]?=some n'→∃ n,F.nodes[j]?=some n∧
  ((C.lanes[j]?=none∧n'=n)∨∃ l l',C.lanes[j]?=some l∧C'.lanes[j]?=some l'∧LR l.pair n l'.pair n'):=by
 induction h with
 |refl F=>intro C hC;exact ⟨C,hC,rfl,rfl,λj n' hn=>⟨n',hn,by
   cases hl:C.lanes[j]? with
   |none=>exact .inl ⟨rfl,rfl⟩
   |some l=>exact .inr ⟨l,l,rfl,rfl,.refl _ _⟩⟩⟩
 | @step F F1 F2 q hs hr ih=>
  intro C hC
  obtain ⟨C0,l0,n0,hC0,hl0,hn0,hv,rfl⟩:=eB.1 hs
  rw [hC] at hC0
  cases hC0
  have hlt:=aU hC
  obtain ⟨C',h1,h2,h3,h4⟩:=ih (C:=C.comes q l0 (l0.pair.step n0).1 (l0.pair.step n0).2.2) (List.getElem?_set_self hlt)
  have hlen:(C.comes q l0 (l0.pair.step n0).1 (l0.pair.step n0).2.2).lanes.length=C.lanes.length:=by
   cases (l0.pair.step n0).2.2<;>simp [Comp.comes]
  refine ⟨C',h1,h2.trans hlen,h3.trans (by simp),λj n' hn'=>?_⟩
  obtain ⟨n,hn,hc⟩:=h4 j n' hn'
  simp only at hn
  by_cases e:q=j
  ·subst e
   rw [List.getElem?_set_self (aU hn0)] at hn
   cases hn
   refine ⟨n0,hn0,.inr ⟨l0,?_⟩⟩
   rcases hc with ⟨hno,_⟩ | ⟨l,l',g1,g2,g3⟩
   ·exfalso
    have:q<(C.comes q l0 (l0.pair.step n0).1 (l0.pair.step n0).2.2).lanes.length:=by rw [hlen];exact aU hl0
    rw [List.getElem?_eq_none_iff] at hno
    omega
   ·refine ⟨l',hl0,g2,?_⟩
    have hp:l.pair=(l0.pair.step n0).1:=by
     have:=aU hl0
     cases hd:(l0.pair.step n0).2.2<;>(rw [hd] at g1;simp [Comp.comes,this] at g1;rw [←g1])
    rw [hp] at g3
    exact .step (by unfold locS;rw [if_neg hv]) g3
  ·rw [List.getElem?_set_ne e] at hn
   rw [iA (λe2=>e e2.symm)] at hc
   exact ⟨n,hn,hc⟩
def vD:Nat→Pair→aV→Option (List aV)
 | 0,_,_=>none
 |f+1,p,x=>if p.verbs.length=0 then some [x] else (vD f (p.stepT x).1 (p.stepT x).2.1).map λl=>x::l
theorem yL:∀ {f:Nat} {p:Pair} {x:aV} {l:List aV},cS p→x.Ok→vD f p x=some l→∀ {p':Pair} {n':aP},LR p x.s p' n'→∃ y ∈ l,y.Ok∧n'=y.s
 | 0,p,x,l,hP,hx,h,p',n',hr=>by cases h
 |f+1,p,x,l,hP,hx,h,p',n',hr=>by
  unfold vD at h
  split at h
  ·rename_i hv
   cases h
   cases hr with
   |refl=>exact ⟨x,List.mem_singleton_self _,hx,rfl⟩
   |step hs _=>unfold locS at hs;rw [if_pos hv] at hs;cases hs
  ·rename_i hv
   cases ht:vD f (p.stepT x).1 (p.stepT x).2.1 with
   |none=>rw [ht] at h;cases h
   |some l'=>
    rw [ht] at h
    cases h
    cases hr with
    |refl=>exact ⟨x,List.mem_cons_self,hx,rfl⟩
    |step hs hr=>
     unfold locS at hs
     rw [if_neg hv] at hs
     obtain ⟨e,hok⟩:=An hP hx
     rw [e] at hs
     cases hs
     have hP':cS (p.stepT x).1:=by have:=hP.step x.s;rw [e] at this;exact this
     obtain ⟨y,hy,h1,h2⟩:=yL hP' hok ht hr
     exact ⟨y,List.mem_cons_of_mem _ hy,h1,h2⟩
def sY (C:Comp):Nat→List aV→Option (List (List aV))
 | _,[]=>some []
 |j,x::xs=>match C.lanes[j]?,sY C (j+1) xs with
  |some l,some r=>(vD 60 l.pair x).map λt=>t::r
  | _,_=>none
theorem vE {C:Comp}:∀ {xs:List aV} {j:Nat} {r:List (List aV)},sY C j xs=some r→r.length=xs.length∧∀ (i:Nat) (x:aV),xs[i]?=some x→∃ l t,C.lanes[j+i]?=some l∧vD 60 l.pair x=some t∧r[i]?=some t
 | [],j,r,h=>by cases h;exact ⟨rfl,λi x hx=>by simp at hx⟩
 |x::xs,j,r,h=>by
  unfold sY at h
  cases hl:C.lanes[j]? with
  |none=>rw [hl] at h;cases h
  |some l=>
   cases hr:sY C (j+1) xs with
   |none=>rw [hl,hr] at h;cases h
   |some r'=>
    rw [hl,hr] at h
    simp only at h
    cases ht:vD 60 l.pair x with
    |none=>rw [ht] at h;cases h
    |some t=>
     rw [ht] at h
     cases h
     obtain ⟨h1,h2⟩:=vE hr
     refine ⟨by simp [h1],λi y hy=>?_⟩
     cases i with
     |zero=>
      simp only [List.getElem?_cons_zero,Option.some.injEq] at hy
      subst hy
      exact ⟨l,t,hl,ht,rfl⟩
     |succ i=>
      obtain ⟨l2,t2,g1,g2,g3⟩:=h2 i y (by simpa using hy)
      exact ⟨l2,t2,by rw [←g1];congr 1;omega,g2,by simpa using g3⟩
def xq (c:Nat) (s:List aV×Fab):Option (List (List aV)):=match s.2.clients[c]? with
 |none=>none
 |some C=>sY C 0 s.1
theorem Db {c:Nat} {s:List aV×Fab} {r:List (List aV)} (hf:Fine (toF s)) (hs:OkR s) (h:xq c s=some r) {F':Fab} (hr:Rch c (toF s) F'):F'.nodes.length=r.length∧∀ (j:Nat) (n':aP),F'.nodes[j]?=some n'→∃ t y,r[j]?=some t∧y ∈ t∧y.Ok∧n'=y.s:=by
 unfold xq at h
 cases hC:s.2.clients[c]? with
 |none=>rw [hC] at h;cases h
 |some C=>
  rw [hC] at h
  simp only at h
  obtain ⟨g1,g2⟩:=vE h
  obtain ⟨C',h1,h2,h3,h4⟩:=GA hr (C:=C) hC
  refine ⟨h3.trans (by simp [toF,rep,g1]),λj n' hn'=>?_⟩
  obtain ⟨n,hn,hc⟩:=h4 j n' hn'
  have hn:((s.1.map aV.s))[j]?=some n:=hn
  rw [List.getElem?_map] at hn
  cases hx:s.1[j]? with
  |none=>rw [hx] at hn;cases hn
  |some x=>
   rw [hx] at hn
   cases hn
   obtain ⟨l,t,k1,k2,k3⟩:=g2 j x hx
   rw [Nat.zero_add] at k1
   rcases hc with ⟨hno,_⟩ | ⟨l1,l2,m1,m2,m3⟩
   ·rw [k1] at hno;cases hno
   ·rw [k1] at m1
    cases m1
    have hP:cS l.pair:=hf.good.cl C (List.mem_of_getElem? hC) l (List.mem_of_getElem? k1)
    obtain ⟨y,y1,y2,y3⟩:=yL hP (hs.ok x (List.mem_of_getElem? hx)) k2 m3
    exact ⟨t,y,k3,y1,y2,y3⟩
def GB (W:List aD) (x:aV):Bool:=W.any λq=>pgLk (zx x q.Line.toNat)
def newT (W:List aD) (x:aV):Bool:=W.any λq=>rG (zx x q.Line.toNat) q
def vF (W:List aD) (x:aV):Bool:=W.all λq=>rG (zx x q.Line.toNat) q
def pgsT (c i:Nat) (W:List aD) (x:aV):Bool:=W.all λq=>pgOk c i (zx x q.Line.toNat) q
def yM (c:Nat) (P:List Int) (x:aV):Bool:=segT x (56+120 * c) P.length == P
def GC (c:Nat) (x:aV):Bool:=x.get (48+120 * c) == 14
def oneT (c i:Nat) (W:List aD) (x:aV):Bool:=(!x.down && x.n == 800) && (pgsT c i W x && ((x.get (32+c) == 0 || x.get (32+c) == 3 && (i == 0 || vF W x)) && (!(i == 0) || (!newT W x || !(x.get (32+c) == 0)))))
def EM (c:Nat) (W:List aD):Nat→List (List aV)→Bool
 | _,[]=>true
 |i,t::ts=>t.all (oneT c i W) && EM c W (i+1) ts
def ordT (c:Nat) (W:List aD) (P:List Int) (ts:List (List aV)):Bool:=
 EM c W 0 ts && ((!(ts.any λt=>t.any (GB W)) || ts.all λt=>t.all (yM c P)) && ((!(ts.any λt=>t.any (newT W)) || ts.all λt=>t.all λx=>yM c P x && GC c x) &&
  (!((ts.take 1).any λt=>t.any (newT W)) || (ts.drop 1).all λt=>t.all (vF W))))
theorem As {c:Nat} {W:List aD}:∀ {ts:List (List aV)} {i:Nat},EM c W i ts=true→∀ (j:Nat) (t:List aV),ts[j]?=some t→∀ x ∈ t,oneT c (i+j) W x=true
 | [],i,h,j,t,ht,x,hx=>by simp at ht
 |t0::ts,i,h,j,t,ht,x,hx=>by
  unfold EM at h
  rw [Bool.and_eq_true,List.all_eq_true] at h
  cases j with
  |zero=>
   simp only [List.getElem?_cons_zero,Option.some.injEq] at ht
   subst ht
   exact h.1 x hx
  |succ j=>
   have:=As h.2 j t (by simpa using ht) x hx
   rw [←this]
   congr 1
   omega
theorem Dc {B B':List Int} (hl:B.length=B'.length) (ht:B.take (3+9 * (B.getD 1 0).toNat)=B'.take (3+9 * (B.getD 1 0).toNat)) (lines:Int):ie B lines=ie B' lines:=by
 have hg:∀ i,i<3+9 * (B.getD 1 0).toNat→B.getD i 0=B'.getD i 0:=λi hi=>by
  have h1:(B.take (3+9 * (B.getD 1 0).toNat))[i]?=B[i]?:=List.getElem?_take_of_lt hi
  have h2:(B'.take (3+9 * (B.getD 1 0).toNat))[i]?=B'[i]?:=List.getElem?_take_of_lt hi
  rw [List.getD_eq_getElem?_getD,List.getD_eq_getElem?_getD,←h1,←h2,ht]
 have h0:=hg 0 (by omega)
 have h1:=hg 1 (by omega)
 have hp:pgsM B=pgsM B':=by
  unfold pgsM
  rw [←h1]
  refine List.map_congr_left λi hi=>?_
  have hi:=List.mem_range.1 hi
  unfold pgAt
  rw [hg (2+9 * i) (by omega),hg (3+9 * i) (by omega),hg (4+9 * i) (by omega),hg (5+9 * i) (by omega),hg (6+9 * i) (by omega),hg (7+9 * i) (by omega),hg (8+9 * i) (by omega),hg (9+9 * i) (by omega),hg (10+9 * i) (by omega)]
 have hs:jK B=jK B':=by unfold jK;rw [hl,h0,h1]
 have hq:(∀ i,i<(B.getD 1 0).toNat→B.getD (2+9 * i) 0<256)=(∀ i,i<(B'.getD 1 0).toNat→B'.getD (2+9 * i) 0<256):=by
  apply propext
  rw [←h1]
  constructor
  ·intro h i hi
   rw [←hg (2+9 * i) (by omega)]
   exact h i hi
  ·intro h i hi
   rw [hg (2+9 * i) (by omega)]
   exact h i hi
 have hz:sS B lines=sS B' lines:=by unfold sS;rw [←h1,ht,h0,hp]
 unfold ie
 simp only [hs,hq,hz,h0,hp]
structure RecP (P:List Int) (W:List aD):Prop where
 small:P.length≤112
 cnt:P.length=3+9 * (P.getD 1 0).toNat
 parse:ie (P++List.replicate (112 - P.length) 0) 100=(0,3,W)
theorem RecP.of {P:List Int} {W:List aD} (h:RecP P W) {B:List Int} (hl:B.length=112) (ht:B.take P.length=P):ie B 100=(0,3,W):=by
 have hs:=h.small
 have hc:=h.cnt
 have h1:B.getD 1 0=P.getD 1 0:=by
  have e:P[1]?=B[1]?:=by rw [←ht];exact List.getElem?_take_of_lt (by omega)
  rw [List.getD_eq_getElem?_getD,List.getD_eq_getElem?_getD,e]
 rw [←h.parse]
 refine Dc (by rw [hl];simp;omega) ?_ 100
 rw [h1,←hc,ht,List.take_left]
theorem GD {x:aV} (hn:x.n=800) {c:Nat} (hc:c<6):lM x.s c=segT x (48+120 * c) 120:=by
 unfold lM
 rw [aV.read_s]
 unfold aV.read segT
 have h1:min (Int.toNat 120) (x.n - Int.toNat ((48+120 * c:Nat):Int))=120:=by
  rw [hn,Int.toNat_natCast]
  omega
 rw [h1,Int.toNat_natCast]
theorem Dd {x:aV} (hn:x.n=800) {c:Nat} (hc:c<6) {P:List Int} {W:List aD} (hP:RecP P W) (h:yM c P x=true):ln (lM x.s c) 100=(true,3,W):=by
 have hs:=hP.small
 have hd:((lM x.s c).drop 8).length=112:=by rw [GD hn hc];simp [segT]
 have ht:((lM x.s c).drop 8).take P.length=P:=by
  have h2:segT x (56+120 * c) P.length=P:=by simpa [yM] using h
  refine Eq.trans ?_ h2
  rw [GD hn hc]
  apply List.ext_getElem?
  intro i
  unfold segT
  rw [List.getElem?_map]
  by_cases hi:i<P.length
  ·rw [List.getElem?_take_of_lt hi,List.getElem?_drop,List.getElem?_map,List.getElem?_range hi,List.getElem?_range (by omega)]
   simp only [Option.map_some]
   congr 2
   omega
  ·rw [List.getElem?_eq_none (by simp;omega),List.getElem?_eq_none (by simp;omega)]
   rfl
 unfold ln
 rw [hP.of hd ht]
 rfl
theorem IU:(14:Int)=ED 3:=by kernel_rfl
theorem HF {x:aV} (hn:x.n=800) {c:Nat} (hc:c<6) {P:List Int} {W:List aD} (hP:RecP P W) (h:yM c P x=true) (hm:GC c x=true):cD (lM x.s c) 100=(true,3,W):=by
 have hw:=Dd hn hc hP h
 unfold cD
 rw [hw]
 have h0:(lM x.s c).getD 0 0=14:=by
  have h2:x.get (48+120 * c)=14:=by simpa [GC] using hm
  rw [GD hn hc]
  unfold aV.get at h2
  rw [if_pos (by omega)] at h2
  simpa [segT] using h2
 rw [h0]
 exact if_pos ⟨rfl,IU⟩
theorem zD {W:List aD} {x:aV} (h:0<iu W x.s):newT W x=true:=by
 unfold iu at h
 obtain ⟨q,hq⟩:=List.exists_mem_of_length_pos h
 obtain ⟨h1,h2⟩:=List.mem_filter.1 hq
 unfold newT
 rw [List.any_eq_true]
 exact ⟨q,h1,by rw [←sR];exact h2⟩
theorem EN {W:List aD} {x:aV} (h:0<jd W x.s):GB W x=true:=by
 unfold jd at h
 obtain ⟨q,hq⟩:=List.exists_mem_of_length_pos h
 obtain ⟨h1,h2⟩:=List.mem_filter.1 hq
 unfold GB
 rw [List.any_eq_true]
 exact ⟨q,h1,by rw [←sR];exact h2⟩
theorem wD {W:List aD} {x:aV} (h:vF W x=true):iu W x.s=W.length:=by
 unfold vF at h
 rw [List.all_eq_true] at h
 unfold iu
 rw [List.filter_eq_self.2]
 intro q hq
 have:=h q hq
 rw [←sR] at this
 exact this
theorem De {c:Nat} (hc:c<6) {W:List aD} {P:List Int} (hP:RecP P W) {ts:List (List aV)} (h:ordT c W P ts=true) {ns:List aP} (hm:∀ (j:Nat) (n':aP),ns[j]?=some n'→∃ t y,ts[j]?=some t∧y ∈ t∧y.Ok∧n'=y.s):OrdP c 100 3 W ns:=by
 unfold ordT at h
 simp only [Bool.and_eq_true,Bool.or_eq_true,Bool.not_eq_true'] at h
 obtain ⟨h1,h2,h3,h4⟩:=h
 have hone:∀ (j:Nat) (n':aP),ns[j]?=some n'→∃ t y,ts[j]?=some t∧y ∈ t∧n'=y.s∧oneT c j W y=true:=λj n' hn=>by
  obtain ⟨t,y,g1,g2,_,g4⟩:=hm j n' hn
  have:=As h1 j t g1 y g2
  rw [Nat.zero_add] at this
  exact ⟨t,y,g1,g2,g4,this⟩
 have hmem:∀ n' ∈ ns,∃ j t y,ns[j]?=some n'∧ts[j]?=some t∧y ∈ t∧n'=y.s∧oneT c j W y=true:=λn' hn=>by
  obtain ⟨j,hj⟩:=List.mem_iff_getElem?.1 hn
  obtain ⟨t,y,g⟩:=hone j n' hj
  exact ⟨j,t,y,hj,g⟩
 have hparts:∀ {j:Nat} {y:aV},oneT c j W y=true→y.down=false∧y.n=800∧pgsT c j W y=true∧(y.get (32+c)=0∨y.get (32+c)=3∧(j=0∨vF W y=true))∧(j≠0∨newT W y=false∨y.get (32+c)≠0):=λ{j y} g=>by
  unfold oneT at g
  simpa [and_assoc] using g
 have hclk:∀ y:aV,wy c y.s=y.get (32+c):=λy=>aV.s_get y (32+c)
 refine ⟨λx hx=>?_,λi x hx q hq=>?_,λ⟨x,hx,hpos⟩ y hy=>?_,λ⟨x,hx,hpos⟩ y hy=>?_,λx hx=>?_,λi x x0 hx hx0 hi hor=>?_,λx0 hx0 hpos=>?_⟩
 ·obtain ⟨j,t,y,_,_,_,rfl,ho⟩:=hmem x hx
  exact (hparts ho).1
 ·obtain ⟨t,y,_,_,rfl,ho⟩:=hone i x hx
  have:=(hparts ho).2.2.1
  unfold pgsT at this
  rw [List.all_eq_true] at this
  have:=this q hq
  unfold ul
  rw [sR]
  exact this
 ·obtain ⟨j,t,z,_,g1,g2,rfl,ho⟩:=hmem x hx
  obtain ⟨j2,t2,z2,_,k1,k2,rfl,ho2⟩:=hmem y hy
  have hl:=EN hpos
  rcases h2 with h2 | h2
  ·exfalso
   rw [List.any_eq_false] at h2
   exact h2 t (List.mem_of_getElem? g1) (List.any_eq_true.2 ⟨z,g2,hl⟩)
  ·rw [List.all_eq_true] at h2
   have:=h2 t2 (List.mem_of_getElem? k1)
   rw [List.all_eq_true] at this
   exact Dd (hparts ho2).2.1 hc hP (this z2 k2)
 ·obtain ⟨j,t,z,_,g1,g2,rfl,ho⟩:=hmem x hx
  obtain ⟨j2,t2,z2,_,k1,k2,rfl,ho2⟩:=hmem y hy
  have hl:=zD hpos
  rcases h3 with h3 | h3
  ·exfalso
   rw [List.any_eq_false] at h3
   exact h3 t (List.mem_of_getElem? g1) (List.any_eq_true.2 ⟨z,g2,hl⟩)
  ·rw [List.all_eq_true] at h3
   have:=h3 t2 (List.mem_of_getElem? k1)
   rw [List.all_eq_true] at this
   have:=this z2 k2
   rw [Bool.and_eq_true] at this
   exact HF (hparts ho2).2.1 hc hP this.1 this.2
 ·obtain ⟨j,t,z,_,g1,g2,rfl,ho⟩:=hmem x hx
  rw [hclk]
  exact (hparts ho).2.2.2.1.imp id λe=>e.1
 ·obtain ⟨t,y,g1,g2,rfl,ho⟩:=hone i x hx
  obtain ⟨t0,y0,k1,k2,rfl,ho0⟩:=hone 0 x0 hx0
  rw [hclk] at hor
  rcases hor with hor | hor
  ·have hl:=zD hor
   rcases h4 with h4 | h4
   ·exfalso
    rw [List.any_eq_false] at h4
    have hm0:t0 ∈ ts.take 1:=List.mem_of_getElem? (i:=0) (by rw [List.getElem?_take_of_lt (by omega)];exact k1)
    exact h4 t0 hm0 (List.any_eq_true.2 ⟨y0,k2,hl⟩)
   ·rw [List.all_eq_true] at h4
    have hmi:t ∈ ts.drop 1:=List.mem_of_getElem? (i:=i - 1) (by rw [List.getElem?_drop,show 1+(i - 1)=i by omega];exact g1)
    have:=h4 t hmi
    rw [List.all_eq_true] at this
    exact wD (this y g2)
  ·rcases (hparts ho).2.2.2.1 with e | ⟨_,e | e⟩
   ·exact absurd e hor
   ·omega
   ·exact wD e
 ·obtain ⟨t0,y0,k1,k2,rfl,ho0⟩:=hone 0 x0 hx0
  rw [hclk]
  rcases (hparts ho0).2.2.2.2 with e | e | e
  ·exact absurd rfl e
  ·rw [zD hpos] at e;cases e
  ·exact e
def Au (c:Nat) (W:List aD) (P:List Int) (finB:St conv→Bool):Nat→Nat→St conv→Bool
 | 0,_,_=>false
 |f+1,N,s=>(match xq c (s.1,s.2.1) with | none=>false | some ts=>ordT c W P ts) && match vz c 400 (s.1,s.2.1) with
  |none=>false
  |some (0,_)=>finB (xo s)
  |some (k+1,sf)=>decide (k+1≤N) && Au c W P finB f (N - (k+1)) (xo (sf.1,sf.2,s.2.2))
theorem yN {c:Nat} (hc:c<6) {W:List aD} {P:List Int} (hP:RecP P W) {finB:St conv→Bool} {fin:Fab×Tk conv→Prop} (hfin:∀ x:St conv,finB x=true→fin (toP x)) :
  ∀ {f N:Nat} {s:St conv},OkP c (toP s)→OkT s→Au c W P finB f N s=true→∃ M,M≤N∧OrdB (OrdP c 100 3 W) fin c M (toP s)
 | 0,N,s,hok,hs,h=>by cases h
 |f+1,N,s,hok,hs,h=>by
  unfold Au at h
  rw [Bool.and_eq_true] at h
  obtain ⟨h1,h2⟩:=h
  have hR:OkR (s.1,s.2.1):=⟨hs.ok,hs.len⟩
  have hf:Fine (toF (s.1,s.2.1)):=hok.fine
  have hal:AllL (OrdP c 100 3 W) c (toP s).1:=by
   intro F' hr
   cases ht:xq c (s.1,s.2.1) with
   |none=>rw [ht] at h1;cases h1
   |some ts=>
    rw [ht] at h1
    exact De hc hP h1 (Db hf hR ht hr).2
  cases hx:vz c 400 (s.1,s.2.1) with
  |none=>rw [hx] at h2;cases h2
  |some x=>
   obtain ⟨k,sf⟩:=x
   rw [hx] at h2
   obtain ⟨g1,g2,g3⟩:=yI hf hR hx
   cases k with
   |zero=>
    simp only at h2
    refine ⟨0,by omega,.last hal (Da g1) ?_⟩
    have e:turn (toP s).1 (toP s).2=toP (xo s):=((xp hs).1).symm
    rw [e]
    exact hfin _ h2
   |succ k=>
    simp only [Bool.and_eq_true,decide_eq_true_eq] at h2
    obtain ⟨h3,h4⟩:=h2
    have hs':OkT (sf.1,sf.2,s.2.2):=⟨g3.ok,g3.len⟩
    obtain ⟨e1,e2⟩:=xp hs'
    have hsolo:Solo c (toF sf):=by
     have:∀ {k:Nat} {F Ff:Fab},Norm (stepL c) k F Ff→Solo c F→Solo c Ff:=λhn=>by
      induction hn with
      |nil _=>exact id
      |cons i h1 _ ih=>exact λh=>ih (h.step h1)
     exact this g1 hok.solo
    have hokf:OkP c (toP (sf.1,sf.2,s.2.2)):=⟨g2,hsolo,hok.cl⟩
    have hokt:OkP c (toP (xo (sf.1,sf.2,s.2.2))):=by rw [e1];exact hokf.turn
    obtain ⟨M,hM,ho⟩:=yN hc hP hfin hokt e2 h4
    rw [e1] at ho
    exact ⟨M+k+1,by omega,.more hal g1 ho⟩
end Go.Proofs.YtegepanmkjemjaaGreat
namespace Go.Proofs.YtegepanmkjemjaaGreat
open Go.Eng C12
def pgB (p q:aD):Bool:=p.Line == q.Line && (p.Head == q.Head && pgD p == pgD q)
theorem HG {p q:aD} (h:pgB p q=true):p=q:=by
 obtain ⟨a0,a1,a2,a3,a4,a5,a6,a7,a8⟩:=p
 obtain ⟨b0,b1,b2,b3,b4,b5,b6,b7,b8⟩:=q
 simpa [pgB,pgD,and_assoc] using h
def pgsB:List aD→List aD→Bool
 | [],[]=>true
 |p::ps,q::qs=>pgB p q && pgsB ps qs
 | _,_=>false
theorem Df:∀ {l m:List aD},pgsB l m=true→l=m
 | [],[],_=>rfl
 |p::ps,q::qs,h=>by
  unfold pgsB at h
  rw [Bool.and_eq_true] at h
  rw [HG h.1,Df h.2]
 | [],_::_,h=>by cases h
 | _::_,[],h=>by cases h
def recB (r:Int×Int×List aD) (W:List aD):Bool:=r.1 == 0 && (r.2.1 == 3 && pgsB r.2.2 W)
theorem GE {r:Int×Int×List aD} {W:List aD} (h:recB r W=true):r=(0,3,W):=by
 obtain ⟨a,b,l⟩:=r
 simp only [recB,Bool.and_eq_true,beq_iff_eq] at h
 rw [h.1,h.2.1,Df h.2.2]
def stW (n c y:Nat):List aD:=cws c (oh (Fab.fresh n 6 100) 0) (dI y)
def stWT (n c y:Nat):List aD:=cwsT c (Gl (lm n 100) 0) (dI y)
theorem HH (n c y:Nat):stW n c y=stWT n c y:=by
 unfold stW stWT
 rw [←yB (n:=n) (lines:=100) (by omega),CU,Gm]
def stT (n c y:Nat):Tk conv:=tH c 3 100 n [] (stW n c y)
def finS (s:St conv):Bool:=s.2.2.over && s.2.2.out.1 == 0
def stA (n c y:Nat):Bool:=
 let W:=stWT n c y
 let P:=Bp 3 W
 decide (P.length≤112) && (decide (P.length=3+9 * (P.getD 1 0).toNat) && (recB (ie (P++List.replicate (112 - P.length) 0) 100) W &&
  (ordT c W P ((lm n 100).map λx=>[x]) &&
  Au c W P finS 40 1000 (xo (lm n 100,Fab.fresh n 6 100,tH c 3 100 n [] W)))))
def EndS (E:Fab×Tk conv):Prop:=E.2.over=true∧E.2.out.1=0
theorem zE {n c:Nat} (hn:1≤n∧n≤4) (hc:c<6):(Fab.fresh n 6 100).alive (c:Int)=true:=by
 obtain rfl | rfl | rfl | rfl:n=1∨n=2∨n=3∨n=4:=by omega
 all_goals
  obtain rfl | rfl | rfl | rfl | rfl | rfl:c=0∨c=1∨c=2∨c=3∨c=4∨c=5:=by omega
  all_goals rfl
theorem zF {n:Nat} (hn:1≤n∧n≤4):vq (Fab.fresh n 6 100)=true:=by
 obtain rfl | rfl | rfl | rfl:n=1∨n=2∨n=3∨n=4:=by omega
 all_goals rfl
theorem Bv {F:Fab} (h:vq F=true) (c j:Nat):stepL c j F=none:=by
 cases hs:stepL c j F with
 |none=>rfl
 |some F'=>
  exfalso
  obtain ⟨C,l,n,hC,hl,hn,hv,_⟩:=eB.1 hs
  simp only [vq,Bool.and_eq_true,List.isEmpty_iff,List.all_eq_true,decide_eq_true_eq] at h
  have:=((h.2 C (List.mem_of_getElem? hC)).2 l (List.mem_of_getElem? hl)).1
  rw [this] at hv
  exact hv rfl
theorem IV {n c y:Nat} (hn:1≤n∧n≤4) (hc:c<6) (h:stA n c y=true) (sch:List Int) (die:Int):mZ (OrdQ c 100 (stW n c y)) sch die (EndW c EndS) 2000 0 (Fab.fresh n 6 100) (stT n c y):=by
 unfold stT
 rw [HH]
 unfold stA at h
 simp only [Bool.and_eq_true,decide_eq_true_eq] at h
 obtain ⟨h1,h2,h3,h4,h5⟩:=h
 generalize stWT n c y=W at *
 have hP:RecP (Bp 3 W) W:=⟨h1,h2,GE h3⟩
 have hf:Fine (Fab.fresh n 6 100):=Fine.fresh (by omega) (by omega) (by omega)
 have hq:=zF hn
 have hrep:=yB (n:=n) (lines:=100) (by omega)
 have hok:OkP c (Fab.fresh n 6 100,tH c 3 100 n [] W):=⟨hf,CK hq c,rfl⟩
 have hs:OkT (lm n 100,Fab.fresh n 6 100,tH c 3 100 n [] W):=⟨yC (by omega),wx n 100⟩
 obtain ⟨e1,e2⟩:=xp hs
 have e0:toP (lm n 100,Fab.fresh n 6 100,tH c 3 100 n [] W)=(Fab.fresh n 6 100,tH c 3 100 n [] W):=by unfold toP;rw [hrep]
 rw [e0] at e1
 have hokt:OkP c (toP (xo (lm n 100,Fab.fresh n 6 100,tH c 3 100 n [] W))):=by rw [e1];exact hok.turn
 obtain ⟨M,hM,ho⟩:=yN (fin:=EndS) hc hP (λx hx=>by
  simp only [finS,Bool.and_eq_true,beq_iff_eq] at hx
  exact hx) hokt e2 h5
 rw [e1] at ho
 have hnodes:(Fab.fresh n 6 100).nodes=(lm n 100).map aV.s:=by
  have:(rep (lm n 100) (Fab.fresh n 6 100)).nodes=(lm n 100).map aV.s:=rfl
  rw [←this,hrep]
 refine zC hok (Bv hq c) ?_ ho (by omega) (zE hn hc) (by rw [wx];simp [lm];omega) rfl
 refine De hc hP h4 λj n' hj=>?_
 rw [hnodes,List.getElem?_map] at hj
 cases hx:(lm n 100)[j]? with
 |none=>rw [hx] at hj;cases hj
 |some x=>
  rw [hx] at hj
  cases hj
  exact ⟨[x],x,by simp [hx],List.mem_singleton_self _,yC (by omega) x (List.mem_of_getElem? hx),rfl⟩
def zG:Prop:=∀ n c y:Nat,1≤n∧n≤4→c<6→y<14→stA n c y=true
theorem gO {n c y:Nat} (h0:((List.range 7).all λq=>stA n c (0+q))=true) (h7:((List.range 7).all λq=>stA n c (7+q))=true) (hy:y<14):stA n c y=true:=by
 simp only [List.all_eq_true,List.mem_range] at h0 h7
 by_cases h:y<7
 ·have:=h0 y h
  rwa [Nat.zero_add] at this
 ·have:=h7 (y - 7) (by omega)
  rwa [show 7+(y - 7)=y by omega] at this
end Go.Proofs.YtegepanmkjemjaaGreat
namespace Go.Proofs.YtegepanmkjemjaaGreat
open Go.Proofs.Tryz
open Go.Eng IntKind
variable (w:World) (R:Value→World→Prop)
theorem mQ (p0 p1 p2:Int) (p3:Option Addr) (a b:Nat) (p4:Int):fnW prog f8 [.int .i64 p0,.int .i64 p1,.int .i64 p2,.slice p3 a b,.int .i64 p4] R w=((bif (decide (((a:Nat):Int)>200)) then (R (.bool true) w) else (Calls prog 11 #[.int .i64 p0,.int .i64 4] w λe w1=>∃ (c:Int),e=.returned (.int .i64 c)∧Calls prog 12 #[.int .i64 (i64.wrap (c+1)),.int .i64 2] w1 λe w2=>∃ (d:Option Addr) (g:Bool),e=.returned (.tuple #[.pointer d,.bool g])∧(bif (!g) then (R (.bool false) w2) else (Calls prog 13 #[] w2 λe w3=>∃ (h:Bool),e=.returned (.bool h)∧(bif (!h) then (R (.bool false) w3) else (Calls prog 11 #[.int .i64 p1,.int .i64 6] w3 λe w4=>∃ (i:Int),e=.returned (.int .i64 i)∧Calls prog 22 #[.int .i64 p2] w4 λe w5=>∃ (k:Option Addr) (l m:Nat),e=.returned (.slice k l m)∧Calls prog 21 #[.pointer d,.int .i64 i,.int .i64 3,.slice k l m] w5 λe w6=>aC.ex λak=>∃ (n:Bool),e=.returned (.tuple #[ak.val,.bool n])∧∀ b1 w7,b1=w6.heap.size→w7=w6.alloc (.cells #[.int .i64 0,.int .i64 0,.int .i64 0,.int .i64 0,.int .i64 0,.int .i64 0,.int .i64 0,.int .u64 0,.int .i64 0,.int .i64 0,.int .i64 0,.int .i64 0,.slice none 0 0,.slice none 0 0,.slice none 0 0,.slice none 0 0,.bool false,.bool false,.int .i64 0,.int .i64 0,.slice none 0 0,.int .i64 0,.slice none 0 0,.int .u64 0,.int .i64 0] 49)→wrAt w7 ⟨b1,0,none⟩ 0 ak.cells∧∀ w8,w8=puts w7 ⟨b1,0,none⟩ 0 ak.cells→(bif (!n) then (R (.bool false) w8) else (∀ w9,w9=w8.drew→∃ Sx:World→Prop,Sx w9∧nilP d λal=>∃ (f:Option Addr),(∀ u,Sx u→u.cell? al=some (.pointer f))∧aC.ex λr=>(∀ u,Sx u→aF u ⟨b1,0,none⟩ 0 r.cells)∧aM.ex λam=>(∀ u,Sx u→aF u ⟨b1,8,none⟩ 0 am.cells)∧(∀ b2 an,b2=w9.heap.size→an=w9.alloc (.cells r.cells.toArray 49)→Sx an∧Calls prog 11 #[.int .i64 p4,.int .i64 90] an λe ao=>∃ (o:Int),e=.returned (.int .i64 o)∧Sx ao∧Calls prog 28 #[.pointer f,.slice (some ⟨b2,0,none⟩) 1 1,am.val,.slice p3 a b,.int .i64 (i64.wrap (o - 30)),.int .i64 2000] ao λe ap=>∃ (p:Option Addr) (q s:Nat) (t:Bool),e=.returned (.tuple #[.slice p q s,.bool t])∧Sx ap∧∀ aq,aq=ap.drew→∃ Sx1:World→Prop,Sx1 aq∧(bif t then (nilP d λar=>∃ (f1:Option Addr),(∀ u,Sx1 u→u.cell? ar=some (.pointer f1))∧∃ v,(∀ u,Sx1 u→u.cell? ⟨b1,1,none⟩=some (.int .i64 v))∧Calls prog 29 #[.pointer f1,.int .i64 v] aq λe au=>∃ (x:Bool),e=.returned (.bool x)∧Sx1 au∧(bif (!x) then (R (.bool true) au) else (idxS p q 0 25 λad=>∃ y,(∀ u,Sx1 u→u.cell? ⟨ad.block,ad.off+16,none⟩=some (.bool y))∧(bif y then (idxS p q 0 25 λav=>∃ z,(∀ u,Sx1 u→u.cell? ⟨av.block,av.off+18,none⟩=some (.int .i64 z))∧R (.bool ((z:Int) == 0)) au) else (R (.bool false) au))))) else (R (.bool false) aq)))∧(Calls prog 11 #[.int .i64 p4,.int .i64 90] w9 λe aw=>∃ (aa:Int),e=.returned (.int .i64 aa)∧Sx aw∧∀ b3 ax,b3=aw.heap.size→ax=aw.alloc (.cells r.cells.toArray 49)→Sx ax∧Calls prog 28 #[.pointer f,.slice (some ⟨b3,0,none⟩) 1 1,am.val,.slice p3 a b,.int .i64 (i64.wrap (aa - 30)),.int .i64 2000] ax λe ay=>∃ (ab:Option Addr) (ac ae:Nat) (af:Bool),e=.returned (.tuple #[.slice ab ac ae,.bool af])∧Sx ay∧∀ az,az=ay.drew→∃ Sx2:World→Prop,Sx2 az∧(bif af then (nilP d λa0=>∃ (f2:Option Addr),(∀ u,Sx2 u→u.cell? a0=some (.pointer f2))∧∃ ag,(∀ u,Sx2 u→u.cell? ⟨b1,1,none⟩=some (.int .i64 ag))∧Calls prog 29 #[.pointer f2,.int .i64 ag] az λe a1=>∃ (ah:Bool),e=.returned (.bool ah)∧Sx2 a1∧(bif (!ah) then (R (.bool true) a1) else (idxS ab ac 0 25 λa2=>∃ ai,(∀ u,Sx2 u→u.cell? ⟨a2.block,a2.off+16,none⟩=some (.bool ai))∧(bif ai then (idxS ab ac 0 25 λa3=>∃ aj,(∀ u,Sx2 u→u.cell? ⟨a3.block,a3.off+18,none⟩=some (.int .i64 aj))∧R (.bool ((aj:Int) == 0)) a1) else (R (.bool false) a1))))) else (R (.bool false) az)))))))))))):=by kernel_rfl
end Go.Proofs.YtegepanmkjemjaaGreat
