import Derived.Test.YtegepanmkjemjaaGreatt18
import Derived.Test.YtegepanmkjemjaaGreatProg
import Derived.Test.YtegepanmkjemjaaGreatt03
import Derived.Test.YtegepanmkjemjaaGreatt02
set_option linter.unusedVariables false
namespace Go.Proofs.YtegepanmkjemjaaGreat
open Go.Eng
theorem sD (F:Fab) (c:Nat):F.cl (c:Int)=F.clients[c]?:=by
 unfold Fab.cl
 rw [if_neg (by omega)]
 simp
theorem q6:∀ (vs:List Verb) (C:Comp) (k:Nat),(C.postFrom k vs).lanes.length=C.lanes.length
 | [],C,k=>rfl
 |v::vs,C,k=>by
  rw [sh,q6 vs]
  simp [Comp.postOne]
theorem Solo.setC {c:Nat} {F:Fab} (h:Solo c F) {C':Comp} (ha:rq C') (hl:C'.lanes.length≤F.nodes.length):Solo c (F.setC (c:Int) C'):=by
 unfold Fab.setC
 rw [Int.toNat_natCast]
 refine ⟨h.orph,λi C hi hC=>?_,λC hC=>?_,λC hC=>?_⟩
 ·simp only [List.getElem?_set_ne (λe=>hi e.symm)] at hC
  exact h.idle i C hi hC
 ·have hlt:c<F.clients.length:=by
   have:=aU hC
   simpa using this
  simp only [List.getElem?_set_self hlt] at hC
  cases hC
  exact ha
 ·have hlt:c<F.clients.length:=by
   have:=aU hC
   simpa using this
  simp only [List.getElem?_set_self hlt] at hC
  cases hC
  exact hl
def Cq (c:Nat) (F:Fab):Prop:=∀ C,F.clients[c]?=some C→∀ l ∈ C.lanes,l.pair.verbs=[]
theorem Solo.post {c:Nat} {F:Fab} (h:Solo c F) (hq:Cq c F) (vs:List Verb):Solo c (F.post (c:Int) vs).2:=by
 unfold Fab.post
 rw [sD]
 cases hC:F.clients[c]? with
 |none=>exact h
 |some C=>
  simp only
  split
  ·exact h
  split
  ·exact h
  split
  ·exact h
  split
  ·exact h
  split
  ·exact h
  have hap:=h.apart C hC
  have hbl:Below C 0:=λi l hl q hqq=>by
   have h1:=hap.len i l hl
   rw [hq C hC l (List.mem_of_getElem? hl)] at h1
   rw [List.eq_nil_of_length_eq_zero h1] at hqq
   cases hqq
  have hap':=rq.postFrom vs hap hbl
  exact h.setC (C':=C.posted' vs) (zY hap' rfl) (by show (C.postFrom 0 vs).lanes.length≤_;rw [q6];exact h.lanes C hC)
theorem Solo.take {c:Nat} {F:Fab} (h:Solo c F):Solo c (F.take (c:Int)).2∧(Cq c F→Cq c (F.take (c:Int)).2):=by
 unfold Fab.take
 rw [sD]
 cases hC:F.clients[c]? with
 |none=>exact ⟨h,id⟩
 |some C=>
  simp only
  split
  ·exact ⟨h,id⟩
  cases hb:C.batch with
  |none=>exact ⟨h,id⟩
  |some ds=>
   simp only
   split
   ·exact ⟨h,id⟩
   refine ⟨h.setC (C':={ C with batch:=none }) (zY (h.apart C hC) rfl) (h.lanes C hC),λhq C' hC'=>?_⟩
   unfold Fab.setC at hC'
   rw [Int.toNat_natCast] at hC'
   simp only [List.getElem?_set_self (aU hC)] at hC'
   cases hC'
   exact hq C hC
theorem DV {F:Fab} (hf:Fine F) {c:Nat} (h:¬ 0<F.waiting (c:Int)):Cq c F:=by
 intro C hC l hl
 have hw:=(hf.good.ok.client c C hC).waiting
 unfold Fab.waiting at h
 rw [sD,hC] at h
 have h:¬ 0<C.waiting:=h
 exact sy (by omega) l hl
theorem Solo.tail {cv:Conv} {c:Nat} {F:Fab} {t:Tk cv} (h:Solo c F) (hq:Cq c F) (hc:t.client=(c:Int)):Solo c (tB F t).1:=by
 unfold tB
 rw [hc]
 split
 ·exact h
 split
 ·exact h
 split
 ·exact h.post hq _
 ·exact h.post hq _
theorem Solo.turn {cv:Conv} {c:Nat} {F:Fab} {t:Tk cv} (h:Solo c F) (hf:Fine F) (hc:t.client=(c:Int)):Solo c (turn F t).1:=by
 unfold Go.Proofs.YtegepanmkjemjaaGreat.turn
 rw [hc]
 split
 ·exact h
 ·rename_i hn
  have hq:=DV hf (c:=c) λe=>hn (.inr (.inr e))
  refine Solo.tail h.take.1 (h.take.2 hq) ?_
  cases (F.take (c:Int)).1<;>exact hc
theorem zi {cv:Conv} {F:Fab} {t:Tk cv}:(turn F t).2.client=t.client:=by
 unfold Go.Proofs.YtegepanmkjemjaaGreat.turn
 split
 ·rfl
 ·unfold tB
  split
  ·cases (F.take t.client).1<;>rfl
  split
  ·cases (F.take t.client).1<;>rfl
  split
  ·cases (F.take t.client).1<;>rfl
  ·cases (F.take t.client).1<;>rfl
theorem Solo.step {c j:Nat} {F F':Fab} (h:Solo c F) (hs:stepL c j F=some F'):Solo c F':=by
 have hap:=(sC c).keep h.apart hs
 obtain ⟨C,l,n,hC,hl,hn,hv,rfl⟩:=eB.1 hs
 refine ⟨h.orph,λi C' hi hC'=>?_,hap,λC' hC'=>?_⟩
 ·simp only [List.getElem?_set_ne (λe=>hi e.symm)] at hC'
  exact h.idle i C' hi hC'
 ·simp only [List.getElem?_set_self (aU hC)] at hC'
  cases hC'
  have h1:=h.lanes C hC
  simp only [List.length_set]
  cases (l.pair.step n).2.2<;>simp [Comp.comes]<;>exact h1
end Go.Proofs.YtegepanmkjemjaaGreat
namespace Go.Proofs.YtegepanmkjemjaaGreat
open Go.Eng
section
variable {cv:Conv}
def iR (c j:Nat) (s:Fab×Tk cv):Option (Fab×Tk cv):=(stepL c j s.1).map λF'=>turn F' s.2
structure OkP (c:Nat) (s:Fab×Tk cv):Prop where
 fine:Fine s.1
 solo:Solo c s.1
 cl:s.2.client=(c:Int)
theorem Fine.stepL {F F':Fab} (h:Fine F) {c j:Nat} (hs:stepL c j F=some F'):Fine F':=by
 have h1:=h.step ⟨-1,c,j⟩
 rw [wm hs] at h1
 exact h1
theorem kq {c j:Nat} {s s':Fab×Tk cv}:iR c j s=some s'↔∃ F',stepL c j s.1=some F'∧s'=turn F' s.2:=by
 unfold iR
 cases h:stepL c j s.1 with
 |none=>simp
 |some F'=>simp [eq_comm]
theorem OkP.turn {c:Nat} {F:Fab} {t:Tk cv} (h:OkP c (F,t)):OkP c (turn F t):=
 ⟨h.fine.turn t,h.solo.turn h.fine h.cl,by rw [zi];exact h.cl⟩
theorem OkP.stepL {c j:Nat} {F F':Fab} {t:Tk cv} (h:OkP c (F,t)) (hs:stepL c j F=some F'):OkP c (F',t):=⟨h.fine.stepL hs,h.solo.step hs,h.cl⟩
theorem sE (c:Nat):zg (iR (cv:=cv) c) (OkP c):=by
 refine ⟨λ{i s s1} hok h=>?_,λ{i j s s1 s2} hok h1 h2=>?_⟩
 ·obtain ⟨F,t⟩:=s
  obtain ⟨F',hs,rfl⟩:=kq.1 h
  exact (hok.stepL hs).turn
 ·obtain ⟨F,t⟩:=s
  obtain ⟨F1,hs1,rfl⟩:=kq.1 h1
  obtain ⟨F2,hs2,rfl⟩:=kq.1 h2
  rcases (sC c).dia hok.solo.apart hs1 hs2 with e | ⟨F3,h3,h4⟩
  ·exact .inl (by rw [e])
  ·have hc:t.client=(c:Int):=hok.cl
   have w1:turn F1 t=(F1,t):=uZ (by rw [hc];exact yT (hok.stepL hs1).fine h3)
   have w2:turn F2 t=(F2,t):=uZ (by rw [hc];exact yT (hok.stepL hs2).fine h4)
   refine .inr ⟨turn F3 t,?_,?_⟩
   ·simp only [w1]
    exact kq.2 ⟨F3,h3,rfl⟩
   ·simp only [w2]
    exact kq.2 ⟨F3,h4,rfl⟩
theorem Cr (F:Fab) (t:Tk cv):turns F [t]=((turn F t).1,[(turn F t).2]):=rfl
theorem tS {c:Nat} (cs sch:List Int):∀ (f n:Nat) {F:Fab} {t:Tk cv} {k:Nat} {e:Fab×Tk cv},OkP c (F,t)→Norm (iR c) k (turn F t) e→k<f→driveGo cs sch [] f n F [t]=(e.1,[e.2])
 | 0,n,F,t,k,e,hok,hn,hk=>by omega
 |f+1,n,F,t,k,e,hok,hn,hk=>by
  have hok1:=hok.turn
  unfold driveGo
  have hh:happens F cs n []=F:=rfl
  rw [hh,Cr]
  rcases hok1.solo.rstep sch n with ⟨h1,h2⟩ | ⟨j,F',h1,h2⟩
  ·rw [h1,if_neg (by simp)]
   cases hn with
   |nil _=>rfl
   |cons i hi _=>
    obtain ⟨F',hs,_⟩:=kq.1 hi
    rw [h2 i] at hs
    cases hs
  ·rw [h2,if_pos rfl]
   obtain ⟨k',rfl,hn'⟩:=hn.after (sE c) hok1 (kq.2 ⟨F',h1,rfl⟩)
   exact tS cs sch f (n+1) (OkP.stepL hok1 h1) hn' (by omega)
theorem Ba {c:Nat} {F:Fab} {t:Tk cv} (hok:OkP c (F,t)) {k:Nat} {e:Fab×Tk cv} (hn:Norm (iR c) k (turn F t) e) (sch:List Int) {most:Nat} (hk:k<most):drive F [t] sch [] most=((turn e.1 e.2).1,[(turn e.1 e.2).2]):=by
 unfold drive
 rw [tS _ sch most 0 hok hn hk]
 rfl
def vd (c:Nat) (s:Fab×Tk cv):Nat→Nat→Option (Fab×Tk cv)
 | 0,_=>none
 |q+1,j=>match iR c j s with
  |some s'=>some s'
  |none=>vd c s q (j+1)
theorem ve {c:Nat} {s s':Fab×Tk cv}:∀ {q j:Nat},vd c s q j=some s'→∃ i,iR c i s=some s'
 | 0,j,h=>by cases h
 |q+1,j,h=>by
  unfold vd at h
  cases hs:iR c j s with
  |some s1=>rw [hs] at h;exact ⟨j,hs.trans h⟩
  |none=>rw [hs] at h;exact ve h
theorem vf {c:Nat} {s:Fab×Tk cv}:∀ {q j:Nat},vd c s q j=none→∀ i,j≤i→i<j+q→iR c i s=none
 | 0,j,h,i,h1,h2=>by omega
 |q+1,j,h,i,h1,h2=>by
  unfold vd at h
  cases hs:iR c j s with
  |some s1=>rw [hs] at h;cases h
  |none=>
   rw [hs] at h
   by_cases e:i=j
   ·rw [e];exact hs
   ·exact vf h i (by omega) (by omega)
def runP (c:Nat):Nat→Fab×Tk cv→Option (Nat×(Fab×Tk cv))
 | 0,_=>none
 |f+1,s=>match vd c s 5 0 with
  |none=>some (0,s)
  |some s'=>(runP c f s').map λx=>(x.1+1,x.2)
theorem yi {c:Nat}:∀ {f:Nat} {s:Fab×Tk cv} {k:Nat} {e:Fab×Tk cv},OkP c s→runP c f s=some (k,e)→Norm (iR c) k s e
 | 0,s,k,e,hok,h=>by cases h
 |f+1,s,k,e,hok,h=>by
  unfold runP at h
  cases hs:vd c s 5 0 with
  |none=>
   rw [hs] at h
   cases h
   refine .nil λi=>?_
   by_cases hi:i<5
   ·exact vf hs i (by omega) (by omega)
   ·cases hx:iR c i s with
    |none=>rfl
    |some s'=>
     obtain ⟨F',h1,_⟩:=kq.1 hx
     obtain ⟨C,l,n,hC,hl,hn,_⟩:=eB.1 h1
     have h2:=aU hn
     have h3:=hok.fine.good.ok.nodes
     omega
  |some s'=>
   rw [hs] at h
   obtain ⟨i,hi⟩:=ve hs
   simp only at h
   cases hr:runP c f s' with
   |none=>rw [hr] at h;cases h
   |some x=>
    rw [hr] at h
    cases h
    exact .cons i hi (yi ((sE c).keep hok hi) hr)
theorem Cs {c:Nat} {F:Fab} {t:Tk cv} (hok:OkP c (F,t)) {f k:Nat} {e:Fab×Tk cv} (hr:runP c f (turn F t)=some (k,e)) (sch:List Int) {most:Nat} (hk:k<most):drive F [t] sch [] most=((turn e.1 e.2).1,[(turn e.1 e.2).2]):=
 Ba hok (yi hok.turn hr) sch hk
end
end Go.Proofs.YtegepanmkjemjaaGreat
namespace Go.Proofs.YtegepanmkjemjaaGreat
open Go.Proofs.Tryz
open Go.Eng IntKind
variable (w:World) (R:Value→World→Prop)
theorem vg (p0:aQ):fnW prog f107 [p0.val] R w=(∀ b1 w1,b1=w.heap.size→w1=w.alloc (.cells p0.cells.toArray 30)→∀ b2 w2,b2=w1.heap.size→w2=w1.alloc (.cells #[(.int .i64 0),(.int .i64 0),(.bool false)] 103)→∃ a b c,w2.cell? ⟨b1,1,none⟩=some (.slice a b c)∧(bif (((b:Nat):Int) == 0) then (wrAt w2 ⟨b2,0,none⟩ 0 [(.int .i64 0),(.int .i64 0),(.bool false)]∧∀ w3,w3=puts w2 ⟨b2,0,none⟩ 0 [(.int .i64 0),(.int .i64 0),(.bool false)]→aH.ex λh=>aF w3 ⟨b2,0,none⟩ 0 h.cells∧w3=w3∧R (.tuple #[h.val,(.bool false)]) w3) else (∃ d f g,w2.cell? ⟨b1,1,none⟩=some (.slice d f g)∧idxS d f 0 3 λad=>aH.ex λr=>aF w2 ad 0 r.cells∧wrAt w2 ⟨b2,0,none⟩ 0 r.cells∧∀ w4,w4=puts w2 ⟨b2,0,none⟩ 0 r.cells→aH.ex λi=>aF w4 ⟨b2,0,none⟩ 0 i.cells∧w4=w4∧R (.tuple #[i.val,(.bool true)]) w4))):=by kernel_rfl
def gT (s1:Int) (s2:Addr) (a:Option Addr) (b c:Nat) (d f:Int) (j:LV):LV:=jq j 0 1 (.int .i64 s1::.pointer (some s2)::jq j 1 25 (.slice a b c::.int .i64 d::.int .i64 f::jq j 26 50 []))
def pU (a:Addr) (j:LV):LV:=jq j 0 2 (.pointer (some a)::jq j 2 78 [])
def iS (s2:Addr) (a:Option Addr) (b c:Nat) (d f:Int) (j:LV):LV:=jq j 0 2 (.pointer (some s2)::jq j 2 59 (.slice a b c::.int .i64 d::.int .i64 f::jq j 61 16 []))
def pV (a:Addr) (j:LV):LV:=jq j 0 2 (.pointer (some a)::jq j 2 78 [])
theorem xg (p0:aQ) (p1:Int):fnW prog f141 [p0.val,.int .i64 p1] R w=(∀ b1 w1,b1=w.heap.size→w1=w.alloc (.cells p0.cells.toArray 30)→Calls prog 171 #[.int .i64 p1] w1 λe w2=>∃ a,e=.returned (.bool a)∧(bif (!a) then (R (.int .i64 1) w2) else (∃ b,w2.cell? ⟨b1,0,none⟩=some (.int .i64 b)∧(bif (decide ((b:Int)<0)) then (R (.int .i64 2) w2) else (∃ c,w2.cell? ⟨b1,0,none⟩=some (.int .i64 c)∧(bif (decide ((c:Int)≥16)) then (R (.int .i64 2) w2) else (∃ d f g,w2.cell? ⟨b1,1,none⟩=some (.slice d f g)∧(bif (((f:Nat):Int) == 0) then (R (.int .i64 1) w2) else (∃ h i k,w2.cell? ⟨b1,1,none⟩=some (.slice h i k)∧bX prog (.loop (sub (aB f141) [1,1,0,1,0,0])) (gT p1 ⟨b1,0,none⟩ h i k (i:Nat) 0 (p0.val::undef::ji 0::uq 4 (jb (!a)::ji p1::jb a::jb (!a)::jb (decide ((c:Int)≥16))::jp ⟨b1,0,none⟩::ji b::jb (decide ((b:Int)<0))::jb false::jp ⟨b1,0,none⟩::ji c::jb (decide ((c:Int)≥16))::jb (decide ((c:Int)≥16))::jb (((f:Nat):Int) == 0)::jp ⟨b1,1,none⟩::js d f g::jn f::jb (((f:Nat):Int) == 0)::jp ⟨b1,1,none⟩::uq 50 []))) (aJ 1 (nx f141 [1,1,1] R)) w2))))))))):=by kernel_rfl
theorem pW (s1:Int) (s2:Addr) (a:Option Addr) (b c:Nat) (d f:Int) (j:LV) (N1:LV→World→Prop):W prog (sub (aB f141) [1,1,0,1,0,0]) (gT s1 s2 a b c d f j) (seqQ N1 (aJ 1 (nx f141 [1,1,1] R))) w=((bif (decide ((f:Int)<d)) then (idxS a b f 3 λad=>aH.ex λr=>aF w ad 0 r.cells∧∀ b1 w1,b1=w.heap.size→w1=w.alloc (.cells #[.int .i64 0,.int .i64 0,.bool false] 103)→wrAt w1 ⟨b1,0,none⟩ 0 r.cells∧∀ w2,w2=puts w1 ⟨b1,0,none⟩ 0 r.cells→∀ w3,w3=w2.drew→∃ Sx:World→Prop,Sx w3∧∃ g,(∀ u,Sx u→u.cell? ⟨b1,0,none⟩=some (.int .i64 g))∧(bif (decide ((g:Int)<0)) then (R (.int .i64 1) w3) else (∃ h,(∀ u,Sx u→u.cell? ⟨b1,0,none⟩=some (.int .i64 h))∧(bif (decide ((h:Int)≥s1)) then (R (.int .i64 1) w3) else ((bif (decide ((f:Int)>0)) then (∃ i,(∀ u,Sx u→u.cell? ⟨b1,0,none⟩=some (.int .i64 i))∧∃ k l m,(∀ u,Sx u→u.cell? ⟨s2.block,s2.off+1,none⟩=some (.slice k l m))∧idxS k l (i64.wrap (f - 1)) 3 λo=>∃ n,(∀ u,Sx u→u.cell? o=some (.int .i64 n))∧(bif (decide ((i:Int)≤n)) then (R (.int .i64 1) w3) else (N1 (gT s1 s2 a b c d (i64.wrap (f+1)) (jg j 0::jg j 1::jg j 2::ji f::jp ⟨b1,0,none⟩::jq j 5 21 (jb (decide ((f:Int)<d))::ji f::jp ad::r.val::jp ⟨b1,0,none⟩::ji g::jb (decide ((g:Int)<0))::jb false::jp ⟨b1,0,none⟩::ji h::ji s1::jb (decide ((h:Int)≥s1))::jb (decide ((h:Int)≥s1))::jb false::ji f::jb (decide ((f:Int)>0))::jb true::jp ⟨b1,0,none⟩::ji i::jf s2 1::js k l m::ji f::ji (i64.wrap (f - 1))::jp o::jp o::ji n::jb (decide ((i:Int)≤n))::jb (decide ((i:Int)≤n))::jb (decide ((i:Int)≤n))::ji (i64.wrap (f+1))::jq j 56 20 []))) w3))) else (N1 (gT s1 s2 a b c d (i64.wrap (f+1)) (jg j 0::jg j 1::jg j 2::ji f::jp ⟨b1,0,none⟩::jq j 5 21 (jb (decide ((f:Int)<d))::ji f::jp ad::r.val::jp ⟨b1,0,none⟩::ji g::jb (decide ((g:Int)<0))::jb false::jp ⟨b1,0,none⟩::ji h::ji s1::jb (decide ((h:Int)≥s1))::jb (decide ((h:Int)≥s1))::jb false::ji f::jb (decide ((f:Int)>0))::jb false::uq 10 (jb false::jb false::ji (i64.wrap (f+1))::jq j 56 20 [])))) w3))))))) else (W prog (sub (aB f141) [1,1,1]) (pU s2 (jg j 0::ji s1::jq j 1 25 (js a b c::ji d::ji f::jb (decide ((f:Int)<d))::jq j 27 49 []))) (retQ prog f141 R) w))):=by kernel_rfl
theorem sF (a:Addr) (j:LV):W prog (sub (aB f141) [1,1,1]) (pU a j) (retQ prog f141 R) w=(∃ b c d,w.cell? ⟨a.block,a.off+1,none⟩=some (.slice b c d)∧bX prog (.loop (sub (aB f141) [1,1,1,0,1,0,0])) (iS a b c d (c:Nat) 0 (jq j 0 60 (jf a 1::jq j 64 16 []))) (aJ 3 (nx f141 [1,1,1,1] R)) w):=by kernel_rfl
theorem pX (s2:Addr) (a:Option Addr) (b c:Nat) (d f:Int) (j:LV) (N2:LV→World→Prop):W prog (sub (aB f141) [1,1,1,0,1,0,0]) (iS s2 a b c d f j) (seqQ N2 (aJ 3 (nx f141 [1,1,1,1] R))) w=((bif (decide ((f:Int)<d)) then (idxS a b f 3 λad=>aH.ex λr=>aF w ad 0 r.cells∧∀ b1 w1,b1=w.heap.size→w1=w.alloc (.cells #[.int .i64 0,.int .i64 0,.bool false] 103)→wrAt w1 ⟨b1,0,none⟩ 0 r.cells∧∀ w2,w2=puts w1 ⟨b1,0,none⟩ 0 r.cells→∃ g,w2.cell? ⟨b1,1,none⟩=some (.int .i64 g)∧(bif (decide ((g:Int)<1)) then (R (.int .i64 2) w2) else (∃ h,w2.cell? ⟨b1,1,none⟩=some (.int .i64 h)∧(bif (decide ((h:Int)>31)) then (R (.int .i64 2) w2) else (N2 (iS s2 a b c d (i64.wrap (f+1)) (jq j 0 7 (jp ⟨b1,0,none⟩::jq j 8 53 (jb (decide ((f:Int)<d))::jp ad::r.val::jp ⟨b1,1,none⟩::ji g::jb (decide ((g:Int)<1))::jb false::jp ⟨b1,1,none⟩::ji h::jb (decide ((h:Int)>31))::jb (decide ((h:Int)>31))::ji (i64.wrap (f+1))::jq j 73 4 [])))) w2))))) else (W prog (sub (aB f141) [1,1,1,1]) (pV s2 (jq j 0 61 (js a b c::ji d::ji f::jb (decide ((f:Int)<d))::jq j 62 15 []))) (retQ prog f141 R) w))):=by kernel_rfl
theorem sG (a:Addr) (j:LV):W prog (sub (aB f141) [1,1,1,1]) (pV a j) (retQ prog f141 R) w=(∃ b c d,w.cell? ⟨a.block,a.off+1,none⟩=some (.slice b c d)∧Calls prog 172 #[.slice b c d,.func (.func 173) #[] #[]] w λe w1=>∃ f,e=.returned (.bool f)∧(bif (!f) then (R (.int .i64 13) w1) else (R (.int .i64 0) w1))):=by kernel_rfl
theorem vh (p0:Int):fnW prog f171 [.int .i64 p0] R w=((bif (decide ((p0:Int)≥1)) then (R (.bool (decide ((p0:Int)≤5))) w) else (R (.bool false) w))):=by kernel_rfl
theorem fV (p0:Option Addr) (a b:Nat) (p1:Value):fnW prog f172 [.slice p0 a b,p1] R w=(Calls prog 195 #[.slice p0 a b,p1] w λe w1=>∃ c,e=.returned (.int .i64 c)∧R (.bool (decide ((c:Int)≥0))) w1):=by kernel_rfl
theorem vU (p0:aH):fnW prog f173 [p0.val] R w=(∀ b1 w1,b1=w.heap.size→w1=w.alloc (.cells p0.cells.toArray 103)→∃ a,w1.cell? ⟨b1,2,none⟩=some (.bool a)∧R (.bool a) w1):=by kernel_rfl
theorem vi (p0:aQ):fnW prog f187 [p0.val] R w=(∀ b1 w1,b1=w.heap.size→w1=w.alloc (.cells p0.cells.toArray 30)→∃ a b c,w1.cell? ⟨b1,1,none⟩=some (.slice a b c)∧(bif (((b:Nat):Int) == 0) then (R (.slice none 0 0) w1) else (∃ d f g,w1.cell? ⟨b1,1,none⟩=some (.slice d f g)∧sl3 d f g 1 (f:Nat) (g:Nat) 3 λxa xl xc=>Calls prog 204 #[.slice xa xl xc] w1 λe w2=>∃ h i k,e=.returned (.slice h i k)∧R (.slice h i k) w2))):=by kernel_rfl
def bE (s0:Option Addr) (a b:Nat) (s1:Value) (s7 s8:Int) (j:LV):LV:=.slice s0 a b::s1::jq j 0 5 (.int .i64 s7::.int .i64 s8::jq j 5 10 [])
def dC  (j:LV):LV:=jq j 0 19 []
theorem gE (p0:Option Addr) (a b:Nat) (p1:Value):fnW prog f195 [.slice p0 a b,p1] R w=(bX prog (.loop (sub (aB f195) [1,0,1,0,0])) (bE p0 a b p1 (a:Nat) 0 (uq 2 (ji 0::undef::js p0 a b::uq 10 []))) (aJ 0 (nx f195 [1,1] R)) w):=by kernel_rfl
theorem eW (s0:Option Addr) (a b:Nat) (s1:Value) (s7 s8:Int) (j:LV) (N1:LV→World→Prop):W prog (sub (aB f195) [1,0,1,0,0]) (bE s0 a b s1 s7 s8 j) (seqQ N1 (aJ 0 (nx f195 [1,1] R))) w=((bif (decide ((s8:Int)<s7)) then (idxS s0 a s8 3 λad=>aH.ex λr=>aF w ad 0 r.cells∧ql prog s1 #[r.val] w λe w1=>∃ c,e=.returned (.bool c)∧(bif c then (R (.int .i64 s8) w1) else (N1 (bE s0 a b s1 s7 (i64.wrap (s8+1)) [jg j 0,jg j 1,jg j 2,ji s8,jg j 4,jb (decide ((s8:Int)<s7)),ji s8,s1,js s0 a b,ji s8,jp ad,r.val,jb c,jg j 13,ji (i64.wrap (s8+1))]) w1))) else (W prog (sub (aB f195) [1,1]) (dC  (js s0 a b::s1::jq j 0 5 (ji s7::ji s8::jb (decide ((s8:Int)<s7))::jq j 6 9 []))) (retQ prog f195 R) w))):=by kernel_rfl
theorem fM  (j:LV):W prog (sub (aB f195) [1,1]) (dC  j) (retQ prog f195 R) w=(R (.int .i64 (-1)) w):=by kernel_rfl
theorem vj (p0:aQ) (p1:aH) (p2:Bool) (p3:aN):fnW prog f202 [p0.val,p1.val,.bool p2,p3.val] R w=(∀ b1 w1,b1=w.heap.size→w1=w.alloc (.cells p0.cells.toArray 30)→∀ b2 w2,b2=w1.heap.size→w2=w1.alloc (.cells p1.cells.toArray 103)→∀ b3 w3,b3=w2.heap.size→w3=w2.alloc (.cells p3.cells.toArray 166)→∀ b4 w4,b4=w3.heap.size→w4=w3.alloc (.cells #[.int .i64 0,.int .i64 0,.int .i64 0,.int .i64 0,.int .u64 0,.int .u64 0,.slice none 0 0,.int .u64 0,.int .i64 0] 166)→∀ w5,w5=w4.drew→∃ Sx:World→Prop,Sx w5∧∃ a,(∀ u,Sx u→u.cell? ⟨b2,0,none⟩=some (.int .i64 a))∧∃ b,(∀ u,Sx u→u.cell? ⟨b2,1,none⟩=some (.int .i64 b))∧(∃ u,w5.cell? ⟨b3,1,none⟩=some u)∧w5.frozen? ⟨b3,1,none⟩=false∧∀ w6,w6=w5.setCell ⟨b3,1,none⟩ (.int .i64 a)→Sx w6∧(∃ u,w6.cell? ⟨b3,8,none⟩=some u)∧w6.frozen? ⟨b3,8,none⟩=false∧∀ w7,w7=w6.setCell ⟨b3,8,none⟩ (.int .i64 b)→∃ c,w7.cell? ⟨b1,0,none⟩=some (.int .i64 c)∧Calls prog 90 #[.int .i64 c,.bool p2] w7 λe w8=>∃ d f,e=.returned (.tuple #[.int .u64 d,.int .i64 f])∧(∃ u,w8.cell? ⟨b3,7,none⟩=some u)∧w8.frozen? ⟨b3,7,none⟩=false∧∀ w9,w9=w8.setCell ⟨b3,7,none⟩ (.int .u64 d)→∃ g h i,w9.cell? ⟨b3,6,none⟩=some (.slice g h i)∧Calls prog 53 #[.slice g h i] w9 λe n=>∃ k l m,e=.returned (.slice k l m)∧(∃ u,n.cell? ⟨b3,6,none⟩=some u)∧n.frozen? ⟨b3,6,none⟩=false∧∀ o,o=n.setCell ⟨b3,6,none⟩ (.slice k l m)→aN.ex λr=>aF o ⟨b3,0,none⟩ 0 r.cells∧wrAt o ⟨b4,0,none⟩ 0 r.cells∧∀ p,p=puts o ⟨b4,0,none⟩ 0 r.cells→aN.ex λq=>aF p ⟨b4,0,none⟩ 0 q.cells∧p=p∧R q.val p):=by kernel_rfl
end Go.Proofs.YtegepanmkjemjaaGreat
namespace Go.Proofs.YtegepanmkjemjaaGreat
open Go.Proofs.Tryz
open Go.Eng
abbrev TMb:TypeId:=103
abbrev TVw:TypeId:=30
abbrev TSM:TypeId:=28
def kr (l:List aH):List (List Value):=l.map aH.cells
theorem Bb (l:List aH) (m:aH):(kr (l++[m])).flatten=(kr l).flatten++m.cells:=by simp [kr]
structure Vw where
 number:Int
 mem:List aH
def noM:aH:=⟨0,0,false⟩
def sH (n:Int) (l:List aH) (i:Nat):Bool:=
 decide (0≤(l.getD i noM).Node∧(l.getD i noM).Node<n) && (decide (i=0) || decide ((l.getD (i - 1) noM).Node<(l.getD i noM).Node))
def sI (m:aH):Bool:=decide (1≤m.Boot∧m.Boot≤31)
def Vw.valid (v:Vw) (n:Int):Int:=
 if ¬ (1≤n∧n≤5) then 1 else if v.number<0∨16≤v.number then 2 else if v.mem.length=0 then 1
 else if (List.range v.mem.length).all (sH n v.mem)=false then 1 else if v.mem.all sI=false then 2 else if v.mem.any aH.Full=false then 13 else 0
structure gU (M:Nat→Prop) (w:World) (r:aQ) (v:Vw):Prop where
 num:r.Number=v.number
 len:r.Members_l=v.mem.length
 cap:r.Members_l≤r.Members_c
 rd:Rd w r.Members (kr v.mem).flatten
 off:(kr v.mem).flatten=[]∨Off M r.Members
 small:v.mem.length≤1000000
theorem gU.new {M:Nat→Prop} {w w':World} {r:aQ} {v:Vw} (h:gU M w r v) (hn:New w w'):gU M w' r v:=⟨h.num,h.len,h.cap,h.rd.new hn,h.off,h.small⟩
theorem Ct (w:World) (n:Int):Does 171 [.int .i64 n] w λv w'=>v=.bool (decide (1≤n∧n≤5))∧w'=w:=by
 refine does Tryz.func171 ?_
 rw [vh]
 refine aI (λh=>⟨?_,rfl⟩) (λh=>⟨?_,rfl⟩)
 ·congr 1;simp;omega
 ·congr 1;simp;omega
theorem DX (w:World) (m:aH):Does 173 [m.val] w λv w'=>v=.bool m.Full∧New w w':=by
 refine does Tryz.func173 ?_
 rw [vU]
 rintro b1 w1 hb1 hw1
 obtain ⟨hz,hn⟩:=aO hb1 hw1
 exact ⟨_,hz.cell rfl,rfl,hn⟩
theorem G8:oz prog 173=true:=by kernel_rfl
section
attribute [local irreducible] oz ql vH
theorem zj {w:World} {a:Option Addr} {c:Nat} {l:List aH} (h:Rd w a (kr l).flatten) (hl:l.length≤1000000) :
  Does 195 [.slice a l.length c,.func (.func 173) #[] #[]] w λv w'=>∃ z:Int,v=.int .i64 z∧(decide (z≥0)=l.any aH.Full)∧New w w':=by
 refine does Tryz.func195 ?_
 rw [gE]
 refine aR mix (λm env u=>∃ (i:Nat) (jj:List Value),m=l.length - i∧i≤l.length∧env=bE a l.length c (.func (.func 173) #[] #[]) l.length i jj∧New w u∧(l.take i).any aH.Full=false) l.length
  ⟨0,_,by omega,by omega,rfl,Keep.refl _ _,rfl⟩ ?_
 rintro m env u ⟨i,jj,rfl,hi,rfl,hn,hno⟩
 rw [eW]
 refine aI (λhp=>?_) (λhp=>?_)
 ·have hlt:i<l.length:=by omega
  have hg:l[i]?=some l[i]:=List.getElem?_eq_getElem hlt
  refine gJ (cells:=aH.cells) aH.len (by omega) (h.new hn) hg rfl rfl λb o hc _=>aH.mk_ex l[i] ⟨hc,?_⟩
  refine qg G8 (xs:=#[l[i].val]) (by simp) ?_
  refine aG (DX _ l[i]) ?_
  rintro v u1 ⟨rfl,hn1⟩
  refine ⟨_,rfl,jP (λhf=>⟨i,rfl,?_,hn.new hn1⟩) (λhf=>?_)⟩
  ·have h1:l.any aH.Full=true:=List.any_eq_true.2 ⟨l[i],List.getElem_mem hlt,hf⟩
   rw [h1]
   simp
  ·rw [w64 (by omega) (by omega)]
   refine ⟨l.length - (i+1),by omega,i+1,_,rfl,by omega,rfl,hn.new hn1,?_⟩
   rw [List.take_add_one,hg,List.any_append,hno]
   simpa using hf
 ·rw [fM]
  have:l.take i=l:=List.take_of_length_le (by omega)
  rw [this] at hno
  exact ⟨-1,rfl,by rw [hno];decide,hn⟩
end
theorem vV {w:World} {a:Option Addr} {c:Nat} {l:List aH} (h:Rd w a (kr l).flatten) (hl:l.length≤1000000) :
  Does 172 [.slice a l.length c,.func (.func 173) #[] #[]] w λv w'=>v=.bool (l.any aH.Full)∧New w w':=by
 refine does Tryz.func172 ?_
 rw [fV]
 refine aG (zj h hl) ?_
 rintro v w1 ⟨z,rfl,hz,hn⟩
 exact ⟨_,rfl,by rw [hz],hn⟩
theorem mX {p:Nat→Bool} {n i:Nat} (hi:i<n) (h:p i=false):(List.range n).all p=false:=by
 rw [List.all_eq_false]
 exact ⟨i,List.mem_range.2 hi,by simp [h]⟩
theorem pY {α:Type} {l:List α} {i:Nat} {x d:α} (h:l[i]?=some x):l.getD i d=x:=by rw [List.getD_eq_getElem?_getD,h];rfl
set_option maxHeartbeats 1000000 in
theorem DY {M:Nat→Prop} {w:World} {r:aQ} {v:Vw} (h:gU M w r v) (n:Int):Does 141 [r.val,.int .i64 n] w λx w'=>x=.int .i64 (v.valid n)∧New w w':=by
 refine does Tryz.func141 ?_
 rw [xg]
 rintro b1 w1 hb1 hw1
 obtain ⟨hz,hn⟩:=aO hb1 hw1
 have hz:Blk w1 b1 r.cells TVw:=hz
 clear hw1
 have hsm:=h.small
 have hlen:=h.len
 have hnum:=h.num
 unfold Vw.valid
 refine aG (Ct _ n) ?_
 rintro x w2 ⟨rfl,rfl⟩
 refine ⟨_,rfl,dV (λhb=>?_) (λhb=>?_)⟩
 ·rw [if_pos (by simpa using hb)];exact ⟨rfl,hn⟩
 have hn15:1≤n∧n≤5:=by simpa using hb
 rw [if_neg (λe=>e hn15)]
 refine ⟨_,hz.cell rfl,aI (λhp=>?_) (λhp=>⟨_,hz.cell rfl,aI (λhp2=>?_) (λhp2=>?_)⟩)⟩
 ·rw [if_pos (by omega)];exact ⟨rfl,hn⟩
 ·rw [if_pos (by omega)];exact ⟨rfl,hn⟩
 rw [if_neg (by omega)]
 refine ⟨_,_,_,hz.cell rfl,bG (λh0=>?_) (λh0=>⟨_,_,_,hz.cell rfl,?_⟩)⟩
 ·rw [if_pos (by omega)];exact ⟨rfl,hn⟩
 rw [if_neg (by omega)]
 refine aR mix (λm env u=>∃ (i:Nat) (jj:List Value),m=v.mem.length - i∧i≤v.mem.length∧env=gT n ⟨b1,0,none⟩ r.Members r.Members_l r.Members_c r.Members_l i jj∧New w2 u∧∀ k,k<i→sH n v.mem k=true) v.mem.length
  ⟨0,_,by omega,by omega,rfl,Keep.refl _ _,λk hk=>by omega⟩ ?_
 rintro m env u ⟨i,jj,rfl,hi,rfl,hnu,hok⟩
 rw [pW]
 refine aI (λhq=>?_) (λhq=>?_)
 ·have hlt:i<v.mem.length:=by omega
  have hg:v.mem[i]?=some v.mem[i]:=List.getElem?_eq_getElem hlt
  have hgd:=pY (d:=noM) hg
  have hno:sH n v.mem i=false→(List.range v.mem.length).all (sH n v.mem)=false:=mX hlt
  refine gJ (cells:=aH.cells) aH.len (by omega) ((h.rd.new hn).new hnu) hg rfl hlen λb o hc _=>aH.mk_ex v.mem[i] ⟨hc,?_⟩
  refine ii (vs:=v.mem[i].cells) rfl (aH.single _) λb2 u2 hb2 hz2 hn2=>?_
  rintro u3 hu3
  have hn3:New u2 u3:=by rw [hu3];exact aW _
  clear hu3
  have hz3:=New.blk hn3 hz2
  have hnu3:=(hnu.new hn2).new hn3
  refine ⟨λy=>New u3 y,Keep.refl _ _,_,λy hy=>(New.blk hy hz3).cell (i:=0) rfl,aI (λhp3=>?_) (λhp3=>⟨_,λy hy=>(New.blk hy hz3).cell (i:=0) rfl,aI (λhp4=>?_) (λhp4=>aI (λhp5=>?_) (λhp5=>?_))⟩)⟩
  ·rw [if_pos (hno (by unfold sH;rw [hgd];simp;omega))];exact ⟨rfl,hn.new hnu3⟩
  ·rw [if_pos (hno (by unfold sH;rw [hgd];simp;omega))];exact ⟨rfl,hn.new hnu3⟩
  ·have hg1:v.mem[i - 1]?=some v.mem[i - 1]:=List.getElem?_eq_getElem (by omega)
   have hgd1:=pY (d:=noM) hg1
   refine ⟨_,λy hy=>(New.blk hy hz3).cell (i:=0) rfl,_,_,_,λy hy=>(New.blk (hnu3.new hy) hz).cell (i:=1) rfl,?_⟩
   refine iI (cells:=aH.cells) aH.len (by omega) ((h.rd.new hn).new hnu3) hg1 (by rw [w64 (by omega) (by omega)];omega) hlen λb' o' hc'=>⟨_,λy hy=>hc' y hy 0 _ rfl,aI (λhp6=>?_) (λhp6=>?_)⟩
   ·rw [if_pos (hno (by unfold sH;rw [hgd,hgd1];simp;omega))];exact ⟨rfl,hn.new hnu3⟩
   ·rw [w64 (by omega) (by omega)]
    refine ⟨v.mem.length - (i+1),by omega,i+1,_,rfl,by omega,rfl,hnu3,λk hk=>?_⟩
    rcases Nat.lt_succ_iff_lt_or_eq.1 hk with hk | rfl
    ·exact hok k hk
    ·unfold sH;rw [hgd,hgd1];simp;omega
  ·rw [w64 (by omega) (by omega)]
   refine ⟨v.mem.length - (i+1),by omega,i+1,_,rfl,by omega,rfl,hnu3,λk hk=>?_⟩
   rcases Nat.lt_succ_iff_lt_or_eq.1 hk with hk | rfl
   ·exact hok k hk
   ·unfold sH;rw [hgd];simp;omega
 have hall:(List.range v.mem.length).all (sH n v.mem)=true:=by
  rw [List.all_eq_true]
  intro k hk
  exact hok k (by have:=List.mem_range.1 hk;omega)
 rw [if_neg (by rw [hall];simp)]
 rw [sF]
 have hzu:=New.blk hnu hz
 refine ⟨_,_,_,hzu.cell (i:=1) rfl,?_⟩
 refine aR mix (λm env z=>∃ (i:Nat) (jj:List Value),m=v.mem.length - i∧i≤v.mem.length∧env=iS ⟨b1,0,none⟩ r.Members r.Members_l r.Members_c r.Members_l i jj∧New w2 z∧(v.mem.take i).all sI=true) v.mem.length
  ⟨0,_,by omega,by omega,rfl,hnu,rfl⟩ ?_
 clear hzu hnu hok hi hq
 rintro m env u ⟨i,jj,rfl,hi,rfl,hnu,hok⟩
 rw [pX]
 refine aI (λhq=>?_) (λhq=>?_)
 ·have hlt:i<v.mem.length:=by omega
  have hg:v.mem[i]?=some v.mem[i]:=List.getElem?_eq_getElem hlt
  have hno:sI v.mem[i]=false→v.mem.all sI=false:=λe=>by
   rw [List.all_eq_false]
   exact ⟨v.mem[i],List.getElem_mem hlt,by simp [e]⟩
  refine gJ (cells:=aH.cells) aH.len (by omega) ((h.rd.new hn).new hnu) hg rfl hlen λb o hc _=>aH.mk_ex v.mem[i] ⟨hc,?_⟩
  refine ii (vs:=v.mem[i].cells) rfl (aH.single _) λb2 u2 hb2 hz2 hn2=>?_
  have hnu2:=hnu.new hn2
  refine ⟨_,hz2.cell (i:=1) rfl,aI (λhp3=>?_) (λhp3=>⟨_,hz2.cell (i:=1) rfl,aI (λhp4=>?_) (λhp4=>?_)⟩)⟩
  ·rw [if_pos (hno (by unfold sI;simp;omega))];exact ⟨rfl,hn.new hnu2⟩
  ·rw [if_pos (hno (by unfold sI;simp;omega))];exact ⟨rfl,hn.new hnu2⟩
  ·rw [w64 (by omega) (by omega)]
   refine ⟨v.mem.length - (i+1),by omega,i+1,_,rfl,by omega,rfl,hnu2,?_⟩
   rw [List.take_add_one,hg,List.all_append,hok]
   simp [sI];omega
 have htake:v.mem.take i=v.mem:=List.take_of_length_le (by omega)
 rw [htake] at hok
 rw [if_neg (by rw [hok];simp)]
 rw [sG]
 have hzu:=New.blk hnu hz
 refine ⟨_,_,_,hzu.cell (i:=1) rfl,?_⟩
 rw [hlen]
 refine aG (vV ((h.rd.new hn).new hnu) hsm) ?_
 rintro x u3 ⟨rfl,hn3⟩
 refine ⟨_,rfl,dV (λhf=>?_) (λhf=>?_)⟩
 ·rw [if_pos hf];exact ⟨rfl,hn.new (hnu.new hn3)⟩
 ·rw [if_neg (by rw [hf];simp)];exact ⟨rfl,hn.new (hnu.new hn3)⟩
end Go.Proofs.YtegepanmkjemjaaGreat
namespace Go.Proofs.YtegepanmkjemjaaGreat
open Go.Proofs.Tryz
open Go.Eng
theorem FC {u:World} {a:Option Addr} {n cap:Nat} {L:List aH} (ho:Owns u TMb 3 a n cap (kr L).flatten) (hn:n=L.length) {m:aH} (hb1:n≤1000000) {K:Nat→Option Addr→Nat→Nat→World→Prop}
  (hk:∀ b ap cap' w3,b=u.heap.size→Owns w3 TMb 3 ap (n+1) cap' (kr (L++[m])).flatten→Keep (isB a) u w3→(∀ k,isB ap k→isB a k∨u.heap.size≤k)→K b ap (n+1) cap' w3) :
  ∀ b1 w2,b1=u.heap.size→w2=u.alloc (.cells m.cells.toArray TMb)→∃ (ap:Option Addr) (ap_len ap_cap:Nat),∃ w3,(Builtin.append_ #[TSM,TSM] TSM #[(.slice a n cap),(.slice (some ⟨b1,0,none⟩) 1 1)]).run prog w2=.ok (.slice ap ap_len ap_cap) w3∧K b1 ap ap_len ap_cap w3:=by
 obtain ⟨inf,hi,hz,hsz,hby⟩:=jQ (T:=TMb) (z:=.agg #[.int .i64 0,.int .i64 0,.bool false]) (n:=3) (m:=24) (by kernel_rfl)
 rw [←hsz] at ho
 refine push_k Tryz.underlying28 hi hz (by rw [hsz];rfl) (by omega) ho (by rw [hsz];rfl) (aH.single m) (by omega) (by omega) ?_
 intro b ap cap' w3 h1 h2
 rw [hsz,←Bb] at h2
 exact hk b ap cap' w3 h1 h2
end Go.Proofs.YtegepanmkjemjaaGreat
namespace Go.Proofs.YtegepanmkjemjaaGreat
open Go.Proofs.Tryz
open Go.Eng IntKind
variable (w:World) (R:Value→World→Prop)
theorem ru (p0:Int):fnW prog f32 [(.int .i64 p0)] R w=(Calls prog 11 #[(.int .i64 p0),(.int .i64 7)] w λe w1=>∃ a,e=.returned (.int .i64 a)∧R (.int .i64 (i64.wrap (98+a))) w1):=by kernel_rfl
theorem rx (p0:Int):fnW prog f33 [.int .i64 p0] R w=(∀ b1 w1,b1=w.heap.size→w1=w.alloc (.cells #[.int .i64 0,.slice none 0 0] 30)→Calls prog 50 #[.int .i64 p0] w1 λe w2=>aQ.ex λb=>∃ a,e=.returned (.tuple #[b.val,.int .i64 a])∧∀ b2 w3,b2=w2.heap.size→w3=w2.alloc (.cells #[.int .i64 0,.slice none 0 0] 30)→wrAt w3 ⟨b2,0,none⟩ 0 b.cells∧∀ w4,w4=puts w3 ⟨b2,0,none⟩ 0 b.cells→aQ.ex λr=>aF w4 ⟨b2,0,none⟩ 0 r.cells∧wrAt w4 ⟨b1,0,none⟩ 0 r.cells∧∀ w5,w5=puts w4 ⟨b1,0,none⟩ 0 r.cells→aQ.ex λc=>aF w5 ⟨b1,0,none⟩ 0 c.cells∧w5=w5∧R c.val w5):=by kernel_rfl
def eE (s0:Int) (s2 s4:Addr) (s5:Int) (j:LV):LV:=.int .i64 s0::jq j 0 1 (.pointer (some s2)::jq j 1 1 (.pointer (some s4)::.int .i64 s5::jq j 2 21 []))
def iT (a b:Addr) (j:LV):LV:=jq j 0 2 (.pointer (some a)::jq j 2 1 (.pointer (some b)::jq j 3 22 []))
theorem pZ (p0:Int):fnW prog f50 [.int .i64 p0] R w=(∀ b1 w1,b1=w.heap.size→w1=w.alloc (.cells #[.int .i64 0,.slice none 0 0] 30)→(bif (decide ((p0:Int)<1)) then (wrAt w1 ⟨b1,0,none⟩ 0 [.int .i64 0,.slice none 0 0]∧∀ w2,w2=puts w1 ⟨b1,0,none⟩ 0 [.int .i64 0,.slice none 0 0]→aQ.ex λa=>aF w2 ⟨b1,0,none⟩ 0 a.cells∧w2=w2∧R (.tuple #[a.val,.int .i64 1]) w2) else ((bif (decide ((p0:Int)>5)) then (wrAt w1 ⟨b1,0,none⟩ 0 [.int .i64 0,.slice none 0 0]∧∀ w3,w3=puts w1 ⟨b1,0,none⟩ 0 [.int .i64 0,.slice none 0 0]→aQ.ex λb=>aF w3 ⟨b1,0,none⟩ 0 b.cells∧w3=w3∧R (.tuple #[b.val,.int .i64 1]) w3) else (∀ b2 w4,b2=w1.heap.size→w4=w1.alloc (.cells #[.int .i64 0,.slice none 0 0] 30)→wrAt w4 ⟨b2,0,none⟩ 0 [.int .i64 0,.slice none 0 0]∧∀ w5,w5=puts w4 ⟨b2,0,none⟩ 0 [.int .i64 0,.slice none 0 0]→bX prog (.loop (sub (aB f50) [1,1,1,0,1,0,0])) (eE p0 ⟨b1,0,none⟩ ⟨b2,0,none⟩ 0 (undef::ji 0::ji p0::jb (decide ((p0:Int)<1))::jb false::ji p0::jb (decide ((p0:Int)>5))::jb (decide ((p0:Int)>5))::undef::.agg #[.int .i64 0,.slice none 0 0]::uq 13 [])) (aJ 0 (nx f50 [1,1,1,1] R)) w5))))):=by kernel_rfl
theorem kV (s0:Int) (s2 s4:Addr) (s5:Int) (j:LV) (N1:LV→World→Prop):W prog (sub (aB f50) [1,1,1,0,1,0,0]) (eE s0 s2 s4 s5 j) (seqQ N1 (aJ 0 (nx f50 [1,1,1,1] R))) w=((bif (decide ((s5:Int)<s0)) then (∃ a b c,w.cell? ⟨s4.block,s4.off+1,none⟩=some (.slice a b c)∧∀ b1 w1,b1=w.heap.size→w1=w.alloc (.cells #[.int .i64 s5,.int .i64 1,.bool true] 103)→∃ ap d f,∃ w2,(Builtin.append_ #[28,28] 28 #[.slice a b c,.slice (some ⟨b1,0,none⟩) 1 1]).run prog w1=.ok (.slice ap d f) w2∧(∃ u,w2.cell? ⟨s4.block,s4.off+1,none⟩=some u)∧w2.frozen? ⟨s4.block,s4.off+1,none⟩=false∧∀ w3,w3=w2.setCell ⟨s4.block,s4.off+1,none⟩ (.slice ap d f)→N1 (eE s0 s2 s4 (i64.wrap (s5+1)) (jq j 0 10 [ji s5,ji s0,jb (decide ((s5:Int)<s0)),ji s5,ji (i64.wrap (s5+1)),jf s4 1,js a b c,ji s5,.agg #[.int .i64 s5,.int .i64 1,.bool true],js (some ⟨b1,0,none⟩) 1 1,js ap d f,jf s4 1,jg j 22])) w3) else (W prog (sub (aB f50) [1,1,1,1]) (iT s2 s4 (ji s0::jg j 0::jg j 1::ji s5::jq j 2 8 (ji s5::ji s0::jb (decide ((s5:Int)<s0))::jq j 13 10 []))) (retQ prog f50 R) w))):=by kernel_rfl
theorem mG (a b:Addr) (j:LV):W prog (sub (aB f50) [1,1,1,1]) (iT a b j) (retQ prog f50 R) w=(aQ.ex λr=>aF w b 0 r.cells∧wrAt w a 0 r.cells∧∀ w1,w1=puts w a 0 r.cells→aQ.ex λc=>aF w1 a 0 c.cells∧w1=w1∧R (.tuple #[c.val,.int .i64 0]) w1):=by kernel_rfl
end Go.Proofs.YtegepanmkjemjaaGreat
