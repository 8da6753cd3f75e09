import Derived.Test.YtegepanmkjemjaaGreatr19
import Derived.Test.YtegepanmkjemjaaGreatr31
import Derived.Test.YtegepanmkjemjaaGreatr33
import Derived.Test.YtegepanmkjemjaaGreatProg
import Derived.Test.YtegepanmkjemjaaGreatr03
set_option linter.unusedVariables false
namespace Go.Proofs.YtegepanmkjemjaaGreat
open Go.Eng
inductive Tr
 |leaf (x:Int)
 |node (a b:Tr)
def Tr.get:Tr→Nat→Int
 | .leaf x,_=>x
 | .node a b,i=>match i % 2 with
  | 0=>a.get (i / 2)
  | _=>b.get (i / 2)
def Tr.set:Tr→Nat→Int→Tr
 | .leaf _,_,v=>.leaf v
 | .node a b,i,v=>match i % 2 with
  | 0=>.node (a.set (i / 2) v) b
  | _=>.node a (b.set (i / 2) v)
def Tr.build:Nat→(Nat→Int)→Tr
 | 0,f=>.leaf (f 0)
 |d+1,f=>.node (build d λi=>f (2 * i)) (build d λi=>f (2 * i+1))
def Tr.Deep:Nat→Tr→Prop
 | 0,.leaf _=>True
 |d+1,.node a b=>a.Deep d∧b.Deep d
 | _,_=>False
theorem Tr.build_deep:∀ (d:Nat) (f:Nat→Int),(Tr.build d f).Deep d
 | 0,_=>trivial
 |d+1,f=>⟨build_deep d _,build_deep d _⟩
theorem Tr.build_get:∀ (d:Nat) (f:Nat→Int) (i:Nat),i<2 ^ d→(Tr.build d f).get i=f i
 | 0,f,i,h=>by
  have:i=0:=by simp at h;exact h
  rw [this]
  rfl
 |d+1,f,i,h=>by
  rw [Nat.pow_succ] at h
  unfold Tr.build Tr.get
  rcases Nat.mod_two_eq_zero_or_one i with e | e
  ·simp only [e]
   rw [build_get d _ _ (by omega)]
   congr 1
   omega
  ·simp only [e]
   rw [build_get d _ _ (by omega)]
   congr 1
   omega
theorem Tr.set_deep:∀ {d:Nat} {t:Tr},t.Deep d→∀ (i:Nat) (v:Int),(t.set i v).Deep d
 | 0,.leaf _,_,_,_=>trivial
 |d+1,.node a b,h,i,v=>by
  unfold Tr.set
  split
  ·exact ⟨set_deep h.1 _ _,h.2⟩
  ·exact ⟨h.1,set_deep h.2 _ _⟩
theorem Tr.set_get:∀ {d:Nat} {t:Tr},t.Deep d→∀ (i j:Nat) (v:Int),i<2 ^ d→j<2 ^ d→(t.set i v).get j=if i=j then v else t.get j
 | 0,.leaf _,_,i,j,v,hi,hj=>by
  have h1:i=0:=by simp at hi;exact hi
  have h2:j=0:=by simp at hj;exact hj
  rw [h1,h2]
  rfl
 |d+1,.node a b,h,i,j,v,hi,hj=>by
  rw [Nat.pow_succ] at hi hj
  unfold Tr.set
  rcases Nat.mod_two_eq_zero_or_one i with e | e<;>rcases Nat.mod_two_eq_zero_or_one j with e' | e'
  ·simp only [e,Tr.get,e']
   rw [set_get h.1 _ _ _ (by omega) (by omega)]
   by_cases hij:i / 2=j / 2
   ·rw [if_pos hij,if_pos (by omega)]
   ·rw [if_neg hij,if_neg (by omega)]
  ·simp only [e,Tr.get,e']
   rw [if_neg (by omega)]
  ·simp only [e,Tr.get,e']
   rw [if_neg (by omega)]
  ·simp only [e,Tr.get,e']
   rw [set_get h.2 _ _ _ (by omega) (by omega)]
   by_cases hij:i / 2=j / 2
   ·rw [if_pos hij,if_pos (by omega)]
   ·rw [if_neg hij,if_neg (by omega)]
structure aZ where
 t:Tr
 n:Nat
 down:Bool
def aZ.s (x:aZ):aO:=⟨(List.range x.n).map x.t.get,x.down⟩
structure aZ.Ok (x:aZ):Prop where
 deep:x.t.Deep 10
 n:x.n≤1024
def aZ.get (x:aZ) (i:Nat):Int:=if i<x.n then x.t.get i else 0
def aZ.set (x:aZ) (i:Nat) (v:Int):aZ:=if i<x.n then { x with t:=x.t.set i v } else x
def aZ.write (x:aZ):Nat→List Int→aZ
 | _,[]=>x
 |i,v::vs=>(x.set i v).write (i+1) vs
def aZ.read (x:aZ) (at_ c:Int):List Int:=(List.range (min c.toNat (x.n - at_.toNat))).map λi=>x.t.get (at_.toNat+i)
def aZ.of (ws:List Int):aZ:=⟨Tr.build 10 λi=>ws.getD i 0,ws.length,false⟩
theorem aZ.len (x:aZ):x.s.words.length=x.n:=by simp [aZ.s]
theorem aZ.s_get (x:aZ) (i:Nat):x.s.get i=x.get i:=by
 unfold aO.get aZ.s aZ.get
 rw [List.getD_eq_getElem?_getD,List.getElem?_map]
 by_cases h:i<x.n
 ·rw [if_pos h,List.getElem?_range h]
  rfl
 ·rw [if_neg h,List.getElem?_eq_none (by simp;omega)]
  rfl
theorem aZ.set_n (x:aZ) (i:Nat) (v:Int):(x.set i v).n=x.n∧(x.set i v).down=x.down:=by
 unfold aZ.set
 split<;>exact ⟨rfl,rfl⟩
theorem aZ.set_ok {x:aZ} (h:x.Ok) (i:Nat) (v:Int):(x.set i v).Ok:=by
 unfold aZ.set
 split
 ·exact ⟨Tr.set_deep h.deep _ _,h.n⟩
 ·exact h
theorem aZ.set_s {x:aZ} (h:x.Ok) (i:Nat) (v:Int):(x.set i v).s=⟨x.s.words.set i v,x.down⟩:=by
 have hn:=h.n
 unfold aZ.set
 split
 ·rename_i hi
  unfold aZ.s
  congr 1
  apply List.ext_getElem?
  intro j
  rw [List.getElem?_set,List.getElem?_map,List.length_map,List.length_range]
  by_cases hj:j<x.n
  ·rw [List.getElem?_map,List.getElem?_range hj]
   simp only [Option.map_some]
   rw [Tr.set_get h.deep i j v (by omega) (by omega)]
   by_cases hij:i=j
   ·rw [if_pos hij,if_pos hij,if_pos hi]
   ·rw [if_neg hij,if_neg hij]
  ·rw [List.getElem?_map,List.getElem?_eq_none (by simp;omega)]
   by_cases hij:i=j
   ·omega
   ·rw [if_neg hij]
    rfl
 ·rename_i hi
  unfold aZ.s
  rw [List.set_eq_of_length_le (by simp;omega)]
theorem aZ.write_ok:∀ (ws:List Int) {x:aZ},x.Ok→∀ (i:Nat),(x.write i ws).Ok
 | [],x,h,i=>h
 |v::vs,x,h,i=>write_ok vs (set_ok h i v) (i+1)
def sets:List Int→Nat→List Int→List Int
 |l,_,[]=>l
 |l,i,v::vs=>sets (l.set i v) (i+1) vs
theorem yF:∀ (ws l:List Int) (i:Nat),i+ws.length≤l.length→sets l i ws=l.take i++ws++l.drop (i+ws.length)
 | [],l,i,h=>by simp [sets]
 |v::vs,l,i,h=>by
  rw [List.length_cons] at h
  unfold sets
  rw [yF vs (l.set i v) (i+1) (by rw [List.length_set];omega)]
  have h1:(l.set i v).take (i+1)=l.take i++[v]:=by
   apply List.ext_getElem?
   intro j
   rw [List.getElem?_take,List.getElem?_append,List.length_take,Nat.min_eq_left (by omega),List.getElem?_set]
   by_cases hj:j<i
   ·rw [if_pos (by omega),if_neg (by omega),if_pos hj,List.getElem?_take_of_lt hj]
   ·by_cases hj2:j=i
    ·subst hj2
     rw [if_pos (by omega),if_pos rfl,if_pos (by omega),if_neg (by omega)]
     simp
    ·rw [if_neg (by omega),if_neg hj,List.getElem?_eq_none (by simp;omega)]
  have h2:(l.set i v).drop (i+1+vs.length)=l.drop (i+1+vs.length):=by rw [List.drop_set_of_lt (by omega)]
  rw [h1,h2,List.length_cons]
  simp [Nat.add_assoc,Nat.add_comm,Nat.add_left_comm]
theorem aZ.write_sets:∀ (ws:List Int) {x:aZ},x.Ok→∀ (i:Nat),(x.write i ws).s=⟨sets x.s.words i ws,x.down⟩
 | [],x,h,i=>rfl
 |v::vs,x,h,i=>by
  unfold aZ.write sets
  rw [write_sets vs (set_ok h i v) (i+1),set_s h,(x.set_n i v).2]
theorem aZ.write_s {x:aZ} (h:x.Ok) {i:Nat} {ws:List Int} (hl:(x.s.write i ws).words.length=x.s.words.length):(x.write i ws).s=x.s.write i ws:=by
 rw [write_sets ws h i]
 unfold aO.write at hl ⊢
 simp only [List.length_append,List.length_take,List.length_drop] at hl
 by_cases hi:i≤x.s.words.length
 ·rw [yF ws _ i (by omega)]
  rfl
 ·have:ws=[]:=by
   cases ws with
   |nil=>rfl
   |cons a l=>simp at hl;omega
  subst this
  simp [sets]
  rfl
theorem aZ.read_s (x:aZ) (at_ c:Int):x.s.read at_ c=x.read at_ c:=by
 unfold aO.read aZ.read aZ.s
 apply List.ext_getElem?
 intro j
 rw [List.getElem?_take,List.getElem?_drop,List.getElem?_map,List.getElem?_map]
 by_cases hj:j<min c.toNat (x.n - at_.toNat)
 ·rw [if_pos (by omega),List.getElem?_range (by omega),List.getElem?_range hj]
  rfl
 ·rw [List.getElem?_eq_none (l:=List.range (min c.toNat (x.n - at_.toNat))) (by simp;omega)]
  split
  ·rw [List.getElem?_eq_none (by simp;omega)]
   rfl
  ·rfl
theorem aZ.of_ok {ws:List Int} (h:ws.length≤1024):(aZ.of ws).Ok:=⟨Tr.build_deep 10 λi=>ws.getD i 0,h⟩
theorem aZ.of_s {ws:List Int} (h:ws.length≤1024):(aZ.of ws).s=⟨ws,false⟩:=by
 unfold aZ.of aZ.s
 congr 1
 apply List.ext_getElem?
 intro j
 rw [List.getElem?_map]
 by_cases hj:j<ws.length
 ·rw [List.getElem?_range hj,List.getElem?_eq_getElem hj]
  simp only [Option.map_some]
  rw [Tr.build_get 10 _ j (by omega),List.getD_eq_getElem?_getD,List.getElem?_eq_getElem hj]
  rfl
 ·rw [List.getElem?_eq_none (by simp;omega),List.getElem?_eq_none (by omega)]
  rfl
def Pair.refT (p:Pair) (x:Verb) (n:aZ):Int:=
 if n.down=true then 4 else if x.v.valid 5 (n.n / 8:Nat)≠0 then 2 else x.v.check p.inc (n.get (24+p.client).toNat) (n.get 0) (n.get 1)
def wW (x:Verb) (pc:Int×Int) (n:aZ):aZ×List Int:=
 if x.kind=1 then (n,n.read pc.1 pc.2)
 else if x.kind=2 then (n.write pc.1.toNat ((x.words.drop (pc.1 - x.at_).toNat).take pc.2.toNat),[])
 else if x.kind=3 then (if n.get x.at_.toNat=x.old then n.set x.at_.toNat x.new else n,[n.get x.at_.toNat])
 else if x.kind=4 then (n.set x.at_.toNat (IntKind.u64.wrap (n.get x.at_.toNat+x.new)),[n.get x.at_.toNat])
 else (n,[])
def Pair.stepT (p:Pair) (n:aZ):Pair×aZ×Option Done:=
 match p.verbs with
 | []=>(p,n,none)
 |x::_=>
  if p.refT x n≠0 then (p.done,n,some ⟨p.refT x n,[]⟩)
  else
   let r:=wW x (x.v.pieces.getD p.executed (0,0)) n
   if p.executed+1<x.v.pieces.length then ({ p with executed:=p.executed+1,words:=p.words++r.2 },r.1,none)
   else (p.done,r.1,some ⟨0,p.words++r.2⟩)
theorem vf (p:Pair) (x:Verb) (n:aZ):p.refusal x n.s=p.refT x n:=by
 unfold Pair.refusal Pair.refT
 rw [aZ.len,aZ.s_get,aZ.s_get,aZ.s_get]
 rfl
theorem vP {x:Verb} {pc:Int×Int} {n:aZ} (h:n.Ok):(wW x pc n).1.Ok:=by
 unfold wW
 repeat' split
 all_goals first | exact h | exact aZ.write_ok _ h _ | exact aZ.set_ok h _ _
theorem zZ {x:Verb} {pc:Int×Int} {n:aZ} (h:n.Ok) (hl:(exec x pc n.s).1.words.length=n.s.words.length):exec x pc n.s=((wW x pc n).1.s,(wW x pc n).2):=by
 unfold exec at hl ⊢
 unfold wW
 split
 ·rw [aZ.read_s]
 ·rename_i h1
  rw [if_neg h1] at hl
  split
  ·rename_i h2
   rw [if_pos h2] at hl
   rw [aZ.write_s h hl]
  ·split
   ·unfold aO.cas
    rw [aZ.s_get]
    split
    ·rw [aZ.set_s h]
     rfl
    ·rfl
   ·split
    ·unfold aO.add
     rw [aZ.s_get,aZ.set_s h]
     rfl
    ·rfl
theorem Aa {p:Pair} (hP:cK p) {n:aZ} (h:n.Ok):p.step n.s=((p.stepT n).1,(p.stepT n).2.1.s,(p.stepT n).2.2)∧(p.stepT n).2.1.Ok:=by
 unfold Pair.step Pair.stepT
 cases hv:p.verbs with
 |nil=>exact ⟨rfl,h⟩
 |cons x xs=>
  simp only
  by_cases hz:p.refT x n=0
  ·have hr:p.refusal x n.s=0:=by rw [vf];exact hz
   have hlt:=hP.rdy x xs hv
   have hmem:x.v.pieces.getD p.executed (0,0) ∈ x.v.pieces:=by
    rw [List.getD_eq_getElem?_getD,List.getElem?_eq_getElem hlt]
    exact List.getElem_mem hlt
   have he:=zZ (x:=x) h (qI (oP hr).2 hmem)
   rw [if_neg (show ¬ p.refusal x n.s≠0 by rw [hr];simp),if_neg (show ¬ p.refT x n≠0 by rw [hz];simp),he]
   split
   ·exact ⟨rfl,vP h⟩
   ·exact ⟨rfl,vP h⟩
  ·rw [if_pos (show p.refusal x n.s≠0 by rw [vf];exact hz),if_pos (show p.refT x n≠0 from hz),vf]
   exact ⟨rfl,h⟩
end Go.Proofs.YtegepanmkjemjaaGreat
namespace Go.Proofs.YtegepanmkjemjaaGreat
open Go.Eng C12
def rep (T:List aZ) (F:Fab):Fab:={ F with nodes:=T.map aZ.s }
section
variable {cv:Conv}
theorem Ab (T:List aZ) (F:Fab) (c:Int):(rep T F).take c=((F.take c).1,rep T (F.take c).2)∧(F.take c).2.nodes=F.nodes:=by
 have hc:(rep T F).cl c=F.cl c:=rfl
 unfold Fab.take
 rw [hc]
 cases F.cl c with
 |none=>exact ⟨rfl,rfl⟩
 |some C=>
  simp only
  split
  ·exact ⟨rfl,rfl⟩
  ·cases C.batch with
   |none=>exact ⟨rfl,rfl⟩
   |some ds=>
    simp only
    split
    ·exact ⟨rfl,rfl⟩
    ·exact ⟨rfl,rfl⟩
theorem Ac {T:List aZ} {F:Fab} (h:F.nodes.length=T.length) (c:Int) (vs:List Verb):(rep T F).post c vs=((F.post c vs).1,rep T (F.post c vs).2)∧(F.post c vs).2.nodes=F.nodes:=by
 have hc:(rep T F).cl c=F.cl c:=rfl
 have hn:(rep T F).nodes.length=F.nodes.length:=by rw [h];simp [rep]
 have hl:(rep T F).lines=F.lines:=rfl
 unfold Fab.post
 rw [hc,hn,hl]
 cases F.cl c with
 |none=>exact ⟨rfl,rfl⟩
 |some C=>
  simp only
  split
  ·exact ⟨rfl,rfl⟩
  ·split
   ·exact ⟨rfl,rfl⟩
   ·split
    ·exact ⟨rfl,rfl⟩
    ·split
     ·exact ⟨rfl,rfl⟩
     ·split
      ·exact ⟨rfl,rfl⟩
      ·exact ⟨rfl,rfl⟩
theorem sO {T:List aZ} {F:Fab} (h:F.nodes.length=T.length) (t:Tk cv):turn (rep T F) t=(rep T (turn F t).1,(turn F t).2)∧(turn F t).1.nodes.length=T.length:=by
 have ha:(rep T F).alive t.client=F.alive t.client:=rfl
 have hw:(rep T F).waiting t.client=F.waiting t.client:=rfl
 obtain ⟨h1,h2⟩:=Ab T F t.client
 unfold turn
 rw [ha,hw,h1]
 split
 ·exact ⟨rfl,h⟩
 ·unfold qJ
  simp only
  obtain ⟨h3,h4⟩:=Ac (T:=T) (F:=(F.take t.client).2) (by rw [h2];exact h) (t.fed (F.take t.client).1).client (cv.next (t.fed (F.take t.client).1).job (t.fed (F.take t.client).1).got).1
  rw [h3]
  split
  ·exact ⟨rfl,by rw [h2];exact h⟩
  ·split
   ·exact ⟨rfl,by rw [h2];exact h⟩
   ·simp only
    split
    ·exact ⟨rfl,by rw [h4,h2];exact h⟩
    ·exact ⟨rfl,by rw [h4,h2];exact h⟩
abbrev St (cv:Conv):=List aZ×Fab×Tk cv
def toP (s:St cv):Fab×Tk cv:=(rep s.1 s.2.1,s.2.2)
def rW (c j:Nat) (s:St cv):Option (St cv):=
 match s.2.1.clients[c]? with
 |none=>none
 |some C=>match C.lanes[j]?,s.1[j]? with
  |some l,some n=>if l.pair.verbs.length=0 then none else
   let r:=l.pair.stepT n
   let u:=turn { s.2.1 with clients:=s.2.1.clients.set c (C.comes j l r.1 r.2.2) } s.2.2
   some (s.1.set j r.2.1,u.1,u.2)
  | _,_=>none
structure OkT (s:St cv):Prop where
 ok:∀ x ∈ s.1,x.Ok
 len:s.2.1.nodes.length=s.1.length
theorem ui {s:St cv} {c j:Nat} (hf:Fine (rep s.1 s.2.1)) (hs:OkT s):nS c j (toP s)=(rW c j s).map toP∧∀ s',rW c j s=some s'→OkT s':=by
 obtain ⟨T,F,t⟩:=s
 obtain ⟨hT,hl⟩:=hs
 unfold nS stepL rW toP
 simp only
 have hcl:(rep T F).clients=F.clients:=rfl
 rw [hcl]
 cases hC:F.clients[c]? with
 |none=>exact ⟨rfl,λs' h=>by cases h⟩
 |some C=>
  simp only
  have hnd:(rep T F).nodes[j]?=(T[j]?).map aZ.s:=by simp [rep]
  rw [hnd]
  cases hL:C.lanes[j]? with
  |none=>exact ⟨rfl,λs' h=>by cases h⟩
  |some l=>
   cases hN:T[j]? with
   |none=>exact ⟨rfl,λs' h=>by cases h⟩
   |some n=>
    simp only [Option.map_some]
    by_cases hv:l.pair.verbs.length=0
    ·rw [if_pos hv,if_pos hv]
     exact ⟨rfl,λs' h=>by cases h⟩
    ·rw [if_neg hv,if_neg hv]
     have hP:cK l.pair:=hf.good.cl C (List.mem_of_getElem? hC) l (List.mem_of_getElem? hL)
     obtain ⟨he,hok⟩:=Aa hP (hT n (List.mem_of_getElem? hN))
     rw [he]
     simp only
     have hset:({ rep T F with nodes:=(rep T F).nodes.set j (l.pair.stepT n).2.1.s,clients:=F.clients.set c (C.comes j l (l.pair.stepT n).1 (l.pair.stepT n).2.2) }:Fab)=rep (T.set j (l.pair.stepT n).2.1) { F with clients:=F.clients.set c (C.comes j l (l.pair.stepT n).1 (l.pair.stepT n).2.2) }:=by
      simp [rep,List.map_set]
     rw [hset]
     obtain ⟨h1,h2⟩:=sO (cv:=cv) (T:=T.set j (l.pair.stepT n).2.1) (F:={ F with clients:=F.clients.set c (C.comes j l (l.pair.stepT n).1 (l.pair.stepT n).2.2) }) (by rw [List.length_set];exact hl) t
     refine ⟨?_,λs' h=>?_⟩
     ·simp only [Option.map_some]
      rw [h1]
     ·cases h
      refine ⟨λx hx=>?_,h2⟩
      rcases List.mem_or_eq_of_mem_set hx with h | h
      ·exact hT x h
      ·rw [h];exact hok
def rX (c:Nat) (s:St cv):Nat→Nat→Option (St cv)
 | 0,_=>none
 |q+1,j=>match rW c j s with
  |some s'=>some s'
  |none=>rX c s q (j+1)
theorem uj {s:St cv} {c:Nat} (hf:Fine (rep s.1 s.2.1)) (hs:OkT s):∀ (q j:Nat),oS c (toP s) q j=(rX c s q j).map toP∧∀ s',rX c s q j=some s'→OkT s'∧∃ i,rW c i s=some s'
 | 0,j=>⟨rfl,λs' h=>by cases h⟩
 |q+1,j=>by
  obtain ⟨h1,h2⟩:=ui (c:=c) (j:=j) hf hs
  unfold oS rX
  rw [h1]
  cases h:rW c j s with
  |some s1=>exact ⟨rfl,λs' e=>by cases e;exact ⟨h2 _ h,j,h⟩⟩
  |none=>exact uj hf hs q (j+1)
def runT (c:Nat):Nat→St cv→Option (Nat×St cv)
 | 0,_=>none
 |f+1,s=>match rX c s 5 0 with
  |none=>some (0,s)
  |some s'=>(runT c f s').map λx=>(x.1+1,x.2)
theorem yG {c:Nat}:∀ (f:Nat) {s:St cv},OkP c (toP s)→OkT s→runP c f (toP s)=(runT c f s).map (λx=>(x.1,toP x.2))∧∀ x,runT c f s=some x→OkT x.2
 | 0,s,hok,hs=>⟨rfl,λx h=>by cases h⟩
 |f+1,s,hok,hs=>by
  obtain ⟨h1,h2⟩:=uj (c:=c) hok.fine hs 5 0
  unfold runP runT
  rw [h1]
  cases h:rX c s 5 0 with
  |none=>exact ⟨rfl,λx e=>by cases e;exact hs⟩
  |some s1=>
   obtain ⟨h3,i,hi⟩:=h2 _ h
   have hst:nS c i (toP s)=some (toP s1):=by rw [(ui (c:=c) (j:=i) hok.fine hs).1,hi];rfl
   have hok1:=(qL c).keep hok hst
   obtain ⟨h4,h5⟩:=yG f hok1 h3
   simp only [Option.map_some]
   rw [h4]
   refine ⟨by cases runT c f s1<;>rfl,λx e=>?_⟩
   cases hr:runT c f s1 with
   |none=>rw [hr] at e;cases e
   |some y=>rw [hr] at e;cases e;exact h5 y hr
end
def mH (c:Nat) (T:List aZ) (F:Fab) (t:Tk conv):Option (St conv):=match runT c 400 (T,(turn F t).1,(turn F t).2) with
 |some (k,s)=>if k<3000 then some (s.1,(turn s.2.1 s.2.2).1,(turn s.2.1 s.2.2).2) else none
 |none=>none
theorem uk {T:List aZ} {F:Fab} (h:F.nodes.length=T.length):lF (rep T F)=lF F:=by
 have hn:(rep T F).nodes.length=F.nodes.length:=by rw [h];simp [rep]
 unfold lF
 rw [hn]
 rfl
theorem yH {c:Nat} {T:List aZ} {F:Fab} {t:Tk conv} {s:St conv} (hf:Fine (rep T F)) (hq:lF F=true) (hT:∀ x ∈ T,x.Ok) (hl:F.nodes.length=T.length) (hc:t.client=(c:Int)) (h:mH c T F t=some s) (sch:List Int) {most:Nat} (hm:3000≤most) :
  drive (rep T F) [t] sch [] most=(rep s.1 s.2.1,[s.2.2])∧OkT s:=by
 obtain ⟨ht,htl⟩:=sO (T:=T) hl t
 have hok:OkP c (rep T F,t):=⟨hf,yu (by rw [uk hl];exact hq) c,hc⟩
 have hok1:=hok.turn
 rw [ht] at hok1
 unfold mH at h
 obtain ⟨h1,h2⟩:=yG (cv:=conv) 400 (s:=(T,(turn F t).1,(turn F t).2)) hok1 ⟨hT,htl⟩
 cases hr:runT c 400 (T,(turn F t).1,(turn F t).2) with
 |none=>rw [hr] at h;cases h
 |some x=>
  obtain ⟨k,s1⟩:=x
  rw [hr] at h h1
  simp only at h
  split at h
  ·rename_i hk
   cases h
   have hs1:=h2 _ hr
   have hp:rU c (rep T F) t=some (turn (rep s1.1 s1.2.1) s1.2.2):=by
    unfold rU
    rw [ht]
    have:runP c 400 (rep T (turn F t).1,(turn F t).2)=some (k,toP s1):=h1
    rw [this]
    simp only
    rw [if_pos hk]
    rfl
   obtain ⟨h5,h6⟩:=sO (cv:=conv) (T:=s1.1) hs1.len s1.2.2
   have:=t8 hf (by rw [uk hl];exact hq) hc hp sch hm
   rw [h5] at this
   exact ⟨this,hs1.ok,h6⟩
  ·cases h
def lG (n lines:Nat):List aZ:=List.replicate n (aZ.of (fmt lines n))
theorem ul {n lines:Nat} (h:lines≤128):rep (lG n lines) (Fab.fresh n 6 lines)=Fab.fresh n 6 lines:=by
 have hl:(fmt lines n).length≤1024:=by rw [sD];omega
 unfold rep lG Fab.fresh
 simp [aZ.of_s hl]
theorem um {n lines:Nat} (h:lines≤128):∀ x ∈ lG n lines,x.Ok:=by
 intro x hx
 rw [List.eq_of_mem_replicate hx]
 exact aZ.of_ok (by rw [sD];omega)
theorem rY (n lines:Nat):(Fab.fresh n 6 lines).nodes.length=(lG n lines).length:=by simp [Fab.fresh,lG]
def noT:aZ:=⟨.leaf 0,0,true⟩
def sP (T:List aZ) (i:Nat):aZ:=T.getD i noT
theorem q6 (T:List aZ) (F:Fab) (i:Nat):jF (rep T F) i=(sP T i).s:=by
 unfold jF sP rep
 rw [List.getD_eq_getElem?_getD,List.getD_eq_getElem?_getD,List.getElem?_map]
 cases T[i]?<;>rfl
def BM (x:aZ) (l:Nat):aG:=⟨l,x.get (l * 8),x.get (l * 8+1),x.get (l * 8+2),x.get (l * 8+3),x.get (l * 8+4),x.get (l * 8+5),x.get (l * 8+6),x.get (l * 8+7)⟩
theorem Ad (x:aZ) (l:Nat):x.s.page l=BM x l:=by
 unfold aO.page BM
 simp only [aZ.s_get]
def cwsT (c:Int) (x:aZ) (L:List Nat):List aG:=L.map λl=>bump c (BM x l)
theorem BN (c:Int) (x:aZ) (L:List Nat):cws c x.s L=cwsT c x L:=by
 unfold cws cwsT
 simp only [Ad]
def segT (x:aZ) (at_ c:Nat):List Int:=(List.range c).map λi=>x.t.get (at_+i)
theorem vg {x:aZ} {at_ c:Nat} (h:at_+c≤x.n):segM x.s at_ c=segT x at_ c:=by
 have:=aZ.read_s x (at_:Int) (c:Int)
 unfold aO.read aZ.read at this
 simp only [Int.toNat_natCast] at this
 rw [Nat.min_eq_left (by omega)] at this
 exact this
def eqBT (T:List aZ) (F:Fab) (n lines:Nat) (E:List Int):Bool:=decide (T.length=n∧F.lines=lines) && ((List.range (lines - 96)).all (λq=>E.getD (q * 8) 0 % 256 == 0) && (List.range n).all λi=>!(sP T i).down && (decide ((sP T i).n=lines * 8) && (eqL (segT (sP T i) 768 ((lines - 96) * 8)) E && eqL (segT (sP T i) 24 14) (segT (sP T 0) 24 14))))
theorem yI {T:List aZ} {F:Fab} {n lines:Nat} {E:List Int} (h98:98≤lines) (h:eqBT T F n lines E=true):EqF (rep T F) n lines E:=by
 refine Cx ?_
 simp only [eqBT,Bool.and_eq_true,List.all_eq_true,List.mem_range,decide_eq_true_eq,Bool.not_eq_true'] at h
 obtain ⟨⟨h1,h2⟩,h3,h4⟩:=h
 have hn:(rep T F).nodes.length=n:=by simpa [rep] using h1
 simp only [eqB,Bool.and_eq_true,List.all_eq_true,List.mem_range,decide_eq_true_eq,Bool.not_eq_true']
 refine ⟨⟨hn,h2⟩,h3,λi hi=>?_⟩
 obtain ⟨g1,g2,g3,g4⟩:=h4 i hi
 obtain ⟨_,k2,_,_⟩:=h4 0 (by omega)
 rw [q6,q6,vg (by omega),vg (by omega),vg (by omega)]
 exact ⟨g1,g3,g4⟩
end Go.Proofs.YtegepanmkjemjaaGreat
namespace Go.Proofs.YtegepanmkjemjaaGreat
open Go.Eng C12
def CC (n a:Nat):List aG:=cwsT 0 (sP (lG n 100) 0) (aT a)
theorem vh (n:Nat):jF (Fab.fresh n 6 100) 0=(sP (lG n 100) 0).s:=by
 have h:=ul (n:=n) (lines:=100) (by omega)
 rw [←h,q6]
end Go.Proofs.YtegepanmkjemjaaGreat
namespace Go.Proofs.YtegepanmkjemjaaGreat
open Go.Eng IntKind
end Go.Proofs.YtegepanmkjemjaaGreat
namespace Go.Proofs.YtegepanmkjemjaaGreat
open Go.Eng C12
attribute [local irreducible] drive
theorem pf {P:Program} {fn:Func} {R:Value→World→Prop} {Q:Exit→List Value→World→Prop} {c:Code} {env:List Value} {w:World} (h':∀ env w,Q .ret env w=retQ P fn R .ret env w) (h:Go.Eng.W P c env (Qr P fn R Q) w):Go.Eng.W P c env Q w:=(W_qr h').mp h
structure Dc (w0 w13:World) (n a b:Nat) (c:Bool) (e:Fab×Tk conv) (A2:Nat→Prop) (ξ:Nat→Tag) (fb:Nat) (X':FabX) (p b1:Nat) (rv:aN) (r':TR) (tW:List aG):Prop where
 fab:aV A2 ξ w13 fb X'
 new:New w0 w13
 own:∀ k,A2 k→w0.heap.size≤k
 pure:X'.pure=e.1
 fine:Fine e.1
 box:Blk w13 p (fofC fb 100 rv) TFo
 pout:¬ A2 p
 view:ViewAt A2 w13 rv (wP n)
 rvl:rv.Members_l=n
 talk:Blk w13 b1 r'.cells 49
 tw:Rd w13 r'.Commit.Writes (kk tW).flatten
 twl:r'.Commit.Writes_l=tW.length
 lines:tW.map aG.Line=ns (aT a)
 n3:1≤n∧n≤3
end Go.Proofs.YtegepanmkjemjaaGreat
namespace Go.Proofs.YtegepanmkjemjaaGreat
open Go.Eng C12
attribute [local irreducible] drive
end Go.Proofs.YtegepanmkjemjaaGreat
namespace Go.Proofs.YtegepanmkjemjaaGreat
open Go.Eng C12
def rC (r:Nat):List aU:=(aT r).map λ(l:Nat)=>(⟨(l:Int),256⟩:aU)
def rD (n w:Nat):Tk conv:=sM 0 1 100 n [] (sN n w)
def q7 (n r:Nat):Tk conv:=sM 1 1 100 n (rC r) []
def rZ (r w:Nat):Bool:=(aT r).any λl=>(aT w).contains l
def vQ (w l:Nat):List Int:=match (aT w).contains l with
 |true=>[512,1,1,0,0,0,0,0]
 |false=>[256,0,0,0,0,0,0,0]
def vi (w:Nat):List Int:=vQ w 96++(vQ w 97++(vQ w 98++vQ w 99))
def mP:Bool→Int
 |true=>7
 |false=>0
def mQ:Bool→Int
 |true=>1
 |false=>3
def r0 (n w:Nat):Tk conv:=sM 0 1 100 n [] (CC n w)
theorem Ae (n w:Nat):rD n w=r0 n w:=by
 unfold rD r0 sN CC
 rw [vh,BN]
def endA (t:Tk conv):Bool:=(outM t).1 == 0
def endB (m:Bool) (t:Tk conv):Bool:=t.over && ((outM t).1 == mP m && (outM t).2 == mQ m)
def AD (n r w:Nat):Bool:=match mH 1 (lG n 100) (Fab.fresh n 6 100) (q7 n r) with
 |some s=>lF s.2.1 && (endB false s.2.2 && match mH 0 s.1 s.2.1 (r0 n w) with
  |some s2=>endA s2.2.2 && (s2.2.1.trips 1 == 1 && eqBT s2.1 s2.2.1 n 100 (vi w))
  |none=>false)
 |none=>false
def CD (n w:Nat) (s:St conv) (r:Nat):Bool:=match mH 1 s.1 s.2.1 (q7 n r) with
 |some s2=>endB (rZ r w) s2.2.2 && (s2.2.1.trips 1 == 1 && eqBT s2.1 s2.2.1 n 100 (vi w))
 |none=>false
def rdA (n w:Nat):Bool:=lF (Fab.fresh n 6 100) && ((List.range 14).all (λr=>AD n r w) && match mH 0 (lG n 100) (Fab.fresh n 6 100) (r0 n w) with
 |some s=>lF s.2.1 && (endA s.2.2 && (List.range 14).all (CD n w s))
 |none=>false)
def vj:Prop:=∀ (n r w:Nat),1≤n∧n≤3→r<14→w<14→
 (∃ e1 e2:Fab×Tk conv,alone (Fab.fresh n 6 100) (q7 n r)=(e1.1,[e1.2])∧Fine e1.1∧alone e1.1 (rD n w)=(e2.1,[e2.2])∧Fine e2.1∧e1.2.over=true∧(outM e1.2).1=0∧(outM e1.2).2=3∧(outM e2.2).1=0∧e2.1.trips 1=1∧EqF e2.1 n 100 (vi w))∧
 ∃ e1 e2:Fab×Tk conv,alone (Fab.fresh n 6 100) (rD n w)=(e1.1,[e1.2])∧Fine e1.1∧alone e1.1 (q7 n r)=(e2.1,[e2.2])∧Fine e2.1∧(outM e1.2).1=0∧e2.2.over=true∧(outM e2.2).1=mP (rZ r w)∧(outM e2.2).2=mQ (rZ r w)∧e2.1.trips 1=1∧EqF e2.1 n 100 (vi w)
theorem yJ {m:Bool} {t:Tk conv} (h:endB m t=true):t.over=true∧(outM t).1=mP m∧(outM t).2=mQ m:=by
 simpa [endB] using h
theorem vR {c:Nat} {T:List aZ} {F:Fab} {t:Tk conv} {s:St conv} (hf:Fine (rep T F)) (hq:lF F=true) (hT:∀ x ∈ T,x.Ok) (hl:F.nodes.length=T.length) (hc:t.client=(c:Int)) (h:mH c T F t=some s) :
  alone (rep T F) t=(rep s.1 s.2.1,[s.2.2])∧OkT s∧Fine (rep s.1 s.2.1):=by
 obtain ⟨h1,h2⟩:=yH hf hq hT hl hc h [] (most:=20000) (by omega)
 have h3:alone (rep T F) t=(rep s.1 s.2.1,[s.2.2]):=h1
 refine ⟨h3,h2,?_⟩
 have:=Fine.alone hf t
 rw [h3] at this
 exact this
theorem Da {n w:Nat} (hn:1≤n∧n≤3) (h:rdA n w=true) {r:Nat} (hr:r<14) :
  (∃ e1 e2:Fab×Tk conv,alone (Fab.fresh n 6 100) (q7 n r)=(e1.1,[e1.2])∧Fine e1.1∧alone e1.1 (rD n w)=(e2.1,[e2.2])∧Fine e2.1∧e1.2.over=true∧(outM e1.2).1=0∧(outM e1.2).2=3∧(outM e2.2).1=0∧e2.1.trips 1=1∧EqF e2.1 n 100 (vi w))∧
  ∃ e1 e2:Fab×Tk conv,alone (Fab.fresh n 6 100) (rD n w)=(e1.1,[e1.2])∧Fine e1.1∧alone e1.1 (q7 n r)=(e2.1,[e2.2])∧Fine e2.1∧(outM e1.2).1=0∧e2.2.over=true∧(outM e2.2).1=mP (rZ r w)∧(outM e2.2).2=mQ (rZ r w)∧e2.1.trips 1=1∧EqF e2.1 n 100 (vi w):=by
 have hf:Fine (Fab.fresh n 6 100):=Fine.fresh (by omega) (by omega) (by omega)
 have hre:=ul (n:=n) (lines:=100) (by omega)
 have hff:Fine (rep (lG n 100) (Fab.fresh n 6 100)):=by rw [hre];exact hf
 unfold rdA at h
 rw [Bool.and_eq_true,Bool.and_eq_true] at h
 obtain ⟨hq,hS,hN⟩:=h
 rw [Ae]
 constructor
 ·have hS:=List.all_eq_true.1 hS r (List.mem_range.2 hr)
  unfold AD at hS
  cases hd:mH 1 (lG n 100) (Fab.fresh n 6 100) (q7 n r) with
  |none=>rw [hd] at hS;cases hS
  |some s=>
  rw [hd] at hS
  simp only [Bool.and_eq_true] at hS
  obtain ⟨hq1,hb,hS⟩:=hS
  obtain ⟨b1,b2,b3⟩:=yJ hb
  obtain ⟨a1,ok1,f1⟩:=vR hff hq (um (by omega)) (rY n 100) rfl hd
  rw [hre] at a1
  cases hd2:mH 0 s.1 s.2.1 (r0 n w) with
  |none=>rw [hd2] at hS;cases hS
  |some s2=>
  rw [hd2] at hS
  simp only [Bool.and_eq_true,endA,beq_iff_eq] at hS
  obtain ⟨a2,ok2,f2⟩:=vR f1 hq1 ok1.ok ok1.len rfl hd2
  exact ⟨(rep s.1 s.2.1,s.2.2),(rep s2.1 s2.2.1,s2.2.2),a1,f1,a2,f2,b1,b2,b3,hS.1,hS.2.1,yI (by omega) hS.2.2⟩
 ·cases hd:mH 0 (lG n 100) (Fab.fresh n 6 100) (r0 n w) with
  |none=>rw [hd] at hN;cases hN
  |some s=>
  rw [hd] at hN
  simp only [Bool.and_eq_true,endA,beq_iff_eq,List.all_eq_true,List.mem_range] at hN
  obtain ⟨hq1,hc1,hN⟩:=hN
  have hN:=hN r hr
  unfold CD at hN
  obtain ⟨a1,ok1,f1⟩:=vR hff hq (um (by omega)) (rY n 100) rfl hd
  rw [hre] at a1
  cases hd2:mH 1 s.1 s.2.1 (q7 n r) with
  |none=>rw [hd2] at hN;cases hN
  |some s2=>
  rw [hd2] at hN
  simp only [Bool.and_eq_true,beq_iff_eq] at hN
  obtain ⟨hb,ht,he⟩:=hN
  obtain ⟨b1,b2,b3⟩:=yJ hb
  obtain ⟨a2,ok2,f2⟩:=vR f1 hq1 ok1.ok ok1.len rfl hd2
  exact ⟨(rep s.1 s.2.1,s.2.2),(rep s2.1 s2.2.1,s2.2.2),a1,f1,a2,f2,hc1,b1,b2,b3,ht,yI (by omega) he⟩
end Go.Proofs.YtegepanmkjemjaaGreat
