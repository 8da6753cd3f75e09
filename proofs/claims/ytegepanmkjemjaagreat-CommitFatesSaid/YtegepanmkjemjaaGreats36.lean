import Derived.Test.YtegepanmkjemjaaGreats20
import Derived.Test.YtegepanmkjemjaaGreats33
import Derived.Test.YtegepanmkjemjaaGreats35
import Derived.Test.YtegepanmkjemjaaGreatProg
import Derived.Test.YtegepanmkjemjaaGreats03
set_option linter.unusedVariables false
namespace Go.Proofs.YtegepanmkjemjaaGreat
open Go.Eng
inductive Tr
 |leaf (x:Int)
 |node (a b:Tr)
def Tr.get:Tr→Nat→Int
 | .leaf x,_=>x
 | .node a b,i=>match i % 2 with
  | 0=>a.get (i / 2)
  | _=>b.get (i / 2)
def Tr.set:Tr→Nat→Int→Tr
 | .leaf _,_,v=>.leaf v
 | .node a b,i,v=>match i % 2 with
  | 0=>.node (a.set (i / 2) v) b
  | _=>.node a (b.set (i / 2) v)
def Tr.build:Nat→(Nat→Int)→Tr
 | 0,f=>.leaf (f 0)
 |d+1,f=>.node (build d λi=>f (2 * i)) (build d λi=>f (2 * i+1))
def Tr.Deep:Nat→Tr→Prop
 | 0,.leaf _=>True
 |d+1,.node a b=>a.Deep d∧b.Deep d
 | _,_=>False
theorem Tr.build_deep:∀ (d:Nat) (f:Nat→Int),(Tr.build d f).Deep d
 | 0,_=>trivial
 |d+1,f=>⟨build_deep d _,build_deep d _⟩
theorem Tr.build_get:∀ (d:Nat) (f:Nat→Int) (i:Nat),i<2 ^ d→(Tr.build d f).get i=f i
 | 0,f,i,h=>by
  have:i=0:=by simp at h;exact h
  rw [this]
  rfl
 |d+1,f,i,h=>by
  rw [Nat.pow_succ] at h
  unfold Tr.build Tr.get
  rcases Nat.mod_two_eq_zero_or_one i with e | e
  ·simp only [e]
   rw [build_get d _ _ (by omega)]
   congr 1
   omega
  ·simp only [e]
   rw [build_get d _ _ (by omega)]
   congr 1
   omega
theorem Tr.set_deep:∀ {d:Nat} {t:Tr},t.Deep d→∀ (i:Nat) (v:Int),(t.set i v).Deep d
 | 0,.leaf _,_,_,_=>trivial
 |d+1,.node a b,h,i,v=>by
  unfold Tr.set
  split
  ·exact ⟨set_deep h.1 _ _,h.2⟩
  ·exact ⟨h.1,set_deep h.2 _ _⟩
theorem Tr.set_get:∀ {d:Nat} {t:Tr},t.Deep d→∀ (i j:Nat) (v:Int),i<2 ^ d→j<2 ^ d→(t.set i v).get j=if i=j then v else t.get j
 | 0,.leaf _,_,i,j,v,hi,hj=>by
  have h1:i=0:=by simp at hi;exact hi
  have h2:j=0:=by simp at hj;exact hj
  rw [h1,h2]
  rfl
 |d+1,.node a b,h,i,j,v,hi,hj=>by
  rw [Nat.pow_succ] at hi hj
  unfold Tr.set
  rcases Nat.mod_two_eq_zero_or_one i with e | e<;>rcases Nat.mod_two_eq_zero_or_one j with e' | e'
  ·simp only [e,Tr.get,e']
   rw [set_get h.1 _ _ _ (by omega) (by omega)]
   by_cases hij:i / 2=j / 2
   ·rw [if_pos hij,if_pos (by omega)]
   ·rw [if_neg hij,if_neg (by omega)]
  ·simp only [e,Tr.get,e']
   rw [if_neg (by omega)]
  ·simp only [e,Tr.get,e']
   rw [if_neg (by omega)]
  ·simp only [e,Tr.get,e']
   rw [set_get h.2 _ _ _ (by omega) (by omega)]
   by_cases hij:i / 2=j / 2
   ·rw [if_pos hij,if_pos (by omega)]
   ·rw [if_neg hij,if_neg (by omega)]
structure bJ where
 t:Tr
 n:Nat
 down:Bool
def bJ.s (x:bJ):aP:=⟨(List.range x.n).map x.t.get,x.down⟩
structure bJ.Ok (x:bJ):Prop where
 deep:x.t.Deep 10
 n:x.n≤1024
def bJ.get (x:bJ) (i:Nat):Int:=if i<x.n then x.t.get i else 0
def bJ.set (x:bJ) (i:Nat) (v:Int):bJ:=if i<x.n then { x with t:=x.t.set i v } else x
def bJ.write (x:bJ):Nat→List Int→bJ
 | _,[]=>x
 |i,v::vs=>(x.set i v).write (i+1) vs
def bJ.read (x:bJ) (at_ c:Int):List Int:=(List.range (min c.toNat (x.n - at_.toNat))).map λi=>x.t.get (at_.toNat+i)
def bJ.of (ws:List Int):bJ:=⟨Tr.build 10 λi=>ws.getD i 0,ws.length,false⟩
theorem bJ.len (x:bJ):x.s.words.length=x.n:=by simp [bJ.s]
theorem bJ.s_get (x:bJ) (i:Nat):x.s.get i=x.get i:=by
 unfold aP.get bJ.s bJ.get
 rw [List.getD_eq_getElem?_getD,List.getElem?_map]
 by_cases h:i<x.n
 ·rw [if_pos h,List.getElem?_range h]
  rfl
 ·rw [if_neg h,List.getElem?_eq_none (by simp;omega)]
  rfl
theorem bJ.set_n (x:bJ) (i:Nat) (v:Int):(x.set i v).n=x.n∧(x.set i v).down=x.down:=by
 unfold bJ.set
 split<;>exact ⟨rfl,rfl⟩
theorem bJ.set_ok {x:bJ} (h:x.Ok) (i:Nat) (v:Int):(x.set i v).Ok:=by
 unfold bJ.set
 split
 ·exact ⟨Tr.set_deep h.deep _ _,h.n⟩
 ·exact h
theorem bJ.set_s {x:bJ} (h:x.Ok) (i:Nat) (v:Int):(x.set i v).s=⟨x.s.words.set i v,x.down⟩:=by
 have hn:=h.n
 unfold bJ.set
 split
 ·rename_i hi
  unfold bJ.s
  congr 1
  apply List.ext_getElem?
  intro j
  rw [List.getElem?_set,List.getElem?_map,List.length_map,List.length_range]
  by_cases hj:j<x.n
  ·rw [List.getElem?_map,List.getElem?_range hj]
   simp only [Option.map_some]
   rw [Tr.set_get h.deep i j v (by omega) (by omega)]
   by_cases hij:i=j
   ·rw [if_pos hij,if_pos hij,if_pos hi]
   ·rw [if_neg hij,if_neg hij]
  ·rw [List.getElem?_map,List.getElem?_eq_none (by simp;omega)]
   by_cases hij:i=j
   ·omega
   ·rw [if_neg hij]
    rfl
 ·rename_i hi
  unfold bJ.s
  rw [List.set_eq_of_length_le (by simp;omega)]
theorem bJ.write_ok:∀ (ws:List Int) {x:bJ},x.Ok→∀ (i:Nat),(x.write i ws).Ok
 | [],x,h,i=>h
 |v::vs,x,h,i=>write_ok vs (set_ok h i v) (i+1)
def sets:List Int→Nat→List Int→List Int
 |l,_,[]=>l
 |l,i,v::vs=>sets (l.set i v) (i+1) vs
theorem yZ:∀ (ws l:List Int) (i:Nat),i+ws.length≤l.length→sets l i ws=l.take i++ws++l.drop (i+ws.length)
 | [],l,i,h=>by simp [sets]
 |v::vs,l,i,h=>by
  rw [List.length_cons] at h
  unfold sets
  rw [yZ vs (l.set i v) (i+1) (by rw [List.length_set];omega)]
  have h1:(l.set i v).take (i+1)=l.take i++[v]:=by
   apply List.ext_getElem?
   intro j
   rw [List.getElem?_take,List.getElem?_append,List.length_take,Nat.min_eq_left (by omega),List.getElem?_set]
   by_cases hj:j<i
   ·rw [if_pos (by omega),if_neg (by omega),if_pos hj,List.getElem?_take_of_lt hj]
   ·by_cases hj2:j=i
    ·subst hj2
     rw [if_pos (by omega),if_pos rfl,if_pos (by omega),if_neg (by omega)]
     simp
    ·rw [if_neg (by omega),if_neg hj,List.getElem?_eq_none (by simp;omega)]
  have h2:(l.set i v).drop (i+1+vs.length)=l.drop (i+1+vs.length):=by rw [List.drop_set_of_lt (by omega)]
  rw [h1,h2,List.length_cons]
  simp [Nat.add_assoc,Nat.add_comm,Nat.add_left_comm]
theorem bJ.write_sets:∀ (ws:List Int) {x:bJ},x.Ok→∀ (i:Nat),(x.write i ws).s=⟨sets x.s.words i ws,x.down⟩
 | [],x,h,i=>rfl
 |v::vs,x,h,i=>by
  unfold bJ.write sets
  rw [write_sets vs (set_ok h i v) (i+1),set_s h,(x.set_n i v).2]
theorem bJ.write_s {x:bJ} (h:x.Ok) {i:Nat} {ws:List Int} (hl:(x.s.write i ws).words.length=x.s.words.length):(x.write i ws).s=x.s.write i ws:=by
 rw [write_sets ws h i]
 unfold aP.write at hl ⊢
 simp only [List.length_append,List.length_take,List.length_drop] at hl
 by_cases hi:i≤x.s.words.length
 ·rw [yZ ws _ i (by omega)]
  rfl
 ·have:ws=[]:=by
   cases ws with
   |nil=>rfl
   |cons a l=>simp at hl;omega
  subst this
  simp [sets]
  rfl
theorem bJ.read_s (x:bJ) (at_ c:Int):x.s.read at_ c=x.read at_ c:=by
 unfold aP.read bJ.read bJ.s
 apply List.ext_getElem?
 intro j
 rw [List.getElem?_take,List.getElem?_drop,List.getElem?_map,List.getElem?_map]
 by_cases hj:j<min c.toNat (x.n - at_.toNat)
 ·rw [if_pos (by omega),List.getElem?_range (by omega),List.getElem?_range hj]
  rfl
 ·rw [List.getElem?_eq_none (l:=List.range (min c.toNat (x.n - at_.toNat))) (by simp;omega)]
  split
  ·rw [List.getElem?_eq_none (by simp;omega)]
   rfl
  ·rfl
theorem bJ.of_ok {ws:List Int} (h:ws.length≤1024):(bJ.of ws).Ok:=⟨Tr.build_deep 10 λi=>ws.getD i 0,h⟩
theorem bJ.of_s {ws:List Int} (h:ws.length≤1024):(bJ.of ws).s=⟨ws,false⟩:=by
 unfold bJ.of bJ.s
 congr 1
 apply List.ext_getElem?
 intro j
 rw [List.getElem?_map]
 by_cases hj:j<ws.length
 ·rw [List.getElem?_range hj,List.getElem?_eq_getElem hj]
  simp only [Option.map_some]
  rw [Tr.build_get 10 _ j (by omega),List.getD_eq_getElem?_getD,List.getElem?_eq_getElem hj]
  rfl
 ·rw [List.getElem?_eq_none (by simp;omega),List.getElem?_eq_none (by omega)]
  rfl
def Pair.refT (p:Pair) (x:Verb) (n:bJ):Int:=
 if n.down=true then 4 else if x.v.valid 5 (n.n / 8:Nat)≠0 then 2 else x.v.check p.inc (n.get (24+p.client).toNat) (n.get 0) (n.get 1)
def xm (x:Verb) (pc:Int×Int) (n:bJ):bJ×List Int:=
 if x.kind=1 then (n,n.read pc.1 pc.2)
 else if x.kind=2 then (n.write pc.1.toNat ((x.words.drop (pc.1 - x.at_).toNat).take pc.2.toNat),[])
 else if x.kind=3 then (if n.get x.at_.toNat=x.old then n.set x.at_.toNat x.new else n,[n.get x.at_.toNat])
 else if x.kind=4 then (n.set x.at_.toNat (IntKind.u64.wrap (n.get x.at_.toNat+x.new)),[n.get x.at_.toNat])
 else (n,[])
def Pair.stepT (p:Pair) (n:bJ):Pair×bJ×Option Done:=
 match p.verbs with
 | []=>(p,n,none)
 |x::_=>
  if p.refT x n≠0 then (p.done,n,some ⟨p.refT x n,[]⟩)
  else
   let r:=xm x (x.v.pieces.getD p.executed (0,0)) n
   if p.executed+1<x.v.pieces.length then ({ p with executed:=p.executed+1,words:=p.words++r.2 },r.1,none)
   else (p.done,r.1,some ⟨0,p.words++r.2⟩)
theorem vo (p:Pair) (x:Verb) (n:bJ):p.refusal x n.s=p.refT x n:=by
 unfold Pair.refusal Pair.refT
 rw [bJ.len,bJ.s_get,bJ.s_get,bJ.s_get]
 rfl
theorem vZ {x:Verb} {pc:Int×Int} {n:bJ} (h:n.Ok):(xm x pc n).1.Ok:=by
 unfold xm
 repeat' split
 all_goals first | exact h | exact bJ.write_ok _ h _ | exact bJ.set_ok h _ _
theorem Aw {x:Verb} {pc:Int×Int} {n:bJ} (h:n.Ok) (hl:(exec x pc n.s).1.words.length=n.s.words.length):exec x pc n.s=((xm x pc n).1.s,(xm x pc n).2):=by
 unfold exec at hl ⊢
 unfold xm
 split
 ·rw [bJ.read_s]
 ·rename_i h1
  rw [if_neg h1] at hl
  split
  ·rename_i h2
   rw [if_pos h2] at hl
   rw [bJ.write_s h hl]
  ·split
   ·unfold aP.cas
    rw [bJ.s_get]
    split
    ·rw [bJ.set_s h]
     rfl
    ·rfl
   ·split
    ·unfold aP.add
     rw [bJ.s_get,bJ.set_s h]
     rfl
    ·rfl
theorem Ax {p:Pair} (hP:cR p) {n:bJ} (h:n.Ok):p.step n.s=((p.stepT n).1,(p.stepT n).2.1.s,(p.stepT n).2.2)∧(p.stepT n).2.1.Ok:=by
 unfold Pair.step Pair.stepT
 cases hv:p.verbs with
 |nil=>exact ⟨rfl,h⟩
 |cons x xs=>
  simp only
  by_cases hz:p.refT x n=0
  ·have hr:p.refusal x n.s=0:=by rw [vo];exact hz
   have hlt:=hP.rdy x xs hv
   have hmem:x.v.pieces.getD p.executed (0,0) ∈ x.v.pieces:=by
    rw [List.getD_eq_getElem?_getD,List.getElem?_eq_getElem hlt]
    exact List.getElem_mem hlt
   have he:=Aw (x:=x) h (qV (oZ hr).2 hmem)
   rw [if_neg (show ¬ p.refusal x n.s≠0 by rw [hr];simp),if_neg (show ¬ p.refT x n≠0 by rw [hz];simp),he]
   split
   ·exact ⟨rfl,vZ h⟩
   ·exact ⟨rfl,vZ h⟩
  ·rw [if_pos (show p.refusal x n.s≠0 by rw [vo];exact hz),if_pos (show p.refT x n≠0 from hz),vo]
   exact ⟨rfl,h⟩
end Go.Proofs.YtegepanmkjemjaaGreat
namespace Go.Proofs.YtegepanmkjemjaaGreat
open Go.Eng C12
def rep (T:List bJ) (F:Fab):Fab:={ F with nodes:=T.map bJ.s }
section
variable {cv:Conv}
theorem Ay (T:List bJ) (F:Fab) (c:Int):(rep T F).take c=((F.take c).1,rep T (F.take c).2)∧(F.take c).2.nodes=F.nodes:=by
 have hc:(rep T F).cl c=F.cl c:=rfl
 unfold Fab.take
 rw [hc]
 cases F.cl c with
 |none=>exact ⟨rfl,rfl⟩
 |some C=>
  simp only
  split
  ·exact ⟨rfl,rfl⟩
  ·cases C.batch with
   |none=>exact ⟨rfl,rfl⟩
   |some ds=>
    simp only
    split
    ·exact ⟨rfl,rfl⟩
    ·exact ⟨rfl,rfl⟩
theorem Az {T:List bJ} {F:Fab} (h:F.nodes.length=T.length) (c:Int) (vs:List Verb):(rep T F).post c vs=((F.post c vs).1,rep T (F.post c vs).2)∧(F.post c vs).2.nodes=F.nodes:=by
 have hc:(rep T F).cl c=F.cl c:=rfl
 have hn:(rep T F).nodes.length=F.nodes.length:=by rw [h];simp [rep]
 have hl:(rep T F).lines=F.lines:=rfl
 unfold Fab.post
 rw [hc,hn,hl]
 cases F.cl c with
 |none=>exact ⟨rfl,rfl⟩
 |some C=>
  simp only
  split
  ·exact ⟨rfl,rfl⟩
  ·split
   ·exact ⟨rfl,rfl⟩
   ·split
    ·exact ⟨rfl,rfl⟩
    ·split
     ·exact ⟨rfl,rfl⟩
     ·split
      ·exact ⟨rfl,rfl⟩
      ·exact ⟨rfl,rfl⟩
theorem sW {T:List bJ} {F:Fab} (h:F.nodes.length=T.length) (t:Tk cv):turn (rep T F) t=(rep T (turn F t).1,(turn F t).2)∧(turn F t).1.nodes.length=T.length:=by
 have ha:(rep T F).alive t.client=F.alive t.client:=rfl
 have hw:(rep T F).waiting t.client=F.waiting t.client:=rfl
 obtain ⟨h1,h2⟩:=Ay T F t.client
 unfold turn
 rw [ha,hw,h1]
 split
 ·exact ⟨rfl,h⟩
 ·unfold qt
  simp only
  obtain ⟨h3,h4⟩:=Az (T:=T) (F:=(F.take t.client).2) (by rw [h2];exact h) (t.fed (F.take t.client).1).client (cv.next (t.fed (F.take t.client).1).job (t.fed (F.take t.client).1).got).1
  rw [h3]
  split
  ·exact ⟨rfl,by rw [h2];exact h⟩
  ·split
   ·exact ⟨rfl,by rw [h2];exact h⟩
   ·simp only
    split
    ·exact ⟨rfl,by rw [h4,h2];exact h⟩
    ·exact ⟨rfl,by rw [h4,h2];exact h⟩
abbrev St (cv:Conv):=List bJ×Fab×Tk cv
def toP (s:St cv):Fab×Tk cv:=(rep s.1 s.2.1,s.2.2)
def pn (c j:Nat) (s:St cv):Option (St cv):=
 match s.2.1.clients[c]? with
 |none=>none
 |some C=>match C.lanes[j]?,s.1[j]? with
  |some l,some n=>if l.pair.verbs.length=0 then none else
   let r:=l.pair.stepT n
   let u:=turn { s.2.1 with clients:=s.2.1.clients.set c (C.comes j l r.1 r.2.2) } s.2.2
   some (s.1.set j r.2.1,u.1,u.2)
  | _,_=>none
structure OkT (s:St cv):Prop where
 ok:∀ x ∈ s.1,x.Ok
 len:s.2.1.nodes.length=s.1.length
theorem po {s:St cv} {c j:Nat} (hf:Fine (rep s.1 s.2.1)) (hs:OkT s):ey c j (toP s)=(pn c j s).map toP∧∀ s',pn c j s=some s'→OkT s':=by
 obtain ⟨T,F,t⟩:=s
 obtain ⟨hT,hl⟩:=hs
 unfold ey stepL pn toP
 simp only
 have hcl:(rep T F).clients=F.clients:=rfl
 rw [hcl]
 cases hC:F.clients[c]? with
 |none=>exact ⟨rfl,λs' h=>by cases h⟩
 |some C=>
  simp only
  have hnd:(rep T F).nodes[j]?=(T[j]?).map bJ.s:=by simp [rep]
  rw [hnd]
  cases hL:C.lanes[j]? with
  |none=>exact ⟨rfl,λs' h=>by cases h⟩
  |some l=>
   cases hN:T[j]? with
   |none=>exact ⟨rfl,λs' h=>by cases h⟩
   |some n=>
    simp only [Option.map_some]
    by_cases hv:l.pair.verbs.length=0
    ·rw [if_pos hv,if_pos hv]
     exact ⟨rfl,λs' h=>by cases h⟩
    ·rw [if_neg hv,if_neg hv]
     have hP:cR l.pair:=hf.good.cl C (List.mem_of_getElem? hC) l (List.mem_of_getElem? hL)
     obtain ⟨he,hok⟩:=Ax hP (hT n (List.mem_of_getElem? hN))
     rw [he]
     simp only
     have hset:({ rep T F with nodes:=(rep T F).nodes.set j (l.pair.stepT n).2.1.s,clients:=F.clients.set c (C.comes j l (l.pair.stepT n).1 (l.pair.stepT n).2.2) }:Fab)=rep (T.set j (l.pair.stepT n).2.1) { F with clients:=F.clients.set c (C.comes j l (l.pair.stepT n).1 (l.pair.stepT n).2.2) }:=by
      simp [rep,List.map_set]
     rw [hset]
     obtain ⟨h1,h2⟩:=sW (cv:=cv) (T:=T.set j (l.pair.stepT n).2.1) (F:={ F with clients:=F.clients.set c (C.comes j l (l.pair.stepT n).1 (l.pair.stepT n).2.2) }) (by rw [List.length_set];exact hl) t
     refine ⟨?_,λs' h=>?_⟩
     ·simp only [Option.map_some]
      rw [h1]
     ·cases h
      refine ⟨λx hx=>?_,h2⟩
      rcases List.mem_or_eq_of_mem_set hx with h | h
      ·exact hT x h
      ·rw [h];exact hok
def sj (c:Nat) (s:St cv):Nat→Nat→Option (St cv)
 | 0,_=>none
 |q+1,j=>match pn c j s with
  |some s'=>some s'
  |none=>sj c s q (j+1)
theorem ur {s:St cv} {c:Nat} (hf:Fine (rep s.1 s.2.1)) (hs:OkT s):∀ (q j:Nat),o7 c (toP s) q j=(sj c s q j).map toP∧∀ s',sj c s q j=some s'→OkT s'∧∃ i,pn c i s=some s'
 | 0,j=>⟨rfl,λs' h=>by cases h⟩
 |q+1,j=>by
  obtain ⟨h1,h2⟩:=po (c:=c) (j:=j) hf hs
  unfold o7 sj
  rw [h1]
  cases h:pn c j s with
  |some s1=>exact ⟨rfl,λs' e=>by cases e;exact ⟨h2 _ h,j,h⟩⟩
  |none=>exact ur hf hs q (j+1)
def runT (c:Nat):Nat→St cv→Option (Nat×St cv)
 | 0,_=>none
 |f+1,s=>match sj c s 5 0 with
  |none=>some (0,s)
  |some s'=>(runT c f s').map λx=>(x.1+1,x.2)
theorem y0 {c:Nat}:∀ (f:Nat) {s:St cv},OkP c (toP s)→OkT s→runP c f (toP s)=(runT c f s).map (λx=>(x.1,toP x.2))∧∀ x,runT c f s=some x→OkT x.2
 | 0,s,hok,hs=>⟨rfl,λx h=>by cases h⟩
 |f+1,s,hok,hs=>by
  obtain ⟨h1,h2⟩:=ur (c:=c) hok.fine hs 5 0
  unfold runP runT
  rw [h1]
  cases h:sj c s 5 0 with
  |none=>exact ⟨rfl,λx e=>by cases e;exact hs⟩
  |some s1=>
   obtain ⟨h3,i,hi⟩:=h2 _ h
   have hst:ey c i (toP s)=some (toP s1):=by rw [(po (c:=c) (j:=i) hok.fine hs).1,hi];rfl
   have hok1:=(gY c).keep hok hst
   obtain ⟨h4,h5⟩:=y0 f hok1 h3
   simp only [Option.map_some]
   rw [h4]
   refine ⟨by cases runT c f s1<;>rfl,λx e=>?_⟩
   cases hr:runT c f s1 with
   |none=>rw [hr] at e;cases e
   |some y=>rw [hr] at e;cases e;exact h5 y hr
end
def nP (n lines:Nat):List bJ:=List.replicate n (bJ.of (fmt lines n))
theorem ut {n lines:Nat} (h:lines≤128):rep (nP n lines) (Fab.fresh n 6 lines)=Fab.fresh n 6 lines:=by
 have hl:(fmt lines n).length≤1024:=by rw [sN];omega
 unfold rep nP Fab.fresh
 simp [bJ.of_s hl]
theorem y5 {n lines:Nat} (h:lines≤128):∀ x ∈ nP n lines,x.Ok:=by
 intro x hx
 rw [List.eq_of_mem_replicate hx]
 exact bJ.of_ok (by rw [sN];omega)
theorem xn (n lines:Nat):(Fab.fresh n 6 lines).nodes.length=(nP n lines).length:=by simp [Fab.fresh,nP]
def noT:bJ:=⟨.leaf 0,0,true⟩
def rN (T:List bJ) (i:Nat):bJ:=T.getD i noT
theorem rn (T:List bJ) (F:Fab) (i:Nat):jU (rep T F) i=(rN T i).s:=by
 unfold jU rN rep
 rw [List.getD_eq_getElem?_getD,List.getD_eq_getElem?_getD,List.getElem?_map]
 cases T[i]?<;>rfl
def B6 (x:bJ) (l:Nat):aG:=⟨l,x.get (l * 8),x.get (l * 8+1),x.get (l * 8+2),x.get (l * 8+3),x.get (l * 8+4),x.get (l * 8+5),x.get (l * 8+6),x.get (l * 8+7)⟩
theorem v5 (x:bJ) (l:Nat):x.s.page l=B6 x l:=by
 unfold aP.page B6
 simp only [bJ.s_get]
def cwsT (c:Int) (x:bJ) (L:List Nat):List aG:=L.map λl=>bump c (B6 x l)
theorem B7 (c:Int) (x:bJ) (L:List Nat):cws c x.s L=cwsT c x L:=by
 unfold cws cwsT
 simp only [v5]
end Go.Proofs.YtegepanmkjemjaaGreat
namespace Go.Proofs.YtegepanmkjemjaaGreat
open Go.Eng C12
def CS (n a:Nat):List aG:=cwsT 0 (rN (nP n 100) 0) (eJ a)
theorem vp (n:Nat):jU (Fab.fresh n 6 100) 0=(rN (nP n 100) 0).s:=by
 have h:=ut (n:=n) (lines:=100) (by omega)
 rw [←h,rn]
end Go.Proofs.YtegepanmkjemjaaGreat
namespace Go.Proofs.YtegepanmkjemjaaGreat
open Go.Eng IntKind
end Go.Proofs.YtegepanmkjemjaaGreat
namespace Go.Proofs.YtegepanmkjemjaaGreat
open Go.Eng C12
attribute [local irreducible] drive
theorem l8 {P:Program} {fn:Func} {R:Value→World→Prop} {Q:Exit→List Value→World→Prop} {c:Code} {env:List Value} {w:World} (h':∀ env w,Q .ret env w=retQ P fn R .ret env w) (h:Go.Eng.W P c env (Qr P fn R Q) w):Go.Eng.W P c env Q w:=(W_qr h').mp h
structure Dk (w0 w13:World) (n a b:Nat) (c:Bool) (e:Fab×Tk conv) (A2:Nat→Prop) (ξ:Nat→Tag) (fb:Nat) (X':FabX) (p b1:Nat) (rv:aN) (r':TR) (tW:List aG):Prop where
 fab:aZ A2 ξ w13 fb X'
 new:New w0 w13
 own:∀ k,A2 k→w0.heap.size≤k
 pure:X'.pure=e.1
 fine:Fine e.1
 box:Blk w13 p (fofC fb 100 rv) TFo
 pout:¬ A2 p
 view:ViewAt A2 w13 rv (yO n)
 rvl:rv.Members_l=n
 talk:Blk w13 b1 r'.cells 49
 tw:Rd w13 r'.Commit.Writes (kC tW).flatten
 twl:r'.Commit.Writes_l=tW.length
 lines:tW.map aG.Line=ns (eJ a)
 n3:1≤n∧n≤3
end Go.Proofs.YtegepanmkjemjaaGreat
namespace Go.Proofs.YtegepanmkjemjaaGreat
open Go.Eng C12
attribute [local irreducible] drive
end Go.Proofs.YtegepanmkjemjaaGreat
namespace Go.Proofs.YtegepanmkjemjaaGreat
open Go.Eng C12
end Go.Proofs.YtegepanmkjemjaaGreat
namespace Go.Proofs.YtegepanmkjemjaaGreat
open Go.Eng IntKind
end Go.Proofs.YtegepanmkjemjaaGreat
namespace Go.Proofs.YtegepanmkjemjaaGreat
open Go.Eng C12
attribute [local irreducible] drive alone
structure RdS (w w2:World) (A:Nat→Prop) (χ:Nat→Tag) (n fb p:Nat) (rv:aN) (b1 b2:Nat) (z:World) (F:Fab) (ra rb:TR) (ta tb:Tk conv):Prop where
 ex:∃ B ξ X,TW A χ w2 fb (λk=>k=b1∨k=b2) z B ξ X∧X.pure=F∧eP (λk=>B k∨k=b1∨k=b2) z ra ta∧eP (λk=>B k∨k=b1∨k=b2) z rb tb∧ViewAt (λk=>B k∨k=b1∨k=b2) z rv (yO n)∧¬ (B p∨p=b1∨p=b2)
 fine:Fine F
 box:Blk z p (fofC fb 100 rv) TFo
 ba:Blk z b1 ra.cells 49
 bb:Blk z b2 rb.cells 49
 ne:b1≠b2
theorem RdS.next {w w2:World} {A:Nat→Prop} {χ:Nat→Tag} {n fb p:Nat} {rv:aN} {b1 b2:Nat} {z z':World} {F:Fab} {ra rb:TR} {ta tb:Tk conv} (h:RdS w w2 A χ n fb p rv b1 b2 z F ra rb ta tb) (hn:New z z'):RdS w w2 A χ n fb p rv b1 b2 z' F ra rb ta tb:=by
 obtain ⟨B,ξ,X,h1,h2,h3,h4,h5,h6⟩:=h.ex
 have hm:∀ k,k<z.heap.size→B k∨k=b1∨k=b2→B k∨k=b1∨k=b2:=λk _ h=>h
 exact ⟨⟨B,ξ,X,h1.new hn,h2,h3.keep (Keep.of_new hn) hm,h4.keep (Keep.of_new hn) hm,h5.new hn,h6⟩,h.fine,New.blk hn h.box,New.blk hn h.ba,New.blk hn h.bb,h.ne⟩
theorem RdS.run {w w2:World} {A:Nat→Prop} {χ:Nat→Tag} {n fb p:Nat} {rv:aN} {b1 b2:Nat} {z:World} {F:Fab} {ra rb:TR} {ta tb:Tk conv} (h:RdS w w2 A χ n fb p rv b1 b2 z F ra rb ta tb) (hsh:rJ ta) {e:Fab×Tk conv} (hd:alone F ta=(e.1,[e.2])) (hfe:Fine e.1) :
  Does 15 [ptr fb,ra.val] z λv u=>∃ r',v=r'.val∧∀ K:World→Prop,(∀ u',RdS w w2 A χ n fb p rv b1 b2 u' e.1 r' rb e.2 tb→K u')→wrAt u ⟨b1,0,none⟩ 0 r'.cells∧∀ u',u'=puts u ⟨b1,0,none⟩ 0 r'.cells→K u':=by
 obtain ⟨B,ξ,X,hT,hX,hta,htb,hv,hp⟩:=h.ex
 have hcall:=yV hT.fab (by rw [hX];exact h.fine) hta hsh
 rw [hX,hd] at hcall
 refine aE hcall ?_
 rintro v u hpost
 obtain ⟨B',ξ',X',h3,hX3,hK3,hk3,hM3,hL3⟩:=hT.op hpost
 obtain ⟨t',r',ht',rfl,htx⟩:=hK3
 have ht':t'=e.2:=by simpa using ht'.symm
 subst ht'
 refine ⟨_,rfl,r',rfl,λK hK=>?_⟩
 have hba:Blk u b1 ra.cells 49:=(hL3 b1 (.inl rfl)).trans h.ba
 have hbb:Blk u b2 rb.cells 49:=(hL3 b2 (.inr rfl)).trans h.bb
 refine fK (vs:=r'.cells) hba rfl (aB.single _) λu' hz hk=>hK u' ?_
 have hkl:Keep (λk=>B' k∨k=b1∨k=b2) u u':=hk.mono λk _ e=>.inr (.inl e)
 have hid:∀ k,k<u.heap.size→B' k∨k=b1∨k=b2→B' k∨k=b1∨k=b2:=λk _ h=>h
 have hpl:=h.box.lt
 refine ⟨⟨B',ξ',X',h3.local hk λk e=>.inl e,hX3,htx.keep hkl hid,(htb.keep hk3 hM3).keep hkl hid,C12.ViewAt.keep (C12.ViewAt.keep hv hk3 hM3) hkl hid,λe=>hp (hM3 p hpl e)⟩,hfe,?_,hz,hk.blk hbb h.ne.symm,h.ne⟩
 exact hk.blk (hk3.blk h.box hp) λe=>hp (.inr (.inl e))
end Go.Proofs.YtegepanmkjemjaaGreat
namespace Go.Proofs.YtegepanmkjemjaaGreat
open Go.Eng C12
attribute [local irreducible] drive alone
end Go.Proofs.YtegepanmkjemjaaGreat
