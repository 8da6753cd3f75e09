import Derived.Test.YtegepanmkjemjaaGreatt19
import Derived.Test.YtegepanmkjemjaaGreatt30
import Derived.Test.YtegepanmkjemjaaGreatt33
import Derived.Test.YtegepanmkjemjaaGreatProg
import Derived.Test.YtegepanmkjemjaaGreatt03
import Derived.Test.YtegepanmkjemjaaGreatt32
set_option linter.unusedVariables false
namespace Go.Proofs.YtegepanmkjemjaaGreat
open Go.Eng
inductive Tr
 |leaf (x:Int)
 |node (a b:Tr)
def Tr.get:Tr→Nat→Int
 | .leaf x,_=>x
 | .node a b,i=>match i % 2 with
  | 0=>a.get (i / 2)
  | _=>b.get (i / 2)
def Tr.set:Tr→Nat→Int→Tr
 | .leaf _,_,v=>.leaf v
 | .node a b,i,v=>match i % 2 with
  | 0=>.node (a.set (i / 2) v) b
  | _=>.node a (b.set (i / 2) v)
def Tr.build:Nat→(Nat→Int)→Tr
 | 0,f=>.leaf (f 0)
 |d+1,f=>.node (build d λi=>f (2 * i)) (build d λi=>f (2 * i+1))
def Tr.Deep:Nat→Tr→Prop
 | 0,.leaf _=>True
 |d+1,.node a b=>a.Deep d∧b.Deep d
 | _,_=>False
theorem Tr.build_deep:∀ (d:Nat) (f:Nat→Int),(Tr.build d f).Deep d
 | 0,_=>trivial
 |d+1,f=>⟨build_deep d _,build_deep d _⟩
theorem Tr.build_get:∀ (d:Nat) (f:Nat→Int) (i:Nat),i<2 ^ d→(Tr.build d f).get i=f i
 | 0,f,i,h=>by
  have:i=0:=by simp at h;exact h
  rw [this]
  rfl
 |d+1,f,i,h=>by
  rw [Nat.pow_succ] at h
  unfold Tr.build Tr.get
  rcases Nat.mod_two_eq_zero_or_one i with e | e
  ·simp only [e]
   rw [build_get d _ _ (by omega)]
   congr 1
   omega
  ·simp only [e]
   rw [build_get d _ _ (by omega)]
   congr 1
   omega
theorem Tr.set_deep:∀ {d:Nat} {t:Tr},t.Deep d→∀ (i:Nat) (v:Int),(t.set i v).Deep d
 | 0,.leaf _,_,_,_=>trivial
 |d+1,.node a b,h,i,v=>by
  unfold Tr.set
  split
  ·exact ⟨set_deep h.1 _ _,h.2⟩
  ·exact ⟨h.1,set_deep h.2 _ _⟩
theorem Tr.set_get:∀ {d:Nat} {t:Tr},t.Deep d→∀ (i j:Nat) (v:Int),i<2 ^ d→j<2 ^ d→(t.set i v).get j=if i=j then v else t.get j
 | 0,.leaf _,_,i,j,v,hi,hj=>by
  have h1:i=0:=by simp at hi;exact hi
  have h2:j=0:=by simp at hj;exact hj
  rw [h1,h2]
  rfl
 |d+1,.node a b,h,i,j,v,hi,hj=>by
  rw [Nat.pow_succ] at hi hj
  unfold Tr.set
  rcases Nat.mod_two_eq_zero_or_one i with e | e<;>rcases Nat.mod_two_eq_zero_or_one j with e' | e'
  ·simp only [e,Tr.get,e']
   rw [set_get h.1 _ _ _ (by omega) (by omega)]
   by_cases hij:i / 2=j / 2
   ·rw [if_pos hij,if_pos (by omega)]
   ·rw [if_neg hij,if_neg (by omega)]
  ·simp only [e,Tr.get,e']
   rw [if_neg (by omega)]
  ·simp only [e,Tr.get,e']
   rw [if_neg (by omega)]
  ·simp only [e,Tr.get,e']
   rw [set_get h.2 _ _ _ (by omega) (by omega)]
   by_cases hij:i / 2=j / 2
   ·rw [if_pos hij,if_pos (by omega)]
   ·rw [if_neg hij,if_neg (by omega)]
structure aV where
 t:Tr
 n:Nat
 down:Bool
def aV.s (x:aV):aP:=⟨(List.range x.n).map x.t.get,x.down⟩
structure aV.Ok (x:aV):Prop where
 deep:x.t.Deep 10
 n:x.n≤1024
def aV.get (x:aV) (i:Nat):Int:=if i<x.n then x.t.get i else 0
def aV.set (x:aV) (i:Nat) (v:Int):aV:=if i<x.n then { x with t:=x.t.set i v } else x
def aV.write (x:aV):Nat→List Int→aV
 | _,[]=>x
 |i,v::vs=>(x.set i v).write (i+1) vs
def aV.read (x:aV) (at_ c:Int):List Int:=(List.range (min c.toNat (x.n - at_.toNat))).map λi=>x.t.get (at_.toNat+i)
def aV.of (ws:List Int):aV:=⟨Tr.build 10 λi=>ws.getD i 0,ws.length,false⟩
theorem aV.len (x:aV):x.s.words.length=x.n:=by simp [aV.s]
theorem aV.s_get (x:aV) (i:Nat):x.s.get i=x.get i:=by
 unfold aP.get aV.s aV.get
 rw [List.getD_eq_getElem?_getD,List.getElem?_map]
 by_cases h:i<x.n
 ·rw [if_pos h,List.getElem?_range h]
  rfl
 ·rw [if_neg h,List.getElem?_eq_none (by simp;omega)]
  rfl
theorem aV.set_n (x:aV) (i:Nat) (v:Int):(x.set i v).n=x.n∧(x.set i v).down=x.down:=by
 unfold aV.set
 split<;>exact ⟨rfl,rfl⟩
theorem aV.set_ok {x:aV} (h:x.Ok) (i:Nat) (v:Int):(x.set i v).Ok:=by
 unfold aV.set
 split
 ·exact ⟨Tr.set_deep h.deep _ _,h.n⟩
 ·exact h
theorem aV.set_s {x:aV} (h:x.Ok) (i:Nat) (v:Int):(x.set i v).s=⟨x.s.words.set i v,x.down⟩:=by
 have hn:=h.n
 unfold aV.set
 split
 ·rename_i hi
  unfold aV.s
  congr 1
  apply List.ext_getElem?
  intro j
  rw [List.getElem?_set,List.getElem?_map,List.length_map,List.length_range]
  by_cases hj:j<x.n
  ·rw [List.getElem?_map,List.getElem?_range hj]
   simp only [Option.map_some]
   rw [Tr.set_get h.deep i j v (by omega) (by omega)]
   by_cases hij:i=j
   ·rw [if_pos hij,if_pos hij,if_pos hi]
   ·rw [if_neg hij,if_neg hij]
  ·rw [List.getElem?_map,List.getElem?_eq_none (by simp;omega)]
   by_cases hij:i=j
   ·omega
   ·rw [if_neg hij]
    rfl
 ·rename_i hi
  unfold aV.s
  rw [List.set_eq_of_length_le (by simp;omega)]
theorem aV.write_ok:∀ (ws:List Int) {x:aV},x.Ok→∀ (i:Nat),(x.write i ws).Ok
 | [],x,h,i=>h
 |v::vs,x,h,i=>write_ok vs (set_ok h i v) (i+1)
def sets:List Int→Nat→List Int→List Int
 |l,_,[]=>l
 |l,i,v::vs=>sets (l.set i v) (i+1) vs
theorem CT:∀ (ws l:List Int) (i:Nat),i+ws.length≤l.length→sets l i ws=l.take i++ws++l.drop (i+ws.length)
 | [],l,i,h=>by simp [sets]
 |v::vs,l,i,h=>by
  rw [List.length_cons] at h
  unfold sets
  rw [CT vs (l.set i v) (i+1) (by rw [List.length_set];omega)]
  have h1:(l.set i v).take (i+1)=l.take i++[v]:=by
   apply List.ext_getElem?
   intro j
   rw [List.getElem?_take,List.getElem?_append,List.length_take,Nat.min_eq_left (by omega),List.getElem?_set]
   by_cases hj:j<i
   ·rw [if_pos (by omega),if_neg (by omega),if_pos hj,List.getElem?_take_of_lt hj]
   ·by_cases hj2:j=i
    ·subst hj2
     rw [if_pos (by omega),if_pos rfl,if_pos (by omega),if_neg (by omega)]
     simp
    ·rw [if_neg (by omega),if_neg hj,List.getElem?_eq_none (by simp;omega)]
  have h2:(l.set i v).drop (i+1+vs.length)=l.drop (i+1+vs.length):=by rw [List.drop_set_of_lt (by omega)]
  rw [h1,h2,List.length_cons]
  simp [Nat.add_assoc,Nat.add_comm,Nat.add_left_comm]
theorem aV.write_sets:∀ (ws:List Int) {x:aV},x.Ok→∀ (i:Nat),(x.write i ws).s=⟨sets x.s.words i ws,x.down⟩
 | [],x,h,i=>rfl
 |v::vs,x,h,i=>by
  unfold aV.write sets
  rw [write_sets vs (set_ok h i v) (i+1),set_s h,(x.set_n i v).2]
theorem aV.write_s {x:aV} (h:x.Ok) {i:Nat} {ws:List Int} (hl:(x.s.write i ws).words.length=x.s.words.length):(x.write i ws).s=x.s.write i ws:=by
 rw [write_sets ws h i]
 unfold aP.write at hl ⊢
 simp only [List.length_append,List.length_take,List.length_drop] at hl
 by_cases hi:i≤x.s.words.length
 ·rw [CT ws _ i (by omega)]
  rfl
 ·have:ws=[]:=by
   cases ws with
   |nil=>rfl
   |cons a l=>simp at hl;omega
  subst this
  simp [sets]
  rfl
theorem aV.read_s (x:aV) (at_ c:Int):x.s.read at_ c=x.read at_ c:=by
 unfold aP.read aV.read aV.s
 apply List.ext_getElem?
 intro j
 rw [List.getElem?_take,List.getElem?_drop,List.getElem?_map,List.getElem?_map]
 by_cases hj:j<min c.toNat (x.n - at_.toNat)
 ·rw [if_pos (by omega),List.getElem?_range (by omega),List.getElem?_range hj]
  rfl
 ·rw [List.getElem?_eq_none (l:=List.range (min c.toNat (x.n - at_.toNat))) (by simp;omega)]
  split
  ·rw [List.getElem?_eq_none (by simp;omega)]
   rfl
  ·rfl
theorem aV.of_ok {ws:List Int} (h:ws.length≤1024):(aV.of ws).Ok:=⟨Tr.build_deep 10 λi=>ws.getD i 0,h⟩
theorem aV.of_s {ws:List Int} (h:ws.length≤1024):(aV.of ws).s=⟨ws,false⟩:=by
 unfold aV.of aV.s
 congr 1
 apply List.ext_getElem?
 intro j
 rw [List.getElem?_map]
 by_cases hj:j<ws.length
 ·rw [List.getElem?_range hj,List.getElem?_eq_getElem hj]
  simp only [Option.map_some]
  rw [Tr.build_get 10 _ j (by omega),List.getD_eq_getElem?_getD,List.getElem?_eq_getElem hj]
  rfl
 ·rw [List.getElem?_eq_none (by simp;omega),List.getElem?_eq_none (by omega)]
  rfl
def Pair.refT (p:Pair) (x:Verb) (n:aV):Int:=
 if n.down=true then 4 else if x.v.valid 5 (n.n / 8:Nat)≠0 then 2 else x.v.check p.inc (n.get (24+p.client).toNat) (n.get 0) (n.get 1)
def Bo (x:Verb) (pc:Int×Int) (n:aV):aV×List Int:=
 if x.kind=1 then (n,n.read pc.1 pc.2)
 else if x.kind=2 then (n.write pc.1.toNat ((x.words.drop (pc.1 - x.at_).toNat).take pc.2.toNat),[])
 else if x.kind=3 then (if n.get x.at_.toNat=x.old then n.set x.at_.toNat x.new else n,[n.get x.at_.toNat])
 else if x.kind=4 then (n.set x.at_.toNat (IntKind.u64.wrap (n.get x.at_.toNat+x.new)),[n.get x.at_.toNat])
 else (n,[])
def Pair.stepT (p:Pair) (n:aV):Pair×aV×Option Done:=
 match p.verbs with
 | []=>(p,n,none)
 |x::_=>
  if p.refT x n≠0 then (p.done,n,some ⟨p.refT x n,[]⟩)
  else
   let r:=Bo x (x.v.pieces.getD p.executed (0,0)) n
   if p.executed+1<x.v.pieces.length then ({ p with executed:=p.executed+1,words:=p.words++r.2 },r.1,none)
   else (p.done,r.1,some ⟨0,p.words++r.2⟩)
theorem zw (p:Pair) (x:Verb) (n:aV):p.refusal x n.s=p.refT x n:=by
 unfold Pair.refusal Pair.refT
 rw [aV.len,aV.s_get,aV.s_get,aV.s_get]
 rfl
theorem Am {x:Verb} {pc:Int×Int} {n:aV} (h:n.Ok):(Bo x pc n).1.Ok:=by
 unfold Bo
 repeat' split
 all_goals first | exact h | exact aV.write_ok _ h _ | exact aV.set_ok h _ _
theorem Ex {x:Verb} {pc:Int×Int} {n:aV} (h:n.Ok) (hl:(exec x pc n.s).1.words.length=n.s.words.length):exec x pc n.s=((Bo x pc n).1.s,(Bo x pc n).2):=by
 unfold exec at hl ⊢
 unfold Bo
 split
 ·rw [aV.read_s]
 ·rename_i h1
  rw [if_neg h1] at hl
  split
  ·rename_i h2
   rw [if_pos h2] at hl
   rw [aV.write_s h hl]
  ·split
   ·unfold aP.cas
    rw [aV.s_get]
    split
    ·rw [aV.set_s h]
     rfl
    ·rfl
   ·split
    ·unfold aP.add
     rw [aV.s_get,aV.set_s h]
     rfl
    ·rfl
theorem An {p:Pair} (hP:cS p) {n:aV} (h:n.Ok):p.step n.s=((p.stepT n).1,(p.stepT n).2.1.s,(p.stepT n).2.2)∧(p.stepT n).2.1.Ok:=by
 unfold Pair.step Pair.stepT
 cases hv:p.verbs with
 |nil=>exact ⟨rfl,h⟩
 |cons x xs=>
  simp only
  by_cases hz:p.refT x n=0
  ·have hr:p.refusal x n.s=0:=by rw [zw];exact hz
   have hlt:=hP.rdy x xs hv
   have hmem:x.v.pieces.getD p.executed (0,0) ∈ x.v.pieces:=by
    rw [List.getD_eq_getElem?_getD,List.getElem?_eq_getElem hlt]
    exact List.getElem_mem hlt
   have he:=Ex (x:=x) h (uX (sx hr).2 hmem)
   rw [if_neg (show ¬ p.refusal x n.s≠0 by rw [hr];simp),if_neg (show ¬ p.refT x n≠0 by rw [hz];simp),he]
   split
   ·exact ⟨rfl,Am h⟩
   ·exact ⟨rfl,Am h⟩
  ·rw [if_pos (show p.refusal x n.s≠0 by rw [zw];exact hz),if_pos (show p.refT x n≠0 from hz),zw]
   exact ⟨rfl,h⟩
end Go.Proofs.YtegepanmkjemjaaGreat
namespace Go.Proofs.YtegepanmkjemjaaGreat
open Go.Eng C12
def rep (T:List aV) (F:Fab):Fab:={ F with nodes:=T.map aV.s }
section
variable {cv:Conv}
theorem Ey (T:List aV) (F:Fab) (c:Int):(rep T F).take c=((F.take c).1,rep T (F.take c).2)∧(F.take c).2.nodes=F.nodes:=by
 have hc:(rep T F).cl c=F.cl c:=rfl
 unfold Fab.take
 rw [hc]
 cases F.cl c with
 |none=>exact ⟨rfl,rfl⟩
 |some C=>
  simp only
  split
  ·exact ⟨rfl,rfl⟩
  ·cases C.batch with
   |none=>exact ⟨rfl,rfl⟩
   |some ds=>
    simp only
    split
    ·exact ⟨rfl,rfl⟩
    ·exact ⟨rfl,rfl⟩
theorem Ez {T:List aV} {F:Fab} (h:F.nodes.length=T.length) (c:Int) (vs:List Verb):(rep T F).post c vs=((F.post c vs).1,rep T (F.post c vs).2)∧(F.post c vs).2.nodes=F.nodes:=by
 have hc:(rep T F).cl c=F.cl c:=rfl
 have hn:(rep T F).nodes.length=F.nodes.length:=by rw [h];simp [rep]
 have hl:(rep T F).lines=F.lines:=rfl
 unfold Fab.post
 rw [hc,hn,hl]
 cases F.cl c with
 |none=>exact ⟨rfl,rfl⟩
 |some C=>
  simp only
  split
  ·exact ⟨rfl,rfl⟩
  ·split
   ·exact ⟨rfl,rfl⟩
   ·split
    ·exact ⟨rfl,rfl⟩
    ·split
     ·exact ⟨rfl,rfl⟩
     ·split
      ·exact ⟨rfl,rfl⟩
      ·exact ⟨rfl,rfl⟩
theorem EA {T:List aV} {F:Fab} (h:F.nodes.length=T.length) (t:Tk cv):turn (rep T F) t=(rep T (turn F t).1,(turn F t).2)∧(turn F t).1.nodes.length=T.length:=by
 have ha:(rep T F).alive t.client=F.alive t.client:=rfl
 have hw:(rep T F).waiting t.client=F.waiting t.client:=rfl
 obtain ⟨h1,h2⟩:=Ey T F t.client
 unfold turn
 rw [ha,hw,h1]
 split
 ·exact ⟨rfl,h⟩
 ·unfold tB
  simp only
  obtain ⟨h3,h4⟩:=Ez (T:=T) (F:=(F.take t.client).2) (by rw [h2];exact h) (t.fed (F.take t.client).1).client (cv.next (t.fed (F.take t.client).1).job (t.fed (F.take t.client).1).got).1
  rw [h3]
  split
  ·exact ⟨rfl,by rw [h2];exact h⟩
  ·split
   ·exact ⟨rfl,by rw [h2];exact h⟩
   ·simp only
    split
    ·exact ⟨rfl,by rw [h4,h2];exact h⟩
    ·exact ⟨rfl,by rw [h4,h2];exact h⟩
abbrev St (cv:Conv):=List aV×Fab×Tk cv
def toP (s:St cv):Fab×Tk cv:=(rep s.1 s.2.1,s.2.2)
structure OkT (s:St cv):Prop where
 ok:∀ x ∈ s.1,x.Ok
 len:s.2.1.nodes.length=s.1.length
end
def lm (n lines:Nat):List aV:=List.replicate n (aV.of (fmt lines n))
theorem yB {n lines:Nat} (h:lines≤128):rep (lm n lines) (Fab.fresh n 6 lines)=Fab.fresh n 6 lines:=by
 have hl:(fmt lines n).length≤1024:=by rw [xf];omega
 unfold rep lm Fab.fresh
 simp [aV.of_s hl]
theorem yC {n lines:Nat} (h:lines≤128):∀ x ∈ lm n lines,x.Ok:=by
 intro x hx
 rw [List.eq_of_mem_replicate hx]
 exact aV.of_ok (by rw [xf];omega)
theorem wx (n lines:Nat):(Fab.fresh n 6 lines).nodes.length=(lm n lines).length:=by simp [Fab.fresh,lm]
def noT:aV:=⟨.leaf 0,0,true⟩
def Gl (T:List aV) (i:Nat):aV:=T.getD i noT
theorem CU (T:List aV) (F:Fab) (i:Nat):oh (rep T F) i=(Gl T i).s:=by
 unfold oh Gl rep
 rw [List.getD_eq_getElem?_getD,List.getD_eq_getElem?_getD,List.getElem?_map]
 cases T[i]?<;>rfl
def zx (x:aV) (l:Nat):aD:=⟨l,x.get (l * 8),x.get (l * 8+1),x.get (l * 8+2),x.get (l * 8+3),x.get (l * 8+4),x.get (l * 8+5),x.get (l * 8+6),x.get (l * 8+7)⟩
theorem sR (x:aV) (l:Nat):x.s.page l=zx x l:=by
 unfold aP.page zx
 simp only [aV.s_get]
def cwsT (c:Int) (x:aV) (L:List Nat):List aD:=L.map λl=>bump c (zx x l)
theorem Gm (c:Int) (x:aV) (L:List Nat):cws c x.s L=cwsT c x L:=by
 unfold cws cwsT
 simp only [sR]
def segT (x:aV) (at_ c:Nat):List Int:=(List.range c).map λi=>x.t.get (at_+i)
end Go.Proofs.YtegepanmkjemjaaGreat
namespace Go.Proofs.YtegepanmkjemjaaGreat
open Go.Eng C12
end Go.Proofs.YtegepanmkjemjaaGreat
namespace Go.Proofs.YtegepanmkjemjaaGreat
open Go.Eng IntKind
end Go.Proofs.YtegepanmkjemjaaGreat
namespace Go.Proofs.YtegepanmkjemjaaGreat
open Go.Eng C12
attribute [local irreducible] drive
theorem gx {P:Program} {fn:Func} {R:Value→World→Prop} {Q:Exit→List Value→World→Prop} {c:Code} {env:List Value} {w:World} (h':∀ env w,Q .ret env w=retQ P fn R .ret env w) (h:Go.Eng.W P c env (Qr P fn R Q) w):Go.Eng.W P c env Q w:=(W_qr h').mp h
structure IX (w0 w13:World) (n a b:Nat) (c:Bool) (e:Fab×Tk conv) (A2:Nat→Prop) (ξ:Nat→Tag) (fb:Nat) (X':FabX) (p b1:Nat) (rv:aQ) (r':TR) (tW:List aD):Prop where
 fab:aZ A2 ξ w13 fb X'
 new:New w0 w13
 own:∀ k,A2 k→w0.heap.size≤k
 pure:X'.pure=e.1
 fine:Fine e.1
 box:Blk w13 p (fofC fb 100 rv) TFo
 pout:¬ A2 p
 view:gU A2 w13 rv (Ek n)
 rvl:rv.Members_l=n
 talk:Blk w13 b1 r'.cells 49
 tw:Rd w13 r'.Commit.Writes (dF tW).flatten
 twl:r'.Commit.Writes_l=tW.length
 lines:tW.map aD.Line=ns (dI a)
 n3:1≤n∧n≤3
end Go.Proofs.YtegepanmkjemjaaGreat
namespace Go.Proofs.YtegepanmkjemjaaGreat
open Go.Proofs.Tryz
open Go.Eng
def unlR (h:Int):Bool:=((band .u64 h 255:Int) == 0)
def nxtR (h:Int):Int:=if bshr .u64 h 8<1∨IntKind.u64.wrap (bshr .u64 h 8+1)≥281474976710656 then 2 else 0
theorem Hw (w:World) (h:Int):Does 159 [.int .u64 h] w λv w'=>(∃ x,v=.tuple #[.int .u64 x,.int .i64 (nxtR h)])∧w'=w:=by
 refine does Tryz.func159 ?_
 rw [sQ]
 unfold nxtR
 refine aI (λh1=>⟨⟨0,by rw [if_pos (.inl h1)]⟩,rfl⟩) (λh1=>aI (λh2=>⟨⟨0,by rw [if_pos (.inr h2)]⟩,rfl⟩) (λh2=>⟨⟨_,by rw [if_neg (λe=>e.elim h1 h2)]⟩,rfl⟩))
theorem CV (w:World) (h:Int):Does 160 [.int .u64 h] w λv w'=>v=.bool (unlR h)∧w'=w:=by
 refine does Tryz.func160 ?_
 rw [pl]
 exact ⟨rfl,rfl⟩
theorem Hx (w:World) (line lines:Int):Does 158 [.int .i64 line,.int .i64 lines] w λv w'=>v=.bool (iU line lines)∧w'=w:=by
 refine does Tryz.func158 ?_
 rw [qO]
 unfold iU
 refine aI (λh1=>aI (λh2=>aI (λh3=>⟨?_,rfl⟩) (λh3=>⟨?_,rfl⟩)) (λh2=>⟨?_,rfl⟩)) (λh1=>⟨?_,rfl⟩)
 ·congr 1;simp only [decide_eq_decide];omega
 ·congr 1;rw [eq_comm,decide_eq_false_iff_not];omega
 ·congr 1;rw [eq_comm,decide_eq_false_iff_not];omega
 ·congr 1;rw [eq_comm,decide_eq_false_iff_not];omega
def noPg:aD:=⟨0,0,0,0,0,0,0,0,0⟩
def tI (W:List aD) (i:Nat):Bool:=(decide (i=0) || decide ((W.getD (i - 1) noPg).Line<(W.getD i noPg).Line)) && (unlR (W.getD i noPg).Head && (nxtR (W.getD i noPg).Head == 0))
def valM (seq lines:Int) (W:List aD):Int:=
 if lines<98∨256<lines then 18
 else if seq<1∨1073741824≤seq∨W.length<1∨12<W.length then 1
 else if ¬ ∀ k,k<W.length→iU (W.getD k noPg).Line lines=true then 2
 else if ¬ ∀ k,k<W.length→tI W k=true then 1 else 0
set_option maxHeartbeats 1000000 in
theorem Ao {w:World} {r:aE} {W:List aD} (hr:Rd w r.Writes (dF W).flatten) (hl:r.Writes_l=W.length) (lines:Int) :
  Does 118 [r.val,.int .i64 lines] w λv w'=>v=.int .i64 (valM r.Seq lines W)∧New w w':=by
 refine does Tryz.func118 ?_
 rw [nt]
 rintro b1 w1 hb1 hw1
 obtain ⟨hz1,hn1⟩:=aO hb1 hw1
 have hz1:Blk w1 b1 r.cells 141:=hz1
 clear hw1
 generalize hR:(λ(v:Value) (w':World)=>v=.int .i64 (valM r.Seq lines W)∧New w w')=R
 have hRm:∀ (x:Int) (u:World),x=valM r.Seq lines W→New w u→R (.int .i64 x) u:=λx u h1 h2=>by rw [←hR];exact ⟨by rw [h1],h2⟩
 have h1:∀ (b:Bool) (jj:List Value),b=decide (lines<98∨256<lines)→Go.Eng.W prog (sub (aB f118) [1,0,1]) (dJ lines ⟨b1,0,none⟩ b jj) (seqQ (λenv w=>Go.Eng.W prog (sub (aB f118) [1,1]) env (retQ prog f118 R) w) (retQ prog f118 R)) w1:=by
  intro b jj hb
  refine gx (P:=prog) (fn:=f118) (R:=R) (λ_ _=>rfl) ?_
  rw [kv]
  refine jP (λh=>hRm _ _ ?_ hn1) (λh=>bI ?_)
  ·rw [hb,decide_eq_true_eq] at h
   unfold valM
   rw [if_pos h]
  have h18:¬ (lines<98∨256<lines):=by rw [hb] at h;simpa using h
  rw [iY,iG]
  refine gx (P:=prog) (fn:=f118) (R:=R) (λ_ _=>rfl) ?_
  rw [kw]
  have h3:∀ (b:Bool) (jj:List Value) (Q:Exit→List Value→World→Prop),(∀ env z,Q .ret env z=retQ prog f118 R .ret env z)→b=decide (r.Seq<1∨1073741824≤r.Seq∨W.length<1∨12<W.length)→(b=false→∀ jj,Q .normal (dK lines ⟨b1,0,none⟩ jj) w1)→Go.Eng.W prog (sub (aB f118) [1,1,0,1]) (bS lines ⟨b1,0,none⟩ b jj) Q w1:=by
   intro b jj Q hQ hb hq
   refine gx (P:=prog) (fn:=f118) (R:=R) hQ ?_
   rw [kx]
   refine jP (λh=>hRm _ _ ?_ hn1) (λh=>hq h _)
   rw [hb,decide_eq_true_eq] at h
   unfold valM
   rw [if_neg h18,if_pos h]
  have h4:(decide (r.Seq<1∨1073741824≤r.Seq∨W.length<1∨12<W.length)=false)→∀ jj,Go.Eng.W prog (sub (aB f118) [1,1,1]) (dK lines ⟨b1,0,none⟩ jj) (retQ prog f118 R) w1:=by
   intro hc jj
   have hc:¬ (r.Seq<1∨1073741824≤r.Seq∨W.length<1∨12<W.length):=by simpa using hc
   refine gx (P:=prog) (fn:=f118) (R:=R) (λ_ _=>rfl) ?_
   rw [ky]
   refine aR mix (λm env u=>∃ (i:Nat) (jj:List Value),m=W.length - i∧i≤W.length∧env=dL lines ⟨b1,0,none⟩ i jj∧New w1 u∧∀ k,k<i→iU (W.getD k noPg).Line lines=true) W.length ⟨0,_,rfl,by omega,rfl,Keep.refl _ _,λk hk=>by omega⟩ ?_
   rintro m env u ⟨i,jj,rfl,hi,rfl,hnu,hall⟩
   refine gx (P:=prog) (fn:=f118) (R:=R) (λ_ _=>rfl) ?_
   rw [iZ]
   have hzu:=New.blk hnu hz1
   have hru:=hr.new (hn1.new hnu)
   refine ⟨_,_,_,hzu.cell (i:=1) rfl,aI (λhlt=>?_) (λhge=>?_)⟩
   ·have hlt:i<W.length:=by omega
    obtain ⟨x,hx⟩:∃ x,W[i]?=some x:=⟨_,List.getElem?_eq_getElem hlt⟩
    refine ⟨_,_,_,hzu.cell (i:=1) rfl,?_⟩
    refine gJ (cells:=aD.cells) aD.len (by omega) hru hx rfl hl λb o _ hcx=>⟨_,hcx 0 _ rfl,?_⟩
    refine aG (Hx u _ _) ?_
    rintro v u1 ⟨rfl,hu1⟩
    obtain rfl:u=u1:=hu1.symm
    refine ⟨_,rfl,jP (λh=>hRm _ _ ?_ (hn1.new hnu)) (λh=>?_)⟩
    ·unfold valM
     rw [if_neg h18,if_neg hc,if_pos]
     intro hh
     have:=hh i hlt
     rw [Ew hx] at this
     rw [this] at h
     cases h
    ·rw [w64 (x:=(i:Int)+1) (by omega) (by omega)]
     refine bI ⟨W.length - (i+1),by omega,i+1,_,rfl,by omega,rfl,hnu,λk hk=>?_⟩
     by_cases e:k=i
     ·subst e;rw [Ew hx];simpa using h
     ·exact hall k (by omega)
   ·have hil:i=W.length:=by omega
    subst hil
    refine uG (oB (bI ?_))
    refine gx (P:=prog) (fn:=f118) (R:=R) (λ_ _=>rfl) ?_
    rw [kz]
    refine aR mix (λm env z=>∃ (i:Nat) (jj:List Value),m=W.length - i∧i≤W.length∧env=cN ⟨b1,0,none⟩ i jj∧New u z∧∀ k,k<i→tI W k=true) W.length ⟨0,_,rfl,by omega,rfl,Keep.refl _ _,λk hk=>by omega⟩ ?_
    rintro m env z ⟨i,jj,rfl,hi,rfl,hnz,hpr⟩
    refine gx (P:=prog) (fn:=f118) (R:=R) (λ_ _=>rfl) ?_
    rw [i0]
    have hnz1:=hn1.new (hnu.new hnz)
    have hzz:=New.blk hnz hzu
    have hrz:=hr.new hnz1
    refine ⟨_,_,_,hzz.cell (i:=1) rfl,aI (λhlt=>?_) (λhge=>?_)⟩
    ·have hlt:i<W.length:=by omega
     obtain ⟨x,hx⟩:∃ x,W[i]?=some x:=⟨_,List.getElem?_eq_getElem hlt⟩
     refine ⟨_,_,_,hzz.cell (i:=1) rfl,?_⟩
     refine gJ (cells:=aD.cells) aD.len (by omega) hrz hx rfl hl λb o _ hcx=>⟨_,hcx 1 _ rfl,?_⟩
     refine aG (Hw z _) ?_
     rintro v z1 ⟨⟨y,rfl⟩,hz1'⟩
     obtain rfl:z=z1:=hz1'.symm
     refine ⟨_,_,rfl,?_⟩
     rw [ja]
     refine gx (P:=prog) (fn:=f118) (R:=R) (λ_ _=>rfl) ?_
     rw [kA]
     have h8:∀ (z2:World) (b:Bool) (jj:List Value) (Q:Exit→List Value→World→Prop),(∀ env z,Q .ret env z=retQ prog f118 R .ret env z)→New z z2→b=!tI W i→(tI W i=true→∀ jj,Q .normal (dM ⟨b1,0,none⟩ i jj) z2)→Go.Eng.W prog (sub (aB f118) [1,1,1,1,0,1,0,0,1,0,0,1,1]) (bM ⟨b1,0,none⟩ i b jj) Q z2:=by
      intro z2 b jj Q hQ hz2 hb hq
      refine gx (P:=prog) (fn:=f118) (R:=R) hQ ?_
      rw [kC]
      refine jP (λh=>hRm _ _ ?_ (hnz1.new hz2)) (λh=>hq (by rw [hb] at h;simpa using h) _)
      rw [hb] at h
      have h:tI W i=false:=by simpa using h
      unfold valM
      rw [if_neg h18,if_neg hc,if_neg (λh=>h hall),if_pos]
      intro hh
      rw [hh i hlt] at h
      cases h
     have h9:∀ (z2:World) (jj:List Value),New z z2→tI W i=true→Go.Eng.W prog (sub (aB f118) [1,1,1,1,0,1,0,0,1,1]) (dM ⟨b1,0,none⟩ i jj) (Qr prog f118 R (seqQ (λenv' w'=>∃ m,m<W.length - i∧∃ (i:Nat) (jj:List Value),m=W.length - i∧i≤W.length∧env'=cN ⟨b1,0,none⟩ i jj∧New u w'∧∀ k,k<i→tI W k=true) (aJ 2 (seqQ (λenv w=>Go.Eng.W prog (sub (aB f118) [1,1,1,1,1]) env (Qr prog f118 R (Qr prog f118 R (retQ prog f118 R))) w) (Qr prog f118 R (Qr prog f118 R (retQ prog f118 R))))))) z2:=by
      intro z2 jj hz2 hp
      rw [kD]
      rw [w64 (x:=(i:Int)+1) (by omega) (by omega)]
      refine bI ⟨W.length - (i+1),by omega,i+1,_,rfl,by omega,rfl,hnz.new hz2,λk hk=>?_⟩
      by_cases e:k=i
      ·rw [e];exact hp
      ·exact hpr k (by omega)
     rintro z3 hz3
     have hn3:New z z3:=by rw [hz3];exact aW _
     clear hz3
     have hW:W.getD i noPg=x:=Ew hx
     have hcell:∀ y,New z3 y→y.cell? ⟨b1,1,none⟩=some (.slice r.Writes r.Writes_l r.Writes_c):=λy hy=>(New.blk (hn3.new hy) hzz).cell (i:=1) rfl
     have hrz3:=hrz.new hn3
     refine ⟨λy=>New z3 y,Keep.refl _ _,aI (λhpos=>?_) (λhpos=>?_)⟩
     ·have hpos:0<i:=by omega
      obtain ⟨x0,hx0⟩:∃ x,W[i - 1]?=some x:=⟨_,List.getElem?_eq_getElem (by omega)⟩
      have hW0:W.getD (i - 1) noPg=x0:=Ew hx0
      refine ⟨_,_,_,hcell,?_⟩
      rw [w64 (x:=(i:Int) - 1) (by omega) (by omega)]
      refine iI (cells:=aD.cells) aD.len (by omega) hrz3 hx0 (by omega) hl λb o hc0=>⟨_,λy hy=>hc0 y hy 0 _ rfl,_,_,_,hcell,?_⟩
      refine iI (cells:=aD.cells) aD.len (by omega) hrz3 hx rfl hl λb o hc1=>⟨_,λy hy=>hc1 y hy 0 _ rfl,?_⟩
      refine aI (λhge=>?_) (λhlt2=>?_)
      ·refine bI (h8 _ _ _ _ (λ_ _=>rfl) hn3 ?_ (λh=>?_))
       ·unfold tI
        rw [hW,hW0,decide_eq_false (p:=i=0) (by omega),decide_eq_false (by omega)]
        rfl
       ·exfalso
        unfold tI at h
        rw [hW,hW0,decide_eq_false (p:=i=0) (by omega),decide_eq_false (by omega)] at h
        cases h
      ·have hlt2:x0.Line<x.Line:=by omega
       refine ⟨_,_,_,hcell,?_⟩
       refine iI (cells:=aD.cells) aD.len (by omega) hrz3 hx rfl hl λb o hc2=>⟨_,λy hy=>hc2 y hy 1 _ rfl,?_⟩
       refine aG (CV z3 _) ?_
       rintro v z4 ⟨rfl,hz4⟩
       obtain rfl:z3=z4:=hz4.symm
       have hpe:tI W i=(unlR x.Head && (nxtR x.Head == 0)):=by
        unfold tI
        rw [hW,hW0,decide_eq_true hlt2,Bool.or_true,Bool.true_and]
       refine ⟨_,rfl,Keep.refl _ _,jP (λh=>?_) (λh=>?_)⟩
       ·have h:unlR x.Head=false:=by simpa using h
        refine bI (h8 _ _ _ _ (λ_ _=>rfl) hn3 (by rw [hpe,h];rfl) (λh2=>?_))
        rw [hpe,h] at h2
        cases h2
       ·have h:unlR x.Head=true:=by simpa using h
        refine bI (h8 _ _ _ _ (λ_ _=>rfl) hn3 (by rw [hpe,h];rfl) (λh2 jj=>qe (bI (h9 _ _ hn3 h2))))
     ·have hi0:i=0:=by omega
      refine ⟨_,_,_,hcell,?_⟩
      refine iI (cells:=aD.cells) aD.len (by omega) hrz3 hx rfl hl λb o hc2=>⟨_,λy hy=>hc2 y hy 1 _ rfl,?_⟩
      refine aG (CV z3 _) ?_
      rintro v z4 ⟨rfl,hz4⟩
      obtain rfl:z3=z4:=hz4.symm
      have hpe:tI W i=(unlR x.Head && (nxtR x.Head == 0)):=by
       unfold tI
       rw [hW,decide_eq_true hi0,Bool.true_or,Bool.true_and]
      refine ⟨_,rfl,Keep.refl _ _,jP (λh=>?_) (λh=>?_)⟩
      ·have h:unlR x.Head=false:=by simpa using h
       refine bI (h8 _ _ _ _ (λ_ _=>rfl) hn3 (by rw [hpe,h];rfl) (λh2=>?_))
       rw [hpe,h] at h2
       cases h2
      ·have h:unlR x.Head=true:=by simpa using h
       refine bI (h8 _ _ _ _ (λ_ _=>rfl) hn3 (by rw [hpe,h];rfl) (λh2 jj=>qe (bI (h9 _ _ hn3 h2))))
    ·have hil:i=W.length:=by omega
     subst hil
     refine uG (oB (bI ?_))
     refine gx (P:=prog) (fn:=f118) (R:=R) (λ_ _=>rfl) ?_
     rw [kB]
     refine hRm _ _ ?_ hnz1
     unfold valM
     rw [if_neg h18,if_neg hc,if_neg (λh=>h hall),if_neg (λh=>h hpr)]
  refine ⟨_,hz1.cell (i:=0) rfl,aI (λha=>?_) (λha=>?_)⟩
  ·exact bI (h3 _ _ _ (λ_ _=>rfl) (by rw [eq_comm,decide_eq_true_eq];exact .inl ha) (λe=>by cases e))
  refine ⟨_,hz1.cell (i:=0) rfl,aI (λhb2=>?_) (λhb2=>?_)⟩
  ·exact bI (h3 _ _ _ (λ_ _=>rfl) (by rw [eq_comm,decide_eq_true_eq];exact .inr (.inl hb2)) (λe=>by cases e))
  refine ⟨_,_,_,hz1.cell (i:=1) rfl,aI (λhc=>?_) (λhc=>?_)⟩
  ·exact bI (h3 _ _ _ (λ_ _=>rfl) (by rw [eq_comm,decide_eq_true_eq];exact .inr (.inr (.inl (by omega)))) (λe=>by cases e))
  refine ⟨_,_,_,hz1.cell (i:=1) rfl,?_⟩
  have e:decide (((r.Writes_l:Nat):Int)>12)=decide (r.Seq<1∨1073741824≤r.Seq∨W.length<1∨12<W.length):=by
   rw [decide_eq_decide]
   omega
  refine bI (h3 _ _ _ (λ_ _=>rfl) e (λh2 jj=>?_))
  exact bI (h4 (e▸h2) _)
 refine aI (λh=>h1 _ _ ?_) (λh=>h1 _ _ ?_)
 ·rw [eq_comm,decide_eq_true_eq];exact .inl h
 ·rw [decide_eq_decide]
  exact ⟨λh2=>.inr h2,λh2=>h2.elim (λh3=>absurd h3 h) id⟩
end Go.Proofs.YtegepanmkjemjaaGreat
namespace Go.Proofs.YtegepanmkjemjaaGreat
open Go.Proofs.Tryz
open Go.Eng
theorem appU {w2:World} {a:Option Addr} {n cap m:Nat} {L xs:List Int} (ho:Owns w2 43 1 a n cap (us L)) {b1:Nat} (hb:Blk w2 b1 (us xs) 43) (hm:m=xs.length) (h1:n≤1000000) (h2:m≤1000000) :
  ∃ ap cap' w3,(Builtin.append_ #[104,104] 104 #[(.slice a n cap),(.slice (some ⟨b1,0,none⟩) m m)]).run prog w2=.ok (.slice ap (n+m) cap') w3∧Owns w3 43 1 ap (n+m) cap' (us (L++xs))∧Keep (isB a) w2 w3∧(∀ k,isB ap k→isB a k∨w2.heap.size≤k):=by
 obtain ⟨inf,hi,hz,hsz,hby⟩:=jQ (T:=43) (z:=.int .u64 0) (n:=1) (m:=8) (by kernel_rfl)
 rw [←hsz] at ho
 obtain ⟨ap,cap',w3,hrun,hown,hk,hap⟩:=Owns.append (P:=prog) (t:=104) (ty:=104) Tryz.underlying104 hi hz (by rw [hsz];rfl) (by omega) ho (s:=some ⟨b1,0,none⟩) (m:=m) (c:=m) (news:=us xs) (by rw [kj,hsz];omega) (fP hb (by rw [List.drop_zero,List.take_of_length_le (Nat.le_refl _)])) (kk _) (by omega) (by rw [hby];omega)
 refine ⟨ap,cap',w3,hrun,?_,hk,λk hk2=>?_⟩
 ·rw [hsz] at hown
  have e:us L++us xs=us (L++xs):=by simp [us]
  rw [e] at hown
  exact hown
 ·rcases hap with e | e
  ·exact .inl (e▸hk2)
  ·obtain ⟨o,ho⟩:=hk2
   rw [e] at ho
   simp at ho
   omega
def pgW (p:aD):List Int:=[IntKind.u64.wrap p.Line,p.Head,p.Data0,p.Data1,p.Data2,p.Data3,p.Data4,p.Data5,p.Data6]
def uj (seq:Int) (W:List aD):List Int:=[IntKind.u64.wrap seq,IntKind.u64.wrap (W.length:Int)]++(W.map pgW).flatten
def Bp (seq:Int) (W:List aD):List Int:=uj seq W++[sumM (uj seq W)]
def vv (seq:Int) (W:List aD):List Int:=if valM seq 256 W=0 then Bp seq W else []
theorem Gn (W:List aD):((W.map pgW).flatten).length=9 * W.length:=by
 induction W with
 |nil=>rfl
 |cons p W ih=>rw [List.map_cons,List.flatten_cons,List.length_append,ih,List.length_cons];simp [pgW];omega
theorem vx (seq:Int) (W:List aD):(uj seq W).length=2+9 * W.length:=by rw [uj,List.length_append,Gn];rfl
def pgD (p:aD):List Int:=[p.Data0,p.Data1,p.Data2,p.Data3,p.Data4,p.Data5,p.Data6]
theorem EB {seq lines:Int} {W:List aD} (h:valM seq lines W=0):W.length≤12:=by
 unfold valM at h
 split at h
 ·cases h
 ·split at h
  ·cases h
  ·omega
set_option maxHeartbeats 2000000 in
theorem Gp {w:World} {r:aE} {W:List aD} (hr:Rd w r.Writes (dF W).flatten) (hl:r.Writes_l=W.length) :
  Does 120 [r.val] w λv w'=>(∃ a n c,v=.slice a n c∧n=(vv r.Seq W).length∧Rd w' a (us (vv r.Seq W)))∧New w w':=by
 refine does Tryz.func120 ?_
 rw [sP]
 rintro b1 w1 hb1 hw1
 obtain ⟨hz1,hn1⟩:=aO hb1 hw1
 have hz1:Blk w1 b1 r.cells 141:=hz1
 clear hw1
 refine aE.mk_ex r ⟨aK hz1 rfl,?_⟩
 refine aG (Ao (hr.new hn1) hl 256) ?_
 rintro v w2 ⟨rfl,hn2⟩
 refine ⟨_,rfl,bY (λh=>?_) (λhv=>?_)⟩
 ·refine ⟨⟨none,0,0,rfl,?_,.inl ?_⟩,hn1.new hn2⟩
  ·rw [vv,if_neg h];rfl
  ·rw [vv,if_neg h];rfl
 have hlen:=EB hv
 have e0:vv r.Seq W=Bp r.Seq W:=by rw [vv,if_pos hv]
 rw [e0]
 have hz2:=New.blk hn2 hz1
 refine ⟨_,hz2.cell (i:=0) rfl,_,_,_,hz2.cell (i:=1) rfl,?_⟩
 rintro b2 w3 hb2 hw3
 obtain ⟨hz3,hn3⟩:=aO hb2 hw3
 clear hw3
 rw [hl] at hz3
 have hs2:=hn1.size
 have hs3:=hn2.size
 have ho3:Owns w3 43 1 (some ⟨b2,0,none⟩) 2 2 (us (uj r.Seq W |>.take 2)):=⟨rfl,.inr ⟨b2,_,rfl,hz3,Nat.le_refl _,by decide,rfl,rfl⟩⟩
 refine aR mix (λm env u=>∃ (i:Nat) (a:Option Addr) (n c:Nat) (jj:List Value),m=W.length - i∧i≤W.length∧env=fR ⟨b1,0,none⟩ a n c i jj∧New w2 u∧n=2+9 * i∧Owns u 43 1 a n c (us ((uj r.Seq W).take 2++((W.take i).map pgW).flatten))∧(∀ k,isB a k→w2.heap.size≤k)) W.length
  ⟨0,_,2,2,_,rfl,by omega,rfl,hn3,rfl,by simpa using ho3,λk hk=>by obtain ⟨o,ho⟩:=hk;simp at ho;omega⟩ ?_
 rintro m env u ⟨i,a,n,c,jj,rfl,hi,rfl,hnu,hni,hown,hfr⟩
 rw [mO]
 have hzu:=New.blk hnu hz2
 have hru:=hr.new ((hn1.new hn2).new hnu)
 refine ⟨_,_,_,hzu.cell (i:=1) rfl,aI (λhlt=>?_) (λhge=>?_)⟩
 ·have hlt:i<W.length:=by omega
  obtain ⟨x,hx⟩:∃ x,W[i]?=some x:=⟨_,List.getElem?_eq_getElem hlt⟩
  rintro u1 hu1
  have hn4:New u u1:=by rw [hu1];exact aW _
  clear hu1
  have hzs:∀ y,(Blk y b1 r.cells 141∧Rd y r.Writes (dF W).flatten)→y.cell? ⟨b1,1,none⟩=some (.slice r.Writes r.Writes_l r.Writes_c):=λy hy=>hy.1.cell (i:=1) rfl
  refine ⟨λy=>New w2 y,hnu.new hn4,_,_,_,λy hy=>(New.blk hy hz2).cell (i:=1) rfl,?_⟩
  have hr2:=hr.new (hn1.new hn2)
  refine iI (cells:=aD.cells) aD.len (by omega) hr2 hx rfl hl λb o hc0=>⟨_,λy hy=>hc0 y hy 0 _ rfl,_,_,_,λy hy=>(New.blk hy hz2).cell (i:=1) rfl,?_⟩
  refine iI (cells:=aD.cells) aD.len (by omega) hr2 hx rfl hl λb o hc1=>⟨_,λy hy=>hc1 y hy 1 _ rfl,?_⟩
  rintro b3 u2 hb3 hu2
  obtain ⟨hz5,hn5⟩:=aO hb3 hu2
  clear hu2
  refine ⟨(hnu.new hn4).new hn5,?_⟩
  obtain ⟨ap,cap',u3,hrun,ho4,hk4,hap4⟩:=appU (xs:=[IntKind.u64.wrap x.Line,x.Head]) (m:=2) (hown.new (hn4.new hn5)) hz5 rfl (by omega) (by omega)
  have hsu:=hnu.size
  have hs45:=(hn4.new hn5).size
  have hn6:New w2 u3:=((hnu.new hn4).new hn5).trans hk4 λk hlt hk=>by have:=hfr k hk;omega
  have hfr4:∀ k,isB ap k→w2.heap.size≤k:=λk hk=>by
   rcases hap4 k hk with h | h
   ·exact hfr k h
   ·omega
  refine ⟨_,_,_,_,hrun,hn6,?_⟩
  refine aR mix (λm env z=>∃ (k:Nat) (a:Option Addr) (n2 c:Nat) (jj:List Value),m=7 - k∧k≤7∧env=fS ⟨b1,0,none⟩ a n2 c i k jj∧New w2 z∧n2=n+2+k∧Owns z 43 1 a n2 c (us (((uj r.Seq W).take 2++((W.take i).map pgW).flatten++[IntKind.u64.wrap x.Line,x.Head])++(pgD x).take k))∧(∀ k,isB a k→w2.heap.size≤k)) 7
   ⟨0,_,_,_,_,rfl,by omega,rfl,hn6,rfl,by simpa using ho4,hfr4⟩ ?_
  rintro m env z ⟨k,a5,n5,c5,jj5,rfl,hk7,rfl,hnz,hn5e,ho5,hfr5⟩
  rw [mP]
  have hzz:=New.blk hnz hz2
  refine aI (λhlt7=>?_) (λhge7=>?_)
  ·have hlt7:k<7:=by omega
   refine ⟨_,_,_,hzz.cell (i:=1) rfl,?_⟩
   refine gJ (cells:=aD.cells) aD.len (by omega) (hr2.new hnz) hx rfl hl λb o _ hcx=>?_
   refine eG (by omega) (by omega) ?_
   obtain ⟨d,hd⟩:∃ d,(pgD x)[k]?=some d:=⟨_,List.getElem?_eq_getElem (by simpa [pgD] using hlt7)⟩
   have hcell:x.cells[2+k]?=some (.int .u64 d):=by
    have:k=0∨k=1∨k=2∨k=3∨k=4∨k=5∨k=6:=by omega
    rcases this with rfl | rfl | rfl | rfl | rfl | rfl | rfl<;>(simp [pgD] at hd;simp [aD.cells,hd])
   refine ⟨d,?_,?_⟩
   ·have:=hcx (2+k) _ hcell
    have e:o+2+(k:Int).toNat * 1=o+(2+k):=by omega
    rw [e]
    exact this
   rintro b6 z1 hb6 hz1'
   obtain ⟨hz6,hn7⟩:=aO hb6 hz1'
   clear hz1'
   obtain ⟨ap6,cap6,z2,hrun6,ho6,hk6,hap6⟩:=appU (xs:=[d]) (m:=1) (ho5.new hn7) hz6 rfl (by omega) (by omega)
   have hsz:=hnz.size
   have hs7:=hn7.size
   refine ⟨_,_,_,_,hrun6,?_⟩
   rw [w64 (x:=(k:Int)+1) (by omega) (by omega)]
   refine ⟨7 - (k+1),by omega,k+1,_,_,_,_,rfl,by omega,rfl,(hnz.new hn7).trans hk6 λj hlt hj=>by have:=hfr5 j hj;omega,by omega,?_,λj hj=>?_⟩
   ·have e:(pgD x).take (k+1)=(pgD x).take k++[d]:=by rw [List.take_add_one,hd];rfl
    rw [e,←List.append_assoc]
    exact ho6
   ·rcases hap6 j hj with h | h
    ·exact hfr5 j h
    ·omega
  ·have hk7:k=7:=by omega
   subst hk7
   rw [oV]
   rw [w64 (x:=(i:Int)+1) (by omega) (by omega)]
   refine ⟨W.length - (i+1),by omega,i+1,_,_,_,_,rfl,by omega,rfl,hnz,by omega,?_,hfr5⟩
   have e:(W.take (i+1))=W.take i++[x]:=by rw [List.take_add_one,hx];rfl
   have e2:(uj r.Seq W).take 2++((W.take (i+1)).map pgW).flatten=((uj r.Seq W).take 2++((W.take i).map pgW).flatten++[IntKind.u64.wrap x.Line,x.Head])++(pgD x).take 7:=by
    rw [e]
    simp [pgW,pgD]
   rw [e2]
   exact ho5
 ·have hil:i=W.length:=by omega
  subst hil
  rw [oU]
  have e:(uj r.Seq W).take 2++((W.take W.length).map pgW).flatten=uj r.Seq W:=by
   rw [List.take_length]
   rfl
  rw [e] at hown
  refine aG (Er hown.rd (by rw [vx];omega) (by omega)) ?_
  rintro v u1 ⟨rfl,hn4⟩
  refine ⟨_,rfl,?_⟩
  rintro b3 u2 hb3 hu2
  obtain ⟨hz5,hn5⟩:=aO hb3 hu2
  clear hu2
  obtain ⟨ap,cap',u3,hrun,ho4,hk4,hap4⟩:=appU (xs:=[sumM (uj r.Seq W)]) (m:=1) (hown.new (hn4.new hn5)) hz5 rfl (by omega) (by omega)
  have hsu:=hnu.size
  have hs45:=(hn4.new hn5).size
  refine ⟨_,_,_,_,hrun,⟨_,_,_,rfl,?_,ho4.rd⟩,(hn1.new hn2).new (((hnu.new hn4).new hn5).trans hk4 λk hlt hk=>by have:=hfr k hk;omega)⟩
  rw [Bp,List.length_append,vx,List.length_singleton]
  omega
end Go.Proofs.YtegepanmkjemjaaGreat
