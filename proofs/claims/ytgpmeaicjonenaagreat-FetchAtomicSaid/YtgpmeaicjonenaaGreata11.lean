import Derived.Test.YtgpmeaicjonenaaGreata10
set_option linter.unusedVariables false
namespace Go.Proofs.YtgpmeaicjonenaaGreat
open Go.Eng
structure Lane where
 pair:Pair
 places:List Nat
structure Comp where
 alive:Bool
 inc:Int
 lanes:List Lane
 batch:Option (List Done)
 waiting:Nat
 trips:Int
 posted:Int
structure Fab where
 lines:Nat
 nodes:List aP
 clients:List Comp
 orphans:List Pair
structure eI where
 orphan:Int
 client:Int
 node:Int
def Fab.cl (F:Fab) (c:Int):Option Comp:=if c<0 then none else F.clients[c.toNat]?
def Fab.nd (F:Fab) (i:Int):Option aP:=if i<0 then none else F.nodes[i.toNat]?
def Comp.postOne (C:Comp) (k:Nat) (v:Verb):Comp:=
 {C with lanes:=C.lanes.modify v.node.toNat λl=>⟨{ l.pair with verbs:=l.pair.verbs++[v] },l.places++[k]⟩ }
def Comp.postFrom (C:Comp) (k:Nat):List Verb→Comp
 | []=>C
 |v::vs=>(C.postOne k v).postFrom (k+1) vs
def eP (nodes lines:Int):List Verb→Int
 | []=>0
 |v::vs=>if v.v.valid nodes lines≠0 then v.v.valid nodes lines else eP nodes lines vs
def Comp.posted' (C:Comp) (vs:List Verb):Comp:=
 {(C.postFrom 0 vs) with batch:=some (List.replicate vs.length ⟨0,[]⟩),waiting:=vs.length,trips:=IntKind.i64.wrap (C.trips+1),posted:=IntKind.i64.wrap (C.posted+vs.length) }
def Fab.setC (F:Fab) (c:Int) (C:Comp):Fab:={ F with clients:=F.clients.set c.toNat C }
def Fab.post (F:Fab) (c:Int) (vs:List Verb):Int×Fab:=
 match F.cl c with
 |none=>(1,F)
 |some C=>
  if C.alive=false then (1,F) else if C.batch.isSome then (3,F) else if vs.length=0 then (1,F) else if vs.length>1024 then (18,F)
  else if eP F.nodes.length F.lines vs≠0 then (eP F.nodes.length F.lines vs,F)
  else (0,F.setC c (C.posted' vs))
def Fab.waiting (F:Fab) (c:Int):Nat:=match F.cl c with
 |none=>0
 |some C=>C.waiting
def Fab.alive (F:Fab) (c:Int):Bool:=match F.cl c with
 |none=>false
 |some C=>C.alive
def Fab.trips (F:Fab) (c:Int):Int:=match F.cl c with
 |none=>0
 |some C=>C.trips
def Fab.take (F:Fab) (c:Int):Option (List Done)×Fab:=
 match F.cl c with
 |none=>(none,F)
 |some C=>if C.alive=false then (none,F) else match C.batch with
  |none=>(none,F)
  |some ds=>if 0<C.waiting then (none,F) else (some ds,F.setC c { C with batch:=none })
def dH (i:Nat):Nat→List Lane→List eI
 | _,[]=>[]
 |j,l::ls=>(if 0<l.pair.verbs.length then [⟨-1,i,j⟩] else [])++dH i (j+1) ls
def cP:Nat→List Comp→List eI
 | _,[]=>[]
 |i,c::cs=>dH i 0 c.lanes++cP (i+1) cs
def eY:Nat→List Pair→List eI
 | _,[]=>[]
 |i,p::ps=>⟨i,p.client,p.node⟩::eY (i+1) ps
def Fab.choices (F:Fab):List eI:=cP 0 F.clients++eY 0 F.orphans
def Fab.drop (F:Fab) (i:Int):Bool×Fab:=if i<0∨F.orphans.length≤i.toNat then (false,F) else (true,{ F with orphans:=F.orphans.eraseIdx i.toNat })
def Fab.stepOrphan (F:Fab) (i:Nat):Bool×Fab:=
 match F.orphans[i]? with
 |none=>(false,F)
 |some p=>match F.nodes[p.node.toNat]? with
  |none=>(false,F)
  |some n=>
   let r:=p.step n
   let F':={ F with nodes:=F.nodes.set p.node.toNat r.2.1,orphans:=if r.1.verbs.length=0 then F.orphans.eraseIdx i else F.orphans.set i r.1 }
   (true,F')
def Comp.comes (C:Comp) (j:Nat) (l:Lane) (p:Pair):Option Done→Comp
 |none=>{ C with lanes:=C.lanes.set j { l with pair:=p } }
 |some d=>{ C with lanes:=C.lanes.set j ⟨p,l.places.tail⟩,batch:=C.batch.map λds=>ds.set (l.places.headD 0) d,waiting:=C.waiting - 1 }
def Fab.step (F:Fab) (x:eI):Bool×Fab:=
 if 0≤x.orphan then F.stepOrphan x.orphan.toNat
 else if x.orphan < -1 then (false,F)
 else match F.cl x.client with
  |none=>(false,F)
  |some C=>if x.node<0 then (false,F) else match C.lanes[x.node.toNat]?,F.nodes[x.node.toNat]? with
   |some l,some n=>if l.pair.verbs.length=0 then (false,F) else
    let r:=l.pair.step n
    (true,{ F with nodes:=F.nodes.set x.node.toNat r.2.1,clients:=F.clients.set x.client.toNat (C.comes x.node.toNat l r.1 r.2.2) })
   | _,_=>(false,F)
def Fab.die (F:Fab) (c:Int):Bool×Fab:=
 match F.cl c with
 |none=>(false,F)
 |some C=>if C.alive=false then (false,F) else
  (true,{ F with orphans:=F.orphans++(C.lanes.map Lane.pair).filter (λp=>decide (0<p.verbs.length)),clients:=F.clients.set c.toNat { C with alive:=false,lanes:=[],batch:=none,waiting:=0 } })
structure zQ (i:Nat) (inc:Int) (j:Nat) (len:Nat) (l:Lane):Prop where
 client:l.pair.client=i
 inc:l.pair.inc=inc
 node:l.pair.node=j
 places:l.places.length=l.pair.verbs.length
 low:∀ k ∈ l.places,k<len
 rdy:l.pair.rdy
def pend (ls:List Lane):Nat:=(ls.map λl=>l.pair.verbs.length).sum
structure tt (n:Nat) (i:Nat) (C:Comp):Prop where
 inc:0≤C.inc∧C.inc≤59
 lanes:C.lanes.length=if C.alive then n else 0
 lane:∀ (j:Nat) (l:Lane),C.lanes[j]?=some l→zQ i C.inc j (C.batch.getD []).length l
 waiting:C.waiting=pend C.lanes
 batch:C.waiting≤(C.batch.getD []).length∧(C.batch.getD []).length≤1024
 full:∀ ds,C.batch=some ds→0<ds.length
structure ue (F:Fab):Prop where
 lines:1≤F.lines∧F.lines≤256
 nodes:1≤F.nodes.length∧F.nodes.length≤5
 words:∀ n ∈ F.nodes,n.words.length=F.lines * 8
 clients:1≤F.clients.length∧F.clients.length≤6
 client:∀ (i:Nat) (C:Comp),F.clients[i]?=some C→tt F.nodes.length i C
 orphan:∀ p ∈ F.orphans,0≤p.node∧p.node<F.nodes.length∧p.rdy
inductive Tag where
 |imm
 |fab
 |nodes
 |node (i:Nat)
 |word (i:Nat)
 |clients
 |lanes (c:Nat)
 |lane (c n:Nat)
 |places (c n:Nat)
 |batch (c:Nat)
 |orphs
 |orph (b:Nat)
def ofC (c:Nat):Tag→Prop
 | .lanes i=>i=c
 | .lane i _=>i=c
 | .places i _=>i=c
 | .batch i=>i=c
 | _=>False
structure cJ where
 pb:Nat
 p:cX
 places:List Nat
 pla:Option Addr
 plc:Nat
def cJ.pure (l:cJ):Lane:=⟨l.p.pure,l.places⟩
def cJ.cells (l:cJ):List Value:=[.pointer (some ⟨l.pb,0,none⟩),.slice l.pla l.places.length l.plc]
structure aW where
 alive:Bool
 inc:Int
 lanes:List cJ
 la:Option Addr
 lc:Nat
 bb:Option Nat
 raw:List aY
 batch:List Done
 waiting:Nat
 trips:Int
 posted:Int
def aW.pure (c:aW):Comp:=⟨c.alive,c.inc,c.lanes.map cJ.pure,c.bb.map λ_=>c.batch,c.waiting,c.trips,c.posted⟩
def aW.cells (c:aW):List Value:=[.bool c.alive,.int .i64 c.inc,.slice c.la c.lanes.length c.lc,.slice (c.bb.map λb=>⟨b,0,none⟩) c.raw.length c.raw.length,.int .i64 c.waiting,.int .i64 c.trips,.int .i64 c.posted]
structure nm where
 b:Nat
 bw:Nat
 n:aP
structure FabX where
 lines:Nat
 nodes:List nm
 na:Option Addr
 nc:Nat
 cb:Nat
 clients:List aW
 orphans:List (Nat×cX)
 oa:Option Addr
 oc:Nat
def FabX.pure (X:FabX):Fab:=⟨X.lines,X.nodes.map nm.n,X.clients.map aW.pure,X.orphans.map λp=>p.2.pure⟩
def FabX.cells (X:FabX):List Value:=[.int .i64 X.lines,.slice X.na X.nodes.length X.nc,.slice (some ⟨X.cb,0,none⟩) X.clients.length X.clients.length,.slice X.oa X.orphans.length X.oc]
def ptr (b:Nat):Value:=.pointer (some ⟨b,0,none⟩)
def j4 (ls:List cJ):List (List Value):=ls.map cJ.cells
def gG (cs:List aW):List (List Value):=cs.map aW.cells
abbrev TF:TypeId:=122
abbrev TC:TypeId:=114
abbrev TL:TypeId:=117
abbrev TNP:TypeId:=104
abbrev TPP:TypeId:=115
abbrev TI:TypeId:=3
structure vn (A:Nat→Prop) (χ:Nat→Tag) (w:World) (i j:Nat) (l:cJ):Prop where
 pair:bS A w l.pb l.p
 tag:∀ k,l.p.mut l.pb k→χ k=.lane i j
 places:Owns w TI 1 l.pla l.places.length l.plc (is (l.places.map Int.ofNat))
 ptag:∀ k,isB l.pla k→χ k=.places i j
def Ds (A:Nat→Prop) (w:World) (raw:List aY) (xs:List Done):Prop:=raw.length=xs.length∧∀ (i:Nat) (v:aY) (x:Done),raw[i]?=some v→xs[i]?=some x→j9 A w v x
structure kY (A:Nat→Prop) (χ:Nat→Tag) (w:World) (i:Nat) (c:aW):Prop where
 own:Owns w TL 2 c.la c.lanes.length c.lc (j4 c.lanes).flatten
 tag:∀ k,isB c.la k→χ k=.lanes i
 lane:∀ (j:Nat) (l:cJ),c.lanes[j]?=some l→vn A χ w i j l
 none:c.bb=none→c.raw=[]∧c.batch=[]
 batch:∀ b,c.bb=some b→Blk w b (j1 c.raw).flatten TD∧χ b=.batch i
 ds:Ds A w c.raw c.batch
structure uf (χ:Nat→Tag) (w:World) (i:Nat) (x:nm):Prop where
 node:bM w x.b x.bw x.n
 tag:χ x.b=.node i
 wtag:χ x.bw=.word i
structure aZ (A:Nat→Prop) (χ:Nat→Tag) (w:World) (fb:Nat) (X:FabX):Prop where
 avoid:∀ k,χ k≠.imm→A k
 low:∀ k,A k→k<w.heap.size
 fab:Blk w fb X.cells TF
 ftag:χ fb=.fab
 nodes:Owns w TNP 1 X.na X.nodes.length X.nc (X.nodes.map λx=>ptr x.b)
 ntag:∀ k,isB X.na k→χ k=.nodes
 node:∀ (i:Nat) (x:nm),X.nodes[i]?=some x→uf χ w i x
 cls:Blk w X.cb (gG X.clients).flatten TC
 ctag:χ X.cb=.clients
 client:∀ (i:Nat) (c:aW),X.clients[i]?=some c→kY A χ w i c
 orphs:Owns w TPP 1 X.oa X.orphans.length X.oc (X.orphans.map λp=>ptr p.1)
 otag:∀ k,isB X.oa k→χ k=.orphs
 orphan:∀ p ∈ X.orphans,bS A w p.1 p.2∧∀ k,p.2.mut p.1 k→χ k=.orph p.1
 nodup:(X.orphans.map Prod.fst).Nodup
structure qt (T:Tag→Prop) (A A':Nat→Prop) (χ χ':Nat→Tag) (w w':World):Prop where
 keep:Keep (λk=>T (χ k)) w w'
 imm:¬ T .imm
 avoid:∀ k,χ k≠.imm→A k
 old:∀ k,k<w.heap.size→A' k→A k
 same:∀ k,k<w.heap.size→¬ T (χ k)→χ k≠.imm→χ' k=χ k
 avoid':∀ k,χ' k≠.imm→A' k
theorem qt.keepA {T:Tag→Prop} {A A':Nat→Prop} {χ χ':Nat→Tag} {w w':World} (m:qt T A A' χ χ' w w'):Keep A w w':=m.keep.mono λk _ h=>m.avoid k λe=>m.imm (by rw [e] at h;exact h)
theorem bS.moved {T:Tag→Prop} {A A':Nat→Prop} {χ χ':Nat→Tag} {w w':World} (m:qt T A A' χ χ' w w') {b:Nat} {p:cX} {t:Tag} (h:bS A w b p) (ht:∀ k,p.mut b k→χ k=t) (hT:¬ T t) (hi:t≠.imm):bS A' w' b p∧∀ k,p.mut b k→χ' k=t:=by
 have hlt:∀ k,p.mut b k→k<w.heap.size:=by
  rintro k (rfl | hk | hk)
  ·exact h.blk.lt
  ·exact h.own.lt hk
  ·exact h.wown.lt hk
 have hnew:∀ k,p.mut b k→χ' k=t:=λk hk=>by
  rw [m.same k (hlt k hk) (by rw [ht k hk];exact hT) (by rw [ht k hk];exact hi),ht k hk]
 refine ⟨?_,hnew⟩
 have hh:=h.keep m.keep (λk hk hc=>hT (by rw [ht k hk] at hc;exact hc)) (λk hk=>m.avoid k λe=>m.imm (by rw [e] at hk;exact hk))
 refine ⟨hh.blk,hh.own,hh.wown,h.vs.keep m.keepA λk hk hA=>m.old k hk hA,h.client,h.inc,h.node,h.len,h.wlen,h.vok,h.ex,h.wwf,λk hk=>m.avoid' k (by rw [hnew k hk];exact hi)⟩
theorem Owns.moved {T:Tag→Prop} {A A':Nat→Prop} {χ χ':Nat→Tag} {w w':World} (m:qt T A A' χ χ' w w') {e sz n cap:Nat} {a:Option Addr} {xs:List Value} {t:Tag} (h:Owns w e sz a n cap xs) (ht:∀ k,isB a k→χ k=t) (hT:¬ T t) (hi:t≠.imm):Owns w' e sz a n cap xs∧∀ k,isB a k→χ' k=t:=
 ⟨h.keep m.keep λk hk hc=>hT (by rw [ht k hk] at hc;exact hc),λk hk=>by
  rw [m.same k (h.lt hk) (by rw [ht k hk];exact hT) (by rw [ht k hk];exact hi),ht k hk]⟩
theorem Blk.moved {T:Tag→Prop} {A A':Nat→Prop} {χ χ':Nat→Tag} {w w':World} (m:qt T A A' χ χ' w w') {b:Nat} {cs:List Value} {ty:TypeId} {t:Tag} (h:Blk w b cs ty) (ht:χ b=t) (hT:¬ T t) (hi:t≠.imm):Blk w' b cs ty∧χ' b=t:=
 ⟨m.keep.blk h λhc=>hT (by rw [ht] at hc;exact hc),by rw [m.same b h.lt (by rw [ht];exact hT) (by rw [ht];exact hi),ht]⟩
theorem Ds.keep {A A':Nat→Prop} {w w':World} {raw:List aY} {xs:List Done} (h:Ds A w raw xs) (hk:Keep A w w') (hM:∀ k,k<w.heap.size→A' k→A k):Ds A' w' raw xs:=
 ⟨h.1,λi v x hv hx=>(h.2 i v x hv hx).keep hk hM⟩
theorem vn.moved {T:Tag→Prop} {A A':Nat→Prop} {χ χ':Nat→Tag} {w w':World} (m:qt T A A' χ χ' w w') {i j:Nat} {l:cJ} (h:vn A χ w i j l) (h1:¬ T (.lane i j)) (h2:¬ T (.places i j)):vn A' χ' w' i j l:=by
 obtain ⟨a1,a2⟩:=bS.moved m h.pair h.tag h1 (by simp)
 obtain ⟨a3,a4⟩:=Owns.moved m h.places h.ptag h2 (by simp)
 exact ⟨a1,a2,a3,a4⟩
theorem kY.moved {T:Tag→Prop} {A A':Nat→Prop} {χ χ':Nat→Tag} {w w':World} (m:qt T A A' χ χ' w w') {i:Nat} {c:aW} (h:kY A χ w i c) (hT:∀ t,ofC i t→¬ T t):kY A' χ' w' i c:=by
 obtain ⟨a1,a2⟩:=Owns.moved m h.own h.tag (hT _ rfl) (by simp)
 refine ⟨a1,a2,λj l hl=>(h.lane j l hl).moved m (hT _ rfl) (hT _ rfl),h.none,λb hb=>?_,h.ds.keep m.keepA m.old⟩
 exact Blk.moved m (h.batch b hb).1 (h.batch b hb).2 (hT _ rfl) (by simp)
theorem uf.moved {T:Tag→Prop} {A A':Nat→Prop} {χ χ':Nat→Tag} {w w':World} (m:qt T A A' χ χ' w w') {i:Nat} {x:nm} (h:uf χ w i x) (h1:¬ T (.node i)) (h2:¬ T (.word i)):uf χ' w' i x:=by
 obtain ⟨a1,a2⟩:=Blk.moved m h.node.node h.tag h1 (by simp)
 obtain ⟨a3,a4⟩:=Blk.moved m h.node.words h.wtag h2 (by simp)
 exact ⟨⟨a1,a3,h.node.len,h.node.len2,h.node.wf⟩,a2,a4⟩
def iK (A:Nat→Prop) (χ χ':Nat→Tag) (w:World) (k:Nat):Prop:=χ' k≠.imm∨(k<w.heap.size∧A k∧χ k=.imm)
structure Next (A A':Nat→Prop) (χ χ':Nat→Tag) (w w':World):Prop where
 keep:Keep (λk=>χ k≠.imm) w w'
 grow:∀ k,k<w.heap.size→χ' k≠.imm→χ k≠.imm
 iff:∀ k,A' k↔iK A χ χ' w k
theorem Next.refl {A:Nat→Prop} {χ:Nat→Tag} {w w':World} (ha:∀ k,χ k≠.imm→A k) (hl:∀ k,A k→k<w.heap.size) (hn:New w w'):Next A A χ χ w w':=
 ⟨Keep.of_new hn,λ_ _ h=>h,λk=>⟨λh=>by
  by_cases hc:χ k=.imm
  ·exact .inr ⟨hl k h,h,hc⟩
  ·exact .inl hc,λh=>h.elim (ha k) λh=>h.2.1⟩⟩
theorem Next.trans {A A1 A2:Nat→Prop} {χ χ1 χ2:Nat→Tag} {w w1 w2:World} (h:Next A A1 χ χ1 w w1) (h':Next A1 A2 χ1 χ2 w1 w2):Next A A2 χ χ2 w w2:=by
 refine ⟨h.keep.trans h'.keep λi hi hc=>h.grow i hi hc,λk hk hc=>h.grow k hk (h'.grow k (Nat.lt_of_lt_of_le hk h.keep.size) hc),λk=>?_⟩
 rw [h'.iff k]
 constructor
 ·rintro (hc | ⟨h1,h2,h3⟩)
  ·exact .inl hc
  ·rcases (h.iff k).1 h2 with hc | ⟨h4,h5,h6⟩
   ·exact absurd h3 hc
   ·exact .inr ⟨h4,h5,h6⟩
 ·rintro (hc | ⟨h1,h2,h3⟩)
  ·exact .inl hc
  ·refine .inr ⟨Nat.lt_of_lt_of_le h1 h.keep.size,(h.iff k).2 (.inr ⟨h1,h2,h3⟩),?_⟩
   by_cases hc:χ1 k=.imm
   ·exact hc
   ·exact absurd h3 (h.grow k h1 hc)
theorem Next.new {A A1:Nat→Prop} {χ χ1:Nat→Tag} {w w1 w2:World} (h:Next A A1 χ χ1 w w1) (h':New w1 w2):Next A A1 χ χ1 w w2:=⟨h.keep.new h',h.grow,h.iff⟩
theorem aZ.move {T:Tag→Prop} {A:Nat→Prop} {χ χ':Nat→Tag} {w w':World} {fb:Nat} {X:FabX} (h:aZ A χ w fb X) (hk:Keep (λk=>T (χ k)) w w') (hi:¬ T .imm)
  (hg:∀ k,k<w.heap.size→χ' k≠.imm→χ k≠.imm) (hs:∀ k,k<w.heap.size→¬ T (χ k)→χ k≠.imm→χ' k=χ k):qt T A (iK A χ χ' w) χ χ' w w'∧Next A (iK A χ χ' w) χ χ' w w':=by
 refine ⟨⟨hk,hi,h.avoid,λk hlt hA=>?_,hs,λk hc=>.inl hc⟩,⟨hk.mono λk _ ht e=>hi (by rw [e] at ht;exact ht),hg,λk=>Iff.rfl⟩⟩
 rcases hA with hA | hA
 ·exact h.avoid k (hg k hlt hA)
 ·exact hA.2.1
theorem aZ.new {A:Nat→Prop} {χ:Nat→Tag} {w w':World} {fb:Nat} {X:FabX} (h:aZ A χ w fb X) (hk:New w w'):aZ A χ w' fb X:=by
 have m:qt (λ_=>False) A A χ χ w w':=⟨hk,id,h.avoid,λ_ _ h=>h,λ_ _ _ _=>rfl,h.avoid⟩
 refine ⟨h.avoid,λk hc=>Nat.lt_of_lt_of_le (h.low k hc) hk.size,New.blk hk h.fab,h.ftag,h.nodes.new hk,h.ntag,λi x hx=>(h.node i x hx).moved m id id,New.blk hk h.cls,h.ctag,
  λi c hc=>(h.client i c hc).moved m λ_ _=>id,h.orphs.new hk,h.otag,λp hp=>⟨(h.orphan p hp).1.new hk,(h.orphan p hp).2⟩,h.nodup⟩
theorem aZ.recolor {A A':Nat→Prop} {χ:Nat→Tag} {w:World} {fb:Nat} {X:FabX} (h:aZ A χ w fb X) (h1:∀ k,A' k→A k) (h2:∀ k,χ k≠.imm→A' k):aZ A' χ w fb X:=by
 have m:qt (λ_=>False) A A' χ χ w w:=⟨Keep.refl _ _,id,h.avoid,λk _=>h1 k,λ_ _ _ _=>rfl,h2⟩
 refine ⟨h2,λk hc=>h.low k (h1 k hc),h.fab,h.ftag,h.nodes,h.ntag,h.node,h.cls,h.ctag,
  λi c hc=>(h.client i c hc).moved m λ_ _=>id,h.orphs,h.otag,λp hp=>⟨(bS.moved m (h.orphan p hp).1 (h.orphan p hp).2 id (by simp)).1,(h.orphan p hp).2⟩,h.nodup⟩
theorem aZ.other {A S:Nat→Prop} {χ:Nat→Tag} {w w':World} {fb:Nat} {X:FabX} (h:aZ A χ w fb X) (hk:Keep S w w') (hS:∀ k,S k→A k∧χ k=.imm):aZ A χ w' fb X:=by
 have hb:∀ {b:Nat} {cs:List Value} {T:TypeId} {t:Tag},Blk w b cs T→χ b=t→t≠.imm→Blk w' b cs T:=λhb ht hi=>hk.blk hb λhc=>hi (by rw [←ht];exact (hS _ hc).2)
 have ho:∀ {e sz n cap:Nat} {a:Option Addr} {xs:List Value} {t:Tag},Owns w e sz a n cap xs→(∀ k,isB a k→χ k=t)→t≠.imm→Owns w' e sz a n cap xs:=λho ht hi=>ho.keep hk λk hk hc=>hi (by rw [←ht k hk];exact (hS _ hc).2)
 have hp:∀ {b:Nat} {p:cX} {t:Tag},bS A w b p→(∀ k,p.mut b k→χ k=t)→t≠.imm→bS A w' b p:=λhp ht hi=>hp.keep hk (λk hk hc=>hi (by rw [←ht k hk];exact (hS _ hc).2)) (λk hc=>(hS k hc).1)
 have hA:Keep A w w':=hk.mono λk _ hc=>(hS k hc).1
 refine ⟨h.avoid,λk hc=>Nat.lt_of_lt_of_le (h.low k hc) hk.size,hb h.fab h.ftag (by simp),h.ftag,ho h.nodes h.ntag (by simp),h.ntag,λi x hx=>?_,hb h.cls h.ctag (by simp),h.ctag,λi c hc=>?_,
  ho h.orphs h.otag (by simp),h.otag,λp hpp=>⟨hp (h.orphan p hpp).1 (h.orphan p hpp).2 (by simp),(h.orphan p hpp).2⟩,h.nodup⟩
 ·have hn:=h.node i x hx
  exact ⟨⟨hb hn.node.node hn.tag (by simp),hb hn.node.words hn.wtag (by simp),hn.node.len,hn.node.len2,hn.node.wf⟩,hn.tag,hn.wtag⟩
 ·have hc:=h.client i c hc
  refine ⟨ho hc.own hc.tag (by simp),hc.tag,λj l hl=>?_,hc.none,λb hbb=>⟨hb (hc.batch b hbb).1 (hc.batch b hbb).2 (by simp),(hc.batch b hbb).2⟩,hc.ds.keep hA λ_ _ h=>h⟩
  have hl:=hc.lane j l hl
  exact ⟨hp hl.pair hl.tag (by simp),hl.tag,ho hl.places hl.ptag (by simp),hl.ptag⟩
theorem gH (ls:List cJ):∀ r ∈ j4 ls,r.length=2:=by
 intro r hr;simp only [j4,List.mem_map] at hr;obtain ⟨l,_,rfl⟩:=hr;rfl
theorem rW (cs:List aW):∀ r ∈ gG cs,r.length=7:=by
 intro r hr;simp only [gG,List.mem_map] at hr;obtain ⟨l,_,rfl⟩:=hr;rfl
theorem fQ {ls:List cJ} {i:Nat} {l:cJ} (h:ls[i]?=some l):(j4 ls)[i]?=some l.cells:=by simp [j4,h]
theorem np {cs:List aW} {i:Nat} {c:aW} (h:cs[i]?=some c):(gG cs)[i]?=some c.cells:=by simp [gG,h]
theorem lN (cs:List aW) (i:Nat) (c:aW):(gG cs).set i c.cells=gG (cs.set i c):=by simp [gG]
theorem zR (ls:List cJ) (i:Nat) (l:cJ):(j4 ls).set i l.cells=j4 (ls.set i l):=by simp [j4]
theorem zS (ds:List aY) (i:Nat) (d:aY):(j1 ds).set i d.cells=j1 (ds.set i d):=by simp [j1]
theorem aZ.ccell {A:Nat→Prop} {χ:Nat→Tag} {w:World} {fb:Nat} {X:FabX} (h:aZ A χ w fb X) {i k:Nat} {c:aW} {v:Value} (hc:X.clients[i]?=some c) (hv:c.cells[k]?=some v):w.cell? ⟨X.cb,0+i * 7+k,none⟩=some v:=by
 rw [Nat.zero_add]
 exact h.cls.cell (rj (rW _) (np hc) hv)
theorem FabX.cl_cases (X:FabX) (c:Int):(X.pure.cl c=none∧(c<0∨(X.clients.length:Int)≤c))∨∃ i x,c=(i:Nat)∧X.clients[i]?=some x∧X.pure.cl c=some x.pure:=by
 unfold Fab.cl
 by_cases hc:c<0
 ·exact .inl ⟨by rw [if_pos hc],.inl hc⟩
 ·rw [if_neg hc]
  cases hx:X.clients[c.toNat]? with
  |none=>exact .inl ⟨by simp [FabX.pure,hx],.inr (by have:=List.getElem?_eq_none_iff.1 hx;omega)⟩
  |some x=>exact .inr ⟨c.toNat,x,by omega,hx,by simp [FabX.pure,hx]⟩
theorem kC {A:Nat→Prop} {χ:Nat→Tag} {w:World} {fb:Nat} {X:FabX} (h:aZ A χ w fb X) {c:Int} (hc:c<0∨(X.clients.length:Int)≤c) :
  Does 49 [ptr fb,.int .i64 c] w λv w'=>v=.pointer none∧w'=w:=by
 refine does Tryz.func49 ?_
 rw [ptr,iq]
 refine aH (λ_=>⟨rfl,rfl⟩) (λh0=>?_)
 exact ⟨_,_,_,h.fab.cell rfl,aH (λ_=>⟨rfl,rfl⟩) (λh1=>by omega)⟩
theorem jd {A:Nat→Prop} {χ:Nat→Tag} {w:World} {fb:Nat} {X:FabX} (h:aZ A χ w fb X) {i:Nat} {x:aW} (hc:X.clients[i]?=some x) :
  Does 49 [ptr fb,.int .i64 i] w λv w'=>v=.pointer (some ⟨X.cb,0+i * 7,none⟩)∧w'=w:=by
 refine does Tryz.func49 ?_
 rw [ptr,iq]
 have:=aN hc
 refine aH (λ_=>by omega) (λh0=>⟨_,_,_,h.fab.cell rfl,aH (λ_=>by omega) (λh1=>⟨_,_,_,h.fab.cell rfl,bE (by omega) (by omega) ⟨rfl,rfl⟩⟩)⟩)
theorem zT {A:Nat→Prop} {χ:Nat→Tag} {w:World} {fb:Nat} {X:FabX} (h:aZ A χ w fb X) (c:Int):Does 48 [ptr fb,.int .i64 c] w λv w'=>v=.bool (X.pure.alive c)∧w'=w:=by
 refine does Tryz.func48 ?_
 rw [ptr,mC]
 unfold Fab.alive
 rcases X.cl_cases c with ⟨h1,h2⟩ | ⟨i,x,rfl,h1,h2⟩
 ·refine aF (kC h h2) ?_
  rintro v w' ⟨rfl,rfl⟩
  rw [h1]
  exact ⟨_,rfl,rfl,rfl⟩
 ·refine aF (jd h h1) ?_
  rintro v w' ⟨rfl,rfl⟩
  rw [h2]
  exact ⟨_,rfl,⟨_,h.ccell (k:=0) h1 rfl,rfl,rfl⟩⟩
theorem zU {A:Nat→Prop} {χ:Nat→Tag} {w:World} {fb:Nat} {X:FabX} (h:aZ A χ w fb X) (c:Int):Does 70 [ptr fb,.int .i64 c] w λv w'=>v=.int .i64 (X.pure.waiting c)∧w'=w:=by
 refine does Tryz.func70 ?_
 rw [ptr,lM]
 unfold Fab.waiting
 rcases X.cl_cases c with ⟨h1,h2⟩ | ⟨i,x,rfl,h1,h2⟩
 ·refine aF (kC h h2) ?_
  rintro v w' ⟨rfl,rfl⟩
  rw [h1]
  exact ⟨_,rfl,rfl,rfl⟩
 ·refine aF (jd h h1) ?_
  rintro v w' ⟨rfl,rfl⟩
  rw [h2]
  exact ⟨_,rfl,⟨_,h.ccell (k:=4) h1 rfl,rfl,rfl⟩⟩
theorem ug {A:Nat→Prop} {χ:Nat→Tag} {w:World} {fb:Nat} {X:FabX} (h:aZ A χ w fb X):Does 43 [ptr fb] w λv w'=>v=.int .i64 X.nodes.length∧w'=w:=by
 refine does Tryz.func43 ?_
 rw [ptr,mB]
 exact ⟨_,_,_,h.fab.cell rfl,rfl,rfl⟩
theorem qu {w:World} {e cap:Nat} {a:Option Addr} {ps:List Value} {n:Nat} (h:Owns w e 1 a n cap ps) {i:Nat} {v:Value} (hv:ps[i]?=some v) {K:Addr→Prop} {z:Int} (hz:z=i) (hk:∀ ad,w.cell? ad=some v→(∃ g,a=some ⟨g,0,none⟩∧ad=⟨g,0+i * 1,none⟩)→K ad):idxS a n z 1 K:=by
 subst hz
 have hl:=aN hv
 have h1:=h.1
 rcases h.2 with ⟨_,h0,_⟩ | ⟨g,cur,rfl,hb,hle,hc,hlen,ht⟩
 ·subst h0;omega
 ·refine bE (by omega) (by omega) ?_
  refine hk _ ?_ ⟨g,rfl,by simp⟩
  have hi:cur[i]?=some v:=by
   rw [←ht] at hv
   rw [List.getElem?_take] at hv
   split at hv
   ·exact hv
   ·cases hv
  have:=hb.cell hi
  simpa using this
theorem rX {A:Nat→Prop} {χ:Nat→Tag} {w:World} {fb:Nat} {X:FabX} (h:aZ A χ w fb X) {i:Nat} {x:nm} (hx:X.nodes[i]?=some x):Does 44 [ptr fb,.int .i64 i] w λv w'=>v=ptr x.b∧w'=w:=by
 refine does Tryz.func44 ?_
 rw [ptr,m9]
 have:=aN hx
 refine aH (λ_=>by omega) (λh0=>⟨_,_,_,h.fab.cell rfl,aH (λ_=>by omega) (λh1=>⟨_,_,_,h.fab.cell rfl,?_⟩)⟩)
 exact qu (v:=ptr x.b) (i:=i) h.nodes (by simp [hx]) rfl λad hc _=>⟨_,hc,rfl,rfl⟩
theorem aZ.setNode {A:Nat→Prop} {χ:Nat→Tag} {w w':World} {fb:Nat} {X:FabX} (h:aZ A χ w fb X) {i:Nat} {x:nm} (hx:X.nodes[i]?=some x) {n':aP} (hk:Keep (λk=>k=x.b∨k=x.bw) w w') (hn:bM w' x.b x.bw n') :
  ∃ A',Next A A' χ χ w w'∧aZ A' χ w' fb { X with nodes:=X.nodes.set i { x with n:=n' } }:=by
 have hxa:=h.node i x hx
 obtain ⟨m,nx⟩:=h.move (χ':=χ) (T:=λt=>t=.node i∨t=.word i) (w':=w') (hk.mono λk _ hc=>hc.elim (λe=>.inl (e▸hxa.tag)) (λe=>.inr (e▸hxa.wtag))) (by simp) (λ_ _ h=>h) (λ_ _ _ _=>rfl)
 refine ⟨_,nx,m.avoid',λk hc=>Nat.lt_of_lt_of_le (hc.elim (λhc=>h.low k (h.avoid k hc)) (λhc=>hc.1)) hk.size,?_,h.ftag,?_,h.ntag,?_,(Blk.moved m h.cls h.ctag (by simp) (by simp)).1,h.ctag,λj c hc=>(h.client j c hc).moved m ?_,(Owns.moved m h.orphs h.otag (by simp) (by simp)).1,h.otag,λp hp=>bS.moved m (h.orphan p hp).1 (h.orphan p hp).2 (by simp) (by simp),h.nodup⟩
 ·have:=(Blk.moved m h.fab h.ftag (by simp) (by simp)).1
  simpa [FabX.cells] using this
 ·have:=(Owns.moved m h.nodes h.ntag (by simp) (by simp)).1
  have e:((X.nodes.set i { x with n:=n' }).map λx=>ptr x.b)=X.nodes.map λx=>ptr x.b:=by
   rw [List.map_set]
   apply List.ext_getElem?
   intro k
   rw [List.getElem?_set]
   split
   ·rename_i he
    subst he
    split
    ·simp [hx]
    ·rename_i hc
     exact absurd (aN hx) (by simpa using hc)
   ·rfl
  rw [e]
  simpa using this
 ·intro j y hy
  simp only [List.getElem?_set] at hy
  split at hy
  ·rename_i he
   subst he
   split at hy
   ·simp only [Option.some.injEq] at hy
    subst hy
    exact ⟨hn,hxa.tag,hxa.wtag⟩
   ·cases hy
  ·rename_i he
   exact (h.node j y hy).moved m (by simp;exact λe=>he e.symm) (by simp;exact λe=>he e.symm)
 ·intro t ht
  cases t<;>simp [ofC] at ht ⊢
end Go.Proofs.YtgpmeaicjonenaaGreat
namespace Go.Proofs.YtgpmeaicjonenaaGreat
open Go.Eng
theorem aZ.lowt {A:Nat→Prop} {χ:Nat→Tag} {w:World} {fb:Nat} {X:FabX} (h:aZ A χ w fb X) {k:Nat} (hk:χ k≠.imm):k<w.heap.size:=h.low k (h.avoid k hk)
theorem aZ.fresh {A:Nat→Prop} {χ:Nat→Tag} {w:World} {fb:Nat} {X:FabX} (h:aZ A χ w fb X) {k:Nat} (hk:w.heap.size≤k):χ k=.imm:=by
 by_cases hc:χ k=.imm
 ·exact hc
 ·have:=h.lowt hc;omega
theorem aZ.refl {A:Nat→Prop} {χ:Nat→Tag} {w w':World} {fb:Nat} {X:FabX} (h:aZ A χ w fb X) (hn:New w w'):Next A A χ χ w w':=Next.refl h.avoid h.low hn
def dE (A:Nat→Prop) (χ:Nat→Tag) (w:World) (fb:Nat) (F:Fab) (w':World) (K:(Nat→Prop)→Prop):Prop:=∃ A' χ' X',Next A A' χ χ' w w'∧aZ A' χ' w' fb X'∧X'.pure=F∧K A'
theorem dE.same {A:Nat→Prop} {χ:Nat→Tag} {w w':World} {fb:Nat} {X:FabX} (h:aZ A χ w fb X) (hn:New w w') {K:(Nat→Prop)→Prop} (hK:K A):dE A χ w fb X.pure w' K:=⟨A,χ,X,h.refl hn,h.new hn,rfl,hK⟩
def tcl (i:Nat) (t:Tag):Prop:=t=.clients∨ofC i t
theorem CZ {i j:Nat} (h:i≠j):∀ t,ofC j t→¬ tcl i t:=by
 intro t ht
 cases t<;>simp [ofC,tcl] at ht ⊢<;>omega
theorem FabX.set_pure (X:FabX) (i:Nat) (c:aW):({ X with clients:=X.clients.set i c }:FabX).pure=X.pure.setC i c.pure:=by
 simp [FabX.pure,Fab.setC,List.map_set]
theorem aZ.setClient {A:Nat→Prop} {χ χ':Nat→Tag} {w w':World} {fb:Nat} {X:FabX} (h:aZ A χ w fb X) {i:Nat} {c c':aW} (hc:X.clients[i]?=some c)
  (hk:Keep (λk=>tcl i (χ k)) w w') (hg:∀ k,k<w.heap.size→χ' k≠.imm→χ k≠.imm) (hs:∀ k,k<w.heap.size→¬ tcl i (χ k)→χ k≠.imm→χ' k=χ k) (hl:∀ k,χ' k≠.imm→k<w'.heap.size)
  (hb:Blk w' X.cb ((gG X.clients).set i c'.cells).flatten TC) (hcb:χ' X.cb=.clients) (hc':kY (iK A χ χ' w) χ' w' i c') :
  Next A (iK A χ χ' w) χ χ' w w'∧aZ (iK A χ χ' w) χ' w' fb { X with clients:=X.clients.set i c' }:=by
 obtain ⟨m,nx⟩:=h.move hk (by simp [tcl,ofC]) hg hs
 have f1:=Blk.moved m h.fab h.ftag (by simp [tcl,ofC]) (by simp)
 have f2:=Owns.moved m h.nodes h.ntag (by simp [tcl,ofC]) (by simp)
 have f3:=Owns.moved m h.orphs h.otag (by simp [tcl,ofC]) (by simp)
 refine ⟨nx,m.avoid',λk hc=>?_,?_,f1.2,f2.1,f2.2,λj x hx=>(h.node j x hx).moved m (by simp [tcl,ofC]) (by simp [tcl,ofC]),?_,hcb,λj y hy=>?_,f3.1,f3.2,λp hp=>bS.moved m (h.orphan p hp).1 (h.orphan p hp).2 (by simp [tcl,ofC]) (by simp),h.nodup⟩
 ·rcases hc with hc | hc
  ·exact hl k hc
  ·exact Nat.lt_of_lt_of_le hc.1 hk.size
 ·simpa [FabX.cells] using f1.1
 ·rw [lN] at hb;exact hb
 ·simp only [List.getElem?_set] at hy
  split at hy
  ·rename_i he
   subst he
   split at hy
   ·simp only [Option.some.injEq] at hy
    subst hy
    exact hc'
   ·cases hy
  ·rename_i he
   exact (h.client j y hy).moved m (CZ he)
theorem C3 {w:World} {cb:Nat} {cs:List aW} (h:Blk w cb (gG cs).flatten TC) {i k:Nat} {c:aW} (hc:cs[i]?=some c) (hk:k<7) (v:Value) :
  Blk (w.setCell ⟨cb,0+i * 7+k,none⟩ v) cb ((gG cs).set i (c.cells.set k v)).flatten TC:=by
 rw [Nat.zero_add]
 have:=h.setCell (i:=i * 7+k) v
 rw [tU (rW cs) v (np hc) hk] at this
 exact this
open Classical in
theorem EK {A:Nat→Prop} {χ:Nat→Tag} {w:World} {fb:Nat} {X:FabX} (h:aZ A χ w fb X) (c:Int):Does 71 [ptr fb,.int .i64 c] w λv w'=>
  dE A χ w fb (X.pure.take c).2 w' λA'=>match (X.pure.take c).1 with
   |none=>v=.tuple #[.slice none 0 0,.bool false]
   |some ds=>∃ b raw,v=.tuple #[.slice (some ⟨b,0,none⟩) ds.length ds.length,.bool true]∧Blk w' b (j1 raw).flatten TD∧Ds A' w' raw ds∧¬ A' b:=by
 refine does Tryz.func71 ?_
 rw [ptr,nj]
 rcases X.cl_cases c with ⟨h1,h2⟩ | ⟨i,x,rfl,h1,h2⟩
 ·refine aF (kC h h2) ?_
  rintro v w' ⟨rfl,rfl⟩
  have ht:X.pure.take c=(none,X.pure):=by simp [Fab.take,h1]
  refine ⟨_,rfl,?_⟩
  rw [ht]
  exact dE.same h (Keep.refl _ _) rfl
 ·refine aF (jd h h1) ?_
  rintro v w' ⟨rfl,rfl⟩
  refine ⟨_,rfl,⟨_,h.ccell (k:=0) h1 rfl,dG (λha=>?_) (λha=>?_)⟩⟩
  ·have ht:X.pure.take i=(none,X.pure):=by simp [Fab.take,h2,aW.pure,ha]
   rw [ht]
   exact dE.same h (Keep.refl _ _) rfl
  have hcx:=h.client i x h1
  refine ⟨_,_,_,h.ccell (k:=3) h1 rfl,?_⟩
  cases hbb:x.bb with
  |none=>
   have ht:X.pure.take i=(none,X.pure):=by simp [Fab.take,h2,aW.pure,ha,hbb]
   rw [ht]
   exact dE.same h (Keep.refl _ _) rfl
  |some b=>
   refine ⟨_,h.ccell (k:=4) h1 rfl,aH (λhw=>?_) (λhw=>?_)⟩
   ·have ht:X.pure.take i=(none,X.pure):=by
     have:0<x.waiting:=by omega
     simp [Fab.take,h2,aW.pure,ha,hbb,this]
    rw [ht]
    exact dE.same h (Keep.refl _ _) rfl
   ·have ht:X.pure.take i=(some x.batch,X.pure.setC i { x.pure with batch:=none }):=by
     have:x.waiting=0:=by omega
     simp [Fab.take,h2,aW.pure,ha,hbb,this]
    rw [ht]
    refine ⟨_,_,_,h.ccell (k:=3) h1 rfl,⟨⟨_,h.ccell (k:=3) h1 rfl⟩,?_,?_⟩⟩
    ·exact h.cls.frozen
    intro w2 hw2
    have hb2:Blk w2 X.cb ((gG X.clients).set i (x.cells.set 3 (.slice none 0 0))).flatten TC:=by rw [hw2];exact C3 h.cls h1 (by omega) _
    have hk2:Keep (λk=>k=X.cb) w' w2:=by rw [hw2];exact aR _ _ _ _
    clear hw2
    let χ':Nat→Tag:=λk=>if χ k=.batch i then .imm else χ k
    have hχ':∀ k,χ' k≠.imm→χ k≠.imm∧χ k≠.batch i∧χ' k=χ k:=by
     intro k hc
     simp only [χ'] at hc ⊢
     split at hc
     ·exact absurd rfl hc
     ·rename_i hn
      exact ⟨hc,hn,by rw [if_neg hn]⟩
    have hbt:=hcx.batch b hbb
    have hs:∀ k,χ k≠.batch i→χ' k=χ k:=λk hn=>by simp only [χ'];rw [if_neg hn]
    have hkc:Keep (λk=>χ k=.clients) w' w2:=hk2.mono λk _ e=>by rw [e];exact h.ctag
    obtain ⟨m,_⟩:=h.move (χ':=χ') (T:=λt=>t=.clients∨t=.batch i) (w':=w2) (hkc.mono λk _ e=>.inl e) (by simp) (λk _ hc=>(hχ' k hc).1) (λk _ hn _=>hs k λe=>hn (.inr e))
    have f1:=Owns.moved m hcx.own hcx.tag (by simp) (by simp)
    obtain ⟨nx,hF⟩:=h.setClient (χ':=χ') (w':=w2) (c':={ x with bb:=none,raw:=[],batch:=[] }) h1 (hkc.mono λk _ e=>.inl e) (λk _ hc=>(hχ' k hc).1) (λk _ hn _=>hs k λe=>hn (.inr (by rw [e];rfl)))
     (λk hc=>Nat.lt_of_lt_of_le (h.lowt (hχ' k hc).1) hk2.size) hb2 (by rw [hs _ (by rw [h.ctag];simp),h.ctag])
     ⟨f1.1,f1.2,λj l hl=>(hcx.lane j l hl).moved m (by simp) (by simp),λ_=>⟨rfl,rfl⟩,(λ_ hb=>nomatch hb),⟨rfl,λ_ _ _ hc=>by simp at hc⟩⟩
    have hnb:¬ iK A χ χ' w' b:=by
     rintro (hc | ⟨_,_,hc⟩)
     ·exact (hχ' b hc).2.1 hbt.2
     ·rw [hbt.2] at hc;cases hc
    have hbl:Blk w2 b (j1 x.raw).flatten TD:=hkc.blk hbt.1 (by rw [hbt.2];simp)
    refine ⟨_,χ',_,nx,hF,?_,b,x.raw,?_,hbl,hcx.ds.keep (hkc.mono λk _ e=>h.avoid k (by rw [e];simp)) λk hk hA=>?_,hnb⟩
    ·rw [FabX.set_pure]
     simp [aW.pure]
    ·have:=hcx.ds.1
     rw [hbb,this];rfl
    ·rcases hA with hA | hA
     ·exact h.avoid k (hχ' k hA).1
     ·exact hA.2.1
theorem kY.setLane {T:Tag→Prop} {A A':Nat→Prop} {χ χ':Nat→Tag} {w w':World} (m:qt T A A' χ χ' w w') {i j:Nat} {c:aW} {l':cJ} (h:kY A χ w i c) (hT:∀ t,ofC i t→T t→t=.lanes i∨t=.lane i j∨t=.places i j)
  (hown:Owns w' TL 2 c.la c.lanes.length c.lc ((j4 c.lanes).set j l'.cells).flatten) (htag:∀ k,isB c.la k→χ' k=.lanes i) (hl:vn A' χ' w' i j l'):kY A' χ' w' i { c with lanes:=c.lanes.set j l' }:=by
 refine ⟨?_,htag,λk y hy=>?_,h.none,λb hb=>?_,h.ds.keep m.keepA m.old⟩
 ·rw [zR] at hown
  simpa using hown
 ·simp only [List.getElem?_set] at hy
  split at hy
  ·rename_i he
   subst he
   split at hy
   ·simp only [Option.some.injEq] at hy
    subst hy
    exact hl
   ·cases hy
  ·rename_i he
   refine (h.lane k y hy).moved m (λhc=>?_) (λhc=>?_)
   ·rcases hT (.lane i k) rfl hc with e | e | e
    ·cases e
    ·simp at e;exact he e.symm
    ·cases e
   ·rcases hT (.places i k) rfl hc with e | e | e
    ·cases e
    ·cases e
    ·simp at e;exact he e.symm
 ·refine Blk.moved m (h.batch b hb).1 (h.batch b hb).2 (λhc=>?_) (by simp)
  rcases hT (.batch i) rfl hc with e | e | e<;>cases e
theorem iw {α:Type} {l:List α} {i:Nat} {x:α} (h:l[i]?=some x):l.set i x=l:=by
 apply List.ext_getElem?
 intro k
 rw [List.getElem?_set]
 split
 ·rename_i he
  subst he
  rw [if_pos (aN h),h]
 ·rfl
def lp (i j n:Nat) (t:Tag):Prop:=t=.lane i j∨t=.word n
theorem aZ.setPair {A:Nat→Prop} {χ χ':Nat→Tag} {w w':World} {fb:Nat} {X:FabX} (h:aZ A χ w fb X) {i j n:Nat} {c:aW} {l:cJ} {y:nm} (hc:X.clients[i]?=some c) (hl:c.lanes[j]?=some l) (hy:X.nodes[n]?=some y)
  (hk:Keep (λk=>lp i j n (χ k)) w w') (hg:∀ k,k<w.heap.size→χ' k≠.imm→χ k≠.imm) (hs:∀ k,k<w.heap.size→χ k≠.lane i j→χ' k=χ k) (hlow:∀ k,χ' k≠.imm→k<w'.heap.size)
  {n':aP} (hn:bM w' y.b y.bw n') {p':cX} (hp:bS (iK A χ χ' w) w' l.pb p') (ht:∀ k,p'.mut l.pb k→χ' k=.lane i j) :
  Next A (iK A χ χ' w) χ χ' w w'∧aZ (iK A χ χ' w) χ' w' fb { X with nodes:=X.nodes.set n { y with n:=n' },clients:=X.clients.set i { c with lanes:=c.lanes.set j { l with p:=p' } } }:=by
 obtain ⟨m,nx⟩:=h.move (T:=lp i j n) hk (by simp [lp]) hg (λk hlt hn _=>hs k hlt λe=>hn (.inl e))
 have f1:=Blk.moved m h.fab h.ftag (by simp [lp]) (by simp)
 have f2:=Owns.moved m h.nodes h.ntag (by simp [lp]) (by simp)
 have f3:=Owns.moved m h.orphs h.otag (by simp [lp]) (by simp)
 have f4:=Blk.moved m h.cls h.ctag (by simp [lp]) (by simp)
 have hya:=h.node n y hy
 have hcx:=h.client i c hc
 refine ⟨nx,m.avoid',λk hc=>?_,?_,f1.2,?_,f2.2,?_,?_,f4.2,λq z hz=>?_,f3.1,f3.2,λp hp=>bS.moved m (h.orphan p hp).1 (h.orphan p hp).2 (by simp [lp]) (by simp),h.nodup⟩
 ·rcases hc with hc | hc
  ·exact hlow k hc
  ·exact Nat.lt_of_lt_of_le hc.1 hk.size
 ·simpa [FabX.cells] using f1.1
 ·have e:((X.nodes.set n { y with n:=n' }).map λx=>ptr x.b)=X.nodes.map λx=>ptr x.b:=by
   rw [List.map_set]
   exact iw (by simp [hy])
  rw [e]
  simpa using f2.1
 ·intro q z hz
  simp only [List.getElem?_set] at hz
  split at hz
  ·rename_i he
   subst he
   split at hz
   ·simp only [Option.some.injEq] at hz
    subst hz
    exact ⟨hn,by rw [hs _ hya.node.node.lt (by rw [hya.tag];simp)];exact hya.tag,by rw [hs _ hya.node.words.lt (by rw [hya.wtag];simp)];exact hya.wtag⟩
   ·cases hz
  ·rename_i he
   exact (h.node q z hz).moved m (by simp [lp]) (by simp [lp];exact λe=>he e.symm)
 ·have e:gG (X.clients.set i { c with lanes:=c.lanes.set j { l with p:=p' } })=gG X.clients:=by
   simp only [gG,List.map_set]
   refine iw ?_
   simp [hc,aW.cells]
  rw [e]
  exact f4.1
 ·simp only [List.getElem?_set] at hz
  split at hz
  ·rename_i he
   subst he
   split at hz
   ·simp only [Option.some.injEq] at hz
    subst hz
    have f5:=Owns.moved m hcx.own hcx.tag (by simp [lp]) (by simp)
    have hlx:=hcx.lane j l hl
    refine hcx.setLane m (λt h1 h2=>?_) ?_ f5.2 ?_
    ·rcases h2 with e | e
     ·exact .inr (.inl e)
     ·rw [e] at h1;cases h1
    ·have e:(j4 c.lanes).set j ({ l with p:=p' }:cJ).cells=j4 c.lanes:=iw (by rw [fQ hl];rfl)
     rw [e]
     exact f5.1
    ·have f6:=Owns.moved m hlx.places hlx.ptag (by simp [lp]) (by simp)
     exact ⟨hp,ht,f6.1,f6.2⟩
   ·cases hz
  ·rename_i he
   refine (h.client q z hz).moved m (λt h1 h2=>?_)
   rcases h2 with e | e
   ·rw [e] at h1;exact he h1
   ·rw [e] at h1;cases h1
end Go.Proofs.YtgpmeaicjonenaaGreat
