import Derived.Test.YtegepanmkjemjaaGreatv10
set_option linter.unusedVariables false
namespace Go.Proofs.YtegepanmkjemjaaGreat
open Go.Eng
structure Lane where
 pair:Pair
 places:List Nat
structure Comp where
 alive:Bool
 inc:Int
 lanes:List Lane
 batch:Option (List Done)
 waiting:Nat
 trips:Int
 posted:Int
structure Fab where
 lines:Nat
 nodes:List aO
 clients:List Comp
 orphans:List Pair
structure eA where
 orphan:Int
 client:Int
 node:Int
def Fab.cl (F:Fab) (c:Int):Option Comp:=if c<0 then none else F.clients[c.toNat]?
def Fab.nd (F:Fab) (i:Int):Option aO:=if i<0 then none else F.nodes[i.toNat]?
def Comp.postOne (C:Comp) (k:Nat) (v:Verb):Comp:=
 {C with lanes:=C.lanes.modify v.node.toNat λl=>⟨{ l.pair with verbs:=l.pair.verbs++[v] },l.places++[k]⟩ }
def Comp.postFrom (C:Comp) (k:Nat):List Verb→Comp
 | []=>C
 |v::vs=>(C.postOne k v).postFrom (k+1) vs
def eN (nodes lines:Int):List Verb→Int
 | []=>0
 |v::vs=>if v.v.valid nodes lines≠0 then v.v.valid nodes lines else eN nodes lines vs
def Comp.posted' (C:Comp) (vs:List Verb):Comp:=
 {(C.postFrom 0 vs) with batch:=some (List.replicate vs.length ⟨0,[]⟩),waiting:=vs.length,trips:=IntKind.i64.wrap (C.trips+1),posted:=IntKind.i64.wrap (C.posted+vs.length) }
def Fab.setC (F:Fab) (c:Int) (C:Comp):Fab:={ F with clients:=F.clients.set c.toNat C }
def Fab.post (F:Fab) (c:Int) (vs:List Verb):Int×Fab:=
 match F.cl c with
 |none=>(1,F)
 |some C=>
  if C.alive=false then (1,F) else if C.batch.isSome then (3,F) else if vs.length=0 then (1,F) else if vs.length>1024 then (18,F)
  else if eN F.nodes.length F.lines vs≠0 then (eN F.nodes.length F.lines vs,F)
  else (0,F.setC c (C.posted' vs))
def Fab.waiting (F:Fab) (c:Int):Nat:=match F.cl c with
 |none=>0
 |some C=>C.waiting
def Fab.alive (F:Fab) (c:Int):Bool:=match F.cl c with
 |none=>false
 |some C=>C.alive
def Fab.trips (F:Fab) (c:Int):Int:=match F.cl c with
 |none=>0
 |some C=>C.trips
def Fab.take (F:Fab) (c:Int):Option (List Done)×Fab:=
 match F.cl c with
 |none=>(none,F)
 |some C=>if C.alive=false then (none,F) else match C.batch with
  |none=>(none,F)
  |some ds=>if 0<C.waiting then (none,F) else (some ds,F.setC c { C with batch:=none })
def dE (i:Nat):Nat→List Lane→List eA
 | _,[]=>[]
 |j,l::ls=>(if 0<l.pair.verbs.length then [⟨-1,i,j⟩] else [])++dE i (j+1) ls
def cP:Nat→List Comp→List eA
 | _,[]=>[]
 |i,c::cs=>dE i 0 c.lanes++cP (i+1) cs
def fA:Nat→List Pair→List eA
 | _,[]=>[]
 |i,p::ps=>⟨i,p.client,p.node⟩::fA (i+1) ps
def Fab.choices (F:Fab):List eA:=cP 0 F.clients++fA 0 F.orphans
def Fab.drop (F:Fab) (i:Int):Bool×Fab:=if i<0∨F.orphans.length≤i.toNat then (false,F) else (true,{ F with orphans:=F.orphans.eraseIdx i.toNat })
def Fab.stepOrphan (F:Fab) (i:Nat):Bool×Fab:=
 match F.orphans[i]? with
 |none=>(false,F)
 |some p=>match F.nodes[p.node.toNat]? with
  |none=>(false,F)
  |some n=>
   let r:=p.step n
   let F':={ F with nodes:=F.nodes.set p.node.toNat r.2.1,orphans:=if r.1.verbs.length=0 then F.orphans.eraseIdx i else F.orphans.set i r.1 }
   (true,F')
def Comp.comes (C:Comp) (j:Nat) (l:Lane) (p:Pair):Option Done→Comp
 |none=>{ C with lanes:=C.lanes.set j { l with pair:=p } }
 |some d=>{ C with lanes:=C.lanes.set j ⟨p,l.places.tail⟩,batch:=C.batch.map λds=>ds.set (l.places.headD 0) d,waiting:=C.waiting - 1 }
def Fab.step (F:Fab) (x:eA):Bool×Fab:=
 if 0≤x.orphan then F.stepOrphan x.orphan.toNat
 else if x.orphan < -1 then (false,F)
 else match F.cl x.client with
  |none=>(false,F)
  |some C=>if x.node<0 then (false,F) else match C.lanes[x.node.toNat]?,F.nodes[x.node.toNat]? with
   |some l,some n=>if l.pair.verbs.length=0 then (false,F) else
    let r:=l.pair.step n
    (true,{ F with nodes:=F.nodes.set x.node.toNat r.2.1,clients:=F.clients.set x.client.toNat (C.comes x.node.toNat l r.1 r.2.2) })
   | _,_=>(false,F)
def Fab.die (F:Fab) (c:Int):Bool×Fab:=
 match F.cl c with
 |none=>(false,F)
 |some C=>if C.alive=false then (false,F) else
  (true,{ F with orphans:=F.orphans++(C.lanes.map Lane.pair).filter (λp=>decide (0<p.verbs.length)),clients:=F.clients.set c.toNat { C with alive:=false,lanes:=[],batch:=none,waiting:=0 } })
structure Al (i:Nat) (inc:Int) (j:Nat) (len:Nat) (l:Lane):Prop where
 client:l.pair.client=i
 inc:l.pair.inc=inc
 node:l.pair.node=j
 places:l.places.length=l.pair.verbs.length
 low:∀ k ∈ l.places,k<len
 rdy:l.pair.rdy
def pend (ls:List Lane):Nat:=(ls.map λl=>l.pair.verbs.length).sum
structure vH (n:Nat) (i:Nat) (C:Comp):Prop where
 inc:0≤C.inc∧C.inc≤59
 lanes:C.lanes.length=if C.alive then n else 0
 lane:∀ (j:Nat) (l:Lane),C.lanes[j]?=some l→Al i C.inc j (C.batch.getD []).length l
 waiting:C.waiting=pend C.lanes
 batch:C.waiting≤(C.batch.getD []).length∧(C.batch.getD []).length≤1024
 full:∀ ds,C.batch=some ds→0<ds.length
structure uO (F:Fab):Prop where
 lines:1≤F.lines∧F.lines≤256
 nodes:1≤F.nodes.length∧F.nodes.length≤5
 words:∀ n ∈ F.nodes,n.words.length=F.lines * 8
 clients:1≤F.clients.length∧F.clients.length≤6
 client:∀ (i:Nat) (C:Comp),F.clients[i]?=some C→vH F.nodes.length i C
 orphan:∀ p ∈ F.orphans,0≤p.node∧p.node<F.nodes.length∧p.rdy
inductive Tag where
 |imm
 |fab
 |nodes
 |node (i:Nat)
 |word (i:Nat)
 |clients
 |lanes (c:Nat)
 |lane (c n:Nat)
 |places (c n:Nat)
 |batch (c:Nat)
 |orphs
 |orph (b:Nat)
def ofC (c:Nat):Tag→Prop
 | .lanes i=>i=c
 | .lane i _=>i=c
 | .places i _=>i=c
 | .batch i=>i=c
 | _=>False
structure cD where
 pb:Nat
 p:cT
 places:List Nat
 pla:Option Addr
 plc:Nat
def cD.pure (l:cD):Lane:=⟨l.p.pure,l.places⟩
def cD.cells (l:cD):List Value:=[.pointer (some ⟨l.pb,0,none⟩),.slice l.pla l.places.length l.plc]
structure aX where
 alive:Bool
 inc:Int
 lanes:List cD
 la:Option Addr
 lc:Nat
 bb:Option Nat
 raw:List bC
 batch:List Done
 waiting:Nat
 trips:Int
 posted:Int
def aX.pure (c:aX):Comp:=⟨c.alive,c.inc,c.lanes.map cD.pure,c.bb.map λ_=>c.batch,c.waiting,c.trips,c.posted⟩
def aX.cells (c:aX):List Value:=[.bool c.alive,.int .i64 c.inc,.slice c.la c.lanes.length c.lc,.slice (c.bb.map λb=>⟨b,0,none⟩) c.raw.length c.raw.length,.int .i64 c.waiting,.int .i64 c.trips,.int .i64 c.posted]
structure jZ where
 b:Nat
 bw:Nat
 n:aO
structure FabX where
 lines:Nat
 nodes:List jZ
 na:Option Addr
 nc:Nat
 cb:Nat
 clients:List aX
 orphans:List (Nat×cT)
 oa:Option Addr
 oc:Nat
def FabX.pure (X:FabX):Fab:=⟨X.lines,X.nodes.map jZ.n,X.clients.map aX.pure,X.orphans.map λp=>p.2.pure⟩
def FabX.cells (X:FabX):List Value:=[.int .i64 X.lines,.slice X.na X.nodes.length X.nc,.slice (some ⟨X.cb,0,none⟩) X.clients.length X.clients.length,.slice X.oa X.orphans.length X.oc]
def ptr (b:Nat):Value:=.pointer (some ⟨b,0,none⟩)
def ka (ls:List cD):List (List Value):=ls.map cD.cells
def gP (cs:List aX):List (List Value):=cs.map aX.cells
abbrev TF:TypeId:=113
abbrev TC:TypeId:=101
abbrev TL:TypeId:=139
abbrev TNP:TypeId:=78
abbrev TPP:TypeId:=137
abbrev TI:TypeId:=3
structure vI (A:Nat→Prop) (χ:Nat→Tag) (w:World) (i j:Nat) (l:cD):Prop where
 pair:bO A w l.pb l.p
 tag:∀ k,l.p.mut l.pb k→χ k=.lane i j
 places:Owns w TI 1 l.pla l.places.length l.plc (is (l.places.map Int.ofNat))
 ptag:∀ k,isB l.pla k→χ k=.places i j
def Ds (A:Nat→Prop) (w:World) (raw:List bC) (xs:List Done):Prop:=raw.length=xs.length∧∀ (i:Nat) (v:bC) (x:Done),raw[i]?=some v→xs[i]?=some x→ki A w v x
structure lA (A:Nat→Prop) (χ:Nat→Tag) (w:World) (i:Nat) (c:aX):Prop where
 own:Owns w TL 2 c.la c.lanes.length c.lc (ka c.lanes).flatten
 tag:∀ k,isB c.la k→χ k=.lanes i
 lane:∀ (j:Nat) (l:cD),c.lanes[j]?=some l→vI A χ w i j l
 none:c.bb=none→c.raw=[]∧c.batch=[]
 batch:∀ b,c.bb=some b→Blk w b (kt c.raw).flatten TD∧χ b=.batch i
 ds:Ds A w c.raw c.batch
structure uP (χ:Nat→Tag) (w:World) (i:Nat) (x:jZ):Prop where
 node:bL w x.b x.bw x.n
 tag:χ x.b=.node i
 wtag:χ x.bw=.word i
structure aW (A:Nat→Prop) (χ:Nat→Tag) (w:World) (fb:Nat) (X:FabX):Prop where
 avoid:∀ k,χ k≠.imm→A k
 low:∀ k,A k→k<w.heap.size
 fab:Blk w fb X.cells TF
 ftag:χ fb=.fab
 nodes:Owns w TNP 1 X.na X.nodes.length X.nc (X.nodes.map λx=>ptr x.b)
 ntag:∀ k,isB X.na k→χ k=.nodes
 node:∀ (i:Nat) (x:jZ),X.nodes[i]?=some x→uP χ w i x
 cls:Blk w X.cb (gP X.clients).flatten TC
 ctag:χ X.cb=.clients
 client:∀ (i:Nat) (c:aX),X.clients[i]?=some c→lA A χ w i c
 orphs:Owns w TPP 1 X.oa X.orphans.length X.oc (X.orphans.map λp=>ptr p.1)
 otag:∀ k,isB X.oa k→χ k=.orphs
 orphan:∀ p ∈ X.orphans,bO A w p.1 p.2∧∀ k,p.2.mut p.1 k→χ k=.orph p.1
 nodup:(X.orphans.map Prod.fst).Nodup
structure qV (T:Tag→Prop) (A A':Nat→Prop) (χ χ':Nat→Tag) (w w':World):Prop where
 keep:Keep (λk=>T (χ k)) w w'
 imm:¬ T .imm
 avoid:∀ k,χ k≠.imm→A k
 old:∀ k,k<w.heap.size→A' k→A k
 same:∀ k,k<w.heap.size→¬ T (χ k)→χ k≠.imm→χ' k=χ k
 avoid':∀ k,χ' k≠.imm→A' k
theorem qV.keepA {T:Tag→Prop} {A A':Nat→Prop} {χ χ':Nat→Tag} {w w':World} (m:qV T A A' χ χ' w w'):Keep A w w':=m.keep.mono λk _ h=>m.avoid k λe=>m.imm (by rw [e] at h;exact h)
theorem bO.moved {T:Tag→Prop} {A A':Nat→Prop} {χ χ':Nat→Tag} {w w':World} (m:qV T A A' χ χ' w w') {b:Nat} {p:cT} {t:Tag} (h:bO A w b p) (ht:∀ k,p.mut b k→χ k=t) (hT:¬ T t) (hi:t≠.imm):bO A' w' b p∧∀ k,p.mut b k→χ' k=t:=by
 have hlt:∀ k,p.mut b k→k<w.heap.size:=by
  rintro k (rfl | hk | hk)
  ·exact h.blk.lt
  ·exact h.own.lt hk
  ·exact h.wown.lt hk
 have hnew:∀ k,p.mut b k→χ' k=t:=λk hk=>by
  rw [m.same k (hlt k hk) (by rw [ht k hk];exact hT) (by rw [ht k hk];exact hi),ht k hk]
 refine ⟨?_,hnew⟩
 have hh:=h.keep m.keep (λk hk hc=>hT (by rw [ht k hk] at hc;exact hc)) (λk hk=>m.avoid k λe=>m.imm (by rw [e] at hk;exact hk))
 refine ⟨hh.blk,hh.own,hh.wown,h.vs.keep m.keepA λk hk hA=>m.old k hk hA,h.client,h.inc,h.node,h.len,h.wlen,h.vok,h.ex,h.wwf,λk hk=>m.avoid' k (by rw [hnew k hk];exact hi)⟩
theorem Owns.moved {T:Tag→Prop} {A A':Nat→Prop} {χ χ':Nat→Tag} {w w':World} (m:qV T A A' χ χ' w w') {e sz n cap:Nat} {a:Option Addr} {xs:List Value} {t:Tag} (h:Owns w e sz a n cap xs) (ht:∀ k,isB a k→χ k=t) (hT:¬ T t) (hi:t≠.imm):Owns w' e sz a n cap xs∧∀ k,isB a k→χ' k=t:=
 ⟨h.keep m.keep λk hk hc=>hT (by rw [ht k hk] at hc;exact hc),λk hk=>by
  rw [m.same k (h.lt hk) (by rw [ht k hk];exact hT) (by rw [ht k hk];exact hi),ht k hk]⟩
theorem Blk.moved {T:Tag→Prop} {A A':Nat→Prop} {χ χ':Nat→Tag} {w w':World} (m:qV T A A' χ χ' w w') {b:Nat} {cs:List Value} {ty:TypeId} {t:Tag} (h:Blk w b cs ty) (ht:χ b=t) (hT:¬ T t) (hi:t≠.imm):Blk w' b cs ty∧χ' b=t:=
 ⟨m.keep.blk h λhc=>hT (by rw [ht] at hc;exact hc),by rw [m.same b h.lt (by rw [ht];exact hT) (by rw [ht];exact hi),ht]⟩
theorem Ds.keep {A A':Nat→Prop} {w w':World} {raw:List bC} {xs:List Done} (h:Ds A w raw xs) (hk:Keep A w w') (hM:∀ k,k<w.heap.size→A' k→A k):Ds A' w' raw xs:=
 ⟨h.1,λi v x hv hx=>(h.2 i v x hv hx).keep hk hM⟩
theorem vI.moved {T:Tag→Prop} {A A':Nat→Prop} {χ χ':Nat→Tag} {w w':World} (m:qV T A A' χ χ' w w') {i j:Nat} {l:cD} (h:vI A χ w i j l) (h1:¬ T (.lane i j)) (h2:¬ T (.places i j)):vI A' χ' w' i j l:=by
 obtain ⟨a1,a2⟩:=bO.moved m h.pair h.tag h1 (by simp)
 obtain ⟨a3,a4⟩:=Owns.moved m h.places h.ptag h2 (by simp)
 exact ⟨a1,a2,a3,a4⟩
theorem lA.moved {T:Tag→Prop} {A A':Nat→Prop} {χ χ':Nat→Tag} {w w':World} (m:qV T A A' χ χ' w w') {i:Nat} {c:aX} (h:lA A χ w i c) (hT:∀ t,ofC i t→¬ T t):lA A' χ' w' i c:=by
 obtain ⟨a1,a2⟩:=Owns.moved m h.own h.tag (hT _ rfl) (by simp)
 refine ⟨a1,a2,λj l hl=>(h.lane j l hl).moved m (hT _ rfl) (hT _ rfl),h.none,λb hb=>?_,h.ds.keep m.keepA m.old⟩
 exact Blk.moved m (h.batch b hb).1 (h.batch b hb).2 (hT _ rfl) (by simp)
theorem uP.moved {T:Tag→Prop} {A A':Nat→Prop} {χ χ':Nat→Tag} {w w':World} (m:qV T A A' χ χ' w w') {i:Nat} {x:jZ} (h:uP χ w i x) (h1:¬ T (.node i)) (h2:¬ T (.word i)):uP χ' w' i x:=by
 obtain ⟨a1,a2⟩:=Blk.moved m h.node.node h.tag h1 (by simp)
 obtain ⟨a3,a4⟩:=Blk.moved m h.node.words h.wtag h2 (by simp)
 exact ⟨⟨a1,a3,h.node.len,h.node.len2,h.node.wf⟩,a2,a4⟩
def iW (A:Nat→Prop) (χ χ':Nat→Tag) (w:World) (k:Nat):Prop:=χ' k≠.imm∨(k<w.heap.size∧A k∧χ k=.imm)
structure Next (A A':Nat→Prop) (χ χ':Nat→Tag) (w w':World):Prop where
 keep:Keep (λk=>χ k≠.imm) w w'
 grow:∀ k,k<w.heap.size→χ' k≠.imm→χ k≠.imm
 iff:∀ k,A' k↔iW A χ χ' w k
theorem Next.refl {A:Nat→Prop} {χ:Nat→Tag} {w w':World} (ha:∀ k,χ k≠.imm→A k) (hl:∀ k,A k→k<w.heap.size) (hn:New w w'):Next A A χ χ w w':=
 ⟨Keep.of_new hn,λ_ _ h=>h,λk=>⟨λh=>by
  by_cases hc:χ k=.imm
  ·exact .inr ⟨hl k h,h,hc⟩
  ·exact .inl hc,λh=>h.elim (ha k) λh=>h.2.1⟩⟩
theorem Next.trans {A A1 A2:Nat→Prop} {χ χ1 χ2:Nat→Tag} {w w1 w2:World} (h:Next A A1 χ χ1 w w1) (h':Next A1 A2 χ1 χ2 w1 w2):Next A A2 χ χ2 w w2:=by
 refine ⟨h.keep.trans h'.keep λi hi hc=>h.grow i hi hc,λk hk hc=>h.grow k hk (h'.grow k (Nat.lt_of_lt_of_le hk h.keep.size) hc),λk=>?_⟩
 rw [h'.iff k]
 constructor
 ·rintro (hc | ⟨h1,h2,h3⟩)
  ·exact .inl hc
  ·rcases (h.iff k).1 h2 with hc | ⟨h4,h5,h6⟩
   ·exact absurd h3 hc
   ·exact .inr ⟨h4,h5,h6⟩
 ·rintro (hc | ⟨h1,h2,h3⟩)
  ·exact .inl hc
  ·refine .inr ⟨Nat.lt_of_lt_of_le h1 h.keep.size,(h.iff k).2 (.inr ⟨h1,h2,h3⟩),?_⟩
   by_cases hc:χ1 k=.imm
   ·exact hc
   ·exact absurd h3 (h.grow k h1 hc)
theorem Next.new {A A1:Nat→Prop} {χ χ1:Nat→Tag} {w w1 w2:World} (h:Next A A1 χ χ1 w w1) (h':New w1 w2):Next A A1 χ χ1 w w2:=⟨h.keep.new h',h.grow,h.iff⟩
theorem aW.move {T:Tag→Prop} {A:Nat→Prop} {χ χ':Nat→Tag} {w w':World} {fb:Nat} {X:FabX} (h:aW A χ w fb X) (hk:Keep (λk=>T (χ k)) w w') (hi:¬ T .imm)
  (hg:∀ k,k<w.heap.size→χ' k≠.imm→χ k≠.imm) (hs:∀ k,k<w.heap.size→¬ T (χ k)→χ k≠.imm→χ' k=χ k):qV T A (iW A χ χ' w) χ χ' w w'∧Next A (iW A χ χ' w) χ χ' w w':=by
 refine ⟨⟨hk,hi,h.avoid,λk hlt hA=>?_,hs,λk hc=>.inl hc⟩,⟨hk.mono λk _ ht e=>hi (by rw [e] at ht;exact ht),hg,λk=>Iff.rfl⟩⟩
 rcases hA with hA | hA
 ·exact h.avoid k (hg k hlt hA)
 ·exact hA.2.1
theorem aW.new {A:Nat→Prop} {χ:Nat→Tag} {w w':World} {fb:Nat} {X:FabX} (h:aW A χ w fb X) (hk:New w w'):aW A χ w' fb X:=by
 have m:qV (λ_=>False) A A χ χ w w':=⟨hk,id,h.avoid,λ_ _ h=>h,λ_ _ _ _=>rfl,h.avoid⟩
 refine ⟨h.avoid,λk hc=>Nat.lt_of_lt_of_le (h.low k hc) hk.size,New.blk hk h.fab,h.ftag,h.nodes.new hk,h.ntag,λi x hx=>(h.node i x hx).moved m id id,New.blk hk h.cls,h.ctag,
  λi c hc=>(h.client i c hc).moved m λ_ _=>id,h.orphs.new hk,h.otag,λp hp=>⟨(h.orphan p hp).1.new hk,(h.orphan p hp).2⟩,h.nodup⟩
theorem aW.recolor {A A':Nat→Prop} {χ:Nat→Tag} {w:World} {fb:Nat} {X:FabX} (h:aW A χ w fb X) (h1:∀ k,A' k→A k) (h2:∀ k,χ k≠.imm→A' k):aW A' χ w fb X:=by
 have m:qV (λ_=>False) A A' χ χ w w:=⟨Keep.refl _ _,id,h.avoid,λk _=>h1 k,λ_ _ _ _=>rfl,h2⟩
 refine ⟨h2,λk hc=>h.low k (h1 k hc),h.fab,h.ftag,h.nodes,h.ntag,h.node,h.cls,h.ctag,
  λi c hc=>(h.client i c hc).moved m λ_ _=>id,h.orphs,h.otag,λp hp=>⟨(bO.moved m (h.orphan p hp).1 (h.orphan p hp).2 id (by simp)).1,(h.orphan p hp).2⟩,h.nodup⟩
theorem aW.other {A S:Nat→Prop} {χ:Nat→Tag} {w w':World} {fb:Nat} {X:FabX} (h:aW A χ w fb X) (hk:Keep S w w') (hS:∀ k,S k→A k∧χ k=.imm):aW A χ w' fb X:=by
 have hb:∀ {b:Nat} {cs:List Value} {T:TypeId} {t:Tag},Blk w b cs T→χ b=t→t≠.imm→Blk w' b cs T:=λhb ht hi=>hk.blk hb λhc=>hi (by rw [←ht];exact (hS _ hc).2)
 have ho:∀ {e sz n cap:Nat} {a:Option Addr} {xs:List Value} {t:Tag},Owns w e sz a n cap xs→(∀ k,isB a k→χ k=t)→t≠.imm→Owns w' e sz a n cap xs:=λho ht hi=>ho.keep hk λk hk hc=>hi (by rw [←ht k hk];exact (hS _ hc).2)
 have hp:∀ {b:Nat} {p:cT} {t:Tag},bO A w b p→(∀ k,p.mut b k→χ k=t)→t≠.imm→bO A w' b p:=λhp ht hi=>hp.keep hk (λk hk hc=>hi (by rw [←ht k hk];exact (hS _ hc).2)) (λk hc=>(hS k hc).1)
 have hA:Keep A w w':=hk.mono λk _ hc=>(hS k hc).1
 refine ⟨h.avoid,λk hc=>Nat.lt_of_lt_of_le (h.low k hc) hk.size,hb h.fab h.ftag (by simp),h.ftag,ho h.nodes h.ntag (by simp),h.ntag,λi x hx=>?_,hb h.cls h.ctag (by simp),h.ctag,λi c hc=>?_,
  ho h.orphs h.otag (by simp),h.otag,λp hpp=>⟨hp (h.orphan p hpp).1 (h.orphan p hpp).2 (by simp),(h.orphan p hpp).2⟩,h.nodup⟩
 ·have hn:=h.node i x hx
  exact ⟨⟨hb hn.node.node hn.tag (by simp),hb hn.node.words hn.wtag (by simp),hn.node.len,hn.node.len2,hn.node.wf⟩,hn.tag,hn.wtag⟩
 ·have hc:=h.client i c hc
  refine ⟨ho hc.own hc.tag (by simp),hc.tag,λj l hl=>?_,hc.none,λb hbb=>⟨hb (hc.batch b hbb).1 (hc.batch b hbb).2 (by simp),(hc.batch b hbb).2⟩,hc.ds.keep hA λ_ _ h=>h⟩
  have hl:=hc.lane j l hl
  exact ⟨hp hl.pair hl.tag (by simp),hl.tag,ho hl.places hl.ptag (by simp),hl.ptag⟩
theorem gQ (ls:List cD):∀ r ∈ ka ls,r.length=2:=by
 intro r hr;simp only [ka,List.mem_map] at hr;obtain ⟨l,_,rfl⟩:=hr;rfl
theorem sD (cs:List aX):∀ r ∈ gP cs,r.length=7:=by
 intro r hr;simp only [gP,List.mem_map] at hr;obtain ⟨l,_,rfl⟩:=hr;rfl
theorem fZ {ls:List cD} {i:Nat} {l:cD} (h:ls[i]?=some l):(ka ls)[i]?=some l.cells:=by simp [ka,h]
theorem nX {cs:List aX} {i:Nat} {c:aX} (h:cs[i]?=some c):(gP cs)[i]?=some c.cells:=by simp [gP,h]
theorem mb (cs:List aX) (i:Nat) (c:aX):(gP cs).set i c.cells=gP (cs.set i c):=by simp [gP]
theorem Am (ls:List cD) (i:Nat) (l:cD):(ka ls).set i l.cells=ka (ls.set i l):=by simp [ka]
theorem An (ds:List bC) (i:Nat) (d:bC):(kt ds).set i d.cells=kt (ds.set i d):=by simp [kt]
theorem aW.ccell {A:Nat→Prop} {χ:Nat→Tag} {w:World} {fb:Nat} {X:FabX} (h:aW A χ w fb X) {i k:Nat} {c:aX} {v:Value} (hc:X.clients[i]?=some c) (hv:c.cells[k]?=some v):w.cell? ⟨X.cb,0+i * 7+k,none⟩=some v:=by
 rw [Nat.zero_add]
 exact h.cls.cell (rR (sD _) (nX hc) hv)
theorem FabX.cl_cases (X:FabX) (c:Int):(X.pure.cl c=none∧(c<0∨(X.clients.length:Int)≤c))∨∃ i x,c=(i:Nat)∧X.clients[i]?=some x∧X.pure.cl c=some x.pure:=by
 unfold Fab.cl
 by_cases hc:c<0
 ·exact .inl ⟨by rw [if_pos hc],.inl hc⟩
 ·rw [if_neg hc]
  cases hx:X.clients[c.toNat]? with
  |none=>exact .inl ⟨by simp [FabX.pure,hx],.inr (by have:=List.getElem?_eq_none_iff.1 hx;omega)⟩
  |some x=>exact .inr ⟨c.toNat,x,by omega,hx,by simp [FabX.pure,hx]⟩
theorem jE {A:Nat→Prop} {χ:Nat→Tag} {w:World} {fb:Nat} {X:FabX} (h:aW A χ w fb X) {c:Int} (hc:c<0∨(X.clients.length:Int)≤c) :
  Does 38 [ptr fb,.int .i64 c] w λv w'=>v=.pointer none∧w'=w:=by
 refine does Tryz.func38 ?_
 rw [ptr,ix]
 refine aH (λ_=>⟨rfl,rfl⟩) (λh0=>?_)
 exact ⟨_,_,_,h.fab.cell rfl,aH (λ_=>⟨rfl,rfl⟩) (λh1=>by omega)⟩
theorem gy {A:Nat→Prop} {χ:Nat→Tag} {w:World} {fb:Nat} {X:FabX} (h:aW A χ w fb X) {i:Nat} {x:aX} (hc:X.clients[i]?=some x) :
  Does 38 [ptr fb,.int .i64 i] w λv w'=>v=.pointer (some ⟨X.cb,0+i * 7,none⟩)∧w'=w:=by
 refine does Tryz.func38 ?_
 rw [ptr,ix]
 have:=aP hc
 refine aH (λ_=>by omega) (λh0=>⟨_,_,_,h.fab.cell rfl,aH (λ_=>by omega) (λh1=>⟨_,_,_,h.fab.cell rfl,aY (by omega) (by omega) ⟨rfl,rfl⟩⟩)⟩)
theorem Ao {A:Nat→Prop} {χ:Nat→Tag} {w:World} {fb:Nat} {X:FabX} (h:aW A χ w fb X) (c:Int):Does 29 [ptr fb,.int .i64 c] w λv w'=>v=.bool (X.pure.alive c)∧w'=w:=by
 refine does Tryz.func29 ?_
 rw [ptr,m9]
 unfold Fab.alive
 rcases X.cl_cases c with ⟨h1,h2⟩ | ⟨i,x,rfl,h1,h2⟩
 ·refine aF (jE h h2) ?_
  rintro v w' ⟨rfl,rfl⟩
  rw [h1]
  exact ⟨_,rfl,rfl,rfl⟩
 ·refine aF (gy h h1) ?_
  rintro v w' ⟨rfl,rfl⟩
  rw [h2]
  exact ⟨_,rfl,⟨_,h.ccell (k:=0) h1 rfl,rfl,rfl⟩⟩
theorem Ap {A:Nat→Prop} {χ:Nat→Tag} {w:World} {fb:Nat} {X:FabX} (h:aW A χ w fb X) (c:Int):Does 58 [ptr fb,.int .i64 c] w λv w'=>v=.int .i64 (X.pure.waiting c)∧w'=w:=by
 refine does Tryz.func58 ?_
 rw [ptr,l8]
 unfold Fab.waiting
 rcases X.cl_cases c with ⟨h1,h2⟩ | ⟨i,x,rfl,h1,h2⟩
 ·refine aF (jE h h2) ?_
  rintro v w' ⟨rfl,rfl⟩
  rw [h1]
  exact ⟨_,rfl,rfl,rfl⟩
 ·refine aF (gy h h1) ?_
  rintro v w' ⟨rfl,rfl⟩
  rw [h2]
  exact ⟨_,rfl,⟨_,h.ccell (k:=4) h1 rfl,rfl,rfl⟩⟩
theorem D4 {A:Nat→Prop} {χ:Nat→Tag} {w:World} {fb:Nat} {X:FabX} (h:aW A χ w fb X) (c:Int):Does 16 [ptr fb,.int .i64 c] w λv w'=>v=.int .i64 (X.pure.trips c)∧w'=w:=by
 refine does Tryz.func16 ?_
 rw [ptr,m8]
 unfold Fab.trips
 rcases X.cl_cases c with ⟨h1,h2⟩ | ⟨i,x,rfl,h1,h2⟩
 ·refine aF (jE h h2) ?_
  rintro v w' ⟨rfl,rfl⟩
  rw [h1]
  exact ⟨_,rfl,rfl,rfl⟩
 ·refine aF (gy h h1) ?_
  rintro v w' ⟨rfl,rfl⟩
  rw [h2]
  exact ⟨_,rfl,⟨_,h.ccell (k:=5) h1 rfl,rfl,rfl⟩⟩
theorem uQ {A:Nat→Prop} {χ:Nat→Tag} {w:World} {fb:Nat} {X:FabX} (h:aW A χ w fb X):Does 54 [ptr fb] w λv w'=>v=.int .i64 X.nodes.length∧w'=w:=by
 refine does Tryz.func54 ?_
 rw [ptr,nf]
 exact ⟨_,_,_,h.fab.cell rfl,rfl,rfl⟩
theorem qW {w:World} {e cap:Nat} {a:Option Addr} {ps:List Value} {n:Nat} (h:Owns w e 1 a n cap ps) {i:Nat} {v:Value} (hv:ps[i]?=some v) {K:Addr→Prop} {z:Int} (hz:z=i) (hk:∀ ad,w.cell? ad=some v→(∃ g,a=some ⟨g,0,none⟩∧ad=⟨g,0+i * 1,none⟩)→K ad):idxS a n z 1 K:=by
 subst hz
 have hl:=aP hv
 have h1:=h.1
 rcases h.2 with ⟨_,h0,_⟩ | ⟨g,cur,rfl,hb,hle,hc,hlen,ht⟩
 ·subst h0;omega
 ·refine aY (by omega) (by omega) ?_
  refine hk _ ?_ ⟨g,rfl,by simp⟩
  have hi:cur[i]?=some v:=by
   rw [←ht] at hv
   rw [List.getElem?_take] at hv
   split at hv
   ·exact hv
   ·cases hv
  have:=hb.cell hi
  simpa using this
theorem nY {A:Nat→Prop} {χ:Nat→Tag} {w:World} {fb:Nat} {X:FabX} (h:aW A χ w fb X) {i:Nat} {x:jZ} (hx:X.nodes[i]?=some x):Does 25 [ptr fb,.int .i64 i] w λv w'=>v=ptr x.b∧w'=w:=by
 refine does Tryz.func25 ?_
 rw [ptr,nO]
 have:=aP hx
 refine aH (λ_=>by omega) (λh0=>⟨_,_,_,h.fab.cell rfl,aH (λ_=>by omega) (λh1=>⟨_,_,_,h.fab.cell rfl,?_⟩)⟩)
 exact qW (v:=ptr x.b) (i:=i) h.nodes (by simp [hx]) rfl λad hc _=>⟨_,hc,rfl,rfl⟩
theorem aW.setNode {A:Nat→Prop} {χ:Nat→Tag} {w w':World} {fb:Nat} {X:FabX} (h:aW A χ w fb X) {i:Nat} {x:jZ} (hx:X.nodes[i]?=some x) {n':aO} (hk:Keep (λk=>k=x.b∨k=x.bw) w w') (hn:bL w' x.b x.bw n') :
  ∃ A',Next A A' χ χ w w'∧aW A' χ w' fb { X with nodes:=X.nodes.set i { x with n:=n' } }:=by
 have hxa:=h.node i x hx
 obtain ⟨m,nx⟩:=h.move (χ':=χ) (T:=λt=>t=.node i∨t=.word i) (w':=w') (hk.mono λk _ hc=>hc.elim (λe=>.inl (e▸hxa.tag)) (λe=>.inr (e▸hxa.wtag))) (by simp) (λ_ _ h=>h) (λ_ _ _ _=>rfl)
 refine ⟨_,nx,m.avoid',λk hc=>Nat.lt_of_lt_of_le (hc.elim (λhc=>h.low k (h.avoid k hc)) (λhc=>hc.1)) hk.size,?_,h.ftag,?_,h.ntag,?_,(Blk.moved m h.cls h.ctag (by simp) (by simp)).1,h.ctag,λj c hc=>(h.client j c hc).moved m ?_,(Owns.moved m h.orphs h.otag (by simp) (by simp)).1,h.otag,λp hp=>bO.moved m (h.orphan p hp).1 (h.orphan p hp).2 (by simp) (by simp),h.nodup⟩
 ·have:=(Blk.moved m h.fab h.ftag (by simp) (by simp)).1
  simpa [FabX.cells] using this
 ·have:=(Owns.moved m h.nodes h.ntag (by simp) (by simp)).1
  have e:((X.nodes.set i { x with n:=n' }).map λx=>ptr x.b)=X.nodes.map λx=>ptr x.b:=by
   rw [List.map_set]
   apply List.ext_getElem?
   intro k
   rw [List.getElem?_set]
   split
   ·rename_i he
    subst he
    split
    ·simp [hx]
    ·rename_i hc
     exact absurd (aP hx) (by simpa using hc)
   ·rfl
  rw [e]
  simpa using this
 ·intro j y hy
  simp only [List.getElem?_set] at hy
  split at hy
  ·rename_i he
   subst he
   split at hy
   ·simp only [Option.some.injEq] at hy
    subst hy
    exact ⟨hn,hxa.tag,hxa.wtag⟩
   ·cases hy
  ·rename_i he
   exact (h.node j y hy).moved m (by simp;exact λe=>he e.symm) (by simp;exact λe=>he e.symm)
 ·intro t ht
  cases t<;>simp [ofC] at ht ⊢
end Go.Proofs.YtegepanmkjemjaaGreat
