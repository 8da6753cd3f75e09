/- The fabric: Step. -/
import Derived.Test.YteaknokogenndaaGreatOrph
set_option linter.unusedVariables false
namespace Go.Proofs.YteaknokogenndaaGreat
open Go.Eng

abbrev TCh : TypeId := 51
def Choice.cells (x : Choice) : List Value := [.int .i64 x.orphan, .int .i64 x.client, .int .i64 x.node]
def Choice.val (x : Choice) : Value := .agg x.cells.toArray

/-- What is done behind a step of a lane. -/
theorem comes_eq (C : Comp) (j : Nat) (l : Lane) (p : Pair) (od : Option Done) (hj : j < C.lanes.length) :
    ({ C with lanes := C.lanes.set j ⟨p, l.places⟩ } : Comp).done1 j p l.places od = C.comes j l p od := by
  cases od with
  | none => rfl
  | some x => simp [Comp.done1, Comp.comes]

theorem le_sum_of_mem : ∀ {l : List Nat} {x : Nat}, x ∈ l → x ≤ l.sum
  | y :: l, x, h => by
    rw [List.sum_cons]
    rcases List.mem_cons.1 h with rfl | h
    · omega
    · have := le_sum_of_mem h; omega

/-- New blocks are taken to be avoided. -/
theorem FabAt.widen {A : Nat → Prop} {χ : Nat → Tag} {w w' : World} {fb : Nat} {X : FabX} (h : FabAt A χ w fb X) (hk : New w w') : FabAt (fun k => A k ∨ (w.heap.size ≤ k ∧ k < w'.heap.size)) χ w' fb X := by
  have m : Moved (fun _ => False) A (fun k => A k ∨ (w.heap.size ≤ k ∧ k < w'.heap.size)) χ χ w w' := ⟨hk, id, h.avoid, fun k hlt hc => hc.elim id (fun hc => by omega), fun _ _ _ _ => rfl, fun k hc => .inl (h.avoid k hc)⟩
  have hs := hk.size
  refine ⟨m.avoid', fun k hc => hc.elim (fun hc => by have := h.low k hc; omega) (fun hc => hc.2), New.blk hk h.fab, h.ftag, h.nodes.new hk, h.ntag, fun i x hx => (h.node i x hx).moved m id id, New.blk hk h.cls, h.ctag,
    fun i c hc => (h.client i c hc).moved m fun _ _ => id, h.orphs.new hk, h.otag, fun p hp => ⟨(PairAt.moved m (h.orphan p hp).1 (h.orphan p hp).2 id (by simp)).1, (h.orphan p hp).2⟩, h.nodup⟩

set_option maxHeartbeats 3200000 in
theorem FStep_c {A : Nat → Prop} {χ : Nat → Tag} {w : World} {fb : Nat} {X : FabX} (h : FabAt A χ w fb X) (hok : FabOk X.pure) (x : Choice) : Does 22 [ptr fb, x.val] w fun v w' =>
    v = .bool (X.pure.step x).1 ∧ FPost A χ w fb (X.pure.step x).2 w' fun _ => True := by
  refine does Tryz.func22 ?_
  refine Eq.mpr (fabric_Fabric_Step_vc fb x.orphan x.client x.node w _) ?_
  rintro b1 w1 hb1 hw1
  obtain ⟨hbx, hn1⟩ := box_new hb1 hw1
  clear hw1
  have hF1 := h.new hn1
  have hbx : Blk w1 b1 x.cells TCh := hbx
  refine ⟨_, hbx.cell (i := 0) rfl, bif_dec (fun h0 => ?_) (fun h0 => ?_)⟩
  · obtain ⟨i, hi⟩ : ∃ i : Nat, x.orphan = i := ⟨x.orphan.toNat, by omega⟩
    have hst : X.pure.step x = X.pure.stepOrphan i := by
      unfold Fab.step
      rw [if_pos (by omega), hi]
      rfl
    refine ⟨_, hbx.cell (i := 0) rfl, ?_⟩
    rw [hi]
    refine at_call (stepOrphan_c hF1 hok i) ?_
    rintro v w2 ⟨rfl, hp⟩
    refine ⟨_, rfl, ?_⟩
    rw [hst]
    exact ⟨rfl, FPost.trans (h.refl hn1) hp⟩
  refine ⟨_, hbx.cell (i := 0) rfl, bif_dec (fun h1 => ?_) (fun h1 => ?_)⟩
  · have hst : X.pure.step x = (false, X.pure) := by unfold Fab.step; rw [if_neg (by omega), if_pos h1]
    rw [hst]
    exact ⟨rfl, FPost.same h hn1 trivial⟩
  have hst0 : X.pure.step x = match X.pure.cl x.client with
    | none => (false, X.pure)
    | some C => if x.node < 0 then (false, X.pure) else match C.lanes[x.node.toNat]?, X.pure.nodes[x.node.toNat]? with
      | some l, some n => if l.pair.verbs.length = 0 then (false, X.pure) else
        (true, { X.pure with nodes := X.pure.nodes.set x.node.toNat (l.pair.step n).2.1, clients := X.pure.clients.set x.client.toNat (C.comes x.node.toNat l (l.pair.step n).1 (l.pair.step n).2.2) })
      | _, _ => (false, X.pure) := by
    unfold Fab.step
    rw [if_neg (by omega), if_neg h1]
    rfl
  refine ⟨_, hbx.cell (i := 1) rfl, ?_⟩
  rcases X.cl_cases x.client with ⟨c1, c2⟩ | ⟨i, c, c0, hc, c2⟩
  · refine at_call (client_none hF1 c2) ?_
    rintro v w3 ⟨rfl, rfl⟩
    rw [c1] at hst0
    refine ⟨_, rfl, ?_⟩
    intro w4 hw4
    refine ⟨fun _ => True, trivial, ?_⟩
    rw [hst0]
    exact ⟨rfl, FPost.same h (hn1.new (by rw [hw4]; exact new_drew _)) trivial⟩
  have hxl := lt_of_get hc
  rw [c0]
  refine at_call (client_some hF1 hc) ?_
  rintro v w3 ⟨rfl, rfl⟩
  rw [c2] at hst0
  refine ⟨_, rfl, ?_⟩
  intro w4 hw4
  have hn4 : New w3 w4 := by rw [hw4]; exact new_drew _
  clear hw4
  have hF4 := hF1.new hn4
  have hb4 := New.blk hn4 hbx
  refine ⟨fun u => New w4 u, Keep.refl _ _, ?_⟩
  refine ⟨_, fun u hu => (New.blk hu hb4).cell (i := 2) rfl, bif_dec (fun h2 => ?_) (fun h2 => ?_)⟩
  · simp only [if_pos h2] at hst0
    rw [hst0]
    exact ⟨rfl, FPost.same h (hn1.new hn4) trivial⟩
  simp only [if_neg h2] at hst0
  obtain ⟨j, hj⟩ : ∃ j : Nat, x.node = j := ⟨x.node.toNat, by omega⟩
  have hjn : x.node.toNat = j := by omega
  rw [hjn] at hst0
  have hco := hok.client i c.pure (by simp [FabX.pure, hc])
  refine ⟨_, fun u hu => (New.blk hu hb4).cell (i := 2) rfl, ?_⟩
  refine ⟨_, _, _, fun u hu => (hF4.new hu).ccell (k := 2) hc rfl, bif_dec (fun h3 => ?_) (fun h3 => ?_)⟩
  · have e : c.pure.lanes[j]? = none := List.getElem?_eq_none (by
      have : c.pure.lanes.length = c.lanes.length := by simp [CompX.pure]
      have h3' : x.node ≥ (c.lanes.length : Int) := h3
      omega)
    simp only [e] at hst0
    rw [hst0]
    exact ⟨rfl, FPost.same h (hn1.new hn4) trivial⟩
  have h3' : ¬ x.node ≥ (c.lanes.length : Int) := h3
  have hjl : j < c.lanes.length := by omega
  obtain ⟨l, hl⟩ : ∃ l, c.lanes[j]? = some l := ⟨c.lanes[j], by simp [hjl]⟩
  have hjn2 : j < X.nodes.length := by
    have h5 := hco.lanes
    have e1 : c.pure.lanes.length = c.lanes.length := by simp [CompX.pure]
    have e2 : X.pure.nodes.length = X.nodes.length := by simp [FabX.pure]
    split at h5 <;> omega
  obtain ⟨y, hy⟩ : ∃ y, X.nodes[j]? = some y := ⟨X.nodes[j], by simp [hjn2]⟩
  have elp : c.pure.lanes[j]? = some l.pure := by simp [CompX.pure, hl]
  have eyp : X.pure.nodes[j]? = some y.n := by simp [FabX.pure, hy]
  simp only [elp, eyp] at hst0
  have hlo := hco.lane j l.pure elp
  refine ⟨_, _, _, fun u hu => (hF4.new hu).ccell (k := 2) hc rfl, _, fun u hu => (New.blk hu hb4).cell (i := 2) rfl, ?_⟩
  obtain ⟨g, hga, hgi, ⟨gcs, hgb⟩, hgc, hgk⟩ := Owns.row (hF4.client i c hc).own (lrows_len c.lanes) (by omega) (lrows_get hl)
  have hgt : χ g = .lanes i := (hF4.client i c hc).tag g ⟨0, hga⟩
  show idxS c.la c.lanes.length x.node 2 _
  rw [hga, hj]
  refine idxS_mk (by omega) (by omega) ?_
  rw [Int.toNat_natCast]
  refine ⟨some ⟨l.pb, 0, none⟩, fun u hu => cell_keep hu (hgk 0 _ rfl) id, ?_⟩
  refine at_call (Pending_c ((hF4.client i c hc).lane j l hl).pair) ?_
  rintro v w5 ⟨rfl, rfl⟩
  refine ⟨_, rfl, Keep.refl _ _, bif_beq (fun h6 => ?_) (fun h6 => ?_)⟩
  · have : l.pure.pair.verbs.length = 0 := by show l.p.verbs.length = 0; omega
    rw [if_pos this] at hst0
    rw [hst0]
    exact ⟨rfl, FPost.same h (hn1.new hn4) trivial⟩
  have hpos : ¬ l.pure.pair.verbs.length = 0 := by show ¬ l.p.verbs.length = 0; omega
  rw [if_neg hpos] at hst0
  intro w6 hw6
  have hn6 : New w5 w6 := by rw [hw6]; exact new_drew _
  clear hw6
  have hF6 := hF4.new hn6
  have hb6 := New.blk hn6 hb4
  refine ⟨fun u => New w6 u, Keep.refl _ _, _, _, _, fun u hu => (hF6.new hu).ccell (k := 2) hc rfl, _, fun u hu => (New.blk hu hb6).cell (i := 2) rfl, ?_⟩
  show idxS c.la c.lanes.length x.node 2 _
  rw [hga, hj]
  refine idxS_mk (by omega) (by omega) ?_
  rw [Int.toNat_natCast]
  intro w7 hw7
  have hn7 : New w6 w7 := by rw [hw7]; exact new_drew _
  clear hw7
  have hF7 := hF6.new hn7
  have hb7 := New.blk hn7 hb6
  have hn57 : New w5 w7 := hn6.new hn7
  have hn07 : New w w7 := (hn1.new hn4).new hn57
  have hb1i : χ b1 = .imm := h.fresh (by omega)
  have hcx7 := hF7.client i c hc
  have hlx7 := hcx7.lane j l hl
  have hya7 := hF7.node j y hy
  refine ⟨fun u => Keep (fun k => tpair i j j (χ k)) w7 u, Keep.refl _ _, some ⟨l.pb, 0, none⟩, fun u hu => cell_keep hu (cell_keep hn57 (hgk 0 _ rfl) id) (by show ¬ tpair i j j (χ g); rw [hgt]; simp [tpair]), ?_⟩
  refine ⟨_, _, _, fun u hu => (hu.blk hF7.fab (by rw [hF7.ftag]; simp [tpair])).cell (i := 1) rfl, _, fun u hu => (hu.blk hb7 (by rw [hb1i]; simp [tpair])).cell (i := 2) rfl, ?_⟩
  refine own_ptr (v := ptr y.b) (i := j) hF7.nodes (by simp [hy]) hj fun ad2 hcell2 had2 => ⟨some ⟨y.b, 0, none⟩, fun u hu => cell_keep hu hcell2 ?_, ?_⟩
  · obtain ⟨g2, hg2, rfl⟩ := had2
    show ¬ tpair i j j (χ g2)
    rw [hF7.ntag g2 ⟨0, hg2⟩]
    simp [tpair]
  -- the step itself, and what is behind it
  have hwait : c.waiting ≤ 1024 := by
    have h8 := hco.batch
    have e : c.pure.waiting = c.waiting := rfl
    omega
  have hplen : l.places.length = l.p.verbs.length := hlo.places
  have hpl : ∀ od : Option Done, od.isSome = true → ∃ bb p0 ps, l.places = p0 :: ps ∧ p0 < c.raw.length ∧ c.bb = some bb ∧ 0 < c.waiting := by
    intro od _
    cases hps : l.places with
    | nil => rw [hps] at hplen; exact absurd hplen.symm (by show ¬ l.p.verbs.length = 0; omega)
    | cons p0 ps =>
      have hlow := hlo.low p0 (by show p0 ∈ l.places; rw [hps]; simp)
      have hcx := h.client i c hc
      cases hbb : c.bb with
      | none => simp [CompX.pure, hbb] at hlow
      | some bb =>
        simp [CompX.pure, hbb] at hlow
        refine ⟨bb, p0, ps, rfl, by rw [hcx.ds.1]; exact hlow, rfl, ?_⟩
        have h8 := hco.waiting
        have e : c.pure.waiting = c.waiting := rfl
        have h9 : l.p.verbs.length ≤ pend c.pure.lanes := by
          unfold pend
          exact le_sum_of_mem (List.mem_map.2 ⟨l.pure, List.mem_of_getElem? elp, rfl⟩)
        have h10 : l.p.verbs.length ≠ 0 := hpos
        omega
  have hstep : ∀ (A0 : Nat → Prop) w7' r w8 (hnn : FabAt A0 χ w7' fb X), StepPost A0 l.pb y.b y.bw l.p y.n w7' r w8 → ∃ A1 χ1 d p', r = .tuple #[d.val, .bool (l.p.pure.step y.n).2.2.isSome] ∧ Next A0 A1 χ χ1 w7' w8 ∧
      FabAt A1 χ1 w8 fb { X with nodes := X.nodes.set j { y with n := (l.p.pure.step y.n).2.1 }, clients := X.clients.set i { c with lanes := c.lanes.set j { l with p := p' } } } ∧ p'.pure = (l.p.pure.step y.n).1 ∧
      Keep (fun k => tpair i j j (χ k)) w7' w8 ∧ (∀ x, (l.p.pure.step y.n).2.2 = some x → DoneAt A1 w8 d x) := by
    intro A0 w7' r w8 hF7' hS
    have hlx := (hF7'.client i c hc).lane j l hl
    have hya := hF7'.node j y hy
    obtain ⟨χ', d, p', rfl, hp', hnode', hk3, hg3, hs3, hl3, ht3, hP3, hd3⟩ := step_tags hlx.pair hlx.tag (by simp) (fun k hc => hF7'.lowt hc) hF7'.avoid hya.wtag hS
    obtain ⟨nx, hF3⟩ := hF7'.setPair hc hl hy hk3 hg3 hs3 hl3 hnode' hP3 ht3
    exact ⟨_, _, d, p', rfl, nx, hF3, hp', hk3, hd3⟩
  have hcall : ∀ (A0 : Nat → Prop) w7', FabAt A0 χ w7' fb X → Does 41 [.pointer (some ⟨l.pb, 0, none⟩), .pointer (some ⟨y.b, 0, none⟩)] w7' (StepPost A0 l.pb y.b y.bw l.p y.n w7') := by
    intro A0 w7' hF7'
    have hlx := (hF7'.client i c hc).lane j l hl
    have hya := hF7'.node j y hy
    exact PStep_c hlx.pair hya.node (hF7'.avoid _ (by rw [hya.wtag]; simp)) (hF7'.avoid _ (by rw [hya.tag]; simp)) (fun hb => by have := hlx.tag _ (.inr (.inr hb)); rw [hya.wtag] at this; cases this) hlo.rdy
  have hfin : ∀ w10 b2 A1 χ1 d p' w7', New w7 w7' → Next A A1 χ χ1 w7' w10 → FabAt A1 χ1 w10 fb { X with nodes := X.nodes.set j { y with n := (l.p.pure.step y.n).2.1 }, clients := X.clients.set i { c with lanes := c.lanes.set j { l with p := p' } } } → p'.pure = (l.p.pure.step y.n).1 →
      Blk w10 b2 (DoneV.cells d) TD → (∀ x, (l.p.pure.step y.n).2.2 = some x → DoneAt A1 w10 d x) → ∀ w' A' χ' X', Next A1 A' χ1 χ' w10 w' → FabAt A' χ' w' fb X' →
      X'.pure = (FabX.pure { X with nodes := X.nodes.set j { y with n := (l.p.pure.step y.n).2.1 }, clients := X.clients.set i { c with lanes := c.lanes.set j { l with p := p' } } }).setC i ((CompX.pure { c with lanes := c.lanes.set j { l with p := p' } }).done1 j p'.pure l.places (l.p.pure.step y.n).2.2) →
      (Value.bool true = .bool (X.pure.step x).1 ∧ FPost A χ w fb (X.pure.step x).2 w' fun _ => True) := by
    intro w10 b2 A1 χ1 d p' w7' hnn nx hF hp' hbox hd w' A' χ' X' nx' hF' hX'
    rw [hst0]
    refine ⟨rfl, A', χ', X', ((h.refl (hn07.new hnn)).trans nx).trans nx', hF', ?_, trivial⟩
    rw [hX', FabX.setPair_pure, c0]
    have e1 : (CompX.pure { c with lanes := c.lanes.set j { l with p := p' } }) = { c.pure with lanes := c.pure.lanes.set j ⟨p'.pure, l.pure.places⟩ } := by simp [CompX.pure, List.map_set, LaneX.pure]
    have e2 : l.places = l.pure.places := rfl
    rw [e1, e2, comes_eq _ _ _ _ _ (by simpa [CompX.pure] using hjl), hp']
    simp [Fab.setC]
    exact ⟨rfl, rfl⟩
  have hclq : ∀ p' : PairX, (X.clients.set i { c with lanes := c.lanes.set j { l with p := p' } })[i]? = some { c with lanes := c.lanes.set j { l with p := p' } } := fun p' => by simp [hxl]
  have hlq : ∀ p' : PairX, (c.lanes.set j { l with p := p' })[j]? = some { l with p := p' } := fun p' => by simp [hjl]
  refine ⟨?_, ?_⟩
  · refine at_call (hcall A w7 hF7) ?_
    intro r w8 hS
    obtain ⟨A1, χ1, d, p', rfl, nx, hF8, hp', hk8, hd8⟩ := hstep A w7 r w8 hF7 hS
    refine ⟨_, _, _, _, _, rfl, hk8, ?_⟩
    rintro b2 w9 hb2 hw9
    obtain ⟨hz9, hn9⟩ := box_new hb2 hw9
    refine ⟨hk8.new hn9, wrAt_blk (vs := d.cells) hz9 (by simp [DoneV.cells]) (DoneV.single d), ?_⟩
    intro w10 hw10
    obtain ⟨hz10, hn10⟩ := box_put (vs := d.cells) hz9 (by simp [DoneV.cells]) hn9 (by omega) hw10
    clear hw9 hw10
    have hF10 := hF8.new hn10
    have hd10 : ∀ x, (l.p.pure.step y.n).2.2 = some x → DoneAt A1 w10 d x := fun x hx => (hd8 x hx).keep (Keep.of_new hn10) fun _ _ h => h
    exact step_tail (R := fun v w' => v = .bool (X.pure.step x).1 ∧ FPost A χ w fb (X.pure.step x).2 w' fun _ => True) hF10 (hclq p') (hlq p') hga hz10 (l.p.pure.step y.n).2.2 hd10 (hpl _) (by show l.places.length ≤ 1024; rw [hplen]; exact hlx7.pair.len) hwait
      (hfin w10 b2 A1 χ1 d p' w7 (Keep.refl _ _) (nx.new hn10) hF10 hp' hz10 hd10)
  · rintro b3 w16 hb3 hw16
    obtain ⟨hz16, hn16⟩ := box_new hb3 hw16
    clear hw16
    refine ⟨Keep.of_new hn16, ?_⟩
    refine at_call (hcall _ w16 (hF7.widen hn16)) ?_
    intro r w17 hS
    obtain ⟨A1, χ1, d, p', rfl, nx, hF17, hp', hk17, hd17⟩ := hstep _ w16 r w17 (hF7.widen hn16) hS
    have hb3i : χ b3 = .imm := hF7.fresh (by omega)
    have hz17 := hk17.blk hz16 (by rw [hb3i]; simp [tpair])
    refine ⟨_, _, _, _, _, rfl, (Keep.of_new hn16).trans hk17 (fun k _ h => h), wrAt_blk (vs := d.cells) hz17 (by simp [DoneV.cells]) (DoneV.single d), ?_⟩
    intro w18 hw18
    have hz18 : Blk w18 b3 d.cells TD := by
      have hw : w18 = puts w17 ⟨b3, 0, none⟩ 0 d.cells := hw18
      rw [hw]
      have := hz17.puts (o := 0) (i := 0) (vs := d.cells)
      rw [splice_all (by simp [DoneV.cells])] at this
      exact this
    have hk18 : Keep (fun k => k = b3) w17 w18 := by rw [hw18]; exact keep_puts _ _ _ _ _
    clear hw18
    have hb3l : b3 < w16.heap.size := hz16.lt
    have hs16 := hn16.size
    have hA3 : A1 b3 := (nx.iff b3).2 (.inr ⟨hb3l, .inr ⟨by omega, hb3l⟩, hb3i⟩)
    have hχ3 : χ1 b3 = .imm := by
      by_cases hc : χ1 b3 = .imm
      · exact hc
      · exact absurd hb3i (nx.grow b3 hb3l hc)
    have hF18 := hF17.other hk18 (fun k hk => by rw [hk]; exact ⟨hA3, hχ3⟩)
    have hsub : ∀ k, nextA A χ χ1 w7 k → A1 k := by
      intro k hk
      refine (nx.iff k).2 ?_
      rcases hk with hk | hk
      · exact .inl hk
      · exact .inr ⟨by omega, .inl hk.2.1, hk.2.2⟩
    have hF18' := hF18.recolor hsub (fun k hc => .inl hc)
    have hnx : Next A (nextA A χ χ1 w7) χ χ1 w7 w18 := by
      refine ⟨((Keep.of_new hn16).trans nx.keep fun _ _ h => h).trans hk18 fun k hlt e => by omega, fun k hlt hc => nx.grow k (by omega) hc, fun _ => Iff.rfl⟩
    have hd18 : ∀ x, (l.p.pure.step y.n).2.2 = some x → DoneAt (nextA A χ χ1 w7) w18 d x := fun x hx => (hd17 x hx).keep (hk18.mono fun k _ e => by rw [e]; exact hA3) fun k _ hc => hsub k hc
    exact step_tail (R := fun v w' => v = .bool (X.pure.step x).1 ∧ FPost A χ w fb (X.pure.step x).2 w' fun _ => True) hF18' (hclq p') (hlq p') hga hz18 (l.p.pure.step y.n).2.2 hd18 (hpl _) (by show l.places.length ≤ 1024; rw [hplen]; exact hlx7.pair.len) hwait
      (hfin w18 b3 _ χ1 d p' w7 (Keep.refl _ _) hnx hF18' hp' hz18 hd18)
end Go.Proofs.YteaknokogenndaaGreat
