/- The fabric: Choices. -/
import Derived.Test.YteaknokogenndaaGreatFStep2
set_option linter.unusedVariables false
namespace Go.Proofs.YteaknokogenndaaGreat
open Go.Eng

theorem drop_get {α : Type} {l : List α} {k : Nat} {x : α} (h : l[k]? = some x) : l.drop k = x :: l.drop (k + 1) := by
  obtain ⟨h1, h2⟩ := List.getElem?_eq_some_iff.1 h
  rw [List.drop_eq_getElem_cons h1, h2]

def chrows (l : List Choice) : List (List Value) := l.map Choice.cells
theorem chrows_len (l : List Choice) : ∀ r ∈ chrows l, r.length = 3 := by
  intro r hr; simp only [chrows, List.mem_map] at hr; obtain ⟨l, _, rfl⟩ := hr; rfl
theorem chrows_get {l : List Choice} {i : Nat} {x : Choice} (h : l[i]? = some x) : (chrows l)[i]? = some x.cells := by simp [chrows, h]

/-- A list of choices under way: all of it is new. -/
structure ChAt (w u : World) (a : Option Addr) (cap : Nat) (out : List Choice) : Prop where
  new : New w u
  own : Owns u TCh 3 a out.length cap (chrows out).flatten
  fresh : ∀ k, isB a k → w.heap.size ≤ k

theorem ChAt.step {w u u' : World} {a : Option Addr} {cap : Nat} {out : List Choice} (h : ChAt w u a cap out) (hn : New u u') : ChAt w u' a cap out := ⟨h.new.new hn, h.own.new hn, h.fresh⟩

theorem ChAt.append {w u u1 : World} {a : Option Addr} {cap b : Nat} {out : List Choice} (h : ChAt w u a cap out) (x : Choice) (hb : b = u.heap.size) (hw : u1 = u.alloc (.cells x.cells.toArray 51)) (hl : out.length ≤ 1000000000) :
    ∃ a' cap' u2, (Builtin.append_ #[47, 47] 47 #[.slice a out.length cap, .slice (some ⟨b, 0, none⟩) 1 1]).run Tryz.prog u1 = .ok (.slice a' (out ++ [x]).length cap') u2 ∧ ChAt w u2 a' cap' (out ++ [x]) := by
  obtain ⟨hz, hn⟩ := box_new hb hw
  have h1 := h.step hn
  obtain ⟨ti, hi, hzz, hsz, hby⟩ := infoB (T := 51) (z := .agg #[.int .i64 0, .int .i64 0, .int .i64 0]) (n := 3) (m := 24) (by kernel_rfl)
  have hown : Owns u1 TCh ti.size a out.length cap (chrows out).flatten := by rw [hsz]; exact h1.own
  obtain ⟨ap, apc, w7, hrun, hown7, hk7, hap⟩ := hown.append (P := Tryz.prog) (t := 47) (ty := 47) Tryz.underlying47 hi hzz (by rw [hsz]; rfl) (by omega)
    (s := some ⟨b, 0, none⟩) (m := 1) (c := 1) (news := x.cells) (by rw [hsz]; rfl) (rd_blk hz (by simp [Choice.cells])) (by simp [Choice.cells, single]) (by omega) (by rw [hby]; omega)
  rw [hsz] at hown7
  have hf : (chrows (out ++ [x])).flatten = (chrows out).flatten ++ x.cells := by simp [chrows]
  refine ⟨ap, apc, w7, by simpa using hrun, h1.new.trans hk7 fun k hlt hk => ?_, ?_, fun k hk => ?_⟩
  · have := h.fresh k hk; omega
  · rw [hf]; simpa using hown7
  · rcases hap with e | e
    · exact h.fresh k (e ▸ hk)
    · obtain ⟨o, ho⟩ := hk
      rw [e] at ho
      simp at ho
      have := h.new.size
      have := hn.size
      omega

theorem ChAt.nil (w : World) : ChAt w w none 0 [] := ⟨Keep.refl _ _, Owns.nil _ _ _, fun k ⟨o, ho⟩ => by cases ho⟩

theorem laneChoices_len (i : Nat) : ∀ (j : Nat) (ls : List Lane), (laneChoices i j ls).length ≤ ls.length
  | _, [] => by simp [laneChoices]
  | j, l :: ls => by
    have := laneChoices_len i (j + 1) ls
    simp only [laneChoices, List.length_append, List.length_cons]
    split <;> simp <;> omega

theorem compChoices_len {n : Nat} : ∀ (i : Nat) (cs : List Comp), (∀ c ∈ cs, c.lanes.length ≤ n) → (compChoices i cs).length ≤ cs.length * n
  | _, [], _ => by simp [compChoices]
  | i, c :: cs, h => by
    have h1 := compChoices_len (i + 1) cs fun c hc => h c (List.mem_cons_of_mem _ hc)
    have h2 := laneChoices_len i 0 c.lanes
    have h3 := h c (List.mem_cons_self ..)
    simp only [compChoices, List.length_append, List.length_cons, Nat.add_mul, Nat.one_mul]
    omega

theorem orphChoices_len : ∀ (i : Nat) (ps : List Pair), (orphChoices i ps).length = ps.length
  | _, [] => rfl
  | i, p :: ps => by simp [orphChoices, orphChoices_len (i + 1) ps]

set_option maxHeartbeats 3200000 in
theorem Choices_c {A : Nat → Prop} {χ : Nat → Tag} {w : World} {fb : Nat} {X : FabX} (h : FabAt A χ w fb X) (hok : FabOk X.pure) (hob : X.orphans.length ≤ 100000000) : Does 21 [ptr fb] w fun v w' =>
    ∃ a cap, v = .slice a X.pure.choices.length cap ∧ ChAt w w' a cap X.pure.choices := by
  refine does Tryz.func21 ?_
  rw [ptr, fabric_Fabric_Choices_vc]
  have hlc : ∀ c ∈ X.pure.clients, c.lanes.length ≤ 5 := by
    intro c hc
    obtain ⟨i, hi⟩ := List.mem_iff_getElem?.1 hc
    have h1 := (hok.client i c hi).lanes
    have h2 := hok.nodes
    split at h1 <;> omega
  have hcl : X.pure.clients.length = X.clients.length := by simp [FabX.pure]
  have hcle := compChoices_len 0 X.pure.clients hlc
  have hcl6 := hok.clients
  have hpg : ∀ (i : Nat) (c : CompX), X.clients[i]? = some c → X.pure.clients[i]? = some c.pure := fun i c hc => by simp [FabX.pure, hc]
  refine ⟨_, _, _, h.fab.cell rfl, ?_⟩
  refine loop_rule mix (fun m env u => ∃ (i : Nat) (jj : List Value) (a : Option Addr) (cap : Nat) (out : List Choice), i ≤ X.clients.length ∧ m = X.clients.length - i ∧ env = fabric_Fabric_Choices_env1 ⟨fb, 0, none⟩ a out.length cap (some ⟨X.cb, 0, none⟩) X.clients.length X.clients.length X.clients.length i jj ∧
      ChAt w u a cap out ∧ out ++ compChoices i (X.pure.clients.drop i) = compChoices 0 X.pure.clients) X.clients.length ⟨0, _, none, 0, [], by omega, by omega, rfl, ChAt.nil w, rfl⟩ ?_
  rintro m env u ⟨i, jj, a, cap, out, hi, rfl, rfl, hch, hout⟩
  rw [fabric_Fabric_Choices_loop1_body]
  refine bif_dec (fun hlt => ?_) (fun hlt => ?_)
  · have hil : i < X.clients.length := by omega
    obtain ⟨c, hc⟩ : ∃ c, X.clients[i]? = some c := ⟨X.clients[i], by simp [hil]⟩
    have hF := h.new hch.new
    refine idxS_mk (by omega) (by omega) ?_
    rw [Int.toNat_natCast]
    have hcells : cellsAt u ⟨X.cb, 0 + i * 7, none⟩ 0 c.cells := cellsAt_of fun k v hv => by
      have := hF.ccell hc hv
      simpa using this
    refine ⟨_, _, _, _, _, _, _, _, _, _, _, hcells, ?_⟩
    rintro b1 w1 hb1 hw1
    obtain ⟨hz, hn1⟩ := box_new hb1 hw1
    refine ⟨wrAt_blk (vs := c.cells) hz (by simp [CompX.cells]) (by simp [CompX.cells, single]), ?_⟩
    intro w2 hw2
    obtain ⟨hz2, hn2⟩ := box_put (vs := c.cells) hz (by simp [CompX.cells]) hn1 (by omega) hw2
    clear hw1 hw2 hz hn1
    refine ⟨_, _, _, hz2.cell (i := 2) rfl, ?_⟩
    have hdrop : X.pure.clients.drop i = c.pure :: X.pure.clients.drop (i + 1) := by
      rw [drop_cons (by omega)]
      congr 1
      have := hpg i c hc
      rw [List.getElem?_eq_getElem (by omega)] at this
      simpa using this
    rw [hdrop] at hout
    have hpl : c.pure.lanes.length = c.lanes.length := by simp [CompX.pure]
    have hl5 := hlc c.pure (List.mem_of_getElem? (hpg i c hc))
    refine loop_rule mix (fun m env z => ∃ (j : Nat) (j2 : List Value) (a' : Option Addr) (cap' : Nat) (out' : List Choice), j ≤ c.lanes.length ∧ m = c.lanes.length - j ∧ env = fabric_Fabric_Choices_env2 ⟨fb, 0, none⟩ a' out'.length cap' i (some ⟨X.cb, 0, none⟩) X.clients.length X.clients.length X.clients.length i c.la c.lanes.length c.lc c.lanes.length j j2 ∧
      ChAt w z a' cap' out' ∧ out' ++ laneChoices i j (c.pure.lanes.drop j) ++ compChoices (i + 1) (X.pure.clients.drop (i + 1)) = compChoices 0 X.pure.clients) c.lanes.length ⟨0, _, a, cap, out, by omega, by omega, rfl, hch.step hn2, by rw [← hout]; simp [compChoices]⟩ ?_
    rintro m env z ⟨j, j2, a', cap', out', hj, rfl, rfl, hch', hout'⟩
    rw [fabric_Fabric_Choices_loop2_body]
    have hF' := h.new hch'.new
    have hlen' : out'.length ≤ 30 := by
      have := congrArg List.length hout'
      simp only [List.length_append] at this
      omega
    refine bif_dec (fun hlt2 => ?_) (fun hlt2 => ?_)
    · have hjl : j < c.lanes.length := by omega
      obtain ⟨l, hl⟩ : ∃ l, c.lanes[j]? = some l := ⟨c.lanes[j], by simp [hjl]⟩
      obtain ⟨g, hga, _, _, hgc, _⟩ := Owns.row (hF'.client i c hc).own (lrows_len c.lanes) (by omega) (lrows_get hl)
      rw [hga]
      refine idxS_mk (by omega) (by omega) ?_
      rw [Int.toNat_natCast]
      refine ⟨_, _, _, _, hgc, ?_⟩
      rintro b3 w3 hb3 hw3
      obtain ⟨hz3, hn3⟩ := box_new hb3 hw3
      refine ⟨wrAt_blk (vs := l.cells) hz3 (by simp [LaneX.cells]) (by simp [LaneX.cells, single]), ?_⟩
      intro w4 hw4
      obtain ⟨hz4, hn4⟩ := box_put (vs := l.cells) hz3 (by simp [LaneX.cells]) hn3 (by omega) hw4
      clear hw3 hw4 hz3 hn3
      refine ⟨_, hz4.cell (i := 0) rfl, ?_⟩
      have hlx := ((hF'.new hn4).client i c hc).lane j l hl
      refine at_call (Pending_c hlx.pair) ?_
      rintro v w5 ⟨rfl, rfl⟩
      have hdl : c.pure.lanes.drop j = l.pure :: c.pure.lanes.drop (j + 1) := by
        rw [drop_cons (by omega)]
        congr 1
        have : c.pure.lanes[j]? = some l.pure := by simp [CompX.pure, hl]
        rw [List.getElem?_eq_getElem (by omega)] at this
        simpa using this
      rw [hdl] at hout'
      have hch5 := hch'.step hn4
      rw [← hga]
      refine ⟨_, rfl, bif_dec (fun hp => ?_) (fun hp => ?_)⟩
      · have hp' : 0 < l.pure.pair.verbs.length := by show 0 < l.p.verbs.length; omega
        rintro b6 w6 hb6 hw6
        obtain ⟨ap, apc, w7, hrun, hch7⟩ := hch5.append ⟨-1, i, j⟩ hb6 hw6 (by omega)
        refine ⟨ap, _, apc, w7, hrun, ?_⟩
        rw [show IntKind.i64.wrap ((j : Int) + 1) = ((j + 1 : Nat) : Int) by rw [w64 (by omega) (by omega)]; rfl]
        refine ⟨c.lanes.length - (j + 1), by omega, j + 1, _, ap, apc, out' ++ [⟨-1, i, j⟩], by omega, rfl, rfl, hch7, ?_⟩
        rw [← hout']
        simp [laneChoices, hp']
      · have hp' : ¬ 0 < l.pure.pair.verbs.length := by show ¬ 0 < l.p.verbs.length; omega
        rw [show IntKind.i64.wrap ((j : Int) + 1) = ((j + 1 : Nat) : Int) by rw [w64 (by omega) (by omega)]; rfl]
        refine ⟨c.lanes.length - (j + 1), by omega, j + 1, _, a', cap', out', by omega, rfl, rfl, hch5, ?_⟩
        rw [← hout']
        simp [laneChoices, hp']
    · have hje : j = c.lanes.length := by omega
      rw [fabric_Fabric_Choices_aft2_vc]
      rw [show IntKind.i64.wrap ((i : Int) + 1) = ((i + 1 : Nat) : Int) by rw [w64 (by omega) (by omega)]; rfl]
      refine ⟨X.clients.length - (i + 1), by omega, i + 1, _, a', cap', out', by omega, rfl, rfl, hch', ?_⟩
      rw [← hout', hje, ← hpl, List.drop_length]
      simp [laneChoices]
  · have hie : i = X.clients.length := by omega
    rw [hie, ← hcl, List.drop_length] at hout
    have hout1 : out = compChoices 0 X.pure.clients := by simpa [compChoices] using hout
    rw [fabric_Fabric_Choices_aft1_vc]
    have hF := h.new hch.new
    refine ⟨_, _, _, hF.fab.cell (i := 3) rfl, ?_⟩
    have hol : X.pure.orphans.length = X.orphans.length := by simp [FabX.pure]
    refine loop_rule mix (fun m env z => ∃ (i : Nat) (jj : List Value) (a : Option Addr) (cap : Nat) (out : List Choice), i ≤ X.orphans.length ∧ m = X.orphans.length - i ∧ env = fabric_Fabric_Choices_env3 a out.length cap X.oa X.orphans.length X.oc X.orphans.length i jj ∧
      ChAt w z a cap out ∧ out ++ orphChoices i (X.pure.orphans.drop i) = X.pure.choices) X.orphans.length ⟨0, _, a, cap, out, by omega, by omega, rfl, hch, by rw [hout1]; rfl⟩ ?_
    rintro m env z ⟨k, j3, a3, cap3, out3, hk, rfl, rfl, hch3, hout3⟩
    rw [fabric_Fabric_Choices_loop3_body]
    have hF3 := h.new hch3.new
    have hlen3 : out3.length ≤ 100000030 := by
      have := congrArg List.length hout3
      simp only [List.length_append, Fab.choices, orphChoices_len] at this
      omega
    refine bif_dec (fun hlt3 => ?_) (fun hlt3 => ?_)
    · have hkl : k < X.orphans.length := by omega
      obtain ⟨b, p, ho⟩ : ∃ b p, X.orphans[k]? = some (b, p) := ⟨X.orphans[k].1, X.orphans[k].2, by simp [hkl]⟩
      have hop := (hF3.orphan _ (List.mem_of_getElem? ho)).1
      refine own_ptr (v := ptr b) (i := k) hF3.orphs (by simp [ho]) rfl fun ad hcell _ => ⟨some ⟨b, 0, none⟩, hcell, ?_⟩
      refine at_call (PClient_c hop) ?_
      rintro v w5 ⟨rfl, rfl⟩
      refine ⟨_, rfl, ?_⟩
      refine at_call (PNode_c hop) ?_
      rintro v w6 ⟨rfl, rfl⟩
      refine ⟨_, rfl, ?_⟩
      rintro b6 w6 hb6 hw6
      obtain ⟨ap, apc, w7, hrun, hch7⟩ := hch3.append ⟨k, p.client, p.node⟩ hb6 hw6 (by omega)
      refine ⟨ap, _, apc, w7, hrun, ?_⟩
      rw [show IntKind.i64.wrap ((k : Int) + 1) = ((k + 1 : Nat) : Int) by rw [w64 (by omega) (by omega)]; rfl]
      refine ⟨X.orphans.length - (k + 1), by omega, k + 1, _, ap, apc, _, by omega, rfl, rfl, hch7, ?_⟩
      have hdl : X.pure.orphans.drop k = p.pure :: X.pure.orphans.drop (k + 1) := drop_get (by simp [FabX.pure, ho])
      rw [← hout3, hdl]
      rw [orphChoices, List.append_assoc]
      rfl
    · have hke : k = X.orphans.length := by omega
      rw [hke, ← hol, List.drop_length] at hout3
      have : out3 = X.pure.choices := by simpa [orphChoices] using hout3
      subst this
      rw [fabric_Fabric_Choices_aft3_vc]
      exact ⟨a3, cap3, rfl, hch3⟩
end Go.Proofs.YteaknokogenndaaGreat
