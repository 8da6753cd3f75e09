/- Appends, copies, clears. -/
import Derived.Test.YtihfgcmmljnhnaaGreatMp7
set_option linter.unusedVariables false
namespace Go.Mx
open Go.Eng

section
variable {P : Program} {e : Nat} {env : Env e} {o : Oper} {w0 : World} {m : Mp} {w : World} {H : Hp} {K : KV} {renv : List Value}

/-- Cells of the trees and of the world. -/
def LR (m : Mp) (vs : List C) (news : List Value) : Prop := vs.length = news.length ∧ ∀ (i : Nat) (u : Value), news[i]? = some u → ∃ c : C, vs[i]? = some c ∧ CR m c u ∧ stC c = true

theorem LR.single {vs : List C} {news : List Value} (h : LR m vs news) : ∀ u ∈ news, single u = true := by
  intro u hu
  obtain ⟨i, hi, rfl⟩ := List.mem_iff_getElem.1 hu
  obtain ⟨c, _, h1, h2⟩ := h.2 i news[i] (List.getElem?_eq_getElem hi)
  exact stC_single h1 h2

/-- The slice shows these cells. -/
def Shows (w : World) (rx : Value) (k : Nat) (news : List Value) : Prop := ∃ a cap, rx = .slice a k cap ∧ (k ≠ 0 → ∃ b off, a = some ⟨b, off, none⟩ ∧ ∀ j u, news[j]? = some u → w.cell? ⟨b, off + j, none⟩ = some u)

theorem listK_sound {s : Nat} {x : V} {X : Nat → List C → Prop} (h : listK s H x X) (hs : 0 < s) : ∃ k vs, X k vs ∧ ∀ rx, St w0 m w H → VR m x rx → ∃ news, Shows w rx k news ∧ news.length = k * s ∧ LR m vs news := by
  rcases onS_iff h with ⟨rfl, h1⟩ | ⟨rfl, h1⟩ | ⟨ob, off, len, sz, c, rfl, h1⟩
  · exact ⟨0, [], h1, fun rx _ hr => ⟨[], ⟨none, 0, hr, fun hc => absurd rfl hc⟩, by simp, rfl, fun i u hi => by simp at hi⟩⟩
  · exact ⟨0, [], h1, fun rx _ hr => by obtain ⟨a, cap, rfl⟩ := hr; exact ⟨[], ⟨_, _, rfl, fun hc => absurd rfl hc⟩, by simp, rfl, fun i u hi => by simp at hi⟩⟩
  · obtain ⟨hsz, h2⟩ := iff_t h1
    have hsz := beq_eq hsz
    subst hsz
    cases len with
    | zero => exact ⟨0, [], h2, fun rx _ hr => by obtain ⟨b, N, cap, _, rfl, _⟩ := hr; exact ⟨[], ⟨_, _, rfl, fun hc => absurd rfl hc⟩, by simp, rfl, fun i u hi => by simp at hi⟩⟩
    | succ len =>
      obtain ⟨wr, n, dp, d, hg, h3⟩ := obK_iff (show obK H ob _ from h2)
      have h4 := fN_iff.1 h3
      obtain ⟨hle, h5⟩ := iff_t h4
      have hle : off + (len + 1) * sz ≤ n := ble_le hle
      rw [cellsK_iff] at h5
      refine ⟨len + 1, _, h5, fun rx hS hr => ?_⟩
      obtain ⟨b, N, cap, hb, rfl, hlc, _⟩ := hr
      obtain ⟨cs, T, hblk, hcl, hnN, hdp, htr⟩ := hS.hr.ob _ _ _ _ _ _ _ hg hb
      have hlen : ((cs.drop off).take ((len + 1) * sz)).length = (len + 1) * sz := by simp; omega
      refine ⟨(cs.drop off).take ((len + 1) * sz), ⟨_, _, rfl, fun _ => ⟨b, off, rfl, fun j u hj => ?_⟩⟩, hlen, ?_, fun i u hi => ?_⟩
      · rw [List.getElem?_take] at hj
        split at hj
        · rw [List.getElem?_drop] at hj; exact hblk.cell hj
        · cases hj
      · rw [hlen]; exact length_lcells dp d _ off
      · rw [List.getElem?_take] at hi
        split at hi
        · rename_i hil
          rw [List.getElem?_drop] at hi
          refine ⟨_, get_lcells dp d _ off i hil, ?_⟩
          have := htr.2 (off + i) u (by rw [List.getElem?_take, if_pos (by omega)]; exact hi)
          rw [Nat.zero_add] at this
          exact this
        · cases hi

/-! ### The model's append -/

theorem run_app0 {t u ty el el' : TypeId} {inf : TypeInfo} (ht : P.underlying t = some (.slice el)) (hu : P.underlying u = some (.slice el')) (hi : P.info? el = some inf) {a a' : Option Addr} {len cap c' : Nat} (hle : len ≤ cap) (w : World) :
    (Builtin.append_ #[t, u] ty #[.slice a len cap, .slice a' 0 c']).run P w = .ok (.slice a len cap) w := by
  have hle0 : len + 0 ≤ cap := by omega
  cases a with
  | none => cases a' with
    | none => simp [Builtin.append_, run_underlying ht, run_underlying hu, sizeOf, typeInfo, hi, Builtin.lenOf, hle, Builtin.firstCells]
    | some s => simp [Builtin.append_, run_underlying ht, run_underlying hu, sizeOf, typeInfo, hi, Builtin.lenOf, hle, Builtin.firstCells, loadCells, loadCellsFrom]
  | some a => cases a' with
    | none => simp [Builtin.append_, run_underlying ht, run_underlying hu, sizeOf, typeInfo, hi, Builtin.lenOf, hle, Builtin.firstCells, storeCells]
    | some s => simp [Builtin.append_, run_underlying ht, run_underlying hu, sizeOf, typeInfo, hi, Builtin.lenOf, hle, Builtin.firstCells, loadCells, loadCellsFrom, storeCells]

theorem run_app_in {t u ty el el' : TypeId} {inf : TypeInfo} (ht : P.underlying t = some (.slice el)) (hu : P.underlying u = some (.slice el')) (hi : P.info? el = some inf) {b off len cap k c sb so : Nat} {news : List Value} (hl : news.length = k * inf.size)
    (hnews : ∀ j u, news[j]? = some u → w.cell? ⟨sb, so + j, none⟩ = some u) (hroom : len + k ≤ cap) (hwr : wrAt w ⟨b, off + len * inf.size, none⟩ 0 news) :
    (Builtin.append_ #[t, u] ty #[.slice (some ⟨b, off, none⟩) len cap, .slice (some ⟨sb, so, none⟩) k c]).run P w = .ok (.slice (some ⟨b, off, none⟩) (len + k) cap) (puts w ⟨b, off + len * inf.size, none⟩ 0 news) := by
  have hf := run_firstCells_some (P := P) w inf.size k ⟨sb, so, none⟩ k c news hl (fun j v h => by rw [add_off]; exact hnews j v h)
  have hst := Eng.run_storeCells (P := P) hwr
  simp [Builtin.append_, run_underlying ht, run_underlying hu, sizeOf, typeInfo, hi, Builtin.lenOf, hroom, hf, add_off, hst]

theorem run_app_nil {t u ty el el' : TypeId} {inf : TypeInfo} {z : Value} (ht : P.underlying t = some (.slice el)) (hu : P.underlying u = some (.slice el')) (hi : P.info? el = some inf) (hz : inf.zero = some z) {k c sb so : Nat} {news : List Value} (hl : news.length = k * inf.size)
    (hnews : ∀ j u, news[j]? = some u → w.cell? ⟨sb, so + j, none⟩ = some u) (h0 : 0 < k) (h63 : k ≤ 140737488355328) (h48 : k * inf.bytes ≤ 140737488355328) :
    (Builtin.append_ #[t, u] ty #[.slice none 0 0, .slice (some ⟨sb, so, none⟩) k c]).run P w =
      .ok (.slice (some ⟨w.heap.size, 0, none⟩) k (grownCap w k 0 el)) (w.drew.alloc (.cells (news.toArray ++ Builtin.zeroCells z.cells (grownCap w k 0 el - k)) el)) := by
  have hn : k ≠ 0 := by omega
  have h63' : ¬ (9223372036854775807 < (k : Int)) := by omega
  have h48' : ¬ (281474976710656 < Builtin.nextslicecap k 0 * inf.bytes) := by rw [nextslicecap_zero h0]; omega
  have hf := run_firstCells_some (P := P) w.drew inf.size k ⟨sb, so, none⟩ k c news hl (fun j v h => by rw [add_off]; exact hnews j v h)
  simp [Builtin.append_, run_underlying ht, run_underlying hu, sizeOf, typeInfo, zeroValue, hi, hz, Builtin.lenOf, hn, h63', h48', Question.forced, run_firstCells_none, hf, newRow, grownCap]

theorem run_app_grow {t u ty el el' : TypeId} {inf : TypeInfo} {z : Value} (ht : P.underlying t = some (.slice el)) (hu : P.underlying u = some (.slice el')) (hi : P.info? el = some inf) (hz : inf.zero = some z) {b off len cap : Nat} {olds : List Value} (hlo : olds.length = len * inf.size)
    (holds : ∀ j v, olds[j]? = some v → w.cell? ⟨b, off + j, none⟩ = some v) {k c sb so : Nat} {news : List Value} (hl : news.length = k * inf.size)
    (hnews : ∀ j u, news[j]? = some u → w.cell? ⟨sb, so + j, none⟩ = some u) (hg : cap < len + k) (h63 : len + k ≤ 140737488355328) (h48 : (len + k) * inf.bytes ≤ 140737488355328) :
    (Builtin.append_ #[t, u] ty #[.slice (some ⟨b, off, none⟩) len cap, .slice (some ⟨sb, so, none⟩) k c]).run P w =
      .ok (.slice (some ⟨w.heap.size, 0, none⟩) (len + k) (grownCap w (len + k) cap el))
        (w.drew.alloc (.cells (olds.toArray ++ news.toArray ++ Builtin.zeroCells z.cells (grownCap w (len + k) cap el - (len + k))) el)) := by
  have hn : ¬ (len + k ≤ cap) := by omega
  have h63' : ¬ (9223372036854775807 < ((len : Int) + (k : Int))) := by omega
  have hfit := growslice_fits (bytes := inf.bytes) hg h48
  have h48' : ¬ (281474976710656 < Builtin.nextslicecap (len + k) cap * inf.bytes) := by omega
  have hf := run_firstCells_some (P := P) w.drew inf.size k ⟨sb, so, none⟩ k c news hl (fun j v h => by rw [add_off]; exact hnews j v h)
  have hfo := run_firstCells_some (P := P) w.drew inf.size len ⟨b, off, none⟩ len cap olds hlo (fun j v h => by rw [add_off]; exact holds j v h)
  simp [Builtin.append_, run_underlying ht, run_underlying hu, sizeOf, typeInfo, zeroValue, hi, hz, Builtin.lenOf, hn, h63', h48', Question.forced, hf, hfo, newRow, grownCap]
  congr 2
  apply Array.ext'
  simp [List.append_assoc]

/-! ### New objects behind an append -/

/-- A slice of a new object of a new block. -/
theorem fresh_app {el : TypeId} {inf : TypeInfo} {z : Value} {q cap' : Nat} {cells : List Value} {ob' : Ob} (hS : St w0 m w H) {H1 : Hp} (hH1 : HR m w0.heap.size w H1) (hG : Gh m m H H1) (hzs : z.cells.size = inf.size) (hcl : cells.length = q * inf.size) (hcap : q ≤ cap')
    {n dp : Nat} {d : Lv C dp} (hob : ob' = .ob true n dp d) (hn : n = q * inf.size) (hdp : n ≤ 4 ^ dp) (htr : TR m dp d 0 cells) (hk : newS H1 q inf.size ob' K) :
    Af w0 m H K (.slice (some ⟨w.heap.size, 0, none⟩) q cap') (w.drew.alloc (.cells (cells.toArray ++ Builtin.zeroCells z.cells (cap' - q)) el)) := by
  obtain ⟨hle, hk⟩ := newK_iff hk
  subst hob
  have hlen : (cells.toArray ++ Builtin.zeroCells z.cells (cap' - q)).toList.length = cap' * inf.size := by
    simp only [Array.length_toList, Array.size_append, List.size_toArray, hcl, size_zeroCells, hzs, ← Nat.add_mul]
    congr 1; omega
  have hw : Keep (fun k => k = w.heap.size) w (w.drew.alloc (.cells (cells.toArray ++ Builtin.zeroCells z.cells (cap' - q)) el)) := Keep.of_new ((new_drew w).alloc _)
  have hblk : Blk (w.drew.alloc (.cells (cells.toArray ++ Builtin.zeroCells z.cells (cap' - q)) el)) w.heap.size (cells.toArray ++ Builtin.zeroCells z.cells (cap' - q)).toList el := by
    have := blk_alloc w.drew (cells.toArray ++ Builtin.zeroCells z.cells (cap' - q)).toList el
    rw [Array.toArray_toList] at this
    exact this
  have hqc : q * inf.size ≤ cap' * inf.size := Nat.mul_le_mul_right _ hcap
  have hadd := hH1.add hle hw hS.hr.size hblk hlen (by omega) hdp (by
    have : (cells.toArray ++ Builtin.zeroCells z.cells (cap' - q)).toList.take n = cells := by
      rw [Array.toList_append]
      rw [hn, ← hcl]
      exact List.take_left
    rw [this]
    exact htr) (fun o wr n dp d N hg hm => by have := (hH1.blk _ _ _ hm).2; omega)
  refine ⟨_, .c (.s H1.next 0 q inf.size none), _, mset_le (hH1.unm _ (Nat.le_refl _)), ⟨w.heap.size, cap' * inf.size, cap', ?_, rfl, hcap, ?_⟩, ⟨hadd, hS.new.trans hw fun i hi e => by have := hS.new.size; omega⟩, hG.trans (add_gh hle), hk⟩
  · unfold mset; rw [if_pos rfl]
  · show 0 + cap' * inf.size = _; omega

theorem obL_iff {n : Nat} {vs : List C} {X : Ob → Prop} (h : obL n vs X) : n ≤ 16384 ∧ X (.ob true n (dpN n) (lputs (dpN n) vs (uni .un (dpN n)) 0)) := by
  obtain ⟨h1, h2⟩ := iff_t h
  have h3 := fN_iff.1 h2
  rw [putsK_iff] at h3
  exact ⟨ble_le h1, h3⟩

theorem lputs_rel {n : Nat} {vs : List C} {news : List Value} (hl : LR m vs news) (hn : news.length = n) (hle : n ≤ 16384) : TR m (dpN n) (lputs (dpN n) vs (uni .un (dpN n)) 0) 0 news := by
  have hdp := dpN_le hle
  refine ⟨by omega, fun i u hi => ?_⟩
  have hil : i < news.length := by
    rcases Nat.lt_or_ge i news.length with h | h
    · exact h
    · rw [List.getElem?_eq_none h] at hi; cases hi
  obtain ⟨c, hc, h1, h2⟩ := hl.2 i u hi
  rw [Nat.zero_add, lget_lputs _ _ _ _ _ (by rw [hl.1]; omega) (by omega), if_pos (Nat.zero_le _), Nat.sub_zero, hc]
  exact ⟨h1, h2⟩

theorem growK_iff {n dp : Nat} {d : Lv C dp} {vs : List C} {mm : Nat} {X : Ob → Prop} (h : growK n dp d vs mm X) (hdp : n ≤ 4 ^ dp) (hnm : mm = n + vs.length) : ∃ dp' d', X (.ob true mm dp' d') ∧ mm ≤ 4 ^ dp' ∧ mm ≤ 16384 ∧ (∀ j, j < mm → lget dp' d' j = if j < n then lget dp d j else nthD vs (j - n)) := by
  obtain ⟨h1, h2⟩ := iff_t h
  have h3 := fN_iff.1 h2
  have hle := ble_le h1
  have hm := dpN_le hle
  rcases iff_c h3 with ⟨hb, h4⟩ | ⟨_, h4⟩
  · rw [putsK_iff] at h4
    have hpow : 4 ^ dpN mm ≤ 4 ^ dp := Nat.pow_le_pow_right (by omega) (ble_le hb)
    refine ⟨dp, _, h4, by omega, hle, fun j hj => ?_⟩
    rw [lget_lputs _ _ _ _ _ (by omega) (by omega)]
    by_cases hjn : j < n
    · rw [if_pos hjn, if_neg (by omega)]
    · rw [if_neg hjn, if_pos (by omega)]
      have : j - n < vs.length := by omega
      rw [List.getElem?_eq_getElem this]
      exact (nthD_of (List.getElem?_eq_getElem this)).symm
  · rw [moveK_iff, putsK_iff] at h4
    refine ⟨_, _, h4, hm, hle, fun j hj => ?_⟩
    rw [lget_lputs _ _ _ _ _ (by omega) (by omega)]
    by_cases hjn : j < n
    · rw [if_pos hjn, if_neg (by omega), lget_lmove _ _ _ _ _ _ _ _ (by omega) (by omega), if_pos (by omega)]
      simp
    · rw [if_neg hjn, if_pos (by omega)]
      have : j - n < vs.length := by omega
      rw [List.getElem?_eq_getElem this]
      exact (nthD_of (List.getElem?_eq_getElem this)).symm

theorem roomB_iff {b q : Nat} {X : Prop} (h : roomB b q X) : q ≤ 140737488355328 ∧ q * b ≤ 140737488355328 ∧ X := by
  obtain ⟨h1, h2⟩ := iff_t h
  obtain ⟨h3, h4⟩ := iff_t h2
  exact ⟨ble_le h1, ble_le h3, h4⟩

/-- **Append.** -/
theorem app_sound {t u ty el el' : TypeId} (ht : P.underlying t = some (.slice el)) (hu : P.underlying u = some (.slice el')) (hok : okT P el = true) (hS : St w0 m w H) {x y : V} {rx ry : Value} (hx : VR m x rx) (hy : VR m y ry)
    (h : listK (szT P el) H y fun k vs => appendK (byT P el) (szT P el) H x k vs K) : ∃ rv w', (Builtin.append_ #[t, u] ty #[rx, ry]).run P w = .ok rv w' ∧ Af w0 m H K rv w' := by
  obtain ⟨inf, z, hinf, hz, hsz, hzs, hpos, hmax, hz1, hz2⟩ := okT_info hok
  have hby : byT P el = inf.bytes := by unfold byT; rw [hinf]
  rw [hsz, hby] at h
  obtain ⟨k, vs, h1, Hy⟩ := listK_sound (w0 := w0) (m := m) (w := w) h hpos
  obtain ⟨news, ⟨a', cap', rfl, hsh⟩, hnl, hLR⟩ := Hy ry hS hy
  cases k with
  | zero =>
    have done : ∀ {a : Option Addr} {len cap : Nat}, rx = .slice a len cap → len ≤ cap → K x H → ∃ rv w', (Builtin.append_ #[t, u] ty #[rx, .slice a' 0 cap']).run P w = .ok rv w' ∧ Af w0 m H K rv w' := by
      rintro a len cap rfl hle hk
      exact ⟨_, w, run_app0 ht hu hinf hle w, m, x, H, Le.refl m, hx, hS, Gh.refl m H, hk⟩
    have h2 : onS x (K x H) (K x H) fun _ _ _ _ _ => K x H := h1
    rcases onS_iff h2 with ⟨rfl, hk⟩ | ⟨rfl, hk⟩ | ⟨ob, off, len, sz, c, rfl, hk⟩
    · exact done hx (Nat.le_refl _) hk
    · obtain ⟨a, cap, e⟩ := hx; exact done e (Nat.zero_le _) hk
    · obtain ⟨b, N, cap, _, e, hlc, _⟩ := hx; exact done e hlc hk
  | succ k0 =>
    obtain ⟨sb, so, rfl, hcells⟩ := hsh (by omega)
    generalize hkk : k0 + 1 = k at *
    have hkpos : 0 < k := by omega
    have h2 : onS x (roomB inf.bytes k (fN (Nat.mul k inf.size) fun e => obL e vs fun b => newS H k inf.size b K)) False
        fun o off len s c => iff (Nat.beq s inf.size) (@Option.rec Nat (fun _ => Prop) (appG inf.bytes inf.size H o off len vs k K) (fun cp => appC inf.bytes inf.size H o off len cp vs k K) c) False := by
      subst hkk; exact h1
    clear h1
    rcases onS_iff h2 with ⟨rfl, h3⟩ | ⟨rfl, hf⟩ | ⟨ob, off, len, sz, c, rfl, h3⟩
    · obtain ⟨r1, r2, h4⟩ := roomB_iff h3
      have h5 := fN_iff.1 h4
      obtain ⟨hle, h6⟩ := obL_iff h5
      have hle : k * inf.size ≤ 16384 := hle
      have hx : rx = .slice none 0 0 := hx
      subst hx
      exact ⟨_, _, run_app_nil ht hu hinf hz hnl hcells hkpos r1 r2, fresh_app hS hS.hr (Gh.refl m H) hzs hnl (grownCap_ge w k 0 el) rfl rfl (dpN_le hle) (lputs_rel hLR hnl hle) h6⟩
    · exact hf.elim
    · obtain ⟨hs, h4⟩ := iff_t h3
      have hs := beq_eq hs
      subst hs
      obtain ⟨b, N, cap, hb, rfl, hlc, hcap⟩ := hx
      cases c with
      | none =>
        have hcap : off + cap * inf.size = N := hcap
        obtain ⟨n, dp, d, hg, h5⟩ := wrK_iff (show wrK H ob _ from h4)
        have h6 := fN_iff.1 h5
        have h7 := fN_iff.1 h6
        obtain ⟨cs, T, hblk, hcl, hnN, hdp, htr⟩ := hS.hr.ob _ _ _ _ _ _ _ hg hb
        have mul_add' : (len + k) * inf.size = len * inf.size + k * inf.size := Nat.add_mul ..
        rcases iff_c h7 with ⟨he, h8⟩ | ⟨he, h8⟩
        · -- within the object
          have he : off + (len + k) * inf.size ≤ n := ble_le he
          have hqc : len + k ≤ cap := by
            have h9 : (len + k) * inf.size ≤ cap * inf.size := by omega
            exact Nat.le_of_mul_le_mul_right h9 hpos
          obtain ⟨n2, dp2, d2, hg2, h9⟩ := wrK_iff (show wrK H ob _ from h8)
          rw [hg] at hg2
          cases hg2
          obtain ⟨_, h10⟩ := iff_t h9
          rw [putsK_iff] at h10
          have h11 := setOb_iff h10
          obtain ⟨hwr, hS', hG⟩ := store_core (dp2 := dp) (d2 := lputs dp vs d (off + len * inf.size)) (vs := news) (off := off + len * inf.size) hS hg hb (by omega) hLR.single hdp (by
            intro j hj
            rw [lget_lputs _ _ _ _ _ (by rw [hLR.1]; omega) (by omega)]
            refine ⟨fun hjo u hu => ?_, fun hno => ?_⟩
            · rw [if_pos hjo.1]
              obtain ⟨c, hc, k1, k2⟩ := hLR.2 _ u hu
              rw [hc]
              exact ⟨k1, k2⟩
            · by_cases hjo : off + len * inf.size ≤ j
              · rw [if_pos hjo, List.getElem?_eq_none (by rw [hLR.1]; omega)]
              · rw [if_neg hjo])
          exact ⟨_, _, run_app_in ht hu hinf hnl hcells hqc hwr, m, .c (.s ob off (len + k) inf.size none), _, Le.refl m, ⟨b, N, cap, hb, rfl, hqc, hcap⟩, hS', hG, h11⟩
        · -- behind the object
          have he : n < off + (len + k) * inf.size := not_ble he
          obtain ⟨hend, h9⟩ := iff_t h8
          have hend : off + len * inf.size = n := beq_eq hend
          obtain ⟨ho0, h10⟩ := iff_t h9
          have ho0 : off = 0 := beq_eq ho0
          subst ho0
          obtain ⟨r1a, r2a, h11⟩ := roomB_iff h10
          have r1 : len + k ≤ 140737488355328 := r1a
          have r2 : (len + k) * inf.bytes ≤ 140737488355328 := r2a
          have h12 := setOb_iff h11
          have eq0 : Nat.add 0 (Nat.mul (Nat.add len k) inf.size) = (len + k) * inf.size := by
            show 0 + (len + k) * inf.size = _
            omega
          have hmm : (len + k) * inf.size = n + news.length := by omega
          obtain ⟨dp', d', h13, hdp'0, hmax'0, hget0⟩ := growK_iff h12 hdp (by rw [hLR.1, hnl]; omega)
          have hdp' : (len + k) * inf.size ≤ 4 ^ dp' := by rw [← eq0]; exact hdp'0
          have hmax' : (len + k) * inf.size ≤ 16384 := by rw [← eq0]; exact hmax'0
          have hget : ∀ j, j < (len + k) * inf.size → lget dp' d' j = if j < n then lget dp d j else nthD vs (j - n) := fun j hj => hget0 j (by rw [eq0]; exact hj)
          clear hdp'0 hmax'0 hget0
          have hkill := hS.hr.kill (hS.hr.lt hb)
          have hG : Gh m m H ⟨H.next, lset 7 H.t ob .dead⟩ := put_gh hS.hr hb
          have hcells' : TR m dp' d' 0 (cs.take n ++ news) := by
            refine ⟨by simp; omega, fun i u hi => ?_⟩
            have hil : i < (cs.take n ++ news).length := by
              rcases Nat.lt_or_ge i (cs.take n ++ news).length with h | h
              · exact h
              · rw [List.getElem?_eq_none h] at hi; cases hi
            have htl : (cs.take n).length = n := by simp; omega
            simp only [List.length_append, htl] at hil
            rw [Nat.zero_add, hget i (by omega)]
            rw [List.getElem?_append, htl] at hi
            split at hi
            · rename_i hin
              rw [if_pos hin]
              have := htr.2 i u hi
              rw [Nat.zero_add] at this
              exact this
            · rename_i hin
              rw [if_neg hin]
              obtain ⟨c, hc, k1, k2⟩ := hLR.2 _ u hi
              rw [nthD_of hc]
              exact ⟨k1, k2⟩
          by_cases hroom : len + k ≤ cap
          · -- the block has room
            have hBb := hS.hr.blk _ _ _ hb
            have hwr : wrAt w ⟨b, 0 + len * inf.size, none⟩ 0 news := by
              have h9 : (len + k) * inf.size ≤ cap * inf.size := Nat.mul_le_mul_right _ hroom
              exact wrAt_blk hblk (by omega) hLR.single
            obtain ⟨hnx, h14⟩ := newK_iff (show newK _ _ _ from h13)
            have h9 : (len + k) * inf.size ≤ cap * inf.size := Nat.mul_le_mul_right _ hroom
            have hadd := hkill.add (b := b) (N := N) (T := T) (cs := Eng.splice cs (0 + len * inf.size + 0) news) (n := 0 + (len + k) * inf.size) hnx (keep_puts w b (0 + len * inf.size) 0 news) hBb.1 (hblk.puts (o := 0 + len * inf.size) (i := 0) (vs := news)) (by rw [Eng.length_splice, hcl]) (by omega) (by rw [Nat.zero_add]; exact hdp') (by
              rw [splice_same]
              have e1 : (fillR.splice cs (0 + len * inf.size + 0) news).take (0 + (len + k) * inf.size) = cs.take n ++ news := by
                apply List.ext_getElem?
                intro i
                rw [List.getElem?_take, List.getElem?_append]
                have htl : (cs.take n).length = n := by simp; omega
                rw [htl, get_splice _ _ _ _ (by omega)]
                by_cases hin : i < n
                · rw [if_pos (by omega), if_neg (by omega), if_pos hin, List.getElem?_take, if_pos hin]
                · rw [if_neg hin]
                  by_cases hiq : i < 0 + (len + k) * inf.size
                  · rw [if_pos hiq, if_pos (by omega)]
                    congr 1; omega
                  · rw [if_neg hiq, List.getElem?_eq_none (by omega)]
              rw [e1]
              exact hcells') (fun o wr n' dp'' d'' N' hg' hm' => by
                have hlt' := hS.hr.lt hm'
                have hl' := hS.hr.lim
                have hg' : lget 7 (lset 7 H.t ob .dead) o = .ob wr n' dp'' d'' := hg'
                rw [lget_lset 7 _ _ _ _ (by rw [← hlim]; have := hS.hr.lt hb; omega) (by rw [← hlim]; omega)] at hg'
                split at hg'
                · cases hg'
                · rename_i hne
                  exact hne (hS.hr.inj o ob _ _ _ _ _ _ _ _ _ _ _ hg' hg hm' hb))
            refine ⟨_, _, run_app_in ht hu hinf hnl hcells hroom hwr, _, .c (.s H.next 0 (len + k) inf.size none), _, mset_le (hS.hr.unm _ (Nat.le_refl _)), ⟨b, N, cap, ?_, rfl, hroom, hcap⟩, ⟨hadd, hS.new.puts (.inr hBb.1) _⟩, hG.trans (add_gh hnx), h14⟩
            show mset m H.next (b, N) H.next = _
            unfold mset; rw [if_pos rfl]
          · -- a new block
            have hlo : (cs.take n).length = len * inf.size := by simp; omega
            have holds : ∀ j v, (cs.take n)[j]? = some v → w.cell? ⟨b, 0 + j, none⟩ = some v := by
              intro j v hj
              rw [List.getElem?_take] at hj
              split at hj
              · rw [Nat.zero_add]; exact hblk.cell hj
              · cases hj
            have hrun := run_app_grow (ty := ty) ht hu hinf hz (cap := cap) hlo holds (c := cap') hnl hcells (by omega) r1 r2
            refine ⟨_, _, hrun, ?_⟩
            have := fresh_app (el := el) (cells := cs.take n ++ news) hS hkill hG hzs (by rw [List.length_append, hlo, hnl]; omega) (grownCap_ge w (len + k) cap el) rfl eq0 (by rw [eq0]; exact hdp') hcells' h13
            have e2 : (cs.take n ++ news).toArray = (cs.take n).toArray ++ news.toArray := by simp
            rw [e2] at this
            exact this
      | some cp =>
        have hcap : cap = cp := hcap
        subst hcap
        have h5 := fN_iff.1 (show fN (Nat.add len k) _ from h4)
        obtain ⟨hgt, h6⟩ := iff_f h5
        have hgt : cap < len + k := not_ble hgt
        obtain ⟨r1, r2, h7⟩ := roomB_iff h6
        have h8 := fN_iff.1 h7
        have fin : ∀ (olds : List Value) (ovs : List C), olds.length = len * inf.size → (∀ j v, olds[j]? = some v → w.cell? ⟨b, off + j, none⟩ = some v) → LR m (ovs ++ vs) (olds ++ news) → (fN (Nat.mul (len + k) inf.size) fun e => obL e (ovs ++ vs) fun b => newS H (len + k) inf.size b K) →
            ∃ rv w', (Builtin.append_ #[t, u] ty #[.slice (some ⟨b, off, none⟩) len cap, .slice (some ⟨sb, so, none⟩) k cap']).run P w = .ok rv w' ∧ Af w0 m H K rv w' := by
          intro olds ovs hlo holds hL h9
          have h10 := fN_iff.1 h9
          obtain ⟨hle, h11⟩ := obL_iff h10
          have hle : (len + k) * inf.size ≤ 16384 := hle
          have hcl : (olds ++ news).length = (len + k) * inf.size := by rw [List.length_append, hlo, hnl, Nat.add_mul]
          have hrun := run_app_grow (ty := ty) ht hu hinf hz (cap := cap) hlo holds (c := cap') hnl hcells hgt r1 r2
          refine ⟨_, _, hrun, ?_⟩
          have := fresh_app (el := el) (cells := olds ++ news) hS hS.hr (Gh.refl m H) hzs hcl (grownCap_ge w (len + k) cap el) rfl rfl (dpN_le hle) (lputs_rel hL hcl hle) h11
          have e2 : (olds ++ news).toArray = olds.toArray ++ news.toArray := by simp
          rw [e2] at this
          exact this
        cases hlz : len * inf.size with
        | zero =>
          have h9 : @Nat.rec (fun _ => Prop) _ _ (Nat.mul len inf.size) := h8
          rw [show Nat.mul len inf.size = 0 from hlz] at h9
          exact fin [] [] (by simp [hlz]) (fun j v hj => by simp at hj) (by simpa using hLR) h9
        | succ lz =>
          have h9 : @Nat.rec (fun _ => Prop) _ _ (Nat.mul len inf.size) := h8
          rw [show Nat.mul len inf.size = lz + 1 from hlz] at h9
          obtain ⟨wr, n, dp, d, hg, h10⟩ := obK_iff (show obK H ob _ from h9)
          obtain ⟨hle, h11⟩ := iff_t h10
          have hle : off + len * inf.size ≤ n := by have := ble_le hle; rw [hlz]; exact this
          rw [cellsK_iff] at h11
          obtain ⟨cs, T, hblk, hcl, hnN, hdp, htr⟩ := hS.hr.ob _ _ _ _ _ _ _ hg hb
          have hlen : ((cs.drop off).take (len * inf.size)).length = len * inf.size := by simp; omega
          refine fin ((cs.drop off).take (len * inf.size)) (lcells dp d (lz + 1) off) hlen (fun j v hj => ?_) ⟨?_, fun i u hi => ?_⟩ h11
          · rw [List.getElem?_take] at hj
            split at hj
            · rw [List.getElem?_drop] at hj; exact hblk.cell hj
            · cases hj
          · rw [List.length_append, List.length_append, length_lcells, hlen, hlz, hLR.1]
          · rw [List.getElem?_append, hlen] at hi
            rw [List.getElem?_append, length_lcells, ← hlz]
            split at hi
            · rename_i hil
              rw [if_pos hil, List.getElem?_take, if_pos hil, List.getElem?_drop] at *
              refine ⟨_, by rw [← hlz] at *; exact get_lcells dp d _ off i hil, ?_⟩
              have := htr.2 (off + i) u (by rw [List.getElem?_take, if_pos (by omega)]; exact hi)
              rw [Nat.zero_add] at this
              exact this
            · rename_i hil
              rw [if_neg hil]
              exact hLR.2 _ u hi
end
end Go.Mx
