/- Copies, clears; every operation. -/
import Derived.Test.YtihfgcmmljnhnaaGreatMp8
set_option linter.unusedVariables false
namespace Go.Mx
open Go.Eng

section
variable {P : Program} {e : Nat} {env : Env e} {o : Oper} {w0 : World} {m : Mp} {w : World} {H : Hp} {K : KV} {renv : List Value}

theorem run_copy0 {tys : Array TypeId} {t ty el : TypeId} {inf : TypeInfo} (hty : tys[0]? = some t) (ht : P.underlying t = some (.slice el)) (hi : P.info? el = some inf) {a a' : Option Addr} {len cap k c' : Nat} (hk : Nat.min k len = 0) (w : World) :
    (Builtin.copy_ tys ty #[.slice a len cap, .slice a' k c']).run P w = .ok (.int .i64 0) w := by
  cases a with
  | none => cases a' with
    | none => simp [Builtin.copy_, hty, run_underlying ht, sizeOf, typeInfo, hi, Builtin.lenOf, hk, Builtin.firstCells, goInt]
    | some s => simp [Builtin.copy_, hty, run_underlying ht, sizeOf, typeInfo, hi, Builtin.lenOf, hk, Builtin.firstCells, loadCells, loadCellsFrom, goInt]
  | some a => cases a' with
    | none => simp [Builtin.copy_, hty, run_underlying ht, sizeOf, typeInfo, hi, Builtin.lenOf, hk, Builtin.firstCells, storeCells, goInt]
    | some s => simp [Builtin.copy_, hty, run_underlying ht, sizeOf, typeInfo, hi, Builtin.lenOf, hk, Builtin.firstCells, loadCells, loadCellsFrom, storeCells, goInt]

theorem run_copy {tys : Array TypeId} {t ty el : TypeId} {inf : TypeInfo} (hty : tys[0]? = some t) (ht : P.underlying t = some (.slice el)) (hi : P.info? el = some inf) {b off len cap k c sb so q : Nat} (hq : Nat.min k len = q) {news : List Value} (hl : news.length = q * inf.size)
    (hnews : ∀ j u, news[j]? = some u → w.cell? ⟨sb, so + j, none⟩ = some u) (hwr : wrAt w ⟨b, off, none⟩ 0 news) :
    (Builtin.copy_ tys ty #[.slice (some ⟨b, off, none⟩) len cap, .slice (some ⟨sb, so, none⟩) k c]).run P w = .ok (.int .i64 q) (puts w ⟨b, off, none⟩ 0 news) := by
  have hf := run_firstCells_some (P := P) w inf.size q ⟨sb, so, none⟩ k c news hl (fun j v h => by rw [add_off]; exact hnews j v h)
  have hst := Eng.run_storeCells (P := P) hwr
  simp [Builtin.copy_, hty, run_underlying ht, sizeOf, typeInfo, hi, Builtin.lenOf, hq, hf, hst, goInt]

/-- Cells are written into a slice's object. -/
theorem storeL_core {ob off b N : Nat} {vs : List C} {news : List Value} {X : Hp → Prop} (h : storeL H ob off vs X) (hS : St w0 m w H) (hm : m ob = some (b, N)) (hLR : LR m vs news) :
    ∃ H', wrAt w ⟨b, off, none⟩ 0 news ∧ St w0 m (puts w ⟨b, off, none⟩ 0 news) H' ∧ Gh m m H H' ∧ X H' := by
  obtain ⟨n, dp, d, hg, h1⟩ := wrK_iff (show wrK H ob _ from h)
  obtain ⟨hle, h2⟩ := iff_t h1
  have hle : off + vs.length ≤ n := ble_le hle
  rw [putsK_iff] at h2
  have h3 := setOb_iff h2
  obtain ⟨cs, T, hblk, hcl, hnN, hdp, htr⟩ := hS.hr.ob _ _ _ _ _ _ _ hg hm
  have hll := hLR.1
  obtain ⟨hwr, hS', hG⟩ := store_core (dp2 := dp) (d2 := lputs dp vs d off) (vs := news) (off := off) hS hg hm (by omega) hLR.single hdp (by
    intro j hj
    rw [lget_lputs _ _ _ _ _ (by omega) (by omega)]
    refine ⟨fun hjo u hu => ?_, fun hno => ?_⟩
    · rw [if_pos hjo.1]
      obtain ⟨c, hc, k1, k2⟩ := hLR.2 _ u hu
      rw [hc]
      exact ⟨k1, k2⟩
    · by_cases hjo : off ≤ j
      · rw [if_pos hjo, List.getElem?_eq_none (by omega)]
      · rw [if_neg hjo])
  exact ⟨_, hwr, hS', hG, h3⟩

theorem LR.take {vs : List C} {news : List Value} (h : LR m vs news) (n : Nat) : LR m (vs.take n) (news.take n) := by
  refine ⟨by rw [List.length_take, List.length_take, h.1], fun i u hi => ?_⟩
  rw [List.getElem?_take] at hi
  split at hi
  · rename_i hin
    obtain ⟨c, hc, h1⟩ := h.2 i u hi
    exact ⟨c, by rw [List.getElem?_take, if_pos hin]; exact hc, h1⟩
  · cases hi

theorem copy_sound {tys : Array TypeId} {t ty el : TypeId} (hty : tys[0]? = some t) (ht : P.underlying t = some (.slice el)) (hok : okT P el = true) (hS : St w0 m w H) {x y : V} {rx ry : Value} (hx : VR m x rx) (hy : VR m y ry)
    (h : copyK (szT P el) x y H K) : ∃ rv w', (Builtin.copy_ tys ty #[rx, ry]).run P w = .ok rv w' ∧ Af w0 m H K rv w' := by
  obtain ⟨inf, z, hinf, hz, hsz, hzs, hpos, hmax, hz1, hz2⟩ := okT_info hok
  rw [hsz] at h
  have zero : ∀ {a a' : Option Addr} {len cap k c' : Nat}, rx = .slice a len cap → ry = .slice a' k c' → Nat.min k len = 0 → K (.c (.i 3 (.ofNat 0))) H → ∃ rv w', (Builtin.copy_ tys ty #[rx, ry]).run P w = .ok rv w' ∧ Af w0 m H K rv w' := by
    rintro a a' len cap k c' rfl rfl h0 hk
    exact ⟨_, w, run_copy0 hty ht hinf h0 w, m, .c (.i 3 (.ofNat 0)), H, Le.refl m, rfl, hS, Gh.refl m H, hk⟩
  rcases onS_iff h with ⟨rfl, h1⟩ | ⟨rfl, h1⟩ | ⟨ob, off, len, sz, c, rfl, h1⟩
  · obtain ⟨k, vs, h2, Hy⟩ := listK_sound (w0 := w0) (m := m) (w := w) h1 hpos
    obtain ⟨news, ⟨a', cap', rfl, hsh⟩, hnl, hLR⟩ := Hy ry hS hy
    exact zero hx rfl (Nat.min_zero _) h2
  · obtain ⟨k, vs, h2, Hy⟩ := listK_sound (w0 := w0) (m := m) (w := w) h1 hpos
    obtain ⟨news, ⟨a', cap', rfl, hsh⟩, hnl, hLR⟩ := Hy ry hS hy
    obtain ⟨a, cap, rfl⟩ := hx
    exact zero rfl rfl (Nat.min_zero _) h2
  · obtain ⟨hs, h2⟩ := iff_t h1
    have hs := beq_eq hs
    subst hs
    obtain ⟨k, vs, h3, Hy⟩ := listK_sound (w0 := w0) (m := m) (w := w) h2 hpos
    obtain ⟨news, ⟨a', cap', rfl, hsh⟩, hnl, hLR⟩ := Hy ry hS hy
    obtain ⟨b, N, cap, hb, rfl, hlc, hcap⟩ := hx
    have h4 := fN_iff.1 h3
    rw [minN_eq] at h4
    cases hq : min k len with
    | zero =>
      rw [hq] at h4
      exact zero rfl rfl hq h4
    | succ q =>
      rw [hq] at h4
      have hkpos : k ≠ 0 := by
        rintro rfl
        simp at hq
      have hqk : q + 1 ≤ k := by rw [← hq]; exact Nat.min_le_left k len
      obtain ⟨sb, so, rfl, hcells⟩ := hsh hkpos
      have h5 : storeL H ob off (vs.take (Nat.mul (q + 1) inf.size)) fun H => K (.c (.i 3 (.ofNat (q + 1)))) H := h4
      obtain ⟨H', hwr, hS', hG, hk⟩ := storeL_core h5 hS hb (hLR.take _)
      have hmul : (q + 1) * inf.size ≤ k * inf.size := Nat.mul_le_mul_right _ hqk
      have hlen : (news.take (Nat.mul (q + 1) inf.size)).length = (q + 1) * inf.size := by
        rw [List.length_take, hnl]
        exact Nat.min_eq_left hmul
      refine ⟨_, _, run_copy hty ht hinf hq hlen (fun j u hj => ?_) hwr, m, .c (.i 3 (.ofNat (q + 1))), H', Le.refl m, rfl, hS', hG, hk⟩
      rw [List.getElem?_take] at hj
      split at hj
      · exact hcells j u hj
      · cases hj

theorem run_clear0 {tys : Array TypeId} {t ty el : TypeId} (hty : tys[0]? = some t) (ht : P.underlying t = some (.slice el)) {a : Option Addr} {len cap : Nat} (h : a = none ∨ len = 0) (w : World) : (Builtin.clear_ tys ty #[.slice a len cap]).run P w = .ok undef w := by
  rcases h with rfl | rfl
  · simp [Builtin.clear_, hty, run_underlying ht, undef]
  · cases a <;> simp [Builtin.clear_, hty, run_underlying ht, undef]

theorem run_clear {tys : Array TypeId} {t ty el : TypeId} {inf : TypeInfo} {z : Value} (hty : tys[0]? = some t) (ht : P.underlying t = some (.slice el)) (hi : P.info? el = some inf) (hz : inf.zero = some z) {a : Addr} {len cap : Nat} (hwr : wrAt w a 0 (Builtin.zeroCells z.cells (len + 1)).toList) :
    (Builtin.clear_ tys ty #[.slice (some a) (len + 1) cap]).run P w = .ok undef (puts w a 0 (Builtin.zeroCells z.cells (len + 1)).toList) := by
  have hst := Eng.run_storeCells (P := P) hwr
  simp [Builtin.clear_, hty, run_underlying ht, zeroValue, typeInfo, hi, hz, hst, undef]

theorem zero_LR (m : Mp) {t : TypeId} {z : Value} (h1 : zeroT P t = z.cells.toList.map cv1) (h2 : z.cells.toList.all (fun v => stC (cv1 v)) = true) (hpos : 0 < z.cells.size) (k : Nat) :
    LR m (List.replicate k (zeroT P t)).flatten (Builtin.zeroCells z.cells k).toList := by
  obtain ⟨f1, f2⟩ := flat_zero m h1 h2 k
  have hz : Builtin.zeroCells z.cells k = (reps k z.cells.toList).toArray := reps_eq k z.cells hpos
  rw [f1, hz]
  refine ⟨by simp, fun i u hi => ?_⟩
  have hi : (reps k z.cells.toList)[i]? = some u := by simpa using hi
  exact ⟨cv1 u, by rw [List.getElem?_map, hi]; rfl, cv1_rel m u, List.all_eq_true.1 f2 u (List.mem_of_getElem? hi)⟩

theorem clear_sound {tys : Array TypeId} {t ty el : TypeId} (hty : tys[0]? = some t) (ht : P.underlying t = some (.slice el)) (hok : okT P el = true) (hS : St w0 m w H) {x : V} {rx : Value} (hx : VR m x rx)
    (h : clearK (szT P el) (zeroT P el) x H K) : ∃ rv w', (Builtin.clear_ tys ty #[rx]).run P w = .ok rv w' ∧ Af w0 m H K rv w' := by
  obtain ⟨inf, z, hinf, hz, hsz, hzs, hpos, hmax, hz1, hz2⟩ := okT_info hok
  rw [hsz] at h
  have zero : ∀ {a : Option Addr} {len cap : Nat}, rx = .slice a len cap → a = none ∨ len = 0 → K (.c .un) H → ∃ rv w', (Builtin.clear_ tys ty #[rx]).run P w = .ok rv w' ∧ Af w0 m H K rv w' := by
    rintro a len cap rfl h0 hk
    exact ⟨_, w, run_clear0 hty ht h0 w, m, .c .un, H, Le.refl m, rfl, hS, Gh.refl m H, hk⟩
  rcases onS_iff h with ⟨rfl, h1⟩ | ⟨rfl, h1⟩ | ⟨ob, off, len, sz, c, rfl, h1⟩
  · exact zero hx (.inl rfl) h1
  · obtain ⟨a, cap, rfl⟩ := hx
    exact zero rfl (.inr rfl) h1
  · obtain ⟨hs, h2⟩ := iff_t h1
    have hs := beq_eq hs
    subst hs
    obtain ⟨b, N, cap, hb, rfl, hlc, hcap⟩ := hx
    cases len with
    | zero => exact zero rfl (.inr rfl) h2
    | succ len =>
      have h3 : storeL H ob off ((List.replicate (len + 1) (zeroT P el)).flatten) fun H => K (.c .un) H := h2
      obtain ⟨H', hwr, hS', hG, hk⟩ := storeL_core h3 hS hb (zero_LR m hz1 hz2 (by omega) (len + 1))
      exact ⟨_, _, run_clear hty ht hinf hz hwr, m, .c .un, H', Le.refl m, rfl, hS', hG, hk⟩
end
end Go.Mx
