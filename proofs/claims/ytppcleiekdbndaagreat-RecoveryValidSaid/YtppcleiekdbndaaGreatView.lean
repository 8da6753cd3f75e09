/- Package view. -/
import Derived.Test.YtppcleiekdbndaaGreatLt
import Derived.Test.YtppcleiekdbndaaGreatCodeView
set_option linter.unusedVariables false
namespace Go.Proofs.YtppcleiekdbndaaGreat
open Go.Eng

abbrev TMb : TypeId := 186
abbrev TVw : TypeId := 31
abbrev TSM : TypeId := 29
def mrows (l : List ApiMemberR) : List (List Value) := l.map ApiMemberR.cells

theorem mrows_snoc (l : List ApiMemberR) (m : ApiMemberR) : (mrows (l ++ [m])).flatten = (mrows l).flatten ++ m.cells := by simp [mrows]

/-! ### The model -/

structure Vw where
  number : Int
  mem : List ApiMemberR

def noM : ApiMemberR := ⟨0, 0, false⟩

def memOk (n : Int) (l : List ApiMemberR) (i : Nat) : Bool :=
  decide (0 ≤ (l.getD i noM).Node ∧ (l.getD i noM).Node < n) && (decide (i = 0) || decide ((l.getD (i - 1) noM).Node < (l.getD i noM).Node))
def bootOk (m : ApiMemberR) : Bool := decide (1 ≤ m.Boot ∧ m.Boot ≤ 31)

def Vw.valid (v : Vw) (n : Int) : Int :=
  if ¬ (1 ≤ n ∧ n ≤ 5) then 1 else if v.number < 0 ∨ 16 ≤ v.number then 2 else if v.mem.length = 0 then 1
  else if (List.range v.mem.length).all (memOk n v.mem) = false then 1 else if v.mem.all bootOk = false then 2 else if v.mem.any ApiMemberR.Full = false then 13 else 0

structure ViewAt (M : Nat → Prop) (w : World) (r : ApiViewR) (v : Vw) : Prop where
  num : r.Number = v.number
  len : r.Members_l = v.mem.length
  cap : r.Members_l ≤ r.Members_c
  rd : Rd w r.Members (mrows v.mem).flatten
  off : (mrows v.mem).flatten = [] ∨ Off M r.Members
  small : v.mem.length ≤ 1000000

theorem ViewAt.new {M : Nat → Prop} {w w' : World} {r : ApiViewR} {v : Vw} (h : ViewAt M w r v) (hn : New w w') : ViewAt M w' r v := ⟨h.num, h.len, h.cap, h.rd.new hn, h.off, h.small⟩

theorem isNodes_c (w : World) (n : Int) : Does 118 [.int .i64 n] w fun v w' => v = .bool (decide (1 ≤ n ∧ n ≤ 5)) ∧ w' = w := by
  refine does Tryz.func118 ?_
  rw [view_isNodes_vc]
  refine bif_dec (fun h => ⟨?_, rfl⟩) (fun h => ⟨?_, rfl⟩)
  · congr 1; simp; omega
  · congr 1; simp; omega

theorem isFull_c (w : World) (m : ApiMemberR) : Does 120 [m.val] w fun v w' => v = .bool m.Full ∧ New w w' := by
  refine does Tryz.func120 ?_
  rw [view_isFull_vc]
  rintro b1 w1 hb1 hw1
  obtain ⟨hz, hn⟩ := box_new hb1 hw1
  exact ⟨_, hz.cell rfl, rfl, hn⟩

theorem okFull : okFun Tryz.prog 120 = true := by kernel_rfl

section
attribute [local irreducible] okFun callY callF

theorem IndexFull_c {w : World} {a : Option Addr} {c : Nat} {l : List ApiMemberR} (h : Rd w a (mrows l).flatten) (hl : l.length ≤ 1000000) :
    Does 156 [.slice a l.length c, .func (.func 120) #[] #[]] w fun v w' => ∃ z : Int, v = .int .i64 z ∧ (decide (z ≥ 0) = l.any ApiMemberR.Full) ∧ New w w' := by
  refine does Tryz.func156 ?_
  rw [slices_IndexFunc_Sapi_Member_api_Member_vc]
  refine loop_rule mix (fun m env u => ∃ (i : Nat) (jj : List Value), m = l.length - i ∧ i ≤ l.length ∧ env = slices_IndexFunc_Sapi_Member_api_Member_env1 a l.length c (.func (.func 120) #[] #[]) l.length i jj ∧ New w u ∧ (l.take i).any ApiMemberR.Full = false) l.length
    ⟨0, _, by omega, by omega, rfl, Keep.refl _ _, rfl⟩ ?_
  rintro m env u ⟨i, jj, rfl, hi, rfl, hn, hno⟩
  rw [slices_IndexFunc_Sapi_Member_api_Member_loop1_body]
  refine bif_dec (fun hp => ?_) (fun hp => ?_)
  · have hlt : i < l.length := by omega
    have hg : l[i]? = some l[i] := List.getElem?_eq_getElem hlt
    refine rd_rec (cells := ApiMemberR.cells) ApiMemberR.len (by omega) (h.new hn) hg rfl rfl fun b o hc _ => ApiMemberR.mk_ex l[i] ⟨hc, ?_⟩
    refine callY_fn okFull (xs := #[l[i].val]) (by simp) ?_
    refine at_call (isFull_c _ l[i]) ?_
    rintro v u1 ⟨rfl, hn1⟩
    refine ⟨_, rfl, bif_b (fun hf => ⟨i, rfl, ?_, hn.new hn1⟩) (fun hf => ?_)⟩
    · have h1 : l.any ApiMemberR.Full = true := List.any_eq_true.2 ⟨l[i], List.getElem_mem hlt, hf⟩
      rw [h1]
      simp
    · rw [w64 (by omega) (by omega)]
      refine ⟨l.length - (i + 1), by omega, i + 1, _, rfl, by omega, rfl, hn.new hn1, ?_⟩
      rw [List.take_add_one, hg, List.any_append, hno]
      simpa using hf
  · rw [slices_IndexFunc_Sapi_Member_api_Member_aft1_vc]
    have : l.take i = l := List.take_of_length_le (by omega)
    rw [this] at hno
    exact ⟨-1, rfl, by rw [hno]; decide, hn⟩
end

theorem ContainsFull_c {w : World} {a : Option Addr} {c : Nat} {l : List ApiMemberR} (h : Rd w a (mrows l).flatten) (hl : l.length ≤ 1000000) :
    Does 119 [.slice a l.length c, .func (.func 120) #[] #[]] w fun v w' => v = .bool (l.any ApiMemberR.Full) ∧ New w w' := by
  refine does Tryz.func119 ?_
  rw [slices_ContainsFunc_Sapi_Member_api_Member_vc]
  refine at_call (IndexFull_c h hl) ?_
  rintro v w1 ⟨z, rfl, hz, hn⟩
  exact ⟨_, rfl, by rw [hz], hn⟩

theorem all_false_of {p : Nat → Bool} {n i : Nat} (hi : i < n) (h : p i = false) : (List.range n).all p = false := by
  rw [List.all_eq_false]
  exact ⟨i, List.mem_range.2 hi, by simp [h]⟩

theorem getD_of {α : Type} {l : List α} {i : Nat} {x d : α} (h : l[i]? = some x) : l.getD i d = x := by rw [List.getD_eq_getElem?_getD, h]; rfl

set_option maxHeartbeats 1000000 in
theorem VValid_c {M : Nat → Prop} {w : World} {r : ApiViewR} {v : Vw} (h : ViewAt M w r v) (n : Int) : Does 67 [r.val, .int .i64 n] w fun x w' => x = .int .i64 (v.valid n) ∧ New w w' := by
  refine does Tryz.func67 ?_
  rw [view_Valid_vc]
  rintro b1 w1 hb1 hw1
  obtain ⟨hz, hn⟩ := box_new hb1 hw1
  have hz : Blk w1 b1 r.cells TVw := hz
  clear hw1
  have hsm := h.small
  have hlen := h.len
  have hnum := h.num
  unfold Vw.valid
  refine at_call (isNodes_c _ n) ?_
  rintro x w2 ⟨rfl, rfl⟩
  refine ⟨_, rfl, bif_not (fun hb => ?_) (fun hb => ?_)⟩
  · rw [if_pos (by simpa using hb)]; exact ⟨rfl, hn⟩
  have hn15 : 1 ≤ n ∧ n ≤ 5 := by simpa using hb
  rw [if_neg (fun e => e hn15)]
  refine ⟨_, hz.cell rfl, bif_dec (fun hp => ?_) (fun hp => ⟨_, hz.cell rfl, bif_dec (fun hp2 => ?_) (fun hp2 => ?_)⟩)⟩
  · rw [if_pos (by omega)]; exact ⟨rfl, hn⟩
  · rw [if_pos (by omega)]; exact ⟨rfl, hn⟩
  rw [if_neg (by omega)]
  refine ⟨_, _, _, hz.cell rfl, bif_beq (fun h0 => ?_) (fun h0 => ⟨_, _, _, hz.cell rfl, ?_⟩)⟩
  · rw [if_pos (by omega)]; exact ⟨rfl, hn⟩
  rw [if_neg (by omega)]
  -- the nodes
  refine loop_rule mix (fun m env u => ∃ (i : Nat) (jj : List Value), m = v.mem.length - i ∧ i ≤ v.mem.length ∧ env = view_Valid_env1 n ⟨b1, 0, none⟩ r.Members r.Members_l r.Members_c r.Members_l i jj ∧ New w2 u ∧ ∀ k, k < i → memOk n v.mem k = true) v.mem.length
    ⟨0, _, by omega, by omega, rfl, Keep.refl _ _, fun k hk => by omega⟩ ?_
  rintro m env u ⟨i, jj, rfl, hi, rfl, hnu, hok⟩
  rw [view_Valid_loop1_body]
  refine bif_dec (fun hq => ?_) (fun hq => ?_)
  · have hlt : i < v.mem.length := by omega
    have hg : v.mem[i]? = some v.mem[i] := List.getElem?_eq_getElem hlt
    have hgd := getD_of (d := noM) hg
    have hno : memOk n v.mem i = false → (List.range v.mem.length).all (memOk n v.mem) = false := all_false_of hlt
    refine rd_rec (cells := ApiMemberR.cells) ApiMemberR.len (by omega) ((h.rd.new hn).new hnu) hg rfl hlen fun b o hc _ => ApiMemberR.mk_ex v.mem[i] ⟨hc, ?_⟩
    refine box_k (vs := v.mem[i].cells) rfl (ApiMemberR.single _) fun b2 u2 hb2 hz2 hn2 => ?_
    rintro u3 hu3
    have hn3 : New u2 u3 := by rw [hu3]; exact new_drew _
    clear hu3
    have hz3 := New.blk hn3 hz2
    have hnu3 := (hnu.new hn2).new hn3
    refine ⟨fun y => New u3 y, Keep.refl _ _, _, fun y hy => (New.blk hy hz3).cell (i := 0) rfl, bif_dec (fun hp3 => ?_) (fun hp3 => ⟨_, fun y hy => (New.blk hy hz3).cell (i := 0) rfl, bif_dec (fun hp4 => ?_) (fun hp4 => bif_dec (fun hp5 => ?_) (fun hp5 => ?_))⟩)⟩
    · rw [if_pos (hno (by unfold memOk; rw [hgd]; simp; omega))]; exact ⟨rfl, hn.new hnu3⟩
    · rw [if_pos (hno (by unfold memOk; rw [hgd]; simp; omega))]; exact ⟨rfl, hn.new hnu3⟩
    · have hg1 : v.mem[i - 1]? = some v.mem[i - 1] := List.getElem?_eq_getElem (by omega)
      have hgd1 := getD_of (d := noM) hg1
      refine ⟨_, fun y hy => (New.blk hy hz3).cell (i := 0) rfl, _, _, _, fun y hy => (New.blk (hnu3.new hy) hz).cell (i := 1) rfl, ?_⟩
      refine rd_recS (cells := ApiMemberR.cells) ApiMemberR.len (by omega) ((h.rd.new hn).new hnu3) hg1 (by rw [w64 (by omega) (by omega)]; omega) hlen fun b' o' hc' => ⟨_, fun y hy => hc' y hy 0 _ rfl, bif_dec (fun hp6 => ?_) (fun hp6 => ?_)⟩
      · rw [if_pos (hno (by unfold memOk; rw [hgd, hgd1]; simp; omega))]; exact ⟨rfl, hn.new hnu3⟩
      · rw [w64 (by omega) (by omega)]
        refine ⟨v.mem.length - (i + 1), by omega, i + 1, _, rfl, by omega, rfl, hnu3, fun k hk => ?_⟩
        rcases Nat.lt_succ_iff_lt_or_eq.1 hk with hk | rfl
        · exact hok k hk
        · unfold memOk; rw [hgd, hgd1]; simp; omega
    · rw [w64 (by omega) (by omega)]
      refine ⟨v.mem.length - (i + 1), by omega, i + 1, _, rfl, by omega, rfl, hnu3, fun k hk => ?_⟩
      rcases Nat.lt_succ_iff_lt_or_eq.1 hk with hk | rfl
      · exact hok k hk
      · unfold memOk; rw [hgd]; simp; omega
  have hall : (List.range v.mem.length).all (memOk n v.mem) = true := by
    rw [List.all_eq_true]
    intro k hk
    exact hok k (by have := List.mem_range.1 hk; omega)
  rw [if_neg (by rw [hall]; simp)]
  rw [view_Valid_aft1_vc]
  have hzu := New.blk hnu hz
  refine ⟨_, _, _, hzu.cell (i := 1) rfl, ?_⟩
  -- the boot numbers
  refine loop_rule mix (fun m env z => ∃ (i : Nat) (jj : List Value), m = v.mem.length - i ∧ i ≤ v.mem.length ∧ env = view_Valid_env2 ⟨b1, 0, none⟩ r.Members r.Members_l r.Members_c r.Members_l i jj ∧ New w2 z ∧ (v.mem.take i).all bootOk = true) v.mem.length
    ⟨0, _, by omega, by omega, rfl, hnu, rfl⟩ ?_
  clear hzu hnu hok hi hq
  rintro m env u ⟨i, jj, rfl, hi, rfl, hnu, hok⟩
  rw [view_Valid_loop2_body]
  refine bif_dec (fun hq => ?_) (fun hq => ?_)
  · have hlt : i < v.mem.length := by omega
    have hg : v.mem[i]? = some v.mem[i] := List.getElem?_eq_getElem hlt
    have hno : bootOk v.mem[i] = false → v.mem.all bootOk = false := fun e => by
      rw [List.all_eq_false]
      exact ⟨v.mem[i], List.getElem_mem hlt, by simp [e]⟩
    refine rd_rec (cells := ApiMemberR.cells) ApiMemberR.len (by omega) ((h.rd.new hn).new hnu) hg rfl hlen fun b o hc _ => ApiMemberR.mk_ex v.mem[i] ⟨hc, ?_⟩
    refine box_k (vs := v.mem[i].cells) rfl (ApiMemberR.single _) fun b2 u2 hb2 hz2 hn2 => ?_
    have hnu2 := hnu.new hn2
    refine ⟨_, hz2.cell (i := 1) rfl, bif_dec (fun hp3 => ?_) (fun hp3 => ⟨_, hz2.cell (i := 1) rfl, bif_dec (fun hp4 => ?_) (fun hp4 => ?_)⟩)⟩
    · rw [if_pos (hno (by unfold bootOk; simp; omega))]; exact ⟨rfl, hn.new hnu2⟩
    · rw [if_pos (hno (by unfold bootOk; simp; omega))]; exact ⟨rfl, hn.new hnu2⟩
    · rw [w64 (by omega) (by omega)]
      refine ⟨v.mem.length - (i + 1), by omega, i + 1, _, rfl, by omega, rfl, hnu2, ?_⟩
      rw [List.take_add_one, hg, List.all_append, hok]
      simp [bootOk]; omega
  have htake : v.mem.take i = v.mem := List.take_of_length_le (by omega)
  rw [htake] at hok
  rw [if_neg (by rw [hok]; simp)]
  rw [view_Valid_aft2_vc]
  have hzu := New.blk hnu hz
  refine ⟨_, _, _, hzu.cell (i := 1) rfl, ?_⟩
  rw [hlen]
  refine at_call (ContainsFull_c ((h.rd.new hn).new hnu) hsm) ?_
  rintro x u3 ⟨rfl, hn3⟩
  refine ⟨_, rfl, bif_not (fun hf => ?_) (fun hf => ?_)⟩
  · rw [if_pos hf]; exact ⟨rfl, hn.new (hnu.new hn3)⟩
  · rw [if_neg (by rw [hf]; simp)]; exact ⟨rfl, hn.new (hnu.new hn3)⟩
end Go.Proofs.YtppcleiekdbndaaGreat
