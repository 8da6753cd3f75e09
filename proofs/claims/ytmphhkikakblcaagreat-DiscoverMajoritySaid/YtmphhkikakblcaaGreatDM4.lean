/- DiscoverMajority: the law. -/
import Derived.Test.YtmphhkikakblcaaGreatDM3
import Derived.Test.YtmphhkikakblcaaGreatDMr0
import Derived.Test.YtmphhkikakblcaaGreatDMr1
import Derived.Test.YtmphhkikakblcaaGreatDMr2
import Derived.Test.YtmphhkikakblcaaGreatDMs00
import Derived.Test.YtmphhkikakblcaaGreatDMs01
import Derived.Test.YtmphhkikakblcaaGreatDMs02
import Derived.Test.YtmphhkikakblcaaGreatDMs10
import Derived.Test.YtmphhkikakblcaaGreatDMs11
import Derived.Test.YtmphhkikakblcaaGreatDMs12
import Derived.Test.YtmphhkikakblcaaGreatDMs20
import Derived.Test.YtmphhkikakblcaaGreatDMs21
import Derived.Test.YtmphhkikakblcaaGreatDMs22
set_option linter.unusedVariables false
namespace Go.Mx
open Go.Eng Go.Proofs Go.Proofs.YtmphhkikakblcaaGreat

section
attribute [local irreducible] runM st

/-- Of so many nodes, whatever their states: what the semantics says of them. -/
theorem run_n {n : Nat} (h1 : 1 ≤ n) (h5 : n ≤ 5) (d b : Int) : ∃ l, l.length = n ∧ fits d b l 0 ∧ runM n l := by
  have hn : n = 1 ∨ n = 2 ∨ n = 3 ∨ n = 4 ∨ n = 5 := by omega
  rcases hn with rfl | rfl | rfl | rfl | rfl
  · exact ⟨[none], rfl, trivial, r1⟩
  · exact ⟨[none, none], rfl, trivial, r2⟩
  · exact ⟨[none, none, none], rfl, trivial, r3⟩
  · refine ⟨[some (st d b 0), none, none, none], rfl, ⟨rfl, trivial⟩, ?_⟩
    rcases st_in d b 0 with e | e | e <;> rw [e]
    · exact r4_0
    · exact r4_1
    · exact r4_2
  · refine ⟨[some (st d b 0), some (st d b 1), none, none, none], rfl, ⟨rfl, rfl, trivial⟩, ?_⟩
    rcases st_in d b 0 with e | e | e <;> rcases st_in d b 1 with e' | e' | e' <;> rw [e, e']
    · exact r5_00
    · exact r5_01
    · exact r5_02
    · exact r5_10
    · exact r5_11
    · exact r5_12
    · exact r5_20
    · exact r5_21
    · exact r5_22
end

attribute [local irreducible] cD

theorem DiscoverMajority_c (w : World) {a b c : Int} (ha : I64 a) (hb : I64 b) (hc : I64 c) : Does 3 [.int .i64 a, .int .i64 b, .int .i64 c] w fun x w' => x = .bool true ∧ New w w' := by
  refine does Tryz.func3 ?_
  rw [bodegalaw11_DiscoverMajority_vc]
  refine at_call (Pick_c w a 5 ha (by omega)) ?_
  rintro x w1 ⟨rfl, rfl⟩
  refine ⟨_, rfl, at_call (Pick_c w1 b 32 hb (by omega)) ?_⟩
  rintro x w2 ⟨rfl, rfl⟩
  refine ⟨_, rfl, at_call (Pick_c w2 c 32 hc (by omega)) ?_⟩
  rintro x w3 ⟨rfl, rfl⟩
  refine ⟨_, rfl, ?_⟩
  rw [if_neg (by omega), if_neg (by omega), if_neg (by omega)]
  obtain ⟨n, h1, h5, hn⟩ : ∃ n : Nat, 1 ≤ n ∧ n ≤ 5 ∧ IntKind.i64.wrap (a % 5 + 1) = n := ⟨(a % 5).toNat + 1, by omega, by omega, by rw [w64 (by omega) (by omega)]; omega⟩
  rw [hn]
  obtain ⟨l, hl, hfit, hr⟩ := run_n h1 h5 (b % 32) (c % 32)
  have hr : cD 5 [iV n, iV 1, iV 98] hp0 (fun v H => onT v fun l' => match l' with
    | [.c (.p o off), .c (.b ok)] => iff ok (goT (.c (.p o off)) (leafK n (.c (.p o off))) l 0 0 true H) False
    | _ => False) := hr
  refine (cD_ok ⟨w3, fun _ => False⟩ _ [iV n, iV 1, iV 98] [iR n, iR 1, iR 98] (fun _ => none) w3 hp0 _ hr (St.first w3) ⟨iV_rel _ n, iV_rel _ 1, iV_rel _ 98, trivial⟩).mono ?_
  rintro e w4 ⟨rv, rfl, m, v, H, _, hv, hS, _, hk⟩
  obtain ⟨l', rfl, hk2⟩ := onT_iff hk
  split at hk2
  rotate_left
  · exact hk2.elim
  rename_i o off ok
  obtain ⟨hok, hg⟩ := iff_t hk2
  subst hok
  obtain ⟨rs, rfl, hrs⟩ := hv
  match rs, hrs with
  | [x, y], ⟨hx, hy, _⟩ =>
  obtain ⟨b0, N, hm, rfl⟩ := (show CR m (.p o off) x from hx)
  have hy : y = .bool true := hy
  subst hy
  refine ⟨_, _, rfl, bif_f rfl ?_⟩
  refine at_call (awake11_c w4) ?_
  rintro x w5 ⟨rfl, hn5⟩
  have hS5 : St ⟨w3, fun _ => False⟩ m w5 H := ⟨hS.hr.keepN hn5, hS.new.trans hn5 fun _ _ h => h.elim⟩
  exact ⟨_, rfl, bif_f rfl (nodes_c h1 h5 hl hS5 ⟨b0, N, hm, rfl⟩ hfit hg)⟩
end Go.Mx
