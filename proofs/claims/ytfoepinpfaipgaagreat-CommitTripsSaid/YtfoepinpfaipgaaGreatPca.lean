/- The function that collects the pieces of a verb. -/
import Derived.Test.YtfoepinpfaipgaaGreatPcl



set_option linter.unusedVariables false
namespace Go.Proofs.YtfoepinpfaipgaaGreat
open Go.Eng Go.RowKit

/-- A piece of code by computation, ahead of another. -/
theorem W_seq {P : Program} (hm : P.follows .mixedOrders = true) {a b : Code} {env : List Value} {w : World} {Q : Exit → Act → World → Prop} {N : List Value → World → Prop} (h : W P a env (seqQ N (fun _ _ _ => False)) w) (hN : ∀ env w, N env w → b.wp P Q (act env) w) : (Code.seq a b).wp P Q (act env) w := by
  refine wp_seq (wp_mono (W_sound hm a env _ w h) fun e a' w' hq0 => ?_)
  obtain ⟨he, env', ha, hq⟩ := liftQ_env hq0
  subst ha
  clear hq0
  cases e with
  | normal => exact hN env' w' hq
  | panic c => exact absurd rfl (he.1 c)
  | outgrown => exact absurd rfl he.2
  | _ => exact hq.elim

theorem pieces_c (w : World) (v : VerbV) : Does 131 [v.val] w fun r w' => r = .func (.func 162) #[] #[.pointer (some ⟨w.heap.size, 0, none⟩)] ∧ Blk w' w.heap.size v.cells TV ∧ Go.Eng.New w w' ∧ w'.heap.size = w.heap.size + 1 := by
  refine does Tryz.func131 ?_
  refine Eq.mpr (verb_pieces_vc v.Kind v.Node v.At v.N v.Old v.New v.Words v.Wl v.Wc v.Key v.Boot w _) ?_
  rintro b1 w1 hb1 hw1
  obtain ⟨hz, hn⟩ := box_new hb1 hw1
  refine ⟨by rw [hb1], hb1 ▸ hz, hn, by rw [hw1]; simp⟩

theorem P_r0 (v : VerbV) (w : World) (N : List Value → World → Prop) : W Tryz.prog (sub (bodyOf Tryz.f97) [0]) [v.val, undef, undef, undef, undef, undef, undef, undef, undef, undef, undef, undef, undef] (seqQ N (fun _ _ _ => False)) w =
    (∀ b1 w1, b1 = w.heap.size → w1 = w.alloc (.cells v.cells.toArray 145) → N [v.val, .pointer (some ⟨b1, 0, none⟩), .slice none 0 0, undef, undef, undef, undef, undef, undef, undef, undef, undef, undef] w1) := by kernel_rfl

theorem P_r1 (v x : Value) (b : Nat) (w : World) (N : List Value → World → Prop) : W Tryz.prog (sub (bodyOf Tryz.f97) [1, 0]) [v, .pointer (some ⟨b, 0, none⟩), x, undef, undef, undef, undef, undef, undef, undef, undef, undef, undef] (seqQ N (fun _ _ _ => False)) w =
    (∀ b1 w1, b1 = w.heap.size → w1 = w.alloc (.cells #[.slice none 0 0] 184) → N [v, .pointer (some ⟨b, 0, none⟩), x, .pointer (some ⟨b1, 0, none⟩), undef, undef, undef, undef, undef, undef, undef, undef, undef] w1) := by kernel_rfl


def noDefer (o : Oper) : Bool := match o.op with | .defer _ => false | _ => true

def plain : Code → Bool
  | .region _ ops false => ops.toList.all noDefer
  | _ => false

theorem upon_round {P : Program} {o : Oper} {a : Act} {next next' : Act → World → Prop} {Q : Exit → Act → World → Prop} (r n : Nat) (hn : ∀ a w, next a w → next' a w) : ∀ {x : Result Next}, o.uponIn Fence.wide 0 P a next Q x → o.uponIn (Fence.wide.inRound r) n P a next' Q x
  | .ok (.value v) w', h => hn _ _ h
  | .ok .skip w', h => hn _ _ h
  | .ok (.defer d) w', h => hn _ _ h
  | .ok (.enter f args) w', h => by
    refine ⟨fun hc => by simp [Fence.wide] at hc, trivial, fun cs _ => ?_⟩
    obtain ⟨e, w2, fr, hr, hs, hx⟩ := h.2.2 cs (room_wide _)
    refine ⟨e, w2, fr, ?_, hs, hx⟩
    cases e with
    | returned v => exact hn _ _ hr
    | panicked c => exact hr
    | outgrown => exact hr
  | .ok (.row row args) w', h => by
    refine ⟨fun hc => by simp [Fence.wide] at hc, fun c cs _ => ?_⟩
    obtain ⟨v, w2, hr, hs⟩ := h.2 c cs (room_wide _)
    exact ⟨v, w2, hn _ _ hr, hs⟩
  | .ok (.round l f tmps assign body) w', h => by
    refine ⟨fun hc => by simp [Fence.wide] at hc, trivial, fun c cs _ => ?_⟩
    obtain ⟨e, w2, hr, hs⟩ := h.2.2 c cs (room_wide _)
    refine ⟨e, w2, ?_, hs⟩
    cases e with
    | returned v => exact hn _ _ hr
    | panicked c => exact hr
    | outgrown => exact hr
  | .halt (.panic v) w', h => h
  | .halt (.stuck s) w', h => by cases h

theorem list_round {P : Program} {ops : Array Oper} {Q : Exit → Act → World → Prop} (r n : Nat) : ∀ (l : List Oper) (a : Act) (w : World), (∀ o ∈ l, noDefer o = true) → wpListIn Fence.wide 0 P ops Q l a w → wpListIn (Fence.wide.inRound r) n P ops Q l a w
  | [], _, _, _, h => h
  | o :: l, a, w, hd, h => by
    have ih := fun a w => list_round (P := P) (ops := ops) (Q := Q) r n l a w fun o ho => hd o (List.mem_cons_of_mem _ ho)
    unfold wpListIn at h ⊢
    split at h
    · rename_i hw
      rw [if_pos hw]
      refine ⟨fun _ _ => trivial, ?_⟩
      have h2 := h.2
      rw [show Fence.wide.round = none from rfl, Oper.semAt_none] at h2
      rw [show (Fence.wide.inRound r).round = some r from rfl, Oper.semAt_some _ _ _ (fun c hc => by have := hd o List.mem_cons_self; simp [noDefer, hc] at this)]
      exact upon_round r n ih h2
    · rename_i hw
      rw [if_neg hw]
      exact ⟨fun _ _ => trivial, ih _ _ h.2⟩

theorem W_round {P : Program} {c : Code} (hp : plain c = true) {env : List Value} {Q : Exit → List Value → World → Prop} {w : World} (r n : Nat) (h : W P c env Q w) : c.wpIn (Fence.wide.inRound r) n P (liftQ Q) (act env) w := by
  cases c with
  | region id ops d =>
    cases d with
    | true => simp [plain] at hp
    | false =>
      unfold W at h
      refine wpIn_region_list (list_round r n _ _ _ (fun o ho => ?_) (opsW_wp (all := ops.toList) ops.toList env w (Q .normal) (fun env w hk => liftQ_act hk ⟨fun _ => by simp, by simp⟩) h))
      simp only [plain, List.all_eq_true] at hp
      exact hp o ho
  | _ => simp [plain] at hp

theorem P_r2 (v x : Value) (b b2 : Nat) (w : World) (N : List Value → World → Prop) : W Tryz.prog (sub (bodyOf Tryz.f97) [1, 1, 0, 0]) [v, .pointer (some ⟨b, 0, none⟩), x, .pointer (some ⟨b2, 0, none⟩), undef, undef, undef, undef, undef, undef, undef, undef, undef] (seqQ N (fun _ _ _ => False)) w =
    (∃ (Kind : Int) (Node : Int) (At : Int) (N_ : Int) (Old : Int) (New : Int) (Words : Option Addr) (Words_len : Nat) (Words_cap : Nat) (Key : Int) (Boot : Int), cellsAt w ⟨b, 0, none⟩ 0 [(.int .i64 Kind), (.int .i64 Node), (.int .i64 At), (.int .i64 N_), (.int .u64 Old), (.int .u64 New), (.slice Words Words_len Words_cap), (.int .u64 Key), (.int .i64 Boot)] ∧
      Calls Tryz.prog 131 #[(.agg #[(.int .i64 Kind), (.int .i64 Node), (.int .i64 At), (.int .i64 N_), (.int .u64 Old), (.int .u64 New), (.slice Words Words_len Words_cap), (.int .u64 Key), (.int .i64 Boot)])] w fun e w3 => ∃ r, e = .returned r ∧
       N [v, .pointer (some ⟨b, 0, none⟩), x, .pointer (some ⟨b2, 0, none⟩), undef, (.agg #[(.int .i64 Kind), (.int .i64 Node), (.int .i64 At), (.int .i64 N_), (.int .u64 Old), (.int .u64 New), (.slice Words Words_len Words_cap), (.int .u64 Key), (.int .i64 Boot)]), r, undef, undef, undef, undef, undef, undef] w3) := by kernel_rfl


theorem P_asg (v x y z r : Value) (b2 : Nat) (p : Int × Int) (w : World) (N : List Value → World → Prop) : W Tryz.prog (sub (bodyOf Tryz.f97) [1, 1, 0, 1, 0, 0]) [v, y, x, .pointer (some ⟨b2, 0, none⟩), undef, z, r, .agg #[.int .i64 p.1, .int .i64 p.2], undef, undef, undef, undef, undef] (seqQ N (fun _ _ _ => False)) w =
    (∀ b1 w1, b1 = w.heap.size → w1 = w.alloc (.cells #[.int .i64 0, .int .i64 0] TPc) → wrAt w1 ⟨b1, 0, none⟩ 0 [.int .i64 p.1, .int .i64 p.2] ∧ ∀ w2, w2 = puts w1 ⟨b1, 0, none⟩ 0 [.int .i64 p.1, .int .i64 p.2] →
      N [v, y, x, .pointer (some ⟨b2, 0, none⟩), .pointer (some ⟨b1, 0, none⟩), z, r, .agg #[.int .i64 p.1, .int .i64 p.2], undef, undef, undef, undef, undef] w2) := by kernel_rfl

theorem P_bdy (v x y z r t : Value) (b2 b4 : Nat) (w : World) (N : List Value → World → Prop) : W Tryz.prog (sub (bodyOf Tryz.f97) [1, 1, 0, 1, 0, 1, 0]) [v, y, x, .pointer (some ⟨b2, 0, none⟩), .pointer (some ⟨b4, 0, none⟩), z, r, t, undef, undef, undef, undef, undef] (seqQ N (fun _ _ _ => False)) w =
    (∃ (a : Option Addr) (n c : Nat), w.cell? ⟨b2, 0, none⟩ = some (.slice a n c) ∧ ∃ (k1 k2 : Int), cellsAt w ⟨b4, 0, none⟩ 0 [.int .i64 k1, .int .i64 k2] ∧ ∀ b1 w1, b1 = w.heap.size → w1 = w.alloc (.cells #[.int .i64 k1, .int .i64 k2] TPc) →
      ∃ (ap : Option Addr) (ap_len ap_cap : Nat), ∃ w2, (Builtin.append_ #[184, 184] 184 #[(.slice a n c), (.slice (some ⟨b1, 0, none⟩) 1 1)]).run Tryz.prog w1 = .ok (.slice ap ap_len ap_cap) w2 ∧
       (∃ u, w2.cell? ⟨b2, 0, none⟩ = some u) ∧ w2.frozen? ⟨b2, 0, none⟩ = false ∧ ∀ w3, w3 = w2.setCell ⟨b2, 0, none⟩ (.slice ap ap_len ap_cap) →
        N [v, y, x, .pointer (some ⟨b2, 0, none⟩), .pointer (some ⟨b4, 0, none⟩), z, r, t, .slice a n c, .agg #[.int .i64 k1, .int .i64 k2], .slice (some ⟨b1, 0, none⟩) 1 1, .slice ap ap_len ap_cap, undef] w3) := by kernel_rfl

end Go.Proofs.YtfoepinpfaipgaaGreat
