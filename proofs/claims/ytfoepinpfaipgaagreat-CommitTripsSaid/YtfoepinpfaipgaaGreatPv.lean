/- Verbs in memory, and how many words they touch. -/
import Derived.Test.YtfoepinpfaipgaaGreatLt
import Derived.Test.YtfoepinpfaipgaaGreatCodePc
set_option linter.unusedVariables false
namespace Go.Proofs.YtfoepinpfaipgaaGreat
open Go.Eng

/-- A verb that lies in memory is loaded. -/
theorem vload {w : World} {ad : Addr} {v : VerbV} {K : Int → Int → Int → Int → Int → Int → Option Addr → Nat → Nat → Int → Int → Prop} (h : cellsAt w ad 0 v.cells)
    (hk : K v.Kind v.Node v.At v.N v.Old v.New v.Words v.Wl v.Wc v.Key v.Boot) :
    ∃ (Kind : Int) (Node : Int) (At : Int) (N : Int) (Old : Int) (New : Int) (Words : Option Addr) (Wl : Nat) (Wc : Nat) (Key : Int) (Boot : Int),
      cellsAt w ad 0 [.int .i64 Kind, .int .i64 Node, .int .i64 At, .int .i64 N, .int .u64 Old, .int .u64 New, .slice Words Wl Wc, .int .u64 Key, .int .i64 Boot] ∧ K Kind Node At N Old New Words Wl Wc Key Boot :=
  ⟨_, _, _, _, _, _, _, _, _, _, _, h, hk⟩

theorem vloadS {S : World → Prop} {ad : Addr} {v : VerbV} {K : Int → Int → Int → Int → Int → Int → Option Addr → Nat → Nat → Int → Int → Prop} (h : ∀ u, S u → cellsAt u ad 0 v.cells)
    (hk : K v.Kind v.Node v.At v.N v.Old v.New v.Words v.Wl v.Wc v.Key v.Boot) :
    ∃ (Kind : Int) (Node : Int) (At : Int) (N : Int) (Old : Int) (New : Int) (Words : Option Addr) (Wl : Nat) (Wc : Nat) (Key : Int) (Boot : Int),
      (∀ u, S u → cellsAt u ad 0 [.int .i64 Kind, .int .i64 Node, .int .i64 At, .int .i64 N, .int .u64 Old, .int .u64 New, .slice Words Wl Wc, .int .u64 Key, .int .i64 Boot]) ∧ K Kind Node At N Old New Words Wl Wc Key Boot :=
  ⟨_, _, _, _, _, _, _, _, _, _, _, h, hk⟩

abbrev TV : TypeId := 145

theorem vbox {w : World} {b : Nat} {v : VerbV} (h : Blk w b v.cells TV) : cellsAt w ⟨b, 0, none⟩ 0 v.cells := cellsAt_blk h (by simp [VerbV.cells])

theorem valloc (w : World) (v : VerbV) : Blk (w.alloc (.cells v.cells.toArray TV)) w.heap.size v.cells TV := blk_alloc _ _ _

def VerbV.count (v : VerbV) : Int := if v.Kind = 1 then v.N else if v.Kind = 2 then v.Wl else if v.Kind = 3 ∨ v.Kind = 4 then 1 else 0

theorem Count_c (w : World) (v : VerbV) : Does 90 [v.val] w fun x w' => x = .int .i64 v.count ∧ New w w' := by
  refine does Tryz.func90 ?_
  refine Eq.mpr (verb_Count_vc v.Kind v.Node v.At v.N v.Old v.New v.Words v.Wl v.Wc v.Key v.Boot w _) ?_
  rintro b1 w1 rfl rfl
  have hb := valloc w v
  have hn := new_alloc w (.cells v.cells.toArray TV)
  refine ⟨_, hb.cell rfl, bif_beq (fun h1 => ⟨_, hb.cell rfl, ?_, hn⟩) (fun h1 => bif_beq (fun h2 => ⟨_, _, _, hb.cell rfl, ?_, hn⟩) (fun h2 => bif_beq (fun h3 => bif_beq (fun _ => ⟨?_, hn⟩) (fun h => absurd h3 h)) (fun h3 => bif_beq (fun h4 => ⟨?_, hn⟩) (fun h4 => ⟨?_, hn⟩))))⟩
  · simp [VerbV.count, h1]
  · simp [VerbV.count, h2]
  · simp [VerbV.count, h3]
  · simp [VerbV.count, h4]
  · simp [VerbV.count, h1, h2, h3, h4]

end Go.Proofs.YtfoepinpfaipgaaGreat
