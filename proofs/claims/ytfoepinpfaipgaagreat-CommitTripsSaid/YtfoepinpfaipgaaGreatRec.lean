/- The structs of the program as records, printed by gencode.py. -/
import Derived.Test.YtfoepinpfaipgaaGreatEng
set_option linter.unusedVariables false
namespace Go.Proofs.YtfoepinpfaipgaaGreat
open Go.Eng
structure VerbV where
  Kind : Int
  Node : Int
  At : Int
  N : Int
  Old : Int
  New : Int
  Words : Option Addr
  Wl : Nat
  Wc : Nat
  Key : Int
  Boot : Int
def VerbV.cells (r : VerbV) : List Value := [.int .i64 r.Kind, .int .i64 r.Node, .int .i64 r.At, .int .i64 r.N, .int .u64 r.Old, .int .u64 r.New, .slice r.Words r.Wl r.Wc, .int .u64 r.Key, .int .i64 r.Boot]
def VerbV.val (r : VerbV) : Value := .agg r.cells.toArray
def VerbV.ex (K : VerbV → Prop) : Prop := ∃ (xKind : Int) (xNode : Int) (xAt : Int) (xN : Int) (xOld : Int) (xNew : Int) (xWords : Option Addr) (xWords_l : Nat) (xWords_c : Nat) (xKey : Int) (xBoot : Int), K ⟨xKind, xNode, xAt, xN, xOld, xNew, xWords, xWords_l, xWords_c, xKey, xBoot⟩
theorem VerbV.mk_ex {K : VerbV → Prop} (r : VerbV) (h : K r) : VerbV.ex K := ⟨_, _, _, _, _, _, _, _, _, _, _, h⟩
theorem VerbV.len (r : VerbV) : r.cells.length = 9 := rfl
theorem VerbV.single (r : VerbV) : ∀ u ∈ r.cells, single u = true := by
  intro u hu
  simp only [VerbV.cells, List.mem_cons, List.not_mem_nil, or_false] at hu
  rcases hu with rfl | rfl | rfl | rfl | rfl | rfl | rfl | rfl | rfl <;> rfl
structure DoneV where
  Code : Int
  Words : Option Addr
  Wl : Nat
  Wc : Nat
def DoneV.cells (r : DoneV) : List Value := [.int .i64 r.Code, .slice r.Words r.Wl r.Wc]
def DoneV.val (r : DoneV) : Value := .agg r.cells.toArray
def DoneV.ex (K : DoneV → Prop) : Prop := ∃ (xCode : Int) (xWords : Option Addr) (xWords_l : Nat) (xWords_c : Nat), K ⟨xCode, xWords, xWords_l, xWords_c⟩
theorem DoneV.mk_ex {K : DoneV → Prop} (r : DoneV) (h : K r) : DoneV.ex K := ⟨_, _, _, _, h⟩
theorem DoneV.len (r : DoneV) : r.cells.length = 2 := rfl
theorem DoneV.single (r : DoneV) : ∀ u ∈ r.cells, single u = true := by
  intro u hu
  simp only [DoneV.cells, List.mem_cons, List.not_mem_nil, or_false] at hu
  rcases hu with rfl | rfl <;> rfl
end Go.Proofs.YtfoepinpfaipgaaGreat
