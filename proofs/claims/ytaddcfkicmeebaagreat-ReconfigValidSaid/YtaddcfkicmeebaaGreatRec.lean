/- The structs of the program as records, printed by gencode.py. -/
import Derived.Test.YtaddcfkicmeebaaGreatEng
set_option linter.unusedVariables false
namespace Go.Proofs.YtaddcfkicmeebaaGreat
open Go.Eng
structure VerbV where
  Kind : Int
  Node : Int
  At : Int
  N : Int
  Old : Int
  New : Int
  Words : Option Addr
  Wl : Nat
  Wc : Nat
  Key : Int
  Boot : Int
def VerbV.cells (r : VerbV) : List Value := [.int .i64 r.Kind, .int .i64 r.Node, .int .i64 r.At, .int .i64 r.N, .int .u64 r.Old, .int .u64 r.New, .slice r.Words r.Wl r.Wc, .int .u64 r.Key, .int .i64 r.Boot]
def VerbV.val (r : VerbV) : Value := .agg r.cells.toArray
def VerbV.ex (K : VerbV → Prop) : Prop := ∃ (xKind : Int) (xNode : Int) (xAt : Int) (xN : Int) (xOld : Int) (xNew : Int) (xWords : Option Addr) (xWords_l : Nat) (xWords_c : Nat) (xKey : Int) (xBoot : Int), K ⟨xKind, xNode, xAt, xN, xOld, xNew, xWords, xWords_l, xWords_c, xKey, xBoot⟩
theorem VerbV.mk_ex {K : VerbV → Prop} (r : VerbV) (h : K r) : VerbV.ex K := ⟨_, _, _, _, _, _, _, _, _, _, _, h⟩
theorem VerbV.len (r : VerbV) : r.cells.length = 9 := rfl
theorem VerbV.single (r : VerbV) : ∀ u ∈ r.cells, single u = true := by
  intro u hu
  simp only [VerbV.cells, List.mem_cons, List.not_mem_nil, or_false] at hu
  rcases hu with rfl | rfl | rfl | rfl | rfl | rfl | rfl | rfl | rfl <;> rfl
structure DoneV where
  Code : Int
  Words : Option Addr
  Wl : Nat
  Wc : Nat
def DoneV.cells (r : DoneV) : List Value := [.int .i64 r.Code, .slice r.Words r.Wl r.Wc]
def DoneV.val (r : DoneV) : Value := .agg r.cells.toArray
def DoneV.ex (K : DoneV → Prop) : Prop := ∃ (xCode : Int) (xWords : Option Addr) (xWords_l : Nat) (xWords_c : Nat), K ⟨xCode, xWords, xWords_l, xWords_c⟩
theorem DoneV.mk_ex {K : DoneV → Prop} (r : DoneV) (h : K r) : DoneV.ex K := ⟨_, _, _, _, h⟩
theorem DoneV.len (r : DoneV) : r.cells.length = 2 := rfl
theorem DoneV.single (r : DoneV) : ∀ u ∈ r.cells, single u = true := by
  intro u hu
  simp only [DoneV.cells, List.mem_cons, List.not_mem_nil, or_false] at hu
  rcases hu with rfl | rfl <;> rfl
structure ReconfigJobR where
  Nodes : Int
  Client : Int
  Round : Int
  Lines : Int
def ReconfigJobR.cells (r : ReconfigJobR) : List Value := [.int .i64 r.Nodes, .int .i64 r.Client, .int .i64 r.Round, .int .i64 r.Lines]
def ReconfigJobR.val (r : ReconfigJobR) : Value := .agg r.cells.toArray
def ReconfigJobR.ex (K : ReconfigJobR → Prop) : Prop := ∃ (xNodes : Int) (xClient : Int) (xRound : Int) (xLines : Int), K ⟨xNodes, xClient, xRound, xLines⟩
theorem ReconfigJobR.mk_ex {K : ReconfigJobR → Prop} (r : ReconfigJobR) (h : K r) : ReconfigJobR.ex K := ⟨_, _, _, _, h⟩
theorem ReconfigJobR.len (r : ReconfigJobR) : r.cells.length = 4 := rfl
theorem ReconfigJobR.single (r : ReconfigJobR) : ∀ u ∈ r.cells, single u = true := by
  intro u hu
  simp only [ReconfigJobR.cells, List.mem_cons, List.not_mem_nil, or_false] at hu
  rcases hu with rfl | rfl | rfl | rfl <;> rfl
structure Bodegaref9ReconfigJobR where
  Nodes : Int
  Client : Int
  Round : Int
  Lines : Int
def Bodegaref9ReconfigJobR.cells (r : Bodegaref9ReconfigJobR) : List Value := [.int .i64 r.Nodes, .int .i64 r.Client, .int .i64 r.Round, .int .i64 r.Lines]
def Bodegaref9ReconfigJobR.val (r : Bodegaref9ReconfigJobR) : Value := .agg r.cells.toArray
def Bodegaref9ReconfigJobR.ex (K : Bodegaref9ReconfigJobR → Prop) : Prop := ∃ (xNodes : Int) (xClient : Int) (xRound : Int) (xLines : Int), K ⟨xNodes, xClient, xRound, xLines⟩
theorem Bodegaref9ReconfigJobR.mk_ex {K : Bodegaref9ReconfigJobR → Prop} (r : Bodegaref9ReconfigJobR) (h : K r) : Bodegaref9ReconfigJobR.ex K := ⟨_, _, _, _, h⟩
theorem Bodegaref9ReconfigJobR.len (r : Bodegaref9ReconfigJobR) : r.cells.length = 4 := rfl
theorem Bodegaref9ReconfigJobR.single (r : Bodegaref9ReconfigJobR) : ∀ u ∈ r.cells, single u = true := by
  intro u hu
  simp only [Bodegaref9ReconfigJobR.cells, List.mem_cons, List.not_mem_nil, or_false] at hu
  rcases hu with rfl | rfl | rfl | rfl <;> rfl
end Go.Proofs.YtaddcfkicmeebaaGreat
