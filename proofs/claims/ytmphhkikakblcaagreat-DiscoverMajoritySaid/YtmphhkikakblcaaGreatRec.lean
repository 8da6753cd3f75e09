/- The structs of the program as records, printed by gencode.py. -/
import Derived.Test.YtmphhkikakblcaaGreatEng
set_option linter.unusedVariables false
namespace Go.Proofs.YtmphhkikakblcaaGreat
open Go.Eng
structure VerbV where
  Kind : Int
  Node : Int
  At : Int
  N : Int
  Old : Int
  New : Int
  Words : Option Addr
  Wl : Nat
  Wc : Nat
  Key : Int
  Boot : Int
def VerbV.cells (r : VerbV) : List Value := [.int .i64 r.Kind, .int .i64 r.Node, .int .i64 r.At, .int .i64 r.N, .int .u64 r.Old, .int .u64 r.New, .slice r.Words r.Wl r.Wc, .int .u64 r.Key, .int .i64 r.Boot]
def VerbV.val (r : VerbV) : Value := .agg r.cells.toArray
def VerbV.ex (K : VerbV → Prop) : Prop := ∃ (xKind : Int) (xNode : Int) (xAt : Int) (xN : Int) (xOld : Int) (xNew : Int) (xWords : Option Addr) (xWords_l : Nat) (xWords_c : Nat) (xKey : Int) (xBoot : Int), K ⟨xKind, xNode, xAt, xN, xOld, xNew, xWords, xWords_l, xWords_c, xKey, xBoot⟩
theorem VerbV.mk_ex {K : VerbV → Prop} (r : VerbV) (h : K r) : VerbV.ex K := ⟨_, _, _, _, _, _, _, _, _, _, _, h⟩
theorem VerbV.len (r : VerbV) : r.cells.length = 9 := rfl
theorem VerbV.single (r : VerbV) : ∀ u ∈ r.cells, single u = true := by
  intro u hu
  simp only [VerbV.cells, List.mem_cons, List.not_mem_nil, or_false] at hu
  rcases hu with rfl | rfl | rfl | rfl | rfl | rfl | rfl | rfl | rfl <;> rfl
structure DoneV where
  Code : Int
  Words : Option Addr
  Wl : Nat
  Wc : Nat
def DoneV.cells (r : DoneV) : List Value := [.int .i64 r.Code, .slice r.Words r.Wl r.Wc]
def DoneV.val (r : DoneV) : Value := .agg r.cells.toArray
def DoneV.ex (K : DoneV → Prop) : Prop := ∃ (xCode : Int) (xWords : Option Addr) (xWords_l : Nat) (xWords_c : Nat), K ⟨xCode, xWords, xWords_l, xWords_c⟩
theorem DoneV.mk_ex {K : DoneV → Prop} (r : DoneV) (h : K r) : DoneV.ex K := ⟨_, _, _, _, h⟩
theorem DoneV.len (r : DoneV) : r.cells.length = 2 := rfl
theorem DoneV.single (r : DoneV) : ∀ u ∈ r.cells, single u = true := by
  intro u hu
  simp only [DoneV.cells, List.mem_cons, List.not_mem_nil, or_false] at hu
  rcases hu with rfl | rfl <;> rfl
structure DiscoverJobR where
  Nodes : Int
def DiscoverJobR.cells (r : DiscoverJobR) : List Value := [.int .i64 r.Nodes]
def DiscoverJobR.val (r : DiscoverJobR) : Value := .agg r.cells.toArray
def DiscoverJobR.ex (K : DiscoverJobR → Prop) : Prop := ∃ (xNodes : Int), K ⟨xNodes⟩
theorem DiscoverJobR.mk_ex {K : DiscoverJobR → Prop} (r : DiscoverJobR) (h : K r) : DiscoverJobR.ex K := ⟨_, h⟩
theorem DiscoverJobR.len (r : DiscoverJobR) : r.cells.length = 1 := rfl
theorem DiscoverJobR.single (r : DiscoverJobR) : ∀ u ∈ r.cells, single u = true := by
  intro u hu
  simp only [DiscoverJobR.cells, List.mem_cons, List.not_mem_nil, or_false] at hu
  rcases hu with rfl <;> rfl
structure PaxosJobR where
  Nodes : Int
  Number : Int
  Client : Int
  Round : Int
  Val : Int
def PaxosJobR.cells (r : PaxosJobR) : List Value := [.int .i64 r.Nodes, .int .i64 r.Number, .int .i64 r.Client, .int .i64 r.Round, .int .u64 r.Val]
def PaxosJobR.val (r : PaxosJobR) : Value := .agg r.cells.toArray
def PaxosJobR.ex (K : PaxosJobR → Prop) : Prop := ∃ (xNodes : Int) (xNumber : Int) (xClient : Int) (xRound : Int) (xVal : Int), K ⟨xNodes, xNumber, xClient, xRound, xVal⟩
theorem PaxosJobR.mk_ex {K : PaxosJobR → Prop} (r : PaxosJobR) (h : K r) : PaxosJobR.ex K := ⟨_, _, _, _, _, h⟩
theorem PaxosJobR.len (r : PaxosJobR) : r.cells.length = 5 := rfl
theorem PaxosJobR.single (r : PaxosJobR) : ∀ u ∈ r.cells, single u = true := by
  intro u hu
  simp only [PaxosJobR.cells, List.mem_cons, List.not_mem_nil, or_false] at hu
  rcases hu with rfl | rfl | rfl | rfl | rfl <;> rfl
structure ApiViewR where
  Number : Int
  Members : Option Addr
  Members_l : Nat
  Members_c : Nat
def ApiViewR.cells (r : ApiViewR) : List Value := [.int .i64 r.Number, .slice r.Members r.Members_l r.Members_c]
def ApiViewR.val (r : ApiViewR) : Value := .agg r.cells.toArray
def ApiViewR.ex (K : ApiViewR → Prop) : Prop := ∃ (xNumber : Int) (xMembers : Option Addr) (xMembers_l : Nat) (xMembers_c : Nat), K ⟨xNumber, xMembers, xMembers_l, xMembers_c⟩
theorem ApiViewR.mk_ex {K : ApiViewR → Prop} (r : ApiViewR) (h : K r) : ApiViewR.ex K := ⟨_, _, _, _, h⟩
theorem ApiViewR.len (r : ApiViewR) : r.cells.length = 2 := rfl
theorem ApiViewR.single (r : ApiViewR) : ∀ u ∈ r.cells, single u = true := by
  intro u hu
  simp only [ApiViewR.cells, List.mem_cons, List.not_mem_nil, or_false] at hu
  rcases hu with rfl | rfl <;> rfl
structure Bodegarun11TalkR where
  Kind : Int
  Client : Int
  Discover : DiscoverJobR
  Paxos : PaxosJobR
  Got : Option Addr
  Got_l : Nat
  Got_c : Nat
  Over : Bool
  Bad : Bool
  Code : Int
  View : ApiViewR
  Status : Int
  Doors : Option Addr
  Doors_l : Nat
  Doors_c : Nat
  Val : Int
def Bodegarun11TalkR.cells (r : Bodegarun11TalkR) : List Value := [.int .i64 r.Kind, .int .i64 r.Client, .int .i64 r.Discover.Nodes, .int .i64 r.Paxos.Nodes, .int .i64 r.Paxos.Number, .int .i64 r.Paxos.Client, .int .i64 r.Paxos.Round, .int .u64 r.Paxos.Val, .slice r.Got r.Got_l r.Got_c, .bool r.Over, .bool r.Bad, .int .i64 r.Code, .int .i64 r.View.Number, .slice r.View.Members r.View.Members_l r.View.Members_c, .int .i64 r.Status, .slice r.Doors r.Doors_l r.Doors_c, .int .u64 r.Val]
def Bodegarun11TalkR.val (r : Bodegarun11TalkR) : Value := .agg r.cells.toArray
def Bodegarun11TalkR.ex (K : Bodegarun11TalkR → Prop) : Prop := ∃ (xKind : Int) (xClient : Int) (xDiscover_Nodes : Int) (xPaxos_Nodes : Int) (xPaxos_Number : Int) (xPaxos_Client : Int) (xPaxos_Round : Int) (xPaxos_Val : Int) (xGot : Option Addr) (xGot_l : Nat) (xGot_c : Nat) (xOver : Bool) (xBad : Bool) (xCode : Int) (xView_Number : Int) (xView_Members : Option Addr) (xView_Members_l : Nat) (xView_Members_c : Nat) (xStatus : Int) (xDoors : Option Addr) (xDoors_l : Nat) (xDoors_c : Nat) (xVal : Int), K ⟨xKind, xClient, ⟨xDiscover_Nodes⟩, ⟨xPaxos_Nodes, xPaxos_Number, xPaxos_Client, xPaxos_Round, xPaxos_Val⟩, xGot, xGot_l, xGot_c, xOver, xBad, xCode, ⟨xView_Number, xView_Members, xView_Members_l, xView_Members_c⟩, xStatus, xDoors, xDoors_l, xDoors_c, xVal⟩
theorem Bodegarun11TalkR.mk_ex {K : Bodegarun11TalkR → Prop} (r : Bodegarun11TalkR) (h : K r) : Bodegarun11TalkR.ex K := ⟨_, _, _, _, _, _, _, _, _, _, _, _, _, _, _, _, _, _, _, _, _, _, _, h⟩
theorem Bodegarun11TalkR.len (r : Bodegarun11TalkR) : r.cells.length = 17 := rfl
theorem Bodegarun11TalkR.single (r : Bodegarun11TalkR) : ∀ u ∈ r.cells, single u = true := by
  intro u hu
  simp only [Bodegarun11TalkR.cells, List.mem_cons, List.not_mem_nil, or_false] at hu
  rcases hu with rfl | rfl | rfl | rfl | rfl | rfl | rfl | rfl | rfl | rfl | rfl | rfl | rfl | rfl | rfl | rfl | rfl <;> rfl
end Go.Proofs.YtmphhkikakblcaaGreat
