/- The structs of the program as records, printed by gencode.py. -/
import Derived.Test.YtppcleiekdbndaaGreatEng
set_option linter.unusedVariables false
namespace Go.Proofs.YtppcleiekdbndaaGreat
open Go.Eng
structure DoneV where
  Code : Int
  Words : Option Addr
  Wl : Nat
  Wc : Nat
def DoneV.cells (r : DoneV) : List Value := [.int .i64 r.Code, .slice r.Words r.Wl r.Wc]
def DoneV.val (r : DoneV) : Value := .agg r.cells.toArray
def DoneV.ex (K : DoneV → Prop) : Prop := ∃ (xCode : Int) (xWords : Option Addr) (xWords_l : Nat) (xWords_c : Nat), K ⟨xCode, xWords, xWords_l, xWords_c⟩
theorem DoneV.mk_ex {K : DoneV → Prop} (r : DoneV) (h : K r) : DoneV.ex K := ⟨_, _, _, _, h⟩
theorem DoneV.len (r : DoneV) : r.cells.length = 2 := rfl
theorem DoneV.single (r : DoneV) : ∀ u ∈ r.cells, single u = true := by
  intro u hu
  simp only [DoneV.cells, List.mem_cons, List.not_mem_nil, or_false] at hu
  rcases hu with rfl | rfl <;> rfl
structure VerbV where
  Kind : Int
  Node : Int
  At : Int
  N : Int
  Old : Int
  New : Int
  Words : Option Addr
  Wl : Nat
  Wc : Nat
  Key : Int
  Boot : Int
def VerbV.cells (r : VerbV) : List Value := [.int .i64 r.Kind, .int .i64 r.Node, .int .i64 r.At, .int .i64 r.N, .int .u64 r.Old, .int .u64 r.New, .slice r.Words r.Wl r.Wc, .int .u64 r.Key, .int .i64 r.Boot]
def VerbV.val (r : VerbV) : Value := .agg r.cells.toArray
def VerbV.ex (K : VerbV → Prop) : Prop := ∃ (xKind : Int) (xNode : Int) (xAt : Int) (xN : Int) (xOld : Int) (xNew : Int) (xWords : Option Addr) (xWords_l : Nat) (xWords_c : Nat) (xKey : Int) (xBoot : Int), K ⟨xKind, xNode, xAt, xN, xOld, xNew, xWords, xWords_l, xWords_c, xKey, xBoot⟩
theorem VerbV.mk_ex {K : VerbV → Prop} (r : VerbV) (h : K r) : VerbV.ex K := ⟨_, _, _, _, _, _, _, _, _, _, _, h⟩
theorem VerbV.len (r : VerbV) : r.cells.length = 9 := rfl
theorem VerbV.single (r : VerbV) : ∀ u ∈ r.cells, single u = true := by
  intro u hu
  simp only [VerbV.cells, List.mem_cons, List.not_mem_nil, or_false] at hu
  rcases hu with rfl | rfl | rfl | rfl | rfl | rfl | rfl | rfl | rfl <;> rfl
structure ApiViewR where
  Number : Int
  Members : Option Addr
  Members_l : Nat
  Members_c : Nat
def ApiViewR.cells (r : ApiViewR) : List Value := [.int .i64 r.Number, .slice r.Members r.Members_l r.Members_c]
def ApiViewR.val (r : ApiViewR) : Value := .agg r.cells.toArray
def ApiViewR.ex (K : ApiViewR → Prop) : Prop := ∃ (xNumber : Int) (xMembers : Option Addr) (xMembers_l : Nat) (xMembers_c : Nat), K ⟨xNumber, xMembers, xMembers_l, xMembers_c⟩
theorem ApiViewR.mk_ex {K : ApiViewR → Prop} (r : ApiViewR) (h : K r) : ApiViewR.ex K := ⟨_, _, _, _, h⟩
theorem ApiViewR.len (r : ApiViewR) : r.cells.length = 2 := rfl
theorem ApiViewR.single (r : ApiViewR) : ∀ u ∈ r.cells, single u = true := by
  intro u hu
  simp only [ApiViewR.cells, List.mem_cons, List.not_mem_nil, or_false] at hu
  rcases hu with rfl | rfl <;> rfl
structure RecoveryJobR where
  Client : Int
  Inc : Int
  Lines : Int
  View : ApiViewR
  Dead : Int
  Door : Int
  Prev : Int
def RecoveryJobR.cells (r : RecoveryJobR) : List Value := [.int .i64 r.Client, .int .i64 r.Inc, .int .i64 r.Lines, .int .i64 r.View.Number, .slice r.View.Members r.View.Members_l r.View.Members_c, .int .i64 r.Dead, .int .i64 r.Door, .int .u64 r.Prev]
def RecoveryJobR.val (r : RecoveryJobR) : Value := .agg r.cells.toArray
def RecoveryJobR.ex (K : RecoveryJobR → Prop) : Prop := ∃ (xClient : Int) (xInc : Int) (xLines : Int) (xView_Number : Int) (xView_Members : Option Addr) (xView_Members_l : Nat) (xView_Members_c : Nat) (xDead : Int) (xDoor : Int) (xPrev : Int), K ⟨xClient, xInc, xLines, ⟨xView_Number, xView_Members, xView_Members_l, xView_Members_c⟩, xDead, xDoor, xPrev⟩
theorem RecoveryJobR.mk_ex {K : RecoveryJobR → Prop} (r : RecoveryJobR) (h : K r) : RecoveryJobR.ex K := ⟨_, _, _, _, _, _, _, _, _, _, h⟩
theorem RecoveryJobR.len (r : RecoveryJobR) : r.cells.length = 8 := rfl
theorem RecoveryJobR.single (r : RecoveryJobR) : ∀ u ∈ r.cells, single u = true := by
  intro u hu
  simp only [RecoveryJobR.cells, List.mem_cons, List.not_mem_nil, or_false] at hu
  rcases hu with rfl | rfl | rfl | rfl | rfl | rfl | rfl | rfl <;> rfl
structure Bodegalaw13RawR where
  Client : Int
  Inc : Int
  Lines : Int
  Mask : Int
  Dead : Int
  Door : Int
  P : Int
  Q : Int
  Spoil : Int
  At : Int
def Bodegalaw13RawR.cells (r : Bodegalaw13RawR) : List Value := [.int .i64 r.Client, .int .i64 r.Inc, .int .i64 r.Lines, .int .i64 r.Mask, .int .i64 r.Dead, .int .i64 r.Door, .int .i64 r.P, .int .i64 r.Q, .int .i64 r.Spoil, .int .i64 r.At]
def Bodegalaw13RawR.val (r : Bodegalaw13RawR) : Value := .agg r.cells.toArray
def Bodegalaw13RawR.ex (K : Bodegalaw13RawR → Prop) : Prop := ∃ (xClient : Int) (xInc : Int) (xLines : Int) (xMask : Int) (xDead : Int) (xDoor : Int) (xP : Int) (xQ : Int) (xSpoil : Int) (xAt : Int), K ⟨xClient, xInc, xLines, xMask, xDead, xDoor, xP, xQ, xSpoil, xAt⟩
theorem Bodegalaw13RawR.mk_ex {K : Bodegalaw13RawR → Prop} (r : Bodegalaw13RawR) (h : K r) : Bodegalaw13RawR.ex K := ⟨_, _, _, _, _, _, _, _, _, _, h⟩
theorem Bodegalaw13RawR.len (r : Bodegalaw13RawR) : r.cells.length = 10 := rfl
theorem Bodegalaw13RawR.single (r : Bodegalaw13RawR) : ∀ u ∈ r.cells, single u = true := by
  intro u hu
  simp only [Bodegalaw13RawR.cells, List.mem_cons, List.not_mem_nil, or_false] at hu
  rcases hu with rfl | rfl | rfl | rfl | rfl | rfl | rfl | rfl | rfl | rfl <;> rfl
structure Bodegaref9RecoverJobR where
  Client : Int
  Inc : Int
  Lines : Int
  View : ApiViewR
  Dead : Int
  Door : Int
  Prev : Int
def Bodegaref9RecoverJobR.cells (r : Bodegaref9RecoverJobR) : List Value := [.int .i64 r.Client, .int .i64 r.Inc, .int .i64 r.Lines, .int .i64 r.View.Number, .slice r.View.Members r.View.Members_l r.View.Members_c, .int .i64 r.Dead, .int .i64 r.Door, .int .u64 r.Prev]
def Bodegaref9RecoverJobR.val (r : Bodegaref9RecoverJobR) : Value := .agg r.cells.toArray
def Bodegaref9RecoverJobR.ex (K : Bodegaref9RecoverJobR → Prop) : Prop := ∃ (xClient : Int) (xInc : Int) (xLines : Int) (xView_Number : Int) (xView_Members : Option Addr) (xView_Members_l : Nat) (xView_Members_c : Nat) (xDead : Int) (xDoor : Int) (xPrev : Int), K ⟨xClient, xInc, xLines, ⟨xView_Number, xView_Members, xView_Members_l, xView_Members_c⟩, xDead, xDoor, xPrev⟩
theorem Bodegaref9RecoverJobR.mk_ex {K : Bodegaref9RecoverJobR → Prop} (r : Bodegaref9RecoverJobR) (h : K r) : Bodegaref9RecoverJobR.ex K := ⟨_, _, _, _, _, _, _, _, _, _, h⟩
theorem Bodegaref9RecoverJobR.len (r : Bodegaref9RecoverJobR) : r.cells.length = 8 := rfl
theorem Bodegaref9RecoverJobR.single (r : Bodegaref9RecoverJobR) : ∀ u ∈ r.cells, single u = true := by
  intro u hu
  simp only [Bodegaref9RecoverJobR.cells, List.mem_cons, List.not_mem_nil, or_false] at hu
  rcases hu with rfl | rfl | rfl | rfl | rfl | rfl | rfl | rfl <;> rfl
structure CommitJobR where
  Client : Int
  Seq : Int
  Lines : Int
  View : ApiViewR
  Reads : Option Addr
  Reads_l : Nat
  Reads_c : Nat
  Writes : Option Addr
  Writes_l : Nat
  Writes_c : Nat
def CommitJobR.cells (r : CommitJobR) : List Value := [.int .i64 r.Client, .int .i64 r.Seq, .int .i64 r.Lines, .int .i64 r.View.Number, .slice r.View.Members r.View.Members_l r.View.Members_c, .slice r.Reads r.Reads_l r.Reads_c, .slice r.Writes r.Writes_l r.Writes_c]
def CommitJobR.val (r : CommitJobR) : Value := .agg r.cells.toArray
def CommitJobR.ex (K : CommitJobR → Prop) : Prop := ∃ (xClient : Int) (xSeq : Int) (xLines : Int) (xView_Number : Int) (xView_Members : Option Addr) (xView_Members_l : Nat) (xView_Members_c : Nat) (xReads : Option Addr) (xReads_l : Nat) (xReads_c : Nat) (xWrites : Option Addr) (xWrites_l : Nat) (xWrites_c : Nat), K ⟨xClient, xSeq, xLines, ⟨xView_Number, xView_Members, xView_Members_l, xView_Members_c⟩, xReads, xReads_l, xReads_c, xWrites, xWrites_l, xWrites_c⟩
theorem CommitJobR.mk_ex {K : CommitJobR → Prop} (r : CommitJobR) (h : K r) : CommitJobR.ex K := ⟨_, _, _, _, _, _, _, _, _, _, _, _, _, h⟩
theorem CommitJobR.len (r : CommitJobR) : r.cells.length = 7 := rfl
theorem CommitJobR.single (r : CommitJobR) : ∀ u ∈ r.cells, single u = true := by
  intro u hu
  simp only [CommitJobR.cells, List.mem_cons, List.not_mem_nil, or_false] at hu
  rcases hu with rfl | rfl | rfl | rfl | rfl | rfl | rfl <;> rfl
structure ApiPageR where
  Line : Int
  Head : Int
  Data0 : Int
  Data1 : Int
  Data2 : Int
  Data3 : Int
  Data4 : Int
  Data5 : Int
  Data6 : Int
def ApiPageR.cells (r : ApiPageR) : List Value := [.int .i64 r.Line, .int .u64 r.Head, .int .u64 r.Data0, .int .u64 r.Data1, .int .u64 r.Data2, .int .u64 r.Data3, .int .u64 r.Data4, .int .u64 r.Data5, .int .u64 r.Data6]
def ApiPageR.val (r : ApiPageR) : Value := .agg r.cells.toArray
def ApiPageR.ex (K : ApiPageR → Prop) : Prop := ∃ (xLine : Int) (xHead : Int) (xData0 : Int) (xData1 : Int) (xData2 : Int) (xData3 : Int) (xData4 : Int) (xData5 : Int) (xData6 : Int), K ⟨xLine, xHead, xData0, xData1, xData2, xData3, xData4, xData5, xData6⟩
theorem ApiPageR.mk_ex {K : ApiPageR → Prop} (r : ApiPageR) (h : K r) : ApiPageR.ex K := ⟨_, _, _, _, _, _, _, _, _, h⟩
theorem ApiPageR.len (r : ApiPageR) : r.cells.length = 9 := rfl
theorem ApiPageR.single (r : ApiPageR) : ∀ u ∈ r.cells, single u = true := by
  intro u hu
  simp only [ApiPageR.cells, List.mem_cons, List.not_mem_nil, or_false] at hu
  rcases hu with rfl | rfl | rfl | rfl | rfl | rfl | rfl | rfl | rfl <;> rfl
structure ApiMemberR where
  Node : Int
  Boot : Int
  Full : Bool
def ApiMemberR.cells (r : ApiMemberR) : List Value := [.int .i64 r.Node, .int .i64 r.Boot, .bool r.Full]
def ApiMemberR.val (r : ApiMemberR) : Value := .agg r.cells.toArray
def ApiMemberR.ex (K : ApiMemberR → Prop) : Prop := ∃ (xNode : Int) (xBoot : Int) (xFull : Bool), K ⟨xNode, xBoot, xFull⟩
theorem ApiMemberR.mk_ex {K : ApiMemberR → Prop} (r : ApiMemberR) (h : K r) : ApiMemberR.ex K := ⟨_, _, _, h⟩
theorem ApiMemberR.len (r : ApiMemberR) : r.cells.length = 3 := rfl
theorem ApiMemberR.single (r : ApiMemberR) : ∀ u ∈ r.cells, single u = true := by
  intro u hu
  simp only [ApiMemberR.cells, List.mem_cons, List.not_mem_nil, or_false] at hu
  rcases hu with rfl | rfl | rfl <;> rfl
structure Bodegaref4RecordR where
  Seq : Int
  Writes : Option Addr
  Writes_l : Nat
  Writes_c : Nat
def Bodegaref4RecordR.cells (r : Bodegaref4RecordR) : List Value := [.int .i64 r.Seq, .slice r.Writes r.Writes_l r.Writes_c]
def Bodegaref4RecordR.val (r : Bodegaref4RecordR) : Value := .agg r.cells.toArray
def Bodegaref4RecordR.ex (K : Bodegaref4RecordR → Prop) : Prop := ∃ (xSeq : Int) (xWrites : Option Addr) (xWrites_l : Nat) (xWrites_c : Nat), K ⟨xSeq, xWrites, xWrites_l, xWrites_c⟩
theorem Bodegaref4RecordR.mk_ex {K : Bodegaref4RecordR → Prop} (r : Bodegaref4RecordR) (h : K r) : Bodegaref4RecordR.ex K := ⟨_, _, _, _, h⟩
theorem Bodegaref4RecordR.len (r : Bodegaref4RecordR) : r.cells.length = 2 := rfl
theorem Bodegaref4RecordR.single (r : Bodegaref4RecordR) : ∀ u ∈ r.cells, single u = true := by
  intro u hu
  simp only [Bodegaref4RecordR.cells, List.mem_cons, List.not_mem_nil, or_false] at hu
  rcases hu with rfl | rfl <;> rfl
structure LogrecRecordR where
  Seq : Int
  Writes : Option Addr
  Writes_l : Nat
  Writes_c : Nat
def LogrecRecordR.cells (r : LogrecRecordR) : List Value := [.int .i64 r.Seq, .slice r.Writes r.Writes_l r.Writes_c]
def LogrecRecordR.val (r : LogrecRecordR) : Value := .agg r.cells.toArray
def LogrecRecordR.ex (K : LogrecRecordR → Prop) : Prop := ∃ (xSeq : Int) (xWrites : Option Addr) (xWrites_l : Nat) (xWrites_c : Nat), K ⟨xSeq, xWrites, xWrites_l, xWrites_c⟩
theorem LogrecRecordR.mk_ex {K : LogrecRecordR → Prop} (r : LogrecRecordR) (h : K r) : LogrecRecordR.ex K := ⟨_, _, _, _, h⟩
theorem LogrecRecordR.len (r : LogrecRecordR) : r.cells.length = 2 := rfl
theorem LogrecRecordR.single (r : LogrecRecordR) : ∀ u ∈ r.cells, single u = true := by
  intro u hu
  simp only [LogrecRecordR.cells, List.mem_cons, List.not_mem_nil, or_false] at hu
  rcases hu with rfl | rfl <;> rfl
structure ApiSeenR where
  Line : Int
  Head : Int
def ApiSeenR.cells (r : ApiSeenR) : List Value := [.int .i64 r.Line, .int .u64 r.Head]
def ApiSeenR.val (r : ApiSeenR) : Value := .agg r.cells.toArray
def ApiSeenR.ex (K : ApiSeenR → Prop) : Prop := ∃ (xLine : Int) (xHead : Int), K ⟨xLine, xHead⟩
theorem ApiSeenR.mk_ex {K : ApiSeenR → Prop} (r : ApiSeenR) (h : K r) : ApiSeenR.ex K := ⟨_, _, h⟩
theorem ApiSeenR.len (r : ApiSeenR) : r.cells.length = 2 := rfl
theorem ApiSeenR.single (r : ApiSeenR) : ∀ u ∈ r.cells, single u = true := by
  intro u hu
  simp only [ApiSeenR.cells, List.mem_cons, List.not_mem_nil, or_false] at hu
  rcases hu with rfl | rfl <;> rfl
end Go.Proofs.YtppcleiekdbndaaGreat
