import Derived.Test.YtegepanmkjemjaaGreatProg
import Derived.Test.YtegepanmkjemjaaGreatt01
import Derived.Test.YtegepanmkjemjaaGreatt02
set_option linter.unusedVariables false
namespace Go.Proofs.YtegepanmkjemjaaGreat
open Go.Proofs.Tryz
open Go.Eng
abbrev nx (f:Func) (p:List Nat) (R:Value→World→Prop):Exit→List Value→World→Prop:=seqQ (λenv w=>W prog (sub (aB f) p) env (retQ prog f R) w) (retQ prog f R)
structure aN where
 Kind:Int
 Node:Int
 At:Int
 N:Int
 Old:Int
 New:Int
 Words:Option Addr
 Wl:Nat
 Wc:Nat
 Key:Int
 Boot:Int
def aN.cells (r:aN):List Value:=[.int .i64 r.Kind,.int .i64 r.Node,.int .i64 r.At,.int .i64 r.N,.int .u64 r.Old,.int .u64 r.New,.slice r.Words r.Wl r.Wc,.int .u64 r.Key,.int .i64 r.Boot]
def aN.val (r:aN):Value:=.agg r.cells.toArray
def aN.ex (K:aN→Prop):Prop:=∃ (xKind:Int) (xNode:Int) (xAt:Int) (xN:Int) (xOld:Int) (xNew:Int) (xWords:Option Addr) (xWords_l:Nat) (xWords_c:Nat) (xKey:Int) (xBoot:Int),K ⟨xKind,xNode,xAt,xN,xOld,xNew,xWords,xWords_l,xWords_c,xKey,xBoot⟩
theorem aN.mk_ex {K:aN→Prop} (r:aN) (h:K r):aN.ex K:=⟨_,_,_,_,_,_,_,_,_,_,_,h⟩
theorem aN.len (r:aN):r.cells.length=9:=rfl
theorem aN.single (r:aN):∀ u ∈ r.cells,single u=true:=by
 intro u hu
 simp only [aN.cells,List.mem_cons,List.not_mem_nil,or_false] at hu
 rcases hu with rfl | rfl | rfl | rfl | rfl | rfl | rfl | rfl | rfl<;>rfl
structure bH where
 Code:Int
 Words:Option Addr
 Wl:Nat
 Wc:Nat
def bH.cells (r:bH):List Value:=[.int .i64 r.Code,.slice r.Words r.Wl r.Wc]
def bH.val (r:bH):Value:=.agg r.cells.toArray
def bH.ex (K:bH→Prop):Prop:=∃ (xCode:Int) (xWords:Option Addr) (xWords_l:Nat) (xWords_c:Nat),K ⟨xCode,xWords,xWords_l,xWords_c⟩
theorem bH.mk_ex {K:bH→Prop} (r:bH) (h:K r):bH.ex K:=⟨_,_,_,_,h⟩
theorem bH.len (r:bH):r.cells.length=2:=rfl
theorem bH.single (r:bH):∀ u ∈ r.cells,single u=true:=by
 intro u hu
 simp only [bH.cells,List.mem_cons,List.not_mem_nil,or_false] at hu
 rcases hu with rfl | rfl<;>rfl
structure aQ where
 Number:Int
 Members:Option Addr
 Members_l:Nat
 Members_c:Nat
def aQ.cells (r:aQ):List Value:=[.int .i64 r.Number,.slice r.Members r.Members_l r.Members_c]
def aQ.val (r:aQ):Value:=.agg r.cells.toArray
def aQ.ex (K:aQ→Prop):Prop:=∃ (xNumber:Int) (xMembers:Option Addr) (xMembers_l:Nat) (xMembers_c:Nat),K ⟨xNumber,xMembers,xMembers_l,xMembers_c⟩
theorem aQ.mk_ex {K:aQ→Prop} (r:aQ) (h:K r):aQ.ex K:=⟨_,_,_,_,h⟩
theorem aQ.single (r:aQ):∀ u ∈ r.cells,single u=true:=by
 intro u hu
 simp only [aQ.cells,List.mem_cons,List.not_mem_nil,or_false] at hu
 rcases hu with rfl | rfl<;>rfl
structure aM where
 Client:Int
 Seq:Int
 Lines:Int
 View:aQ
 Reads:Option Addr
 Reads_l:Nat
 Reads_c:Nat
 Writes:Option Addr
 Writes_l:Nat
 Writes_c:Nat
def aM.cells (r:aM):List Value:=[.int .i64 r.Client,.int .i64 r.Seq,.int .i64 r.Lines,.int .i64 r.View.Number,.slice r.View.Members r.View.Members_l r.View.Members_c,.slice r.Reads r.Reads_l r.Reads_c,.slice r.Writes r.Writes_l r.Writes_c]
def aM.val (r:aM):Value:=.agg r.cells.toArray
def aM.ex (K:aM→Prop):Prop:=∃ (xClient:Int) (xSeq:Int) (xLines:Int) (xView_Number:Int) (xView_Members:Option Addr) (xView_Members_l:Nat) (xView_Members_c:Nat) (xReads:Option Addr) (xReads_l:Nat) (xReads_c:Nat) (xWrites:Option Addr) (xWrites_l:Nat) (xWrites_c:Nat),K ⟨xClient,xSeq,xLines,⟨xView_Number,xView_Members,xView_Members_l,xView_Members_c⟩,xReads,xReads_l,xReads_c,xWrites,xWrites_l,xWrites_c⟩
theorem aM.mk_ex {K:aM→Prop} (r:aM) (h:K r):aM.ex K:=⟨_,_,_,_,_,_,_,_,_,_,_,_,_,h⟩
theorem aM.single (r:aM):∀ u ∈ r.cells,single u=true:=by
 intro u hu
 simp only [aM.cells,List.mem_cons,List.not_mem_nil,or_false] at hu
 rcases hu with rfl | rfl | rfl | rfl | rfl | rfl | rfl<;>rfl
structure cK where
 Nodes:Int
def cK.cells (r:cK):List Value:=[.int .i64 r.Nodes]
def cK.val (r:cK):Value:=.agg r.cells.toArray
def cK.ex (K:cK→Prop):Prop:=∃ (xNodes:Int),K ⟨xNodes⟩
theorem cK.mk_ex {K:cK→Prop} (r:cK) (h:K r):cK.ex K:=⟨_,h⟩
theorem cK.single (r:cK):∀ u ∈ r.cells,single u=true:=by
 intro u hu
 simp only [cK.cells,List.mem_cons,List.not_mem_nil,or_false] at hu
 rcases hu with rfl<;>rfl
structure eH where
 Nodes:Int
 Number:Int
 Client:Int
 Round:Int
 Val:Int
def eH.cells (r:eH):List Value:=[.int .i64 r.Nodes,.int .i64 r.Number,.int .i64 r.Client,.int .i64 r.Round,.int .u64 r.Val]
def eH.val (r:eH):Value:=.agg r.cells.toArray
def eH.ex (K:eH→Prop):Prop:=∃ (xNodes:Int) (xNumber:Int) (xClient:Int) (xRound:Int) (xVal:Int),K ⟨xNodes,xNumber,xClient,xRound,xVal⟩
theorem eH.mk_ex {K:eH→Prop} (r:eH) (h:K r):eH.ex K:=⟨_,_,_,_,_,h⟩
theorem eH.single (r:eH):∀ u ∈ r.cells,single u=true:=by
 intro u hu
 simp only [eH.cells,List.mem_cons,List.not_mem_nil,or_false] at hu
 rcases hu with rfl | rfl | rfl | rfl | rfl<;>rfl
structure aC where
 Kind:Int
 Client:Int
 Discover:cK
 Paxos:eH
 Commit:aM
 Got:Option Addr
 Got_l:Nat
 Got_c:Nat
 Over:Bool
 Bad:Bool
 Code:Int
 View:aQ
 Status:Int
 Doors:Option Addr
 Doors_l:Nat
 Doors_c:Nat
 Val:Int
 Fate:Int
def aC.cells (r:aC):List Value:=[.int .i64 r.Kind,.int .i64 r.Client,.int .i64 r.Discover.Nodes,.int .i64 r.Paxos.Nodes,.int .i64 r.Paxos.Number,.int .i64 r.Paxos.Client,.int .i64 r.Paxos.Round,.int .u64 r.Paxos.Val,.int .i64 r.Commit.Client,.int .i64 r.Commit.Seq,.int .i64 r.Commit.Lines,.int .i64 r.Commit.View.Number,.slice r.Commit.View.Members r.Commit.View.Members_l r.Commit.View.Members_c,.slice r.Commit.Reads r.Commit.Reads_l r.Commit.Reads_c,.slice r.Commit.Writes r.Commit.Writes_l r.Commit.Writes_c,.slice r.Got r.Got_l r.Got_c,.bool r.Over,.bool r.Bad,.int .i64 r.Code,.int .i64 r.View.Number,.slice r.View.Members r.View.Members_l r.View.Members_c,.int .i64 r.Status,.slice r.Doors r.Doors_l r.Doors_c,.int .u64 r.Val,.int .i64 r.Fate]
def aC.val (r:aC):Value:=.agg r.cells.toArray
def aC.ex (K:aC→Prop):Prop:=∃ (xKind:Int) (xClient:Int) (xDiscover_Nodes:Int) (xPaxos_Nodes:Int) (xPaxos_Number:Int) (xPaxos_Client:Int) (xPaxos_Round:Int) (xPaxos_Val:Int) (xCommit_Client:Int) (xCommit_Seq:Int) (xCommit_Lines:Int) (xCommit_View_Number:Int) (xCommit_View_Members:Option Addr) (xCommit_View_Members_l:Nat) (xCommit_View_Members_c:Nat) (xCommit_Reads:Option Addr) (xCommit_Reads_l:Nat) (xCommit_Reads_c:Nat) (xCommit_Writes:Option Addr) (xCommit_Writes_l:Nat) (xCommit_Writes_c:Nat) (xGot:Option Addr) (xGot_l:Nat) (xGot_c:Nat) (xOver:Bool) (xBad:Bool) (xCode:Int) (xView_Number:Int) (xView_Members:Option Addr) (xView_Members_l:Nat) (xView_Members_c:Nat) (xStatus:Int) (xDoors:Option Addr) (xDoors_l:Nat) (xDoors_c:Nat) (xVal:Int) (xFate:Int),K ⟨xKind,xClient,⟨xDiscover_Nodes⟩,⟨xPaxos_Nodes,xPaxos_Number,xPaxos_Client,xPaxos_Round,xPaxos_Val⟩,⟨xCommit_Client,xCommit_Seq,xCommit_Lines,⟨xCommit_View_Number,xCommit_View_Members,xCommit_View_Members_l,xCommit_View_Members_c⟩,xCommit_Reads,xCommit_Reads_l,xCommit_Reads_c,xCommit_Writes,xCommit_Writes_l,xCommit_Writes_c⟩,xGot,xGot_l,xGot_c,xOver,xBad,xCode,⟨xView_Number,xView_Members,xView_Members_l,xView_Members_c⟩,xStatus,xDoors,xDoors_l,xDoors_c,xVal,xFate⟩
theorem aC.mk_ex {K:aC→Prop} (r:aC) (h:K r):aC.ex K:=⟨_,_,_,_,_,_,_,_,_,_,_,_,_,_,_,_,_,_,_,_,_,_,_,_,_,_,_,_,_,_,_,_,_,_,_,_,_,h⟩
theorem aC.len (r:aC):r.cells.length=25:=rfl
theorem aC.single (r:aC):∀ u ∈ r.cells,single u=true:=by
 intro u hu
 simp only [aC.cells,List.mem_cons,List.not_mem_nil,or_false] at hu
 rcases hu with rfl | rfl | rfl | rfl | rfl | rfl | rfl | rfl | rfl | rfl | rfl | rfl | rfl | rfl | rfl | rfl | rfl | rfl | rfl | rfl | rfl | rfl | rfl | rfl | rfl<;>rfl
structure aD where
 Line:Int
 Head:Int
 Data0:Int
 Data1:Int
 Data2:Int
 Data3:Int
 Data4:Int
 Data5:Int
 Data6:Int
def aD.cells (r:aD):List Value:=[.int .i64 r.Line,.int .u64 r.Head,.int .u64 r.Data0,.int .u64 r.Data1,.int .u64 r.Data2,.int .u64 r.Data3,.int .u64 r.Data4,.int .u64 r.Data5,.int .u64 r.Data6]
def aD.val (r:aD):Value:=.agg r.cells.toArray
def aD.ex (K:aD→Prop):Prop:=∃ (xLine:Int) (xHead:Int) (xData0:Int) (xData1:Int) (xData2:Int) (xData3:Int) (xData4:Int) (xData5:Int) (xData6:Int),K ⟨xLine,xHead,xData0,xData1,xData2,xData3,xData4,xData5,xData6⟩
theorem aD.mk_ex {K:aD→Prop} (r:aD) (h:K r):aD.ex K:=⟨_,_,_,_,_,_,_,_,_,h⟩
theorem aD.len (r:aD):r.cells.length=9:=rfl
theorem aD.single (r:aD):∀ u ∈ r.cells,single u=true:=by
 intro u hu
 simp only [aD.cells,List.mem_cons,List.not_mem_nil,or_false] at hu
 rcases hu with rfl | rfl | rfl | rfl | rfl | rfl | rfl | rfl | rfl<;>rfl
structure bD where
 Line:Int
 Head:Int
def bD.cells (r:bD):List Value:=[.int .i64 r.Line,.int .u64 r.Head]
def bD.val (r:bD):Value:=.agg r.cells.toArray
def bD.ex (K:bD→Prop):Prop:=∃ (xLine:Int) (xHead:Int),K ⟨xLine,xHead⟩
theorem bD.mk_ex {K:bD→Prop} (r:bD) (h:K r):bD.ex K:=⟨_,_,h⟩
theorem bD.len (r:bD):r.cells.length=2:=rfl
theorem bD.single (r:bD):∀ u ∈ r.cells,single u=true:=by
 intro u hu
 simp only [bD.cells,List.mem_cons,List.not_mem_nil,or_false] at hu
 rcases hu with rfl | rfl<;>rfl
structure bF where
 At:Int
 Kind:Int
 A:Int
def bF.cells (r:bF):List Value:=[.int .i64 r.At,.int .i64 r.Kind,.int .i64 r.A]
def bF.val (r:bF):Value:=.agg r.cells.toArray
def bF.ex (K:bF→Prop):Prop:=∃ (xAt:Int) (xKind:Int) (xA:Int),K ⟨xAt,xKind,xA⟩
theorem bF.mk_ex {K:bF→Prop} (r:bF) (h:K r):bF.ex K:=⟨_,_,_,h⟩
theorem bF.single (r:bF):∀ u ∈ r.cells,single u=true:=by
 intro u hu
 simp only [bF.cells,List.mem_cons,List.not_mem_nil,or_false] at hu
 rcases hu with rfl | rfl | rfl<;>rfl
structure aH where
 Node:Int
 Boot:Int
 Full:Bool
def aH.cells (r:aH):List Value:=[.int .i64 r.Node,.int .i64 r.Boot,.bool r.Full]
def aH.val (r:aH):Value:=.agg r.cells.toArray
def aH.ex (K:aH→Prop):Prop:=∃ (xNode:Int) (xBoot:Int) (xFull:Bool),K ⟨xNode,xBoot,xFull⟩
theorem aH.mk_ex {K:aH→Prop} (r:aH) (h:K r):aH.ex K:=⟨_,_,_,h⟩
theorem aH.len (r:aH):r.cells.length=3:=rfl
theorem aH.single (r:aH):∀ u ∈ r.cells,single u=true:=by
 intro u hu
 simp only [aH.cells,List.mem_cons,List.not_mem_nil,or_false] at hu
 rcases hu with rfl | rfl | rfl<;>rfl
structure aE where
 Seq:Int
 Writes:Option Addr
 Writes_l:Nat
 Writes_c:Nat
def aE.cells (r:aE):List Value:=[.int .i64 r.Seq,.slice r.Writes r.Writes_l r.Writes_c]
def aE.val (r:aE):Value:=.agg r.cells.toArray
def aE.ex (K:aE→Prop):Prop:=∃ (xSeq:Int) (xWrites:Option Addr) (xWrites_l:Nat) (xWrites_c:Nat),K ⟨xSeq,xWrites,xWrites_l,xWrites_c⟩
theorem aE.mk_ex {K:aE→Prop} (r:aE) (h:K r):aE.ex K:=⟨_,_,_,_,h⟩
theorem aE.single (r:aE):∀ u ∈ r.cells,single u=true:=by
 intro u hu
 simp only [aE.cells,List.mem_cons,List.not_mem_nil,or_false] at hu
 rcases hu with rfl | rfl<;>rfl
structure bL where
 Code:Int
 Number:Int
 View:aQ
 Status:Int
 Opened:Bool
 Hint:Int
 Boots:Option Addr
 Boots_l:Nat
 Boots_c:Nat
 Keys:Option Addr
 Keys_l:Nat
 Keys_c:Nat
 Doors:Option Addr
 Doors_l:Nat
 Doors_c:Nat
def bL.cells (r:bL):List Value:=[.int .i64 r.Code,.int .i64 r.Number,.int .i64 r.View.Number,.slice r.View.Members r.View.Members_l r.View.Members_c,.int .i64 r.Status,.bool r.Opened,.int .u64 r.Hint,.slice r.Boots r.Boots_l r.Boots_c,.slice r.Keys r.Keys_l r.Keys_c,.slice r.Doors r.Doors_l r.Doors_c]
def bL.val (r:bL):Value:=.agg r.cells.toArray
def bL.ex (K:bL→Prop):Prop:=∃ (xCode:Int) (xNumber:Int) (xView_Number:Int) (xView_Members:Option Addr) (xView_Members_l:Nat) (xView_Members_c:Nat) (xStatus:Int) (xOpened:Bool) (xHint:Int) (xBoots:Option Addr) (xBoots_l:Nat) (xBoots_c:Nat) (xKeys:Option Addr) (xKeys_l:Nat) (xKeys_c:Nat) (xDoors:Option Addr) (xDoors_l:Nat) (xDoors_c:Nat),K ⟨xCode,xNumber,⟨xView_Number,xView_Members,xView_Members_l,xView_Members_c⟩,xStatus,xOpened,xHint,xBoots,xBoots_l,xBoots_c,xKeys,xKeys_l,xKeys_c,xDoors,xDoors_l,xDoors_c⟩
theorem bL.mk_ex {K:bL→Prop} (r:bL) (h:K r):bL.ex K:=⟨_,_,_,_,_,_,_,_,_,_,_,_,_,_,_,_,_,_,h⟩
theorem bL.single (r:bL):∀ u ∈ r.cells,single u=true:=by
 intro u hu
 simp only [bL.cells,List.mem_cons,List.not_mem_nil,or_false] at hu
 rcases hu with rfl | rfl | rfl | rfl | rfl | rfl | rfl | rfl | rfl | rfl<;>rfl
structure cA where
 Code:Int
 Val:Int
 Round:Int
def cA.cells (r:cA):List Value:=[.int .i64 r.Code,.int .u64 r.Val,.int .i64 r.Round]
def cA.val (r:cA):Value:=.agg r.cells.toArray
def cA.ex (K:cA→Prop):Prop:=∃ (xCode:Int) (xVal:Int) (xRound:Int),K ⟨xCode,xVal,xRound⟩
theorem cA.mk_ex {K:cA→Prop} (r:cA) (h:K r):cA.ex K:=⟨_,_,_,h⟩
theorem cA.single (r:cA):∀ u ∈ r.cells,single u=true:=by
 intro u hu
 simp only [cA.cells,List.mem_cons,List.not_mem_nil,or_false] at hu
 rcases hu with rfl | rfl | rfl<;>rfl
structure aA where
 Code:Int
 Fate:Int
def aA.cells (r:aA):List Value:=[.int .i64 r.Code,.int .i64 r.Fate]
def aA.val (r:aA):Value:=.agg r.cells.toArray
def aA.ex (K:aA→Prop):Prop:=∃ (xCode:Int) (xFate:Int),K ⟨xCode,xFate⟩
theorem aA.mk_ex {K:aA→Prop} (r:aA) (h:K r):aA.ex K:=⟨_,_,h⟩
theorem aA.single (r:aA):∀ u ∈ r.cells,single u=true:=by
 intro u hu
 simp only [aA.cells,List.mem_cons,List.not_mem_nil,or_false] at hu
 rcases hu with rfl | rfl<;>rfl
structure aT where
 Seq:Int
 Writes:Option Addr
 Writes_l:Nat
 Writes_c:Nat
def aT.cells (r:aT):List Value:=[.int .i64 r.Seq,.slice r.Writes r.Writes_l r.Writes_c]
def aT.val (r:aT):Value:=.agg r.cells.toArray
def aT.ex (K:aT→Prop):Prop:=∃ (xSeq:Int) (xWrites:Option Addr) (xWrites_l:Nat) (xWrites_c:Nat),K ⟨xSeq,xWrites,xWrites_l,xWrites_c⟩
theorem aT.mk_ex {K:aT→Prop} (r:aT) (h:K r):aT.ex K:=⟨_,_,_,_,h⟩
theorem aT.single (r:aT):∀ u ∈ r.cells,single u=true:=by
 intro u hu
 simp only [aT.cells,List.mem_cons,List.not_mem_nil,or_false] at hu
 rcases hu with rfl | rfl<;>rfl
structure cC where
 l:List Int
def cC.cells (r:cC):List Value:=r.l.map λx=>.int .u64 x
def cC.val (r:cC):Value:=.agg r.cells.toArray
def cC.ex (K:cC→Prop):Prop:=exI 256 λl=>K ⟨l⟩
theorem cC.mk_ex {K:cC→Prop} (r:cC) (hl:r.l.length=256) (h:K r):cC.ex K:=EX 256 r.l hl h
theorem cC.single (r:cC):∀ u ∈ r.cells,single u=true:=by
 intro u hu
 obtain ⟨x,_,rfl⟩:=List.mem_map.1 hu
 rfl
end Go.Proofs.YtegepanmkjemjaaGreat
namespace Go.Proofs.YtegepanmkjemjaaGreat
open Go.Proofs.Tryz
open Go.Eng IntKind
variable (w:World) (R:Value→World→Prop)
def ka (s3:Option Addr) (a b:Nat) (c:Option Addr) (d f:Nat) (g h:Int) (j:LV):LV:=[jg j 0,jg j 1,jg j 2,(.slice s3 a b),jg j 3,jg j 4,jg j 5,jg j 6,jg j 7,jg j 8,(.slice c d f),(.int .i64 g),(.int .i64 h),jg j 9,jg j 10,jg j 11,jg j 12,jg j 13,jg j 14,jg j 15,jg j 16,jg j 17,jg j 18,jg j 19,jg j 20,jg j 21,jg j 22,jg j 23,jg j 24]
def qW (s3:Option Addr) (a b:Nat) (j:LV):LV:=jq j 0 3 (.slice s3 a b::jq j 3 25 [])
def kb (s3:Option Addr) (a b:Nat) (s5:Int) (c:Option Addr) (d f:Nat) (g h i:Int) (j:LV):LV:=jq j 0 3 (.slice s3 a b::jq j 3 1 (.int .u64 s5::jq j 4 4 (.slice c d f::.int .i64 g::.int .i64 h::jq j 8 3 (.int .i64 i::jq j 11 12 []))))
def qX (s3:Option Addr) (a b:Nat) (c:Option Addr) (d f:Nat) (g h:Int) (j:LV):LV:=jq j 0 3 (.slice s3 a b::jq j 3 6 (.slice c d f::.int .i64 g::.int .i64 h::jq j 9 16 []))
theorem xB (p0:Option Addr) (a b:Nat):fnW prog f200 [.slice p0 a b] R w=(mk3 0 (i64.wrap (8 * (a:Nat))) 1 (.cells (reps (Int.toNat (i64.wrap (8 * (a:Nat)))) [.int .u8 0]).toArray 5) w λb1 w1=>bX prog (.loop (sub (aB f200) [1,1,0,1,0,0])) (ka (some ⟨b1,0,none⟩) (Int.toNat 0) (Int.toNat (i64.wrap (8 * (a:Nat)))) p0 a b (a:Nat) 0 (js p0 a b::undef::ju 0::uq 2 (js p0 a b::jn a::ji (i64.wrap (8 * (a:Nat)))::js (some ⟨b1,0,none⟩) (Int.toNat 0) (Int.toNat (i64.wrap (8 * (a:Nat))))::uq 16 []))) (aJ 0 (nx f200 [1,1,1] R)) w1):=by kernel_rfl
theorem qn (s3:Option Addr) (a b:Nat) (c:Option Addr) (d f:Nat) (g h:Int) (j:LV) (N1:LV→World→Prop):W prog (sub (aB f200) [1,1,0,1,0,0]) (ka s3 a b c d f g h j) (seqQ N1 (aJ 0 (nx f200 [1,1,1] R))) w=((bif (decide ((h:Int)<g)) then (idxS c d h 1 λad=>∃ x,w.cell? ad=some (.int .u64 x)∧bX prog (.loop (sub (aB f200) [1,1,0,1,0,0,1,1,0,0,1,1,0,0])) (kb s3 a b x c d f g h 0 (jq j 0 4 (jq j 5 4 (jb (decide ((h:Int)<g))::jp ad::ju x::jq j 13 12 [])))) (aJ 2 (aJ 1 (seqQ (λenv w=>W prog (sub (aB f200) [1,1,0,1,0,0,1,1,1]) env (seqQ N1 (aJ 0 (nx f200 [1,1,1] R))) w) (seqQ N1 (aJ 0 (nx f200 [1,1,1] R)))))) w) else (W prog (sub (aB f200) [1,1,1]) (qW s3 a b (jq j 0 9 (js c d f::ji g::ji h::jb (decide ((h:Int)<g))::jq j 10 15 []))) (retQ prog f200 R) w))):=by kernel_rfl
theorem te (s3:Option Addr) (a b:Nat) (j:LV):W prog (sub (aB f200) [1,1,1]) (qW s3 a b j) (retQ prog f200 R) w=(Calls prog 207 #[.slice s3 a b] w λe w1=>∃ c,e=.returned (.int .u64 c)∧R (.int .u64 c) w1):=by kernel_rfl
theorem qp (s3:Option Addr) (a b:Nat) (s5:Int) (c:Option Addr) (d f:Nat) (g h i:Int) (j:LV) (N1:LV→World→Prop) (N2:LV→World→Prop):W prog (sub (aB f200) [1,1,0,1,0,0,1,1,0,0,1,1,0,0]) (kb s3 a b s5 c d f g h i j) (seqQ N2 (aJ 2 (aJ 1 (seqQ (λenv w=>W prog (sub (aB f200) [1,1,0,1,0,0,1,1,1]) env (seqQ N1 (aJ 0 (nx f200 [1,1,1] R))) w) (seqQ N1 (aJ 0 (nx f200 [1,1,1] R))))))) w=((bif (decide ((i:Int)<8)) then (∀ b1 w1,b1=w.heap.size→w1=w.alloc (.cells #[.int .u8 (IntKind.u8.wrap s5)] 5)→∃ ap k l,∃ w2,(Builtin.append_ #[290,290] 290 #[.slice s3 a b,.slice (some ⟨b1,0,none⟩) 1 1]).run prog w1=.ok (.slice ap k l) w2∧N2 (kb ap k l (bshr .u64 s5 8) c d f g h (i64.wrap (i+1)) (jq j 0 11 [jb (decide ((i:Int)<8)),js s3 a b,ju s5,.int .u8 (IntKind.u8.wrap s5),js (some ⟨b1,0,none⟩) 1 1,js ap k l,ju s5,ju (bshr .u64 s5 8),ji (i64.wrap (i+1)),jg j 20,jg j 21,jg j 22])) w2) else (W prog (sub (aB f200) [1,1,0,1,0,0,1,1,1]) (qX s3 a b c d f g h (jq j 0 4 (ju s5::jq j 4 7 (ji i::jb (decide ((i:Int)<8))::jq j 12 11 [])))) (seqQ N1 (aJ 0 (nx f200 [1,1,1] R))) w))):=by kernel_rfl
theorem tf (s3:Option Addr) (a b:Nat) (c:Option Addr) (d f:Nat) (g h:Int) (j:LV) (N1:LV→World→Prop):W prog (sub (aB f200) [1,1,0,1,0,0,1,1,1]) (qX s3 a b c d f g h j) (seqQ N1 (aJ 0 (nx f200 [1,1,1] R))) w=(N1 (ka s3 a b c d f g (i64.wrap (h+1)) (jq j 0 22 [ji (i64.wrap (h+1)),jg j 23,jg j 24])) w):=by kernel_rfl
theorem xC (p0:Option Addr) (a b:Nat):fnW prog f207 [.slice p0 a b] R w=(Calls prog 208 #[.int .u64 0,.slice p0 a b] w λe w1=>∃ c,e=.returned (.int .u64 c)∧R (.int .u64 c) w1):=by kernel_rfl
theorem wL (p0:Int) (p1:Option Addr) (a b:Nat):fnW prog f208 [.int .u64 p0,.slice p1 a b] R w=(Calls prog 209 #[] w λe w1=>cC.ex λd=>e=.returned d.val∧∀ b1 w2,b1=w1.heap.size→w2=w1.alloc (.cells (List.replicate 256 (.int .u64 0)).toArray 302)→wrAt w2 ⟨b1,0,none⟩ 0 d.cells∧∀ w3,w3=puts w2 ⟨b1,0,none⟩ 0 d.cells→Calls prog 210 #[.int .u64 (bxor .u64 18446744073709551615 p0),.pointer (some ⟨b1,0,none⟩),.slice p1 a b] w3 λe w4=>∃ c,e=.returned (.int .u64 c)∧R (.int .u64 (bxor .u64 18446744073709551615 c)) w4):=by kernel_rfl
def kd (s0:Addr) (s3:Int) (j:LV):LV:=.pointer (some s0)::jq j 0 2 (.int .i64 s3::jq j 2 20 [])
def qY (a:Addr) (j:LV):LV:=.pointer (some a)::jq j 0 23 []
def ik (s0:Addr) (s1 s2 s3 s8:Int) (j:LV):LV:=.pointer (some s0)::.int .i64 s1::.int .u64 s2::.int .i64 s3::jq j 0 4 (.int .i64 s8::jq j 4 15 [])
def qZ (a:Addr) (s1 s2 s3:Int) (j:LV):LV:=.pointer (some a)::.int .i64 s1::.int .u64 s2::.int .i64 s3::jq j 0 20 []
theorem xD  : fnW prog f209 [] R w=(∀ b1 w1,b1=w.heap.size→w1=w.alloc (.cells (List.replicate 256 (.int .u64 0)).toArray 302)→bX prog (.loop (sub (aB f209) [1,0,1,0,0])) (kd ⟨b1,0,none⟩ 0 (uq 22 [])) (aJ 0 (nx f209 [1,1] R)) w1):=by kernel_rfl
theorem qq (s0:Addr) (s3:Int) (j:LV) (N1:LV→World→Prop):W prog (sub (aB f209) [1,0,1,0,0]) (kd s0 s3 j) (seqQ N1 (aJ 0 (nx f209 [1,1] R))) w=((bif (decide ((s3:Int)<256)) then (bX prog (.loop (sub (aB f209) [1,0,1,0,0,1,1,0,0,1,1,0,1,0,0])) (ik s0 s3 (u64.wrap s3) s3 0 (jb (decide ((s3:Int)<256))::ji s3::ji s3::ju (u64.wrap s3)::jq j 7 15 [])) (aJ 2 (seqQ (λenv w=>W prog (sub (aB f209) [1,0,1,0,0,1,1,0,0,1,1,1]) env (aJ 1 (seqQ (λenv w=>W prog (sub (aB f209) [1,0,1,0,0,1,1,1]) env (seqQ N1 (aJ 0 (nx f209 [1,1] R))) w) (seqQ N1 (aJ 0 (nx f209 [1,1] R))))) w) (aJ 1 (seqQ (λenv w=>W prog (sub (aB f209) [1,0,1,0,0,1,1,1]) env (seqQ N1 (aJ 0 (nx f209 [1,1] R))) w) (seqQ N1 (aJ 0 (nx f209 [1,1] R))))))) w) else (W prog (sub (aB f209) [1,1]) (qY s0 (jg j 0::jg j 1::ji s3::jb (decide ((s3:Int)<256))::jq j 3 19 [])) (retQ prog f209 R) w))):=by kernel_rfl
theorem tg (a:Addr) (j:LV):W prog (sub (aB f209) [1,1]) (qY a j) (retQ prog f209 R) w=(cC.ex λr=>aF w a 0 r.cells∧wrAt w a 0 r.cells∧∀ w1,w1=puts w a 0 r.cells→cC.ex λb=>aF w1 a 0 b.cells∧w1=w1∧R b.val w1):=by kernel_rfl
theorem qr (s0:Addr) (s1 s2 s3 s8:Int) (j:LV) (N1:LV→World→Prop) (N2:LV→World→Prop):W prog (sub (aB f209) [1,0,1,0,0,1,1,0,0,1,1,0,1,0,0]) (ik s0 s1 s2 s3 s8 j) (seqQ N2 (aJ 2 (seqQ (λenv w=>W prog (sub (aB f209) [1,0,1,0,0,1,1,0,0,1,1,1]) env (aJ 1 (seqQ (λenv w=>W prog (sub (aB f209) [1,0,1,0,0,1,1,1]) env (seqQ N1 (aJ 0 (nx f209 [1,1] R))) w) (seqQ N1 (aJ 0 (nx f209 [1,1] R))))) w) (aJ 1 (seqQ (λenv w=>W prog (sub (aB f209) [1,0,1,0,0,1,1,1]) env (seqQ N1 (aJ 0 (nx f209 [1,1] R))) w) (seqQ N1 (aJ 0 (nx f209 [1,1] R)))))))) w=((bif (decide ((s8:Int)<8)) then ((bif (((band .u64 s2 1):Int) == 1) then (N2 (ik s0 s1 (bxor .u64 (bshr .u64 s2 1) 14514072000185962306) s3 (i64.wrap (s8+1)) (jq j 0 4 (jb (decide ((s8:Int)<8))::ju s2::ju (band .u64 s2 1)::jb (((band .u64 s2 1):Int) == 1)::ju s2::ju (bshr .u64 s2 1)::ju (bxor .u64 (bshr .u64 s2 1) 14514072000185962306)::jg j 11::jg j 12::ji (i64.wrap (s8+1))::jq j 14 5 []))) w) else (N2 (ik s0 s1 (bshr .u64 s2 1) s3 (i64.wrap (s8+1)) (jq j 0 4 (jb (decide ((s8:Int)<8))::ju s2::ju (band .u64 s2 1)::jb (((band .u64 s2 1):Int) == 1)::jg j 8::jg j 9::jg j 10::ju s2::ju (bshr .u64 s2 1)::ji (i64.wrap (s8+1))::jq j 14 5 []))) w))) else (W prog (sub (aB f209) [1,0,1,0,0,1,1,0,0,1,1,1]) (qZ s0 s1 s2 s3 (jq j 0 4 (ji s8::jb (decide ((s8:Int)<8))::jq j 5 14 []))) (aJ 1 (seqQ (λenv w=>W prog (sub (aB f209) [1,0,1,0,0,1,1,1]) env (seqQ N1 (aJ 0 (nx f209 [1,1] R))) w) (seqQ N1 (aJ 0 (nx f209 [1,1] R))))) w))):=by kernel_rfl
theorem th (a:Addr) (s1 s2 s3:Int) (j:LV) (N1:LV→World→Prop):W prog (sub (aB f209) [1,0,1,0,0,1,1,0,0,1,1,1]) (qZ a s1 s2 s3 j) (aJ 1 (seqQ (λenv w=>W prog (sub (aB f209) [1,0,1,0,0,1,1,1]) env (seqQ N1 (aJ 0 (nx f209 [1,1] R))) w) (seqQ N1 (aJ 0 (nx f209 [1,1] R))))) w=(idxA a 256 s1 1 λad=>(∃ u,w.cell? ad=some u)∧w.frozen? ad=false∧∀ w1,w1=w.setCell ad (.int .u64 s2)→N1 (kd a (i64.wrap (s3+1)) (ji s1::ju s2::jq j 0 15 [ji s1,ju s2,jp ad,ji (i64.wrap (s3+1)),jg j 19])) w1):=by kernel_rfl
def mT (s0:Int) (s1:Addr) (s9:Option Addr) (a b:Nat) (c d:Int) (j:LV):LV:=.int .u64 s0::.pointer (some s1)::jq j 0 7 (.slice s9 a b::.int .i64 c::.int .i64 d::jq j 7 16 [])
def tN (s0:Int) (j:LV):LV:=.int .u64 s0::jq j 0 27 []
theorem AE (p0:Int) (p1:Nat) (p2:Option Addr) (a b:Nat):fnW prog f210 [.int .u64 p0,.pointer (some ⟨p1,0,none⟩),.slice p2 a b] R w=(bX prog (.loop (sub (aB f210) [1,0,1,0,0])) (mT p0 ⟨p1,0,none⟩ p2 a b (a:Nat) 0 (js p2 a b::uq 3 (ju 0::uq 18 []))) (aJ 0 (nx f210 [1,1] R)) w):=by kernel_rfl
theorem rP (s0:Int) (s1:Addr) (s9:Option Addr) (a b:Nat) (c d:Int) (j:LV) (N1:LV→World→Prop):W prog (sub (aB f210) [1,0,1,0,0]) (mT s0 s1 s9 a b c d j) (seqQ N1 (aJ 0 (nx f210 [1,1] R))) w=((bif (decide ((d:Int)<c)) then (idxS s9 a d 1 λad=>∃ x,w.cell? ad=some (.int .u8 x)∧idxA s1 256 (bxor .u8 (IntKind.u8.wrap s0) x) 1 λf=>∃ x1,w.cell? f=some (.int .u64 x1)∧N1 (mT (bxor .u64 (bshr .u64 s0 8) x1) s1 s9 a b c (i64.wrap (d+1)) (jq j 0 6 [.int .u8 x,jb (decide ((d:Int)<c)),jp ad,.int .u8 x,ju s0,ju (bshr .u64 s0 8),jp s1,ju s0,.int .u8 (IntKind.u8.wrap s0),.int .u8 x,.int .u8 (bxor .u8 (IntKind.u8.wrap s0) x),jp s1,jp f,ju x1,ju (bxor .u64 (bshr .u64 s0 8) x1),ji (i64.wrap (d+1)),jg j 22])) w) else (W prog (sub (aB f210) [1,1]) (tN s0 (jp s1::jq j 0 7 (js s9 a b::ji c::ji d::jb (decide ((d:Int)<c))::jq j 8 15 []))) (retQ prog f210 R) w))):=by kernel_rfl
theorem uJ (s0:Int) (j:LV):W prog (sub (aB f210) [1,1]) (tN s0 j) (retQ prog f210 R) w=(R (.int .u64 s0) w):=by kernel_rfl
end Go.Proofs.YtegepanmkjemjaaGreat
namespace Go.Proofs.YtegepanmkjemjaaGreat
open Go.Eng
def Fg (r:Int):Int:=if band .u64 r 1=1 then bxor .u64 (bshr .u64 r 1) 14514072000185962306 else bshr .u64 r 1
def q9:Nat→Int→Int
 | 0,r=>r
 |n+1,r=>Fg (q9 n r)
def zO (i:Nat):Int:=q9 8 i
def eK:List Int:=(List.range 256).map zO
def tabL (i:Nat):List Int:=(List.range i).map zO++List.replicate (256 - i) 0
theorem Dr {i:Nat} (h:i≤256):(tabL i).length=256:=by simp [tabL];omega
theorem Dt {i:Nat} (h:i<256):(tabL i).set i (zO i)=tabL (i+1):=by
 unfold tabL
 rw [List.range_succ,List.map_append,List.set_append]
 simp only [List.length_map,List.length_range,Nat.lt_irrefl,if_false,Nat.sub_self]
 obtain ⟨m,hm⟩:∃ m,256 - i=m+1:=⟨255 - i,by omega⟩
 have e:256 - (i+1)=m:=by omega
 rw [hm,e,List.replicate_succ,List.set_cons_zero]
 simp
theorem Du:tabL 256=eK:=by simp [tabL,eK]
theorem Fh (n:Nat):us (List.replicate n 0)=List.replicate n (.int .u64 0):=by simp [us]
theorem Fi (l:List Int) (i:Nat) (x:Int):(us l).set i (.int .u64 x)=us (l.set i x):=by simp [us]
theorem xE (l:List Int):cC.cells ⟨l⟩=us l:=rfl
abbrev TTb:TypeId:=302
set_option maxRecDepth 20000 in
theorem AF (w:World):Does 209 [] w λv w'=>v=cC.val ⟨eK⟩∧New w w':=by
 refine does Tryz.func209 ?_
 rw [xD]
 rintro b1 w1 hb1 hw1
 obtain ⟨hz1,hn1⟩:=aO hb1 hw1
 have hz1:Blk w1 b1 (us (tabL 0)) TTb:=by
  have e:us (tabL 0)=List.replicate 256 (.int .u64 0):=Fh 256
  rw [e]
  exact hz1
 clear hw1
 refine aR mix (λm env u=>∃ (i:Nat) (jj:List Value),m=256 - i∧i≤256∧env=kd ⟨b1,0,none⟩ i jj∧New w u∧Blk u b1 (us (tabL i)) TTb) 256 ⟨0,_,rfl,by omega,rfl,hn1,hz1⟩ ?_
 rintro m env u ⟨i,jj,rfl,hi,rfl,hnu,hzu⟩
 rw [qq]
 refine aI (λhlt=>?_) (λhge=>?_)
 ·rw [wu64 (x:=(i:Int)) (by omega) (by omega)]
  refine aR mix (λm2 env2 y=>∃ (k:Nat) (jj:List Value),m2=8 - k∧k≤8∧env2=ik ⟨b1,0,none⟩ i (q9 k i) i k jj∧y=u) 8 ⟨0,_,rfl,by omega,rfl,rfl⟩ ?_
  rintro m2 env2 y ⟨k,jj2,rfl,hk,rfl,rfl⟩
  rw [qr,w64 (x:=(k:Int)+1) (by omega) (by omega)]
  refine aI (λhk8=>?_) (λhk8=>?_)
  ·refine bG (λh1=>?_) (λh1=>?_)
   ·have e:q9 (k+1) i=bxor .u64 (bshr .u64 (q9 k i) 1) 14514072000185962306:=if_pos h1
    rw [←e]
    exact ⟨8 - (k+1),by omega,k+1,_,rfl,by omega,rfl,rfl⟩
   ·have e:q9 (k+1) i=bshr .u64 (q9 k i) 1:=if_neg h1
    rw [←e]
    exact ⟨8 - (k+1),by omega,k+1,_,rfl,by omega,rfl,rfl⟩
  ·have hk8:k=8:=by omega
   subst hk8
   rw [th,w64 (x:=(i:Int)+1) (by omega) (by omega)]
   refine eG (by omega) (by omega) ?_
   have e2:0+(i:Int).toNat * 1=i:=by omega
   rw [e2]
   refine mb hzu (o:=i) (by rw [kj,Dr hi];omega) λw2 hz2 hk2=>?_
   rw [Fi,show q9 8 (i:Int)=zO i from rfl,Dt (by omega)] at hz2
   have hs:=hn1.size
   exact ⟨256 - (i+1),by omega,i+1,_,rfl,by omega,rfl,hnu.trans hk2 λk hlt e=>by omega,hz2⟩
 ·have hi2:i=256:=by omega
  subst hi2
  rw [tg]
  rw [Du] at hzu
  have hl:eK.length=256:=by simp [eK]
  refine cC.mk_ex ⟨eK⟩ hl ⟨aK hzu (by rw [xE];exact List.take_of_length_le (Nat.le_refl _)),?_⟩
  refine g8 (vs:=us eK) hzu rfl (kk _) λw2 hz2 hk2=>?_
  exact cC.mk_ex ⟨eK⟩ hl ⟨aK hz2 (by rw [xE];exact List.take_of_length_le (Nat.le_refl _)),rfl,rfl,hnu.trans hk2 λk hlt e=>by have:=hn1.size;omega⟩
def q0 (r x:Int):Int:=bxor .u64 (bshr .u64 r 8) (eK.getD (bxor .u8 (IntKind.u8.wrap r) x).toNat 0)
theorem Iz (x:Int):0≤IntKind.u8.wrap x∧IntKind.u8.wrap x<256:=by
 simp only [IntKind.wrap,IntKind.bits,IntKind.signed]
 simp
 omega
def bys (l:List Int):List Value:=l.map (Value.int .u8)
theorem BK {l:List Int} {i:Nat} {x:Int} (h:l[i]?=some x):(bys l)[i]?=some (.int .u8 x):=by simp [bys,h]
theorem tj {f:Int→Int→Int} {l:List Int} {i:Nat} {x r:Int} (h:l[i]?=some x):(l.take (i+1)).foldl f r=f ((l.take i).foldl f r) x:=by
 rw [List.take_add_one,h,List.foldl_append]
 rfl
theorem Dv {w:World} (r:Int) {tb:Nat} (ht:Blk w tb (us eK) TTb) {a:Option Addr} {n c:Nat} {l:List Int} (hr:Rd w a (bys l)) (hn:n=l.length) (hf:n≤1000000) :
  Does 210 [.int .u64 r,.pointer (some ⟨tb,0,none⟩),.slice a n c] w λv w'=>v=.int .u64 (l.foldl q0 r)∧w'=w:=by
 subst hn
 refine does Tryz.func210 ?_
 rw [AE]
 refine aR mix (λm env u=>∃ (i:Nat) (jj:List Value),m=l.length - i∧i≤l.length∧env=mT ((l.take i).foldl q0 r) ⟨tb,0,none⟩ a l.length c l.length i jj∧u=w) l.length ⟨0,_,rfl,by omega,rfl,rfl⟩ ?_
 rintro m env u ⟨i,jj,rfl,hi,rfl,rfl⟩
 rw [rP]
 refine aI (λhlt=>?_) (λhge=>?_)
 ·obtain ⟨x,hx⟩:∃ x,l[i]?=some x:=⟨_,List.getElem?_eq_getElem (by omega)⟩
  rcases hr with he | ⟨b,o,rfl,hc⟩
  ·have h0:l.length=0:=by
    have:=congrArg List.length he
    rwa [bys,List.length_map] at this
   omega
  refine bB (by omega) (by omega) ⟨x,by simpa using hc i _ (BK hx),?_⟩
  have hin:0≤bxor .u8 (IntKind.u8.wrap ((l.take i).foldl q0 r)) x∧bxor .u8 (IntKind.u8.wrap ((l.take i).foldl q0 r)) x<256:=Iz _
  have hl:eK.length=256:=by simp [eK]
  refine eG hin.1 hin.2 ?_
  generalize hq:bxor .u8 (IntKind.u8.wrap ((l.take i).foldl q0 r)) x=q at hin ⊢
  obtain ⟨y,hy⟩:∃ y,eK[q.toNat]?=some y:=⟨_,List.getElem?_eq_getElem (by omega)⟩
  refine ⟨y,by rw [Nat.mul_one];exact Blk.cell ht (by simpa using xx hy),?_⟩
  rw [w64 (x:=(i:Int)+1) (by omega) (by omega)]
  have e:(l.take (i+1)).foldl q0 r=bxor .u64 (bshr .u64 ((l.take i).foldl q0 r) 8) y:=by
   rw [tj hx]
   generalize (l.take i).foldl q0 r=z at hq
   show bxor .u64 (bshr .u64 z 8) (eK.getD (bxor .u8 (IntKind.u8.wrap z) x).toNat 0)=_
   rw [hq,List.getD_eq_getElem?_getD,hy]
   rfl
  rw [←e]
  exact ⟨l.length - (i+1),by omega,i+1,_,rfl,by omega,rfl,rfl⟩
 ·have hil:i=l.length:=by omega
  subst hil
  rw [uJ,List.take_length]
  exact ⟨rfl,rfl⟩
def zP (r:Int) (l:List Int):Int:=bxor .u64 18446744073709551615 (l.foldl q0 (bxor .u64 18446744073709551615 r))
theorem yX {w:World} (r:Int) {a:Option Addr} {n c:Nat} {l:List Int} (hr:Rd w a (bys l)) (hn:n=l.length) (hf:n≤1000000) :
  Does 208 [.int .u64 r,.slice a n c] w λv w'=>v=.int .u64 (zP r l)∧New w w':=by
 refine does Tryz.func208 ?_
 rw [wL]
 refine aG (AF w) ?_
 rintro v w1 ⟨rfl,hn1⟩
 have hl:eK.length=256:=by simp [eK]
 refine cC.mk_ex ⟨eK⟩ hl ⟨rfl,?_⟩
 refine ii (zs:=List.replicate 256 (.int .u64 0)) (vs:=us eK) (by rw [kj,List.length_replicate];exact hl) (kk _) λb w3 hb hz hn3=>?_
 refine aG (Dv _ hz (hr.new (hn1.new hn3)) hn hf) ?_
 rintro v w4 ⟨rfl,rfl⟩
 exact ⟨_,rfl,rfl,hn1.new hn3⟩
theorem AG {w:World} {a:Option Addr} {n c:Nat} {l:List Int} (hr:Rd w a (bys l)) (hn:n=l.length) (hf:n≤1000000) :
  Does 207 [.slice a n c] w λv w'=>v=.int .u64 (zP 0 l)∧New w w':=by
 refine does Tryz.func207 ?_
 rw [xC]
 refine aG (yX 0 hr hn hf) ?_
 rintro v w1 ⟨rfl,hn1⟩
 exact ⟨_,rfl,rfl,hn1⟩
def shr8:Nat→Int→Int
 | 0,x=>x
 |k+1,x=>bshr .u64 (shr8 k x) 8
def wby (x:Int):List Int:=(List.range 8).map λk=>IntKind.u8.wrap (shr8 k x)
theorem Fj (x:Int):(wby x).length=8:=by unfold wby;rw [List.length_map,List.length_range]
def xF (ws:List Int):List Int:=(ws.map wby).flatten
def crcW (ws:List Int):Int:=zP 0 (xF ws)
theorem BL (ws:List Int):(xF ws).length=8 * ws.length:=by
 induction ws with
 |nil=>rfl
 |cons x ws ih=>
  have:xF (x::ws)=wby x++xF ws:=rfl
  rw [this,List.length_append,ih]
  simp [wby]
  omega
theorem Dw (ws:List Int):U64 (crcW ws):=by
 unfold crcW zP U64
 generalize (List.foldl q0 _ _)=z
 simp only [bxor,IntKind.wrap,IntKind.bits,IntKind.signed]
 simp
 omega
abbrev TBy:TypeId:=5
def tkB (ws:List Int) (i k:Nat):List Int:=xF (ws.take i)++((wby (ws.getD i 0)).take k)
theorem AH {w:World} {a:Option Addr} {n c:Nat} {ws:List Int} (hr:Rd w a (us ws)) (hn:n=ws.length) (hf:n≤10000) :
  Does 200 [.slice a n c] w λv w'=>v=.int .u64 (crcW ws)∧New w w':=by
 subst hn
 refine does Tryz.func200 ?_
 rw [xB,w64 (x:=8 * (ws.length:Int)) (by omega) (by omega)]
 refine ⟨by omega,by omega,by omega,by omega,?_⟩
 rintro b1 w1 hb1 hw1
 obtain ⟨hz1,hn1⟩:=aO hb1 hw1
 clear hw1
 obtain ⟨inf,hinf,hzz,hsz,hby⟩:=jQ (T:=TBy) (z:=.int .u8 0) (n:=1) (m:=1) (by kernel_rfl)
 have e8:Int.toNat (8 * (ws.length:Int))=8 * ws.length:=by omega
 have hown:Owns w1 TBy 1 (some ⟨b1,0,none⟩) 0 (8 * ws.length) (bys []):=by
  refine ⟨rfl,.inr ⟨b1,_,rfl,hz1,by omega,by unfold maxLen;omega,?_,by simp [bys]⟩⟩
  rw [e8]
  simp [reps]
 refine aR mix (λm env u=>∃ (i:Nat) (pa:Option Addr) (pc:Nat) (jj:List Value),m=ws.length - i∧i≤ws.length∧env=ka pa (8 * i) pc a ws.length c ws.length i jj∧New w u∧Owns u TBy 1 pa (8 * i) pc (bys (xF (ws.take i)))∧∀ k,isB pa k→w.heap.size≤k) ws.length
  ⟨0,some ⟨b1,0,none⟩,8 * ws.length,_,rfl,by omega,by rw [e8];rfl,hn1,hown,λk hk=>?_⟩ ?_
 ·obtain ⟨o,ho⟩:=hk
  simp at ho
  omega
 rintro m env u ⟨i,pa,pc,jj,rfl,hi,rfl,hnu,ho,hpf⟩
 rw [qn]
 refine aI (λhlt=>?_) (λhge=>?_)
 ·obtain ⟨x,hx⟩:∃ x,ws[i]?=some x:=⟨_,List.getElem?_eq_getElem (by omega)⟩
  have hxd:ws.getD i 0=x:=by rw [List.getD_eq_getElem?_getD,hx];rfl
  have hru:=hr.new hnu
  rcases hru with he | ⟨b,o,rfl,hc⟩
  ·have h0:ws.length=0:=by
    have:=congrArg List.length he
    rwa [us,List.length_map] at this
   omega
  refine bB (by omega) (by omega) ⟨x,by simpa using hc i _ (xx hx),?_⟩
  refine aR mix (λm2 env2 y=>∃ (k:Nat) (pa:Option Addr) (pc:Nat) (jj:List Value),m2=8 - k∧k≤8∧env2=kb pa (8 * i+k) pc (shr8 k x) (some ⟨b,o,none⟩) ws.length c ws.length i k jj∧New w y∧Owns y TBy 1 pa (8 * i+k) pc (bys (tkB ws i k))∧∀ k,isB pa k→w.heap.size≤k) 8
   ⟨0,pa,pc,_,rfl,by omega,rfl,hnu,by simpa [tkB] using ho,hpf⟩ ?_
  rintro m2 env2 y ⟨k,qa,qc,jj2,rfl,hk,rfl,hny,hoy,hqf⟩
  rw [qp]
  refine aI (λhk8=>?_) (λhk8=>?_)
  ·have hoy':Owns y TBy inf.size qa (8 * i+k) qc (bys (tkB ws i k)):=by rw [hsz];exact hoy
   refine push_k (vs:=[.int .u8 (IntKind.u8.wrap (shr8 k x))]) Tryz.underlying290 hinf hzz (by rw [hsz];rfl) (by omega) hoy' (by rw [hsz];rfl) (by intro v hv;simp at hv;subst hv;rfl) (by omega) (by omega) ?_
   intro b3 ap cap' w3 hb3 h1 hk3 hap
   rw [hsz] at h1
   rw [w64 (x:=(k:Int)+1) (by omega) (by omega)]
   refine ⟨8 - (k+1),by omega,k+1,ap,cap',_,rfl,by omega,rfl,ma hny hk3 hqf,?_,?_⟩
   ·have e:bys (tkB ws i k)++[Value.int .u8 (IntKind.u8.wrap (shr8 k x))]=bys (tkB ws i (k+1)):=by
     unfold tkB
     rw [hxd,List.take_add_one,show (wby x)[k]?=some (IntKind.u8.wrap (shr8 k x)) by simp [wby,List.getElem?_range (show k<8 by omega)]]
     simp [bys]
    rw [←e]
    exact h1
   ·intro q hq
    rcases hap q hq with e | e
    ·exact hqf q e
    ·have:=hny.size;omega
  ·have hk8:k=8:=by omega
   subst hk8
   rw [tf,w64 (x:=(i:Int)+1) (by omega) (by omega)]
   refine ⟨ws.length - (i+1),by omega,i+1,qa,qc,_,rfl,by omega,rfl,hny,?_,hqf⟩
   have e:tkB ws i 8=xF (ws.take (i+1)):=by
    have e1:ws.take (i+1)=ws.take i++[x]:=by rw [List.take_add_one,hx];rfl
    unfold tkB xF
    rw [hxd,e1,List.map_append,List.flatten_append,List.take_of_length_le (i:=8) (by rw [Fj];omega)]
    simp
   rw [e] at hoy
   exact hoy
 ·have hil:i=ws.length:=by omega
  subst hil
  rw [te]
  rw [List.take_length] at ho
  refine aG (AG ho.rd (BL ws).symm (by omega)) ?_
  rintro v w5 ⟨rfl,hn5⟩
  exact ⟨_,rfl,rfl,hnu.new hn5⟩
end Go.Proofs.YtegepanmkjemjaaGreat
