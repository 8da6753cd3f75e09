import Derived.Test.YtegepanmkjemjaaGreatProg
import Derived.Test.YtegepanmkjemjaaGreatr01
import Derived.Test.YtegepanmkjemjaaGreatr02
import Derived.RangeFuncNested
import Derived.RangeFuncBound
import Derived.RangeFuncCalls
import Derived.RangeFuncLeaves
set_option linter.unusedVariables false
namespace Go.Proofs.YtegepanmkjemjaaGreat
open Go.Proofs.Tryz
open Go.Eng
abbrev nx (f:Func) (p:List Nat) (R:Value→World→Prop):Exit→List Value→World→Prop:=seqQ (λenv w=>W prog (sub (aE f) p) env (retQ prog f R) w) (retQ prog f R)
structure aK where
 Kind:Int
 Node:Int
 At:Int
 N:Int
 Old:Int
 New:Int
 Words:Option Addr
 Wl:Nat
 Wc:Nat
 Key:Int
 Boot:Int
def aK.cells (r:aK):List Value:=[.int .i64 r.Kind,.int .i64 r.Node,.int .i64 r.At,.int .i64 r.N,.int .u64 r.Old,.int .u64 r.New,.slice r.Words r.Wl r.Wc,.int .u64 r.Key,.int .i64 r.Boot]
def aK.val (r:aK):Value:=.agg r.cells.toArray
def aK.ex (K:aK→Prop):Prop:=∃ (xKind:Int) (xNode:Int) (xAt:Int) (xN:Int) (xOld:Int) (xNew:Int) (xWords:Option Addr) (xWords_l:Nat) (xWords_c:Nat) (xKey:Int) (xBoot:Int),K ⟨xKind,xNode,xAt,xN,xOld,xNew,xWords,xWords_l,xWords_c,xKey,xBoot⟩
theorem aK.mk_ex {K:aK→Prop} (r:aK) (h:K r):aK.ex K:=⟨_,_,_,_,_,_,_,_,_,_,_,h⟩
theorem aK.len (r:aK):r.cells.length=9:=rfl
theorem aK.single (r:aK):∀ u ∈ r.cells,single u=true:=by
 intro u hu
 simp only [aK.cells,List.mem_cons,List.not_mem_nil,or_false] at hu
 rcases hu with rfl | rfl | rfl | rfl | rfl | rfl | rfl | rfl | rfl<;>rfl
structure bD where
 Code:Int
 Words:Option Addr
 Wl:Nat
 Wc:Nat
def bD.cells (r:bD):List Value:=[.int .i64 r.Code,.slice r.Words r.Wl r.Wc]
def bD.val (r:bD):Value:=.agg r.cells.toArray
def bD.ex (K:bD→Prop):Prop:=∃ (xCode:Int) (xWords:Option Addr) (xWords_l:Nat) (xWords_c:Nat),K ⟨xCode,xWords,xWords_l,xWords_c⟩
theorem bD.mk_ex {K:bD→Prop} (r:bD) (h:K r):bD.ex K:=⟨_,_,_,_,h⟩
theorem bD.len (r:bD):r.cells.length=2:=rfl
theorem bD.single (r:bD):∀ u ∈ r.cells,single u=true:=by
 intro u hu
 simp only [bD.cells,List.mem_cons,List.not_mem_nil,or_false] at hu
 rcases hu with rfl | rfl<;>rfl
structure aN where
 Number:Int
 Members:Option Addr
 Members_l:Nat
 Members_c:Nat
def aN.cells (r:aN):List Value:=[.int .i64 r.Number,.slice r.Members r.Members_l r.Members_c]
def aN.val (r:aN):Value:=.agg r.cells.toArray
def aN.ex (K:aN→Prop):Prop:=∃ (xNumber:Int) (xMembers:Option Addr) (xMembers_l:Nat) (xMembers_c:Nat),K ⟨xNumber,xMembers,xMembers_l,xMembers_c⟩
theorem aN.mk_ex {K:aN→Prop} (r:aN) (h:K r):aN.ex K:=⟨_,_,_,_,h⟩
theorem aN.single (r:aN):∀ u ∈ r.cells,single u=true:=by
 intro u hu
 simp only [aN.cells,List.mem_cons,List.not_mem_nil,or_false] at hu
 rcases hu with rfl | rfl<;>rfl
structure aL where
 Client:Int
 Seq:Int
 Lines:Int
 View:aN
 Reads:Option Addr
 Reads_l:Nat
 Reads_c:Nat
 Writes:Option Addr
 Writes_l:Nat
 Writes_c:Nat
def aL.cells (r:aL):List Value:=[.int .i64 r.Client,.int .i64 r.Seq,.int .i64 r.Lines,.int .i64 r.View.Number,.slice r.View.Members r.View.Members_l r.View.Members_c,.slice r.Reads r.Reads_l r.Reads_c,.slice r.Writes r.Writes_l r.Writes_c]
def aL.val (r:aL):Value:=.agg r.cells.toArray
def aL.ex (K:aL→Prop):Prop:=∃ (xClient:Int) (xSeq:Int) (xLines:Int) (xView_Number:Int) (xView_Members:Option Addr) (xView_Members_l:Nat) (xView_Members_c:Nat) (xReads:Option Addr) (xReads_l:Nat) (xReads_c:Nat) (xWrites:Option Addr) (xWrites_l:Nat) (xWrites_c:Nat),K ⟨xClient,xSeq,xLines,⟨xView_Number,xView_Members,xView_Members_l,xView_Members_c⟩,xReads,xReads_l,xReads_c,xWrites,xWrites_l,xWrites_c⟩
theorem aL.mk_ex {K:aL→Prop} (r:aL) (h:K r):aL.ex K:=⟨_,_,_,_,_,_,_,_,_,_,_,_,_,h⟩
theorem aL.single (r:aL):∀ u ∈ r.cells,single u=true:=by
 intro u hu
 simp only [aL.cells,List.mem_cons,List.not_mem_nil,or_false] at hu
 rcases hu with rfl | rfl | rfl | rfl | rfl | rfl | rfl<;>rfl
structure bS where
 Nodes:Int
def bS.cells (r:bS):List Value:=[.int .i64 r.Nodes]
def bS.val (r:bS):Value:=.agg r.cells.toArray
def bS.ex (K:bS→Prop):Prop:=∃ (xNodes:Int),K ⟨xNodes⟩
theorem bS.mk_ex {K:bS→Prop} (r:bS) (h:K r):bS.ex K:=⟨_,h⟩
theorem bS.single (r:bS):∀ u ∈ r.cells,single u=true:=by
 intro u hu
 simp only [bS.cells,List.mem_cons,List.not_mem_nil,or_false] at hu
 rcases hu with rfl<;>rfl
structure dL where
 Nodes:Int
 Number:Int
 Client:Int
 Round:Int
 Val:Int
def dL.cells (r:dL):List Value:=[.int .i64 r.Nodes,.int .i64 r.Number,.int .i64 r.Client,.int .i64 r.Round,.int .u64 r.Val]
def dL.val (r:dL):Value:=.agg r.cells.toArray
def dL.ex (K:dL→Prop):Prop:=∃ (xNodes:Int) (xNumber:Int) (xClient:Int) (xRound:Int) (xVal:Int),K ⟨xNodes,xNumber,xClient,xRound,xVal⟩
theorem dL.mk_ex {K:dL→Prop} (r:dL) (h:K r):dL.ex K:=⟨_,_,_,_,_,h⟩
theorem dL.single (r:dL):∀ u ∈ r.cells,single u=true:=by
 intro u hu
 simp only [dL.cells,List.mem_cons,List.not_mem_nil,or_false] at hu
 rcases hu with rfl | rfl | rfl | rfl | rfl<;>rfl
structure aB where
 Kind:Int
 Client:Int
 Discover:bS
 Paxos:dL
 Commit:aL
 Got:Option Addr
 Got_l:Nat
 Got_c:Nat
 Over:Bool
 Bad:Bool
 Code:Int
 View:aN
 Status:Int
 Doors:Option Addr
 Doors_l:Nat
 Doors_c:Nat
 Val:Int
 Fate:Int
def aB.cells (r:aB):List Value:=[.int .i64 r.Kind,.int .i64 r.Client,.int .i64 r.Discover.Nodes,.int .i64 r.Paxos.Nodes,.int .i64 r.Paxos.Number,.int .i64 r.Paxos.Client,.int .i64 r.Paxos.Round,.int .u64 r.Paxos.Val,.int .i64 r.Commit.Client,.int .i64 r.Commit.Seq,.int .i64 r.Commit.Lines,.int .i64 r.Commit.View.Number,.slice r.Commit.View.Members r.Commit.View.Members_l r.Commit.View.Members_c,.slice r.Commit.Reads r.Commit.Reads_l r.Commit.Reads_c,.slice r.Commit.Writes r.Commit.Writes_l r.Commit.Writes_c,.slice r.Got r.Got_l r.Got_c,.bool r.Over,.bool r.Bad,.int .i64 r.Code,.int .i64 r.View.Number,.slice r.View.Members r.View.Members_l r.View.Members_c,.int .i64 r.Status,.slice r.Doors r.Doors_l r.Doors_c,.int .u64 r.Val,.int .i64 r.Fate]
def aB.val (r:aB):Value:=.agg r.cells.toArray
def aB.ex (K:aB→Prop):Prop:=∃ (xKind:Int) (xClient:Int) (xDiscover_Nodes:Int) (xPaxos_Nodes:Int) (xPaxos_Number:Int) (xPaxos_Client:Int) (xPaxos_Round:Int) (xPaxos_Val:Int) (xCommit_Client:Int) (xCommit_Seq:Int) (xCommit_Lines:Int) (xCommit_View_Number:Int) (xCommit_View_Members:Option Addr) (xCommit_View_Members_l:Nat) (xCommit_View_Members_c:Nat) (xCommit_Reads:Option Addr) (xCommit_Reads_l:Nat) (xCommit_Reads_c:Nat) (xCommit_Writes:Option Addr) (xCommit_Writes_l:Nat) (xCommit_Writes_c:Nat) (xGot:Option Addr) (xGot_l:Nat) (xGot_c:Nat) (xOver:Bool) (xBad:Bool) (xCode:Int) (xView_Number:Int) (xView_Members:Option Addr) (xView_Members_l:Nat) (xView_Members_c:Nat) (xStatus:Int) (xDoors:Option Addr) (xDoors_l:Nat) (xDoors_c:Nat) (xVal:Int) (xFate:Int),K ⟨xKind,xClient,⟨xDiscover_Nodes⟩,⟨xPaxos_Nodes,xPaxos_Number,xPaxos_Client,xPaxos_Round,xPaxos_Val⟩,⟨xCommit_Client,xCommit_Seq,xCommit_Lines,⟨xCommit_View_Number,xCommit_View_Members,xCommit_View_Members_l,xCommit_View_Members_c⟩,xCommit_Reads,xCommit_Reads_l,xCommit_Reads_c,xCommit_Writes,xCommit_Writes_l,xCommit_Writes_c⟩,xGot,xGot_l,xGot_c,xOver,xBad,xCode,⟨xView_Number,xView_Members,xView_Members_l,xView_Members_c⟩,xStatus,xDoors,xDoors_l,xDoors_c,xVal,xFate⟩
theorem aB.mk_ex {K:aB→Prop} (r:aB) (h:K r):aB.ex K:=⟨_,_,_,_,_,_,_,_,_,_,_,_,_,_,_,_,_,_,_,_,_,_,_,_,_,_,_,_,_,_,_,_,_,_,_,_,_,h⟩
theorem aB.single (r:aB):∀ u ∈ r.cells,single u=true:=by
 intro u hu
 simp only [aB.cells,List.mem_cons,List.not_mem_nil,or_false] at hu
 rcases hu with rfl | rfl | rfl | rfl | rfl | rfl | rfl | rfl | rfl | rfl | rfl | rfl | rfl | rfl | rfl | rfl | rfl | rfl | rfl | rfl | rfl | rfl | rfl | rfl | rfl<;>rfl
structure aG where
 Line:Int
 Head:Int
 Data0:Int
 Data1:Int
 Data2:Int
 Data3:Int
 Data4:Int
 Data5:Int
 Data6:Int
def aG.cells (r:aG):List Value:=[.int .i64 r.Line,.int .u64 r.Head,.int .u64 r.Data0,.int .u64 r.Data1,.int .u64 r.Data2,.int .u64 r.Data3,.int .u64 r.Data4,.int .u64 r.Data5,.int .u64 r.Data6]
def aG.val (r:aG):Value:=.agg r.cells.toArray
def aG.ex (K:aG→Prop):Prop:=∃ (xLine:Int) (xHead:Int) (xData0:Int) (xData1:Int) (xData2:Int) (xData3:Int) (xData4:Int) (xData5:Int) (xData6:Int),K ⟨xLine,xHead,xData0,xData1,xData2,xData3,xData4,xData5,xData6⟩
theorem aG.mk_ex {K:aG→Prop} (r:aG) (h:K r):aG.ex K:=⟨_,_,_,_,_,_,_,_,_,h⟩
theorem aG.len (r:aG):r.cells.length=9:=rfl
theorem aG.single (r:aG):∀ u ∈ r.cells,single u=true:=by
 intro u hu
 simp only [aG.cells,List.mem_cons,List.not_mem_nil,or_false] at hu
 rcases hu with rfl | rfl | rfl | rfl | rfl | rfl | rfl | rfl | rfl<;>rfl
structure aU where
 Line:Int
 Head:Int
def aU.cells (r:aU):List Value:=[.int .i64 r.Line,.int .u64 r.Head]
def aU.val (r:aU):Value:=.agg r.cells.toArray
def aU.ex (K:aU→Prop):Prop:=∃ (xLine:Int) (xHead:Int),K ⟨xLine,xHead⟩
theorem aU.mk_ex {K:aU→Prop} (r:aU) (h:K r):aU.ex K:=⟨_,_,h⟩
theorem aU.len (r:aU):r.cells.length=2:=rfl
theorem aU.single (r:aU):∀ u ∈ r.cells,single u=true:=by
 intro u hu
 simp only [aU.cells,List.mem_cons,List.not_mem_nil,or_false] at hu
 rcases hu with rfl | rfl<;>rfl
structure bC where
 At:Int
 Kind:Int
 A:Int
def bC.cells (r:bC):List Value:=[.int .i64 r.At,.int .i64 r.Kind,.int .i64 r.A]
def bC.val (r:bC):Value:=.agg r.cells.toArray
def bC.ex (K:bC→Prop):Prop:=∃ (xAt:Int) (xKind:Int) (xA:Int),K ⟨xAt,xKind,xA⟩
theorem bC.mk_ex {K:bC→Prop} (r:bC) (h:K r):bC.ex K:=⟨_,_,_,h⟩
theorem bC.single (r:bC):∀ u ∈ r.cells,single u=true:=by
 intro u hu
 simp only [bC.cells,List.mem_cons,List.not_mem_nil,or_false] at hu
 rcases hu with rfl | rfl | rfl<;>rfl
structure aC where
 Node:Int
 Boot:Int
 Full:Bool
def aC.cells (r:aC):List Value:=[.int .i64 r.Node,.int .i64 r.Boot,.bool r.Full]
def aC.val (r:aC):Value:=.agg r.cells.toArray
def aC.ex (K:aC→Prop):Prop:=∃ (xNode:Int) (xBoot:Int) (xFull:Bool),K ⟨xNode,xBoot,xFull⟩
theorem aC.mk_ex {K:aC→Prop} (r:aC) (h:K r):aC.ex K:=⟨_,_,_,h⟩
theorem aC.len (r:aC):r.cells.length=3:=rfl
theorem aC.single (r:aC):∀ u ∈ r.cells,single u=true:=by
 intro u hu
 simp only [aC.cells,List.mem_cons,List.not_mem_nil,or_false] at hu
 rcases hu with rfl | rfl | rfl<;>rfl
structure bE where
 Code:Int
 Number:Int
 View:aN
 Status:Int
 Opened:Bool
 Hint:Int
 Boots:Option Addr
 Boots_l:Nat
 Boots_c:Nat
 Keys:Option Addr
 Keys_l:Nat
 Keys_c:Nat
 Doors:Option Addr
 Doors_l:Nat
 Doors_c:Nat
def bE.cells (r:bE):List Value:=[.int .i64 r.Code,.int .i64 r.Number,.int .i64 r.View.Number,.slice r.View.Members r.View.Members_l r.View.Members_c,.int .i64 r.Status,.bool r.Opened,.int .u64 r.Hint,.slice r.Boots r.Boots_l r.Boots_c,.slice r.Keys r.Keys_l r.Keys_c,.slice r.Doors r.Doors_l r.Doors_c]
def bE.val (r:bE):Value:=.agg r.cells.toArray
def bE.ex (K:bE→Prop):Prop:=∃ (xCode:Int) (xNumber:Int) (xView_Number:Int) (xView_Members:Option Addr) (xView_Members_l:Nat) (xView_Members_c:Nat) (xStatus:Int) (xOpened:Bool) (xHint:Int) (xBoots:Option Addr) (xBoots_l:Nat) (xBoots_c:Nat) (xKeys:Option Addr) (xKeys_l:Nat) (xKeys_c:Nat) (xDoors:Option Addr) (xDoors_l:Nat) (xDoors_c:Nat),K ⟨xCode,xNumber,⟨xView_Number,xView_Members,xView_Members_l,xView_Members_c⟩,xStatus,xOpened,xHint,xBoots,xBoots_l,xBoots_c,xKeys,xKeys_l,xKeys_c,xDoors,xDoors_l,xDoors_c⟩
theorem bE.mk_ex {K:bE→Prop} (r:bE) (h:K r):bE.ex K:=⟨_,_,_,_,_,_,_,_,_,_,_,_,_,_,_,_,_,_,h⟩
theorem bE.single (r:bE):∀ u ∈ r.cells,single u=true:=by
 intro u hu
 simp only [bE.cells,List.mem_cons,List.not_mem_nil,or_false] at hu
 rcases hu with rfl | rfl | rfl | rfl | rfl | rfl | rfl | rfl | rfl | rfl<;>rfl
structure bN where
 Code:Int
 Val:Int
 Round:Int
def bN.cells (r:bN):List Value:=[.int .i64 r.Code,.int .u64 r.Val,.int .i64 r.Round]
def bN.val (r:bN):Value:=.agg r.cells.toArray
def bN.ex (K:bN→Prop):Prop:=∃ (xCode:Int) (xVal:Int) (xRound:Int),K ⟨xCode,xVal,xRound⟩
theorem bN.mk_ex {K:bN→Prop} (r:bN) (h:K r):bN.ex K:=⟨_,_,_,h⟩
theorem bN.single (r:bN):∀ u ∈ r.cells,single u=true:=by
 intro u hu
 simp only [bN.cells,List.mem_cons,List.not_mem_nil,or_false] at hu
 rcases hu with rfl | rfl | rfl<;>rfl
structure aA where
 Code:Int
 Fate:Int
def aA.cells (r:aA):List Value:=[.int .i64 r.Code,.int .i64 r.Fate]
def aA.val (r:aA):Value:=.agg r.cells.toArray
def aA.ex (K:aA→Prop):Prop:=∃ (xCode:Int) (xFate:Int),K ⟨xCode,xFate⟩
theorem aA.mk_ex {K:aA→Prop} (r:aA) (h:K r):aA.ex K:=⟨_,_,h⟩
theorem aA.single (r:aA):∀ u ∈ r.cells,single u=true:=by
 intro u hu
 simp only [aA.cells,List.mem_cons,List.not_mem_nil,or_false] at hu
 rcases hu with rfl | rfl<;>rfl
structure aQ where
 Seq:Int
 Writes:Option Addr
 Writes_l:Nat
 Writes_c:Nat
def aQ.cells (r:aQ):List Value:=[.int .i64 r.Seq,.slice r.Writes r.Writes_l r.Writes_c]
def aQ.val (r:aQ):Value:=.agg r.cells.toArray
def aQ.ex (K:aQ→Prop):Prop:=∃ (xSeq:Int) (xWrites:Option Addr) (xWrites_l:Nat) (xWrites_c:Nat),K ⟨xSeq,xWrites,xWrites_l,xWrites_c⟩
theorem aQ.mk_ex {K:aQ→Prop} (r:aQ) (h:K r):aQ.ex K:=⟨_,_,_,_,h⟩
theorem aQ.single (r:aQ):∀ u ∈ r.cells,single u=true:=by
 intro u hu
 simp only [aQ.cells,List.mem_cons,List.not_mem_nil,or_false] at hu
 rcases hu with rfl | rfl<;>rfl
structure bR where
 l:List Int
def bR.cells (r:bR):List Value:=r.l.map λx=>.int .u64 x
def bR.val (r:bR):Value:=.agg r.cells.toArray
def bR.ex (K:bR→Prop):Prop:=exI 256 λl=>K ⟨l⟩
theorem bR.mk_ex {K:bR→Prop} (r:bR) (hl:r.l.length=256) (h:K r):bR.ex K:=Ao 256 r.l hl h
theorem bR.single (r:bR):∀ u ∈ r.cells,single u=true:=by
 intro u hu
 obtain ⟨x,_,rfl⟩:=List.mem_map.1 hu
 rfl
end Go.Proofs.YtegepanmkjemjaaGreat
namespace Go.Proofs.YtegepanmkjemjaaGreat
open Go.Proofs.Tryz
open Go.Eng IntKind
variable (w:World) (R:Value→World→Prop)
theorem si (a b c d f g:Int) (h:Option Addr) (i k:Nat) (l m:Int) (w:World) (R:Value→World→Prop):fnW prog f109 [.agg #[.int .i64 a,.int .i64 b,.int .i64 c,.int .i64 d,.int .u64 f,.int .u64 g,.slice h i k,.int .u64 l,.int .i64 m]] R w=(∀ b1 w1,b1=w.heap.size→w1=w.alloc (.cells #[.int .i64 a,.int .i64 b,.int .i64 c,.int .i64 d,.int .u64 f,.int .u64 g,.slice h i k,.int .u64 l,.int .i64 m] 166)→∃ n,w1.cell? ⟨b1,0,none⟩=some (.int .i64 n)∧(bif ((n:Int) == 1) then (∃ N_,w1.cell? ⟨b1,3,none⟩=some (.int .i64 N_)∧R (.int .i64 N_) w1) else ((bif ((n:Int) == 2) then (∃ o p q,w1.cell? ⟨b1,6,none⟩=some (.slice o p q)∧R (.int .i64 (p:Nat)) w1) else ((bif ((n:Int) == 3) then ((bif ((n:Int) == 3) then (R (.int .i64 1) w1) else (R (.int .i64 0) w1))) else ((bif ((n:Int) == 4) then (R (.int .i64 1) w1) else (R (.int .i64 0) w1))))))))):=by kernel_rfl
theorem rh (a b c d f g:Int) (h:Option Addr) (i k:Nat) (l m:Int) (w:World) (R:Value→World→Prop):fnW prog f155 [.agg #[.int .i64 a,.int .i64 b,.int .i64 c,.int .i64 d,.int .u64 f,.int .u64 g,.slice h i k,.int .u64 l,.int .i64 m]] R w=(∀ b1 w1,b1=w.heap.size→w1=w.alloc (.cells #[.int .i64 a,.int .i64 b,.int .i64 c,.int .i64 d,.int .u64 f,.int .u64 g,.slice h i k,.int .u64 l,.int .i64 m] 166)→R (.func (.func 191) #[] #[.pointer (some ⟨b1,0,none⟩)]) w1):=by kernel_rfl
def eK (s0:Value) (s3 s4:Int) (j:LV):LV:=s0::jq j 0 2 (.int .i64 s3::.int .i64 s4::jq j 2 24 [])
theorem pV (p0:Value) (c0:Nat):fnW prog f191 [p0,.pointer (some ⟨c0,0,none⟩)] R w=(∀ w1,w1=w.drew→∃ Sx:World→Prop,Sx w1∧∃ At,(∀ u,Sx u→u.cell? ⟨c0,2,none⟩=some (.int .i64 At))∧∃ a b c N_ d f g h i k l,(∀ u,Sx u→aD u ⟨c0,0,none⟩ 0 [.int .i64 a,.int .i64 b,.int .i64 c,.int .i64 N_,.int .u64 d,.int .u64 f,.slice g h i,.int .u64 k,.int .i64 l])∧Calls prog 109 #[.agg #[.int .i64 a,.int .i64 b,.int .i64 c,.int .i64 N_,.int .u64 d,.int .u64 f,.slice g h i,.int .u64 k,.int .i64 l]] w1 λe w2=>∃ m,e=.returned (.int .i64 m)∧Sx w2∧cA prog (.loop (sub (aE f191) [1,0,0])) (eK p0 At m (jp ⟨c0,0,none⟩::uq 2 (jp ⟨c0,2,none⟩::ji At::.agg #[.int .i64 a,.int .i64 b,.int .i64 c,.int .i64 N_,.int .u64 d,.int .u64 f,.slice g h i,.int .u64 k,.int .i64 l]::ji m::uq 19 []))) (aI 0 (retQ prog f191 R)) w2):=by kernel_rfl
theorem kG (s0:Value) (s3 s4:Int) (j:LV) (N1:LV→World→Prop):W prog (sub (aE f191) [1,0,0]) (eK s0 s3 s4 j) (seqQ N1 (aI 0 (retQ prog f191 R))) w=((bif (decide ((s4:Int)>0)) then (mR prog s0 #[.agg #[.int .i64 s3,.int .i64 (if ((i64.wrap (8 - (Int.tmod s3 8))):Int)<s4 then ((i64.wrap (8 - (Int.tmod s3 8))):Int) else s4)]] w λe w1=>∃ a,e=.returned (.bool a)∧(bif (!a) then (R (.tuple #[]) w1) else (N1 (eK s0 (i64.wrap (s3+(if ((i64.wrap (8 - (Int.tmod s3 8))):Int)<s4 then ((i64.wrap (8 - (Int.tmod s3 8))):Int) else s4))) (i64.wrap (s4 - (if ((i64.wrap (8 - (Int.tmod s3 8))):Int)<s4 then ((i64.wrap (8 - (Int.tmod s3 8))):Int) else s4))) (jg j 0::jg j 1::ji (if ((i64.wrap (8 - (Int.tmod s3 8))):Int)<s4 then ((i64.wrap (8 - (Int.tmod s3 8))):Int) else s4)::jq j 3 4 [ji s4,jb (decide ((s4:Int)>0)),ji s4,ji s3,ji (Int.tmod s3 8),ji (i64.wrap (8 - (Int.tmod s3 8))),ji (if ((i64.wrap (8 - (Int.tmod s3 8))):Int)<s4 then ((i64.wrap (8 - (Int.tmod s3 8))):Int) else s4),s0,ji s3,ji (if ((i64.wrap (8 - (Int.tmod s3 8))):Int)<s4 then ((i64.wrap (8 - (Int.tmod s3 8))):Int) else s4),.agg #[.int .i64 s3,.int .i64 (if ((i64.wrap (8 - (Int.tmod s3 8))):Int)<s4 then ((i64.wrap (8 - (Int.tmod s3 8))):Int) else s4)],jb a,jb (!a),ji s3,ji (if ((i64.wrap (8 - (Int.tmod s3 8))):Int)<s4 then ((i64.wrap (8 - (Int.tmod s3 8))):Int) else s4),ji (i64.wrap (s3+(if ((i64.wrap (8 - (Int.tmod s3 8))):Int)<s4 then ((i64.wrap (8 - (Int.tmod s3 8))):Int) else s4))),ji s4,ji (if ((i64.wrap (8 - (Int.tmod s3 8))):Int)<s4 then ((i64.wrap (8 - (Int.tmod s3 8))):Int) else s4),ji (i64.wrap (s4 - (if ((i64.wrap (8 - (Int.tmod s3 8))):Int)<s4 then ((i64.wrap (8 - (Int.tmod s3 8))):Int) else s4)))])) w1))) else (R (.tuple #[]) w))):=by kernel_rfl
end Go.Proofs.YtegepanmkjemjaaGreat
namespace Go.Proofs.YtegepanmkjemjaaGreat
open Go.Eng
theorem lH {w:World} {ad:Addr} {v:aK} {K:Int→Int→Int→Int→Int→Int→Option Addr→Nat→Nat→Int→Int→Prop} (h:aD w ad 0 v.cells)
  (hk:K v.Kind v.Node v.At v.N v.Old v.New v.Words v.Wl v.Wc v.Key v.Boot) :
  ∃ (Kind:Int) (Node:Int) (At:Int) (N:Int) (Old:Int) (New:Int) (Words:Option Addr) (Wl:Nat) (Wc:Nat) (Key:Int) (Boot:Int),
   aD w ad 0 [.int .i64 Kind,.int .i64 Node,.int .i64 At,.int .i64 N,.int .u64 Old,.int .u64 New,.slice Words Wl Wc,.int .u64 Key,.int .i64 Boot]∧K Kind Node At N Old New Words Wl Wc Key Boot:=
 ⟨_,_,_,_,_,_,_,_,_,_,_,h,hk⟩
theorem lZ {S:World→Prop} {ad:Addr} {v:aK} {K:Int→Int→Int→Int→Int→Int→Option Addr→Nat→Nat→Int→Int→Prop} (h:∀ u,S u→aD u ad 0 v.cells)
  (hk:K v.Kind v.Node v.At v.N v.Old v.New v.Words v.Wl v.Wc v.Key v.Boot) :
  ∃ (Kind:Int) (Node:Int) (At:Int) (N:Int) (Old:Int) (New:Int) (Words:Option Addr) (Wl:Nat) (Wc:Nat) (Key:Int) (Boot:Int),
   (∀ u,S u→aD u ad 0 [.int .i64 Kind,.int .i64 Node,.int .i64 At,.int .i64 N,.int .u64 Old,.int .u64 New,.slice Words Wl Wc,.int .u64 Key,.int .i64 Boot])∧K Kind Node At N Old New Words Wl Wc Key Boot:=
 ⟨_,_,_,_,_,_,_,_,_,_,_,h,hk⟩
abbrev TV:TypeId:=166
theorem vbox {w:World} {b:Nat} {v:aK} (h:Blk w b v.cells TV):aD w ⟨b,0,none⟩ 0 v.cells:=aJ h (by simp [aK.cells])
theorem oe (w:World) (v:aK):Blk (w.alloc (.cells v.cells.toArray TV)) w.heap.size v.cells TV:=iI _ _ _
def aK.count (v:aK):Int:=if v.Kind=1 then v.N else if v.Kind=2 then v.Wl else if v.Kind=3∨v.Kind=4 then 1 else 0
theorem sj (w:World) (v:aK):Does 109 [v.val] w λx w'=>x=.int .i64 v.count∧New w w':=by
 refine does Tryz.func109 ?_
 refine Eq.mpr (si v.Kind v.Node v.At v.N v.Old v.New v.Words v.Wl v.Wc v.Key v.Boot w _) ?_
 rintro b1 w1 rfl rfl
 have hb:=oe w v
 have hn:=dA w (.cells v.cells.toArray TV)
 refine ⟨_,hb.cell rfl,bH (λh1=>⟨_,hb.cell rfl,?_,hn⟩) (λh1=>bH (λh2=>⟨_,_,_,hb.cell rfl,?_,hn⟩) (λh2=>bH (λh3=>bH (λ_=>⟨?_,hn⟩) (λh=>absurd h3 h)) (λh3=>bH (λh4=>⟨?_,hn⟩) (λh4=>⟨?_,hn⟩))))⟩
 ·simp [aK.count,h1]
 ·simp [aK.count,h2]
 ·simp [aK.count,h3]
 ·simp [aK.count,h4]
 ·simp [aK.count,h1,h2,h3,h4]
end Go.Proofs.YtegepanmkjemjaaGreat
namespace Go.Proofs.YtegepanmkjemjaaGreat
open Go.Proofs.Tryz
open Go.Eng Go.RowKit
def encP (x:Int×Int):Array Value:=#[.agg #[.int .i64 x.1,.int .i64 x.2]]
def cC:Nat→Int→Int→List (Int×Int)
 | 0,_,_=>[]
 |f+1,at_,left=>if left≤0 then [] else (at_,if 8 - at_ % 8<left then 8 - at_ % 8 else left)::
   cC f (at_+(if 8 - at_ % 8<left then 8 - at_ % 8 else left)) (left - (if 8 - at_ % 8<left then 8 - at_ % 8 else left))
def aK.pieces (v:aK):List (Int×Int):=cC v.count.toNat v.At v.count
theorem sW {w w':World} (h:Go.Eng.New w w'):w.grownBy w' none:=⟨h.os,h.tape,h.output,h.size,λk hk _=>h.block k hk id⟩
theorem v5 {m:Nat} {P:Program} {l:Nat} {args:Array Value} {W:World} {R:Ending→World→Prop} (h:YieldAt Fence.wide m P l args W R) (k:Nat):YieldAt Fence.wide k P l args W R:=by
 obtain ⟨fn,tmps,assign,body,h1,h2⟩:=h
 exact ⟨fn,tmps,assign,body,h1,h2.1,λc cs _=>h2.2 c cs (room_wide _)⟩
theorem v6 (n l Bn n₀:Nat) (v:aK) (J Jx:List (Int×Int)→World→Prop) (ha0:0≤v.At) (ha1:v.At≤1000000) (hc0:1≤v.count) (hc1:v.count≤1000000) (W:World)
  (hJ:AbidesFrom W.heap.size J) (hY:∀ pre x W,J pre W→pre.length<v.pieces.length→YieldAt Fence.wide (n - 1) prog l (encP x) W λe W'=>
   (e=.returned (.bool true)∧J (pre++[x]) W'∧Below n₀ W W')∨(e=.returned (.bool false)∧Jx (pre++[x]) W'))
  (hBn:∀ u,Below (Bn+1) W u→aD u ⟨Bn,0,none⟩ 0 v.cells) (hb:Bn+1≤W.heap.size) (h0:J [] W) :
  CallsIn Fence.wide n prog 191 #[.func (.yield l) #[] #[],.pointer (some ⟨Bn,0,none⟩)] W λe W'=>(∃ v,e=.returned v)∧
   ((∃ ys,ys=v.pieces∧J ys W')∨(∃ pre,pre <+: v.pieces∧Jx pre W')):=by
 refine callsIn_wide.2 (Calls.mono (R:=λe w'=>∃ x,e=.returned x∧((∃ ys,ys=v.pieces∧J ys w')∨(∃ pre,pre <+: v.pieces∧Jx pre w'))) ?_ λe w' ⟨x,hx,hr⟩=>⟨⟨x,hx⟩,hr⟩)
 refine does Tryz.func191 (args:=[.func (.yield l) #[] #[],.pointer (some ⟨Bn,0,none⟩)]) (R:=λ_ w'=>(∃ ys,ys=v.pieces∧J ys w')∨(∃ pre,pre <+: v.pieces∧Jx pre w')) ?_
 rw [pV]
 intro w1 hw1
 have hn1:Go.Eng.New W w1:=by rw [hw1];exact aS _
 clear hw1
 have hbl:∀ u,Go.Eng.New w1 u→Below (Bn+1) W u:=λu hu=>(hn1.new hu).below (by omega) λ_ _ h=>h
 refine ⟨λu=>Go.Eng.New w1 u,Keep.refl _ _,v.At,λu hu=>?_,?_⟩
 ·have:=hBn u (hbl u hu)
  exact this.2.2.1
 refine lZ (v:=v) (λu hu=>hBn u (hbl u hu)) ?_
 refine aF (sj _ v) ?_
 rintro r w2 ⟨rfl,hn2⟩
 refine ⟨_,rfl,hn2,?_⟩
 have hJ2:J [] w2:=hJ _ _ _ none h0 (sW (hn1.new hn2)) (λ_ h=>by cases h)
 refine aR mix (λm env u=>∃ (f:Nat) (at_ left:Int) (jj:List Value) (pre:List (Int×Int)),m=f∧left≤f∧0≤at_∧0≤left∧at_+left≤2000000∧env=eK (.func (.yield l) #[] #[]) at_ left jj∧v.pieces=pre++cC f at_ left∧J pre u) v.count.toNat
  ⟨v.count.toNat,v.At,v.count,_,[],rfl,by omega,ha0,by omega,by omega,rfl,rfl,hJ2⟩ ?_
 rintro f env u ⟨_,at_,left,jj,pre,rfl,hlf,hat,hle,hsum,rfl,hpre,hJu⟩
 rw [kG]
 refine aH (λhp=>?_) (λhp=>?_)
 ·obtain ⟨f',rfl⟩:∃ f',f=f'+1:=⟨f - 1,by omega⟩
  have hmod:Int.tmod at_ 8=at_ % 8:=Int.tmod_eq_emod_of_nonneg hat
  rw [hmod,w64 (x:=8 - at_ % 8) (by omega) (by omega)]
  generalize hk:(if 8 - at_ % 8<left then 8 - at_ % 8 else left)=k
  have hk1:1≤k∧k≤left∧k≤8:=by rw [←hk];split<;>omega
  have hcons:cC (f'+1) at_ left=(at_,k)::cC f' (at_+k) (left - k):=by
   rw [cC,if_neg (by omega),hk]
  rw [hcons] at hpre
  have hy:=v5 (hY pre (at_,k) u hJu (by rw [hpre];simp)) 0
  refine Exists.imp (λfn=>Exists.imp λtmps=>Exists.imp λassign=>Exists.imp λbody=>And.imp id λh=>RoundIn.mono h ?_) hy
  rintro e w3 (⟨rfl,hJ3,_⟩ | ⟨rfl,hJx3⟩)
  ·refine ⟨_,rfl,dE rfl ?_⟩
   rw [w64 (by omega) (by omega),w64 (by omega) (by omega)]
   refine ⟨f',by omega,f',at_+k,left - k,_,pre++[(at_,k)],rfl,by omega,by omega,by omega,by omega,rfl,by rw [hpre];simp,hJ3⟩
  ·exact ⟨_,rfl,fY rfl (.inr ⟨_,⟨cC f' (at_+k) (left - k),by rw [hpre];simp⟩,hJx3⟩)⟩
 ·refine .inl ⟨pre,?_,hJu⟩
  have:left=0:=by omega
  subst this
  rw [hpre]
  cases f<;>simp [cC]
end Go.Proofs.YtegepanmkjemjaaGreat
namespace Go.Proofs.YtegepanmkjemjaaGreat
open Go.Eng Go.RowKit
theorem ld:∀ (f:Nat) (at_ left:Int),0≤at_→∀ p ∈ cC f at_ left,at_≤p.1∧1≤p.2∧p.2≤8∧p.1+p.2≤at_+left
 | 0,_,_,_,p,hp=>by simp [cC] at hp
 |f+1,at_,left,h0,p,hp=>by
  unfold cC at hp
  split at hp
  ·simp at hp
  ·rename_i hl
   rcases List.mem_cons.1 hp with rfl | hp
   ·simp only
    split<;>omega
   ·have:=ld f _ _ (by split<;>omega) p hp
    split at this<;>omega
theorem sk (f:Nat) (at_ left:Int) (h:1≤left) (hf:1≤f):cC f at_ left≠[]:=by
 cases f with
 |zero=>omega
 |succ f=>unfold cC;rw [if_neg (by omega)];simp
theorem kq:∀ (f:Nat) (at_ left:Int),(cC f at_ left).length≤f
 | 0,_,_=>by simp [cC]
 |f+1,at_,left=>by
  unfold cC
  split
  ·simp
  ·simp only [List.length_cons]
   have:=kq f (at_+(if 8 - at_ % 8<left then 8 - at_ % 8 else left)) (left - (if 8 - at_ % 8<left then 8 - at_ % 8 else left))
   omega
def ri (ps:List (Int×Int)):List (List Value):=ps.map λp=>[.int .i64 p.1,.int .i64 p.2]
theorem xp (ps:List (Int×Int)):∀ r ∈ ri ps,r.length=2:=by
 intro r hr
 simp only [ri,List.mem_map] at hr
 obtain ⟨v,_,rfl⟩:=hr
 rfl
theorem xq {ps:List (Int×Int)} {i:Nat} {p:Int×Int} (h:ps[i]?=some p):(ri ps)[i]?=some [.int .i64 p.1,.int .i64 p.2]:=by simp [ri,h]
abbrev TPc:TypeId:=216
end Go.Proofs.YtegepanmkjemjaaGreat
namespace Go.Proofs.YtegepanmkjemjaaGreat
open Go.Proofs.Tryz
open Go.Eng Go.RowKit
theorem AJ {P:Program} (hm:P.follows .mixedOrders=true) {a b:Code} {env:List Value} {w:World} {Q:Exit→Act→World→Prop} {N:List Value→World→Prop} (h:W P a env (seqQ N (λ_ _ _=>False)) w) (hN:∀ env w,N env w→b.wp P Q (act env) w):(Code.seq a b).wp P Q (act env) w:=by
 refine wp_seq (wp_mono (lW hm a env _ w h) λe a' w' hq0=>?_)
 obtain ⟨he,env',ha,hq⟩:=jI hq0
 subst ha
 clear hq0
 cases e with
 |normal=>exact hN env' w' hq
 |panic c=>exact absurd rfl (he.1 c)
 |outgrown=>exact absurd rfl he.2
 | _=>exact hq.elim
theorem yX (w:World) (v:aK):Does 155 [v.val] w λr w'=>r=.func (.func 191) #[] #[.pointer (some ⟨w.heap.size,0,none⟩)]∧Blk w' w.heap.size v.cells TV∧Go.Eng.New w w'∧w'.heap.size=w.heap.size+1:=by
 refine does Tryz.func155 ?_
 refine Eq.mpr (rh v.Kind v.Node v.At v.N v.Old v.New v.Words v.Wl v.Wc v.Key v.Boot w _) ?_
 rintro b1 w1 hb1 hw1
 obtain ⟨hz,hn⟩:=aM hb1 hw1
 refine ⟨by rw [hb1],hb1▸hz,hn,by rw [hw1];simp⟩
theorem P_r0 (v:aK) (w:World) (N:List Value→World→Prop):W prog (sub (aE f116) [0]) [v.val,undef,undef,undef,undef,undef,undef,undef,undef,undef,undef,undef,undef] (seqQ N (λ_ _ _=>False)) w =
  (∀ b1 w1,b1=w.heap.size→w1=w.alloc (.cells v.cells.toArray 166)→N [v.val,.pointer (some ⟨b1,0,none⟩),.slice none 0 0,undef,undef,undef,undef,undef,undef,undef,undef,undef,undef] w1):=by kernel_rfl
theorem P_r1 (v x:Value) (b:Nat) (w:World) (N:List Value→World→Prop):W prog (sub (aE f116) [1,0]) [v,.pointer (some ⟨b,0,none⟩),x,undef,undef,undef,undef,undef,undef,undef,undef,undef,undef] (seqQ N (λ_ _ _=>False)) w =
  (∀ b1 w1,b1=w.heap.size→w1=w.alloc (.cells #[.slice none 0 0] 212)→N [v,.pointer (some ⟨b,0,none⟩),x,.pointer (some ⟨b1,0,none⟩),undef,undef,undef,undef,undef,undef,undef,undef,undef] w1):=by kernel_rfl
def uw (o:Oper):Bool:=match o.op with | .defer _=>false | _=>true
def plain:Code→Bool
 | .region _ ops false=>ops.toList.all uw
 | _=>false
theorem v7 {P:Program} {o:Oper} {a:Act} {next next':Act→World→Prop} {Q:Exit→Act→World→Prop} (r n:Nat) (hn:∀ a w,next a w→next' a w):∀ {x:Result Next},o.uponIn Fence.wide 0 P a next Q x→o.uponIn (Fence.wide.inRound r) n P a next' Q x
 | .ok (.value v) w',h=>hn _ _ h
 | .ok .skip w',h=>hn _ _ h
 | .ok (.defer d) w',h=>hn _ _ h
 | .ok (.enter f args) w',h=>by
  refine ⟨λhc=>by simp [Fence.wide] at hc,trivial,λcs _=>?_⟩
  obtain ⟨e,w2,fr,hr,hs,hx⟩:=h.2.2 cs (room_wide _)
  refine ⟨e,w2,fr,?_,hs,hx⟩
  cases e with
  |returned v=>exact hn _ _ hr
  |panicked c=>exact hr
  |outgrown=>exact hr
 | .ok (.row row args) w',h=>by
  refine ⟨λhc=>by simp [Fence.wide] at hc,λc cs _=>?_⟩
  obtain ⟨v,w2,hr,hs⟩:=h.2 c cs (room_wide _)
  exact ⟨v,w2,hn _ _ hr,hs⟩
 | .ok (.round l f tmps assign body) w',h=>by
  refine ⟨λhc=>by simp [Fence.wide] at hc,trivial,λc cs _=>?_⟩
  obtain ⟨e,w2,hr,hs⟩:=h.2.2 c cs (room_wide _)
  refine ⟨e,w2,?_,hs⟩
  cases e with
  |returned v=>exact hn _ _ hr
  |panicked c=>exact hr
  |outgrown=>exact hr
 | .halt (.panic v) w',h=>h
 | .halt (.stuck s) w',h=>by cases h
theorem rJ {P:Program} {ops:Array Oper} {Q:Exit→Act→World→Prop} (r n:Nat):∀ (l:List Oper) (a:Act) (w:World),(∀ o ∈ l,uw o=true)→wpListIn Fence.wide 0 P ops Q l a w→wpListIn (Fence.wide.inRound r) n P ops Q l a w
 | [],_,_,_,h=>h
 |o::l,a,w,hd,h=>by
  have ih:=λa w=>rJ (P:=P) (ops:=ops) (Q:=Q) r n l a w λo ho=>hd o (List.mem_cons_of_mem _ ho)
  unfold wpListIn at h ⊢
  split at h
  ·rename_i hw
   rw [if_pos hw]
   refine ⟨λ_ _=>trivial,?_⟩
   have h2:=h.2
   rw [show Fence.wide.round=none from rfl,Oper.semAt_none] at h2
   rw [show (Fence.wide.inRound r).round=some r from rfl,Oper.semAt_some _ _ _ (λc hc=>by have:=hd o List.mem_cons_self;simp [uw,hc] at this)]
   exact v7 r n ih h2
  ·rename_i hw
   rw [if_neg hw]
   exact ⟨λ_ _=>trivial,ih _ _ h.2⟩
theorem xr {P:Program} {c:Code} (hp:plain c=true) {env:List Value} {Q:Exit→List Value→World→Prop} {w:World} (r n:Nat) (h:W P c env Q w):c.wpIn (Fence.wide.inRound r) n P (uu Q) (act env) w:=by
 cases c with
 |region id ops d=>
  cases d with
  |true=>simp [plain] at hp
  |false=>
   unfold W at h
   refine wpIn_region_list (rJ r n _ _ _ (λo ho=>?_) (lV (all:=ops.toList) ops.toList env w (Q .normal) (λenv w hk=>cZ hk ⟨λ_=>by simp,by simp⟩) h))
   simp only [plain,List.all_eq_true] at hp
   exact hp o ho
 | _=>simp [plain] at hp
theorem P_r2 (v x:Value) (b b2:Nat) (w:World) (N:List Value→World→Prop):W prog (sub (aE f116) [1,1,0,0]) [v,.pointer (some ⟨b,0,none⟩),x,.pointer (some ⟨b2,0,none⟩),undef,undef,undef,undef,undef,undef,undef,undef,undef] (seqQ N (λ_ _ _=>False)) w =
  (∃ (Kind:Int) (Node:Int) (At:Int) (N_:Int) (Old:Int) (New:Int) (Words:Option Addr) (Words_len:Nat) (Words_cap:Nat) (Key:Int) (Boot:Int),aD w ⟨b,0,none⟩ 0 [(.int .i64 Kind),(.int .i64 Node),(.int .i64 At),(.int .i64 N_),(.int .u64 Old),(.int .u64 New),(.slice Words Words_len Words_cap),(.int .u64 Key),(.int .i64 Boot)]∧
   Calls prog 155 #[(.agg #[(.int .i64 Kind),(.int .i64 Node),(.int .i64 At),(.int .i64 N_),(.int .u64 Old),(.int .u64 New),(.slice Words Words_len Words_cap),(.int .u64 Key),(.int .i64 Boot)])] w λe w3=>∃ r,e=.returned r∧
    N [v,.pointer (some ⟨b,0,none⟩),x,.pointer (some ⟨b2,0,none⟩),undef,(.agg #[(.int .i64 Kind),(.int .i64 Node),(.int .i64 At),(.int .i64 N_),(.int .u64 Old),(.int .u64 New),(.slice Words Words_len Words_cap),(.int .u64 Key),(.int .i64 Boot)]),r,undef,undef,undef,undef,undef,undef] w3):=by kernel_rfl
theorem CS (v x y z r:Value) (b2:Nat) (p:Int×Int) (w:World) (N:List Value→World→Prop):W prog (sub (aE f116) [1,1,0,1,0,0]) [v,y,x,.pointer (some ⟨b2,0,none⟩),undef,z,r,.agg #[.int .i64 p.1,.int .i64 p.2],undef,undef,undef,undef,undef] (seqQ N (λ_ _ _=>False)) w =
  (∀ b1 w1,b1=w.heap.size→w1=w.alloc (.cells #[.int .i64 0,.int .i64 0] TPc)→wrAt w1 ⟨b1,0,none⟩ 0 [.int .i64 p.1,.int .i64 p.2]∧∀ w2,w2=puts w1 ⟨b1,0,none⟩ 0 [.int .i64 p.1,.int .i64 p.2]→
   N [v,y,x,.pointer (some ⟨b2,0,none⟩),.pointer (some ⟨b1,0,none⟩),z,r,.agg #[.int .i64 p.1,.int .i64 p.2],undef,undef,undef,undef,undef] w2):=by kernel_rfl
theorem CT (v x y z r t:Value) (b2 b4:Nat) (w:World) (N:List Value→World→Prop):W prog (sub (aE f116) [1,1,0,1,0,1,0]) [v,y,x,.pointer (some ⟨b2,0,none⟩),.pointer (some ⟨b4,0,none⟩),z,r,t,undef,undef,undef,undef,undef] (seqQ N (λ_ _ _=>False)) w =
  (∃ (a:Option Addr) (n c:Nat),w.cell? ⟨b2,0,none⟩=some (.slice a n c)∧∃ (k1 k2:Int),aD w ⟨b4,0,none⟩ 0 [.int .i64 k1,.int .i64 k2]∧∀ b1 w1,b1=w.heap.size→w1=w.alloc (.cells #[.int .i64 k1,.int .i64 k2] TPc)→
   ∃ (ap:Option Addr) (ap_len ap_cap:Nat),∃ w2,(Builtin.append_ #[212,212] 212 #[(.slice a n c),(.slice (some ⟨b1,0,none⟩) 1 1)]).run prog w1=.ok (.slice ap ap_len ap_cap) w2∧
    (∃ u,w2.cell? ⟨b2,0,none⟩=some u)∧w2.frozen? ⟨b2,0,none⟩=false∧∀ w3,w3=w2.setCell ⟨b2,0,none⟩ (.slice ap ap_len ap_cap)→
    N [v,y,x,.pointer (some ⟨b2,0,none⟩),.pointer (some ⟨b4,0,none⟩),z,r,t,.slice a n c,.agg #[.int .i64 k1,.int .i64 k2],.slice (some ⟨b1,0,none⟩) 1 1,.slice ap ap_len ap_cap,undef] w3):=by kernel_rfl
end Go.Proofs.YtegepanmkjemjaaGreat
