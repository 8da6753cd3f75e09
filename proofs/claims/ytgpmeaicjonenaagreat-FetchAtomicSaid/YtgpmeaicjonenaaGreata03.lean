import Derived.Test.YtgpmeaicjonenaaGreatProg
import Derived.Test.YtgpmeaicjonenaaGreata01
import Derived.Test.YtgpmeaicjonenaaGreata02
set_option linter.unusedVariables false
namespace Go.Proofs.YtgpmeaicjonenaaGreat
open Go.Proofs.Tryz
open Go.Eng
abbrev nx (f:Func) (p:List Nat) (R:Value→World→Prop):Exit→List Value→World→Prop:=seqQ (λenv w=>W prog (sub (aD f) p) env (retQ prog f R) w) (retQ prog f R)
structure aY where
 Code:Int
 Words:Option Addr
 Wl:Nat
 Wc:Nat
def aY.cells (r:aY):List Value:=[.int .i64 r.Code,.slice r.Words r.Wl r.Wc]
def aY.val (r:aY):Value:=.agg r.cells.toArray
def aY.ex (K:aY→Prop):Prop:=∃ (xCode:Int) (xWords:Option Addr) (xWords_l:Nat) (xWords_c:Nat),K ⟨xCode,xWords,xWords_l,xWords_c⟩
theorem aY.mk_ex {K:aY→Prop} (r:aY) (h:K r):aY.ex K:=⟨_,_,_,_,h⟩
theorem aY.len (r:aY):r.cells.length=2:=rfl
theorem aY.single (r:aY):∀ u ∈ r.cells,single u=true:=by
 intro u hu
 simp only [aY.cells,List.mem_cons,List.not_mem_nil,or_false] at hu
 rcases hu with rfl | rfl<;>rfl
structure aJ where
 Kind:Int
 Node:Int
 At:Int
 N:Int
 Old:Int
 New:Int
 Words:Option Addr
 Wl:Nat
 Wc:Nat
 Key:Int
 Boot:Int
def aJ.cells (r:aJ):List Value:=[.int .i64 r.Kind,.int .i64 r.Node,.int .i64 r.At,.int .i64 r.N,.int .u64 r.Old,.int .u64 r.New,.slice r.Words r.Wl r.Wc,.int .u64 r.Key,.int .i64 r.Boot]
def aJ.val (r:aJ):Value:=.agg r.cells.toArray
def aJ.ex (K:aJ→Prop):Prop:=∃ (xKind:Int) (xNode:Int) (xAt:Int) (xN:Int) (xOld:Int) (xNew:Int) (xWords:Option Addr) (xWords_l:Nat) (xWords_c:Nat) (xKey:Int) (xBoot:Int),K ⟨xKind,xNode,xAt,xN,xOld,xNew,xWords,xWords_l,xWords_c,xKey,xBoot⟩
theorem aJ.mk_ex {K:aJ→Prop} (r:aJ) (h:K r):aJ.ex K:=⟨_,_,_,_,_,_,_,_,_,_,_,h⟩
theorem aJ.len (r:aJ):r.cells.length=9:=rfl
theorem aJ.single (r:aJ):∀ u ∈ r.cells,single u=true:=by
 intro u hu
 simp only [aJ.cells,List.mem_cons,List.not_mem_nil,or_false] at hu
 rcases hu with rfl | rfl | rfl | rfl | rfl | rfl | rfl | rfl | rfl<;>rfl
structure cB where
 Nodes:Int
def cB.cells (r:cB):List Value:=[.int .i64 r.Nodes]
def cB.val (r:cB):Value:=.agg r.cells.toArray
def cB.ex (K:cB→Prop):Prop:=∃ (xNodes:Int),K ⟨xNodes⟩
theorem cB.mk_ex {K:cB→Prop} (r:cB) (h:K r):cB.ex K:=⟨_,h⟩
theorem cB.single (r:cB):∀ u ∈ r.cells,single u=true:=by
 intro u hu
 simp only [cB.cells,List.mem_cons,List.not_mem_nil,or_false] at hu
 rcases hu with rfl<;>rfl
structure ef where
 Nodes:Int
 Number:Int
 Client:Int
 Round:Int
 Val:Int
def ef.cells (r:ef):List Value:=[.int .i64 r.Nodes,.int .i64 r.Number,.int .i64 r.Client,.int .i64 r.Round,.int .u64 r.Val]
def ef.val (r:ef):Value:=.agg r.cells.toArray
def ef.ex (K:ef→Prop):Prop:=∃ (xNodes:Int) (xNumber:Int) (xClient:Int) (xRound:Int) (xVal:Int),K ⟨xNodes,xNumber,xClient,xRound,xVal⟩
theorem ef.mk_ex {K:ef→Prop} (r:ef) (h:K r):ef.ex K:=⟨_,_,_,_,_,h⟩
theorem ef.single (r:ef):∀ u ∈ r.cells,single u=true:=by
 intro u hu
 simp only [ef.cells,List.mem_cons,List.not_mem_nil,or_false] at hu
 rcases hu with rfl | rfl | rfl | rfl | rfl<;>rfl
structure aM where
 Number:Int
 Members:Option Addr
 Members_l:Nat
 Members_c:Nat
def aM.cells (r:aM):List Value:=[.int .i64 r.Number,.slice r.Members r.Members_l r.Members_c]
def aM.val (r:aM):Value:=.agg r.cells.toArray
def aM.ex (K:aM→Prop):Prop:=∃ (xNumber:Int) (xMembers:Option Addr) (xMembers_l:Nat) (xMembers_c:Nat),K ⟨xNumber,xMembers,xMembers_l,xMembers_c⟩
theorem aM.mk_ex {K:aM→Prop} (r:aM) (h:K r):aM.ex K:=⟨_,_,_,_,h⟩
theorem aM.single (r:aM):∀ u ∈ r.cells,single u=true:=by
 intro u hu
 simp only [aM.cells,List.mem_cons,List.not_mem_nil,or_false] at hu
 rcases hu with rfl | rfl<;>rfl
structure aL where
 Client:Int
 Seq:Int
 Lines:Int
 View:aM
 Reads:Option Addr
 Reads_l:Nat
 Reads_c:Nat
 Writes:Option Addr
 Writes_l:Nat
 Writes_c:Nat
def aL.cells (r:aL):List Value:=[.int .i64 r.Client,.int .i64 r.Seq,.int .i64 r.Lines,.int .i64 r.View.Number,.slice r.View.Members r.View.Members_l r.View.Members_c,.slice r.Reads r.Reads_l r.Reads_c,.slice r.Writes r.Writes_l r.Writes_c]
def aL.val (r:aL):Value:=.agg r.cells.toArray
def aL.ex (K:aL→Prop):Prop:=∃ (xClient:Int) (xSeq:Int) (xLines:Int) (xView_Number:Int) (xView_Members:Option Addr) (xView_Members_l:Nat) (xView_Members_c:Nat) (xReads:Option Addr) (xReads_l:Nat) (xReads_c:Nat) (xWrites:Option Addr) (xWrites_l:Nat) (xWrites_c:Nat),K ⟨xClient,xSeq,xLines,⟨xView_Number,xView_Members,xView_Members_l,xView_Members_c⟩,xReads,xReads_l,xReads_c,xWrites,xWrites_l,xWrites_c⟩
theorem aL.mk_ex {K:aL→Prop} (r:aL) (h:K r):aL.ex K:=⟨_,_,_,_,_,_,_,_,_,_,_,_,_,h⟩
theorem aL.single (r:aL):∀ u ∈ r.cells,single u=true:=by
 intro u hu
 simp only [aL.cells,List.mem_cons,List.not_mem_nil,or_false] at hu
 rcases hu with rfl | rfl | rfl | rfl | rfl | rfl | rfl<;>rfl
structure cC where
 Client:Int
 Inc:Int
 Lines:Int
 View:aM
 Dead:Int
 Door:Int
 Prev:Int
def cC.cells (r:cC):List Value:=[.int .i64 r.Client,.int .i64 r.Inc,.int .i64 r.Lines,.int .i64 r.View.Number,.slice r.View.Members r.View.Members_l r.View.Members_c,.int .i64 r.Dead,.int .i64 r.Door,.int .u64 r.Prev]
def cC.val (r:cC):Value:=.agg r.cells.toArray
def cC.ex (K:cC→Prop):Prop:=∃ (xClient:Int) (xInc:Int) (xLines:Int) (xView_Number:Int) (xView_Members:Option Addr) (xView_Members_l:Nat) (xView_Members_c:Nat) (xDead:Int) (xDoor:Int) (xPrev:Int),K ⟨xClient,xInc,xLines,⟨xView_Number,xView_Members,xView_Members_l,xView_Members_c⟩,xDead,xDoor,xPrev⟩
theorem cC.mk_ex {K:cC→Prop} (r:cC) (h:K r):cC.ex K:=⟨_,_,_,_,_,_,_,_,_,_,h⟩
theorem cC.single (r:cC):∀ u ∈ r.cells,single u=true:=by
 intro u hu
 simp only [cC.cells,List.mem_cons,List.not_mem_nil,or_false] at hu
 rcases hu with rfl | rfl | rfl | rfl | rfl | rfl | rfl | rfl<;>rfl
structure aG where
 Line:Int
 Head:Int
 Data0:Int
 Data1:Int
 Data2:Int
 Data3:Int
 Data4:Int
 Data5:Int
 Data6:Int
def aG.cells (r:aG):List Value:=[.int .i64 r.Line,.int .u64 r.Head,.int .u64 r.Data0,.int .u64 r.Data1,.int .u64 r.Data2,.int .u64 r.Data3,.int .u64 r.Data4,.int .u64 r.Data5,.int .u64 r.Data6]
def aG.val (r:aG):Value:=.agg r.cells.toArray
def aG.ex (K:aG→Prop):Prop:=∃ (xLine:Int) (xHead:Int) (xData0:Int) (xData1:Int) (xData2:Int) (xData3:Int) (xData4:Int) (xData5:Int) (xData6:Int),K ⟨xLine,xHead,xData0,xData1,xData2,xData3,xData4,xData5,xData6⟩
theorem aG.mk_ex {K:aG→Prop} (r:aG) (h:K r):aG.ex K:=⟨_,_,_,_,_,_,_,_,_,h⟩
theorem aG.len (r:aG):r.cells.length=9:=rfl
theorem aG.single (r:aG):∀ u ∈ r.cells,single u=true:=by
 intro u hu
 simp only [aG.cells,List.mem_cons,List.not_mem_nil,or_false] at hu
 rcases hu with rfl | rfl | rfl | rfl | rfl | rfl | rfl | rfl | rfl<;>rfl
structure cD where
 Nodes:Int
 Client:Int
 Round:Int
 Lines:Int
def cD.cells (r:cD):List Value:=[.int .i64 r.Nodes,.int .i64 r.Client,.int .i64 r.Round,.int .i64 r.Lines]
def cD.val (r:cD):Value:=.agg r.cells.toArray
def cD.ex (K:cD→Prop):Prop:=∃ (xNodes:Int) (xClient:Int) (xRound:Int) (xLines:Int),K ⟨xNodes,xClient,xRound,xLines⟩
theorem cD.mk_ex {K:cD→Prop} (r:cD) (h:K r):cD.ex K:=⟨_,_,_,_,h⟩
theorem cD.single (r:cD):∀ u ∈ r.cells,single u=true:=by
 intro u hu
 simp only [cD.cells,List.mem_cons,List.not_mem_nil,or_false] at hu
 rcases hu with rfl | rfl | rfl | rfl<;>rfl
structure bN where
 Total:Int
 View:aM
 Lines:Option Addr
 Lines_l:Nat
 Lines_c:Nat
def bN.cells (r:bN):List Value:=[.int .i64 r.Total,.int .i64 r.View.Number,.slice r.View.Members r.View.Members_l r.View.Members_c,.slice r.Lines r.Lines_l r.Lines_c]
def bN.val (r:bN):Value:=.agg r.cells.toArray
def bN.ex (K:bN→Prop):Prop:=∃ (xTotal:Int) (xView_Number:Int) (xView_Members:Option Addr) (xView_Members_l:Nat) (xView_Members_c:Nat) (xLines:Option Addr) (xLines_l:Nat) (xLines_c:Nat),K ⟨xTotal,⟨xView_Number,xView_Members,xView_Members_l,xView_Members_c⟩,xLines,xLines_l,xLines_c⟩
theorem bN.mk_ex {K:bN→Prop} (r:bN) (h:K r):bN.ex K:=⟨_,_,_,_,_,_,_,_,h⟩
theorem bN.single (r:bN):∀ u ∈ r.cells,single u=true:=by
 intro u hu
 simp only [bN.cells,List.mem_cons,List.not_mem_nil,or_false] at hu
 rcases hu with rfl | rfl | rfl | rfl<;>rfl
structure aB where
 Kind:Int
 Client:Int
 Discover:cB
 Paxos:ef
 Commit:aL
 Recover:cC
 Reconfig:cD
 Fetch:bN
 Got:Option Addr
 Got_l:Nat
 Got_c:Nat
 Over:Bool
 Bad:Bool
 Code:Int
 View:aM
 Status:Int
 Doors:Option Addr
 Doors_l:Nat
 Doors_c:Nat
 Val:Int
 Fate:Int
 Verdict:Int
 Seq:Int
 NextSeq:Int
 Changed:Bool
 Pages:Option Addr
 Pages_l:Nat
 Pages_c:Nat
def aB.cells (r:aB):List Value:=[.int .i64 r.Kind,.int .i64 r.Client,.int .i64 r.Discover.Nodes,.int .i64 r.Paxos.Nodes,.int .i64 r.Paxos.Number,.int .i64 r.Paxos.Client,.int .i64 r.Paxos.Round,.int .u64 r.Paxos.Val,.int .i64 r.Commit.Client,.int .i64 r.Commit.Seq,.int .i64 r.Commit.Lines,.int .i64 r.Commit.View.Number,.slice r.Commit.View.Members r.Commit.View.Members_l r.Commit.View.Members_c,.slice r.Commit.Reads r.Commit.Reads_l r.Commit.Reads_c,.slice r.Commit.Writes r.Commit.Writes_l r.Commit.Writes_c,.int .i64 r.Recover.Client,.int .i64 r.Recover.Inc,.int .i64 r.Recover.Lines,.int .i64 r.Recover.View.Number,.slice r.Recover.View.Members r.Recover.View.Members_l r.Recover.View.Members_c,.int .i64 r.Recover.Dead,.int .i64 r.Recover.Door,.int .u64 r.Recover.Prev,.int .i64 r.Reconfig.Nodes,.int .i64 r.Reconfig.Client,.int .i64 r.Reconfig.Round,.int .i64 r.Reconfig.Lines,.int .i64 r.Fetch.Total,.int .i64 r.Fetch.View.Number,.slice r.Fetch.View.Members r.Fetch.View.Members_l r.Fetch.View.Members_c,.slice r.Fetch.Lines r.Fetch.Lines_l r.Fetch.Lines_c,.slice r.Got r.Got_l r.Got_c,.bool r.Over,.bool r.Bad,.int .i64 r.Code,.int .i64 r.View.Number,.slice r.View.Members r.View.Members_l r.View.Members_c,.int .i64 r.Status,.slice r.Doors r.Doors_l r.Doors_c,.int .u64 r.Val,.int .i64 r.Fate,.int .i64 r.Verdict,.int .i64 r.Seq,.int .i64 r.NextSeq,.bool r.Changed,.slice r.Pages r.Pages_l r.Pages_c]
def aB.val (r:aB):Value:=.agg r.cells.toArray
def aB.ex (K:aB→Prop):Prop:=∃ (xKind:Int) (xClient:Int) (xDiscover_Nodes:Int) (xPaxos_Nodes:Int) (xPaxos_Number:Int) (xPaxos_Client:Int) (xPaxos_Round:Int) (xPaxos_Val:Int) (xCommit_Client:Int) (xCommit_Seq:Int) (xCommit_Lines:Int) (xCommit_View_Number:Int) (xCommit_View_Members:Option Addr) (xCommit_View_Members_l:Nat) (xCommit_View_Members_c:Nat) (xCommit_Reads:Option Addr) (xCommit_Reads_l:Nat) (xCommit_Reads_c:Nat) (xCommit_Writes:Option Addr) (xCommit_Writes_l:Nat) (xCommit_Writes_c:Nat) (xRecover_Client:Int) (xRecover_Inc:Int) (xRecover_Lines:Int) (xRecover_View_Number:Int) (xRecover_View_Members:Option Addr) (xRecover_View_Members_l:Nat) (xRecover_View_Members_c:Nat) (xRecover_Dead:Int) (xRecover_Door:Int) (xRecover_Prev:Int) (xReconfig_Nodes:Int) (xReconfig_Client:Int) (xReconfig_Round:Int) (xReconfig_Lines:Int) (xFetch_Total:Int) (xFetch_View_Number:Int) (xFetch_View_Members:Option Addr) (xFetch_View_Members_l:Nat) (xFetch_View_Members_c:Nat) (xFetch_Lines:Option Addr) (xFetch_Lines_l:Nat) (xFetch_Lines_c:Nat) (xGot:Option Addr) (xGot_l:Nat) (xGot_c:Nat) (xOver:Bool) (xBad:Bool) (xCode:Int) (xView_Number:Int) (xView_Members:Option Addr) (xView_Members_l:Nat) (xView_Members_c:Nat) (xStatus:Int) (xDoors:Option Addr) (xDoors_l:Nat) (xDoors_c:Nat) (xVal:Int) (xFate:Int) (xVerdict:Int) (xSeq:Int) (xNextSeq:Int) (xChanged:Bool) (xPages:Option Addr) (xPages_l:Nat) (xPages_c:Nat),K ⟨xKind,xClient,⟨xDiscover_Nodes⟩,⟨xPaxos_Nodes,xPaxos_Number,xPaxos_Client,xPaxos_Round,xPaxos_Val⟩,⟨xCommit_Client,xCommit_Seq,xCommit_Lines,⟨xCommit_View_Number,xCommit_View_Members,xCommit_View_Members_l,xCommit_View_Members_c⟩,xCommit_Reads,xCommit_Reads_l,xCommit_Reads_c,xCommit_Writes,xCommit_Writes_l,xCommit_Writes_c⟩,⟨xRecover_Client,xRecover_Inc,xRecover_Lines,⟨xRecover_View_Number,xRecover_View_Members,xRecover_View_Members_l,xRecover_View_Members_c⟩,xRecover_Dead,xRecover_Door,xRecover_Prev⟩,⟨xReconfig_Nodes,xReconfig_Client,xReconfig_Round,xReconfig_Lines⟩,⟨xFetch_Total,⟨xFetch_View_Number,xFetch_View_Members,xFetch_View_Members_l,xFetch_View_Members_c⟩,xFetch_Lines,xFetch_Lines_l,xFetch_Lines_c⟩,xGot,xGot_l,xGot_c,xOver,xBad,xCode,⟨xView_Number,xView_Members,xView_Members_l,xView_Members_c⟩,xStatus,xDoors,xDoors_l,xDoors_c,xVal,xFate,xVerdict,xSeq,xNextSeq,xChanged,xPages,xPages_l,xPages_c⟩
theorem aB.mk_ex {K:aB→Prop} (r:aB) (h:K r):aB.ex K:=⟨_,_,_,_,_,_,_,_,_,_,_,_,_,_,_,_,_,_,_,_,_,_,_,_,_,_,_,_,_,_,_,_,_,_,_,_,_,_,_,_,_,_,_,_,_,_,_,_,_,_,_,_,_,_,_,_,_,_,_,_,_,_,_,_,_,_,h⟩
theorem aB.len (r:aB):r.cells.length=46:=rfl
theorem aB.single (r:aB):∀ u ∈ r.cells,single u=true:=by
 intro u hu
 simp only [aB.cells,List.mem_cons,List.not_mem_nil,or_false] at hu
 rcases hu with rfl | rfl | rfl | rfl | rfl | rfl | rfl | rfl | rfl | rfl | rfl | rfl | rfl | rfl | rfl | rfl | rfl | rfl | rfl | rfl | rfl | rfl | rfl | rfl | rfl | rfl | rfl | rfl | rfl | rfl | rfl | rfl | rfl | rfl | rfl | rfl | rfl | rfl | rfl | rfl | rfl | rfl | rfl | rfl | rfl | rfl<;>rfl
structure bD where
 At:Int
 Kind:Int
 A:Int
def bD.cells (r:bD):List Value:=[.int .i64 r.At,.int .i64 r.Kind,.int .i64 r.A]
def bD.val (r:bD):Value:=.agg r.cells.toArray
def bD.ex (K:bD→Prop):Prop:=∃ (xAt:Int) (xKind:Int) (xA:Int),K ⟨xAt,xKind,xA⟩
theorem bD.mk_ex {K:bD→Prop} (r:bD) (h:K r):bD.ex K:=⟨_,_,_,h⟩
theorem bD.single (r:bD):∀ u ∈ r.cells,single u=true:=by
 intro u hu
 simp only [bD.cells,List.mem_cons,List.not_mem_nil,or_false] at hu
 rcases hu with rfl | rfl | rfl<;>rfl
structure aE where
 Node:Int
 Boot:Int
 Full:Bool
def aE.cells (r:aE):List Value:=[.int .i64 r.Node,.int .i64 r.Boot,.bool r.Full]
def aE.val (r:aE):Value:=.agg r.cells.toArray
def aE.ex (K:aE→Prop):Prop:=∃ (xNode:Int) (xBoot:Int) (xFull:Bool),K ⟨xNode,xBoot,xFull⟩
theorem aE.mk_ex {K:aE→Prop} (r:aE) (h:K r):aE.ex K:=⟨_,_,_,h⟩
theorem aE.len (r:aE):r.cells.length=3:=rfl
theorem aE.single (r:aE):∀ u ∈ r.cells,single u=true:=by
 intro u hu
 simp only [aE.cells,List.mem_cons,List.not_mem_nil,or_false] at hu
 rcases hu with rfl | rfl | rfl<;>rfl
structure aV where
 Line:Int
 Head:Int
def aV.cells (r:aV):List Value:=[.int .i64 r.Line,.int .u64 r.Head]
def aV.val (r:aV):Value:=.agg r.cells.toArray
def aV.ex (K:aV→Prop):Prop:=∃ (xLine:Int) (xHead:Int),K ⟨xLine,xHead⟩
theorem aV.mk_ex {K:aV→Prop} (r:aV) (h:K r):aV.ex K:=⟨_,_,h⟩
theorem aV.len (r:aV):r.cells.length=2:=rfl
theorem aV.single (r:aV):∀ u ∈ r.cells,single u=true:=by
 intro u hu
 simp only [aV.cells,List.mem_cons,List.not_mem_nil,or_false] at hu
 rcases hu with rfl | rfl<;>rfl
structure bF where
 Code:Int
 Number:Int
 View:aM
 Status:Int
 Opened:Bool
 Hint:Int
 Boots:Option Addr
 Boots_l:Nat
 Boots_c:Nat
 Keys:Option Addr
 Keys_l:Nat
 Keys_c:Nat
 Doors:Option Addr
 Doors_l:Nat
 Doors_c:Nat
def bF.cells (r:bF):List Value:=[.int .i64 r.Code,.int .i64 r.Number,.int .i64 r.View.Number,.slice r.View.Members r.View.Members_l r.View.Members_c,.int .i64 r.Status,.bool r.Opened,.int .u64 r.Hint,.slice r.Boots r.Boots_l r.Boots_c,.slice r.Keys r.Keys_l r.Keys_c,.slice r.Doors r.Doors_l r.Doors_c]
def bF.val (r:bF):Value:=.agg r.cells.toArray
def bF.ex (K:bF→Prop):Prop:=∃ (xCode:Int) (xNumber:Int) (xView_Number:Int) (xView_Members:Option Addr) (xView_Members_l:Nat) (xView_Members_c:Nat) (xStatus:Int) (xOpened:Bool) (xHint:Int) (xBoots:Option Addr) (xBoots_l:Nat) (xBoots_c:Nat) (xKeys:Option Addr) (xKeys_l:Nat) (xKeys_c:Nat) (xDoors:Option Addr) (xDoors_l:Nat) (xDoors_c:Nat),K ⟨xCode,xNumber,⟨xView_Number,xView_Members,xView_Members_l,xView_Members_c⟩,xStatus,xOpened,xHint,xBoots,xBoots_l,xBoots_c,xKeys,xKeys_l,xKeys_c,xDoors,xDoors_l,xDoors_c⟩
theorem bF.mk_ex {K:bF→Prop} (r:bF) (h:K r):bF.ex K:=⟨_,_,_,_,_,_,_,_,_,_,_,_,_,_,_,_,_,_,h⟩
theorem bF.single (r:bF):∀ u ∈ r.cells,single u=true:=by
 intro u hu
 simp only [bF.cells,List.mem_cons,List.not_mem_nil,or_false] at hu
 rcases hu with rfl | rfl | rfl | rfl | rfl | rfl | rfl | rfl | rfl | rfl<;>rfl
structure bV where
 Code:Int
 Val:Int
 Round:Int
def bV.cells (r:bV):List Value:=[.int .i64 r.Code,.int .u64 r.Val,.int .i64 r.Round]
def bV.val (r:bV):Value:=.agg r.cells.toArray
def bV.ex (K:bV→Prop):Prop:=∃ (xCode:Int) (xVal:Int) (xRound:Int),K ⟨xCode,xVal,xRound⟩
theorem bV.mk_ex {K:bV→Prop} (r:bV) (h:K r):bV.ex K:=⟨_,_,_,h⟩
theorem bV.single (r:bV):∀ u ∈ r.cells,single u=true:=by
 intro u hu
 simp only [bV.cells,List.mem_cons,List.not_mem_nil,or_false] at hu
 rcases hu with rfl | rfl | rfl<;>rfl
structure aA where
 Code:Int
 Fate:Int
def aA.cells (r:aA):List Value:=[.int .i64 r.Code,.int .i64 r.Fate]
def aA.val (r:aA):Value:=.agg r.cells.toArray
def aA.ex (K:aA→Prop):Prop:=∃ (xCode:Int) (xFate:Int),K ⟨xCode,xFate⟩
theorem aA.mk_ex {K:aA→Prop} (r:aA) (h:K r):aA.ex K:=⟨_,_,h⟩
theorem aA.single (r:aA):∀ u ∈ r.cells,single u=true:=by
 intro u hu
 simp only [aA.cells,List.mem_cons,List.not_mem_nil,or_false] at hu
 rcases hu with rfl | rfl<;>rfl
structure bG where
 Code:Int
 Verdict:Int
 Seq:Int
 NextSeq:Int
 Holder:Int
def bG.cells (r:bG):List Value:=[.int .i64 r.Code,.int .i64 r.Verdict,.int .i64 r.Seq,.int .i64 r.NextSeq,.int .u64 r.Holder]
def bG.val (r:bG):Value:=.agg r.cells.toArray
def bG.ex (K:bG→Prop):Prop:=∃ (xCode:Int) (xVerdict:Int) (xSeq:Int) (xNextSeq:Int) (xHolder:Int),K ⟨xCode,xVerdict,xSeq,xNextSeq,xHolder⟩
theorem bG.mk_ex {K:bG→Prop} (r:bG) (h:K r):bG.ex K:=⟨_,_,_,_,_,h⟩
theorem bG.single (r:bG):∀ u ∈ r.cells,single u=true:=by
 intro u hu
 simp only [bG.cells,List.mem_cons,List.not_mem_nil,or_false] at hu
 rcases hu with rfl | rfl | rfl | rfl | rfl<;>rfl
structure bH where
 Code:Int
 View:aM
 Changed:Bool
 Round:Int
def bH.cells (r:bH):List Value:=[.int .i64 r.Code,.int .i64 r.View.Number,.slice r.View.Members r.View.Members_l r.View.Members_c,.bool r.Changed,.int .i64 r.Round]
def bH.val (r:bH):Value:=.agg r.cells.toArray
def bH.ex (K:bH→Prop):Prop:=∃ (xCode:Int) (xView_Number:Int) (xView_Members:Option Addr) (xView_Members_l:Nat) (xView_Members_c:Nat) (xChanged:Bool) (xRound:Int),K ⟨xCode,⟨xView_Number,xView_Members,xView_Members_l,xView_Members_c⟩,xChanged,xRound⟩
theorem bH.mk_ex {K:bH→Prop} (r:bH) (h:K r):bH.ex K:=⟨_,_,_,_,_,_,_,h⟩
theorem bH.single (r:bH):∀ u ∈ r.cells,single u=true:=by
 intro u hu
 simp only [bH.cells,List.mem_cons,List.not_mem_nil,or_false] at hu
 rcases hu with rfl | rfl | rfl | rfl | rfl<;>rfl
structure aQ where
 Code:Int
 Pages:Option Addr
 Pages_l:Nat
 Pages_c:Nat
def aQ.cells (r:aQ):List Value:=[.int .i64 r.Code,.slice r.Pages r.Pages_l r.Pages_c]
def aQ.val (r:aQ):Value:=.agg r.cells.toArray
def aQ.ex (K:aQ→Prop):Prop:=∃ (xCode:Int) (xPages:Option Addr) (xPages_l:Nat) (xPages_c:Nat),K ⟨xCode,xPages,xPages_l,xPages_c⟩
theorem aQ.mk_ex {K:aQ→Prop} (r:aQ) (h:K r):aQ.ex K:=⟨_,_,_,_,h⟩
theorem aQ.single (r:aQ):∀ u ∈ r.cells,single u=true:=by
 intro u hu
 simp only [aQ.cells,List.mem_cons,List.not_mem_nil,or_false] at hu
 rcases hu with rfl | rfl<;>rfl
structure cA where
 l:List Int
def cA.cells (r:cA):List Value:=r.l.map λx=>.int .u64 x
def cA.val (r:cA):Value:=.agg r.cells.toArray
def cA.ex (K:cA→Prop):Prop:=exI 256 λl=>K ⟨l⟩
theorem cA.mk_ex {K:cA→Prop} (r:cA) (hl:r.l.length=256) (h:K r):cA.ex K:=CU 256 r.l hl h
theorem cA.single (r:cA):∀ u ∈ r.cells,single u=true:=by
 intro u hu
 obtain ⟨x,_,rfl⟩:=List.mem_map.1 hu
 rfl
structure aS where
 Seq:Int
 Writes:Option Addr
 Writes_l:Nat
 Writes_c:Nat
def aS.cells (r:aS):List Value:=[.int .i64 r.Seq,.slice r.Writes r.Writes_l r.Writes_c]
def aS.val (r:aS):Value:=.agg r.cells.toArray
def aS.ex (K:aS→Prop):Prop:=∃ (xSeq:Int) (xWrites:Option Addr) (xWrites_l:Nat) (xWrites_c:Nat),K ⟨xSeq,xWrites,xWrites_l,xWrites_c⟩
theorem aS.mk_ex {K:aS→Prop} (r:aS) (h:K r):aS.ex K:=⟨_,_,_,_,h⟩
theorem aS.single (r:aS):∀ u ∈ r.cells,single u=true:=by
 intro u hu
 simp only [aS.cells,List.mem_cons,List.not_mem_nil,or_false] at hu
 rcases hu with rfl | rfl<;>rfl
end Go.Proofs.YtgpmeaicjonenaaGreat
namespace Go.Proofs.YtgpmeaicjonenaaGreat
open Go.Proofs.Tryz
open Go.Eng IntKind
variable (w:World) (R:Value→World→Prop)
theorem pn (p0 p1:Int):fnW prog f13 [.int .i64 p0,.int .i64 p1] R w=((bif (decide ((p1:Int)<1)) then (R (.int .i64 0) w) else (IntKind.i64=IntKind.i64∧p1≠0∧IntKind.i64=IntKind.i64∧p1≠0∧R (.int .i64 (Int.tmod (i64.wrap ((Int.tmod p0 p1)+p1)) p1)) w))):=by kernel_rfl
end Go.Proofs.YtgpmeaicjonenaaGreat
namespace Go.Proofs.YtgpmeaicjonenaaGreat
open Go.Eng
theorem po (w:World) (x n:Int) (hx:-9223372036854775808≤x∧x<9223372036854775808) (hn:n<4611686018427387904):Does 13 [.int .i64 x,.int .i64 n] w λv w'=>v=.int .i64 (if n<1 then 0 else x % n)∧w'=w:=by
 refine does Tryz.func13 ?_
 rw [pn]
 refine aH (λh=>⟨by rw [if_pos h],rfl⟩) (λh=>⟨rfl,by omega,rfl,by omega,?_,rfl⟩)
 rw [if_neg h]
 have h1:0<n:=by omega
 have key:∃ t k,Int.tmod x n=t∧-n<t∧t<n∧t+n * k=x:=by
  rcases Int.le_total 0 x with hx0 | hx0
  ·refine ⟨x % n,x / n,Int.tmod_eq_emod_of_nonneg hx0,?_,Int.emod_lt_of_pos x h1,Int.emod_add_mul_ediv x n⟩
   have:=Int.emod_nonneg x (Int.ne_of_gt h1)
   omega
  ·refine ⟨-((-x) % n),-((-x) / n),?_,?_,?_,?_⟩
   ·rw [←Int.tmod_eq_emod_of_nonneg (by omega),Int.neg_tmod,Int.neg_neg]
   ·have:=Int.emod_lt_of_pos (-x) h1
    omega
   ·have:=Int.emod_nonneg (-x) (Int.ne_of_gt h1)
    omega
   ·have:=Int.emod_add_mul_ediv (-x) n
    rw [Int.mul_neg]
    omega
 obtain ⟨t,k,ht,h2,h3,hk⟩:=key
 rw [ht,w64 (by omega) (by omega)]
 congr 1
 rw [Int.tmod_eq_emod_of_nonneg (by omega),Int.add_emod_right,←hk,Int.add_mul_emod_self_left]
end Go.Proofs.YtgpmeaicjonenaaGreat
namespace Go.Proofs.YtgpmeaicjonenaaGreat
open Go.Proofs.Tryz
open Go.Eng IntKind
variable (w:World) (R:Value→World→Prop)
theorem rJ (p0:aM):fnW prog f135 [p0.val] R w=(∀ b1 w1,b1=w.heap.size→w1=w.alloc (.cells p0.cells.toArray 35)→∀ b2 w2,b2=w1.heap.size→w2=w1.alloc (.cells #[(.int .i64 0),(.int .i64 0),(.bool false)] 128)→∃ a b c,w2.cell? ⟨b1,1,none⟩=some (.slice a b c)∧(bif (((b:Nat):Int) == 0) then (wrAt w2 ⟨b2,0,none⟩ 0 [(.int .i64 0),(.int .i64 0),(.bool false)]∧∀ w3,w3=puts w2 ⟨b2,0,none⟩ 0 [(.int .i64 0),(.int .i64 0),(.bool false)]→aE.ex λh=>aC w3 ⟨b2,0,none⟩ 0 h.cells∧w3=w3∧R (.tuple #[h.val,(.bool false)]) w3) else (∃ d f g,w2.cell? ⟨b1,1,none⟩=some (.slice d f g)∧idxS d f 0 3 λad=>aE.ex λr=>aC w2 ad 0 r.cells∧wrAt w2 ⟨b2,0,none⟩ 0 r.cells∧∀ w4,w4=puts w2 ⟨b2,0,none⟩ 0 r.cells→aE.ex λi=>aC w4 ⟨b2,0,none⟩ 0 i.cells∧w4=w4∧R (.tuple #[i.val,(.bool true)]) w4))):=by kernel_rfl
theorem rK (p0:aM) (p1:aE) (p2:Bool) (p3:aJ):fnW prog f162 [p0.val,p1.val,.bool p2,p3.val] R w=(∀ b1 w1,b1=w.heap.size→w1=w.alloc (.cells p0.cells.toArray 35)→∀ b2 w2,b2=w1.heap.size→w2=w1.alloc (.cells p1.cells.toArray 128)→∀ b3 w3,b3=w2.heap.size→w3=w2.alloc (.cells p3.cells.toArray 173)→∀ b4 w4,b4=w3.heap.size→w4=w3.alloc (.cells #[.int .i64 0,.int .i64 0,.int .i64 0,.int .i64 0,.int .u64 0,.int .u64 0,.slice none 0 0,.int .u64 0,.int .i64 0] 173)→∀ w5,w5=w4.drew→∃ Sx:World→Prop,Sx w5∧∃ a,(∀ u,Sx u→u.cell? ⟨b2,0,none⟩=some (.int .i64 a))∧∃ b,(∀ u,Sx u→u.cell? ⟨b2,1,none⟩=some (.int .i64 b))∧(∃ u,w5.cell? ⟨b3,1,none⟩=some u)∧w5.frozen? ⟨b3,1,none⟩=false∧∀ w6,w6=w5.setCell ⟨b3,1,none⟩ (.int .i64 a)→Sx w6∧(∃ u,w6.cell? ⟨b3,8,none⟩=some u)∧w6.frozen? ⟨b3,8,none⟩=false∧∀ w7,w7=w6.setCell ⟨b3,8,none⟩ (.int .i64 b)→∃ c,w7.cell? ⟨b1,0,none⟩=some (.int .i64 c)∧Calls prog 111 #[.int .i64 c,.bool p2] w7 λe w8=>∃ d f,e=.returned (.tuple #[.int .u64 d,.int .i64 f])∧(∃ u,w8.cell? ⟨b3,7,none⟩=some u)∧w8.frozen? ⟨b3,7,none⟩=false∧∀ w9,w9=w8.setCell ⟨b3,7,none⟩ (.int .u64 d)→∃ g h i,w9.cell? ⟨b3,6,none⟩=some (.slice g h i)∧Calls prog 80 #[.slice g h i] w9 λe n=>∃ k l m,e=.returned (.slice k l m)∧(∃ u,n.cell? ⟨b3,6,none⟩=some u)∧n.frozen? ⟨b3,6,none⟩=false∧∀ o,o=n.setCell ⟨b3,6,none⟩ (.slice k l m)→aJ.ex λr=>aC o ⟨b3,0,none⟩ 0 r.cells∧wrAt o ⟨b4,0,none⟩ 0 r.cells∧∀ p,p=puts o ⟨b4,0,none⟩ 0 r.cells→aJ.ex λq=>aC p ⟨b4,0,none⟩ 0 q.cells∧p=p∧R q.val p):=by kernel_rfl
def fO (s1:Int) (s2:Addr) (a:Option Addr) (b c:Nat) (d f:Int) (j:LV):LV:=jq j 0 1 (.int .i64 s1::.pointer (some s2)::jq j 1 25 (.slice a b c::.int .i64 d::.int .i64 f::jq j 26 50 []))
def mP (a:Addr) (j:LV):LV:=jq j 0 2 (.pointer (some a)::jq j 2 78 [])
def im (s2:Addr) (a:Option Addr) (b c:Nat) (d f:Int) (j:LV):LV:=jq j 0 2 (.pointer (some s2)::jq j 2 59 (.slice a b c::.int .i64 d::.int .i64 f::jq j 61 16 []))
def mQ (a:Addr) (j:LV):LV:=jq j 0 2 (.pointer (some a)::jq j 2 78 [])
theorem tW (p0:aM) (p1:Int):fnW prog f181 [p0.val,.int .i64 p1] R w=(∀ b1 w1,b1=w.heap.size→w1=w.alloc (.cells p0.cells.toArray 35)→Calls prog 222 #[.int .i64 p1] w1 λe w2=>∃ a,e=.returned (.bool a)∧(bif (!a) then (R (.int .i64 1) w2) else (∃ b,w2.cell? ⟨b1,0,none⟩=some (.int .i64 b)∧(bif (decide ((b:Int)<0)) then (R (.int .i64 2) w2) else (∃ c,w2.cell? ⟨b1,0,none⟩=some (.int .i64 c)∧(bif (decide ((c:Int)≥16)) then (R (.int .i64 2) w2) else (∃ d f g,w2.cell? ⟨b1,1,none⟩=some (.slice d f g)∧(bif (((f:Nat):Int) == 0) then (R (.int .i64 1) w2) else (∃ h i k,w2.cell? ⟨b1,1,none⟩=some (.slice h i k)∧cQ prog (.loop (sub (aD f181) [1,1,0,1,0,0])) (fO p1 ⟨b1,0,none⟩ h i k (i:Nat) 0 (p0.val::undef::ji 0::uq 4 (jb (!a)::ji p1::jb a::jb (!a)::jb (decide ((c:Int)≥16))::jp ⟨b1,0,none⟩::ji b::jb (decide ((b:Int)<0))::jb false::jp ⟨b1,0,none⟩::ji c::jb (decide ((c:Int)≥16))::jb (decide ((c:Int)≥16))::jb (((f:Nat):Int) == 0)::jp ⟨b1,1,none⟩::js d f g::jn f::jb (((f:Nat):Int) == 0)::jp ⟨b1,1,none⟩::uq 50 []))) (aK 1 (nx f181 [1,1,1] R)) w2))))))))):=by kernel_rfl
theorem mR (s1:Int) (s2:Addr) (a:Option Addr) (b c:Nat) (d f:Int) (j:LV) (N1:LV→World→Prop):W prog (sub (aD f181) [1,1,0,1,0,0]) (fO s1 s2 a b c d f j) (seqQ N1 (aK 1 (nx f181 [1,1,1] R))) w=((bif (decide ((f:Int)<d)) then (idxS a b f 3 λad=>aE.ex λr=>aC w ad 0 r.cells∧∀ b1 w1,b1=w.heap.size→w1=w.alloc (.cells #[.int .i64 0,.int .i64 0,.bool false] 128)→wrAt w1 ⟨b1,0,none⟩ 0 r.cells∧∀ w2,w2=puts w1 ⟨b1,0,none⟩ 0 r.cells→∀ w3,w3=w2.drew→∃ Sx:World→Prop,Sx w3∧∃ g,(∀ u,Sx u→u.cell? ⟨b1,0,none⟩=some (.int .i64 g))∧(bif (decide ((g:Int)<0)) then (R (.int .i64 1) w3) else (∃ h,(∀ u,Sx u→u.cell? ⟨b1,0,none⟩=some (.int .i64 h))∧(bif (decide ((h:Int)≥s1)) then (R (.int .i64 1) w3) else ((bif (decide ((f:Int)>0)) then (∃ i,(∀ u,Sx u→u.cell? ⟨b1,0,none⟩=some (.int .i64 i))∧∃ k l m,(∀ u,Sx u→u.cell? ⟨s2.block,s2.off+1,none⟩=some (.slice k l m))∧idxS k l (i64.wrap (f - 1)) 3 λo=>∃ n,(∀ u,Sx u→u.cell? o=some (.int .i64 n))∧(bif (decide ((i:Int)≤n)) then (R (.int .i64 1) w3) else (N1 (fO s1 s2 a b c d (i64.wrap (f+1)) (jg j 0::jg j 1::jg j 2::ji f::jp ⟨b1,0,none⟩::jq j 5 21 (jb (decide ((f:Int)<d))::ji f::jp ad::r.val::jp ⟨b1,0,none⟩::ji g::jb (decide ((g:Int)<0))::jb false::jp ⟨b1,0,none⟩::ji h::ji s1::jb (decide ((h:Int)≥s1))::jb (decide ((h:Int)≥s1))::jb false::ji f::jb (decide ((f:Int)>0))::jb true::jp ⟨b1,0,none⟩::ji i::jf s2 1::js k l m::ji f::ji (i64.wrap (f - 1))::jp o::jp o::ji n::jb (decide ((i:Int)≤n))::jb (decide ((i:Int)≤n))::jb (decide ((i:Int)≤n))::ji (i64.wrap (f+1))::jq j 56 20 []))) w3))) else (N1 (fO s1 s2 a b c d (i64.wrap (f+1)) (jg j 0::jg j 1::jg j 2::ji f::jp ⟨b1,0,none⟩::jq j 5 21 (jb (decide ((f:Int)<d))::ji f::jp ad::r.val::jp ⟨b1,0,none⟩::ji g::jb (decide ((g:Int)<0))::jb false::jp ⟨b1,0,none⟩::ji h::ji s1::jb (decide ((h:Int)≥s1))::jb (decide ((h:Int)≥s1))::jb false::ji f::jb (decide ((f:Int)>0))::jb false::uq 10 (jb false::jb false::ji (i64.wrap (f+1))::jq j 56 20 [])))) w3))))))) else (W prog (sub (aD f181) [1,1,1]) (mP s2 (jg j 0::ji s1::jq j 1 25 (js a b c::ji d::ji f::jb (decide ((f:Int)<d))::jq j 27 49 []))) (retQ prog f181 R) w))):=by kernel_rfl
theorem pp (a:Addr) (j:LV):W prog (sub (aD f181) [1,1,1]) (mP a j) (retQ prog f181 R) w=(∃ b c d,w.cell? ⟨a.block,a.off+1,none⟩=some (.slice b c d)∧cQ prog (.loop (sub (aD f181) [1,1,1,0,1,0,0])) (im a b c d (c:Nat) 0 (jq j 0 60 (jf a 1::jq j 64 16 []))) (aK 3 (nx f181 [1,1,1,1] R)) w):=by kernel_rfl
theorem mS (s2:Addr) (a:Option Addr) (b c:Nat) (d f:Int) (j:LV) (N2:LV→World→Prop):W prog (sub (aD f181) [1,1,1,0,1,0,0]) (im s2 a b c d f j) (seqQ N2 (aK 3 (nx f181 [1,1,1,1] R))) w=((bif (decide ((f:Int)<d)) then (idxS a b f 3 λad=>aE.ex λr=>aC w ad 0 r.cells∧∀ b1 w1,b1=w.heap.size→w1=w.alloc (.cells #[.int .i64 0,.int .i64 0,.bool false] 128)→wrAt w1 ⟨b1,0,none⟩ 0 r.cells∧∀ w2,w2=puts w1 ⟨b1,0,none⟩ 0 r.cells→∃ g,w2.cell? ⟨b1,1,none⟩=some (.int .i64 g)∧(bif (decide ((g:Int)<1)) then (R (.int .i64 2) w2) else (∃ h,w2.cell? ⟨b1,1,none⟩=some (.int .i64 h)∧(bif (decide ((h:Int)>31)) then (R (.int .i64 2) w2) else (N2 (im s2 a b c d (i64.wrap (f+1)) (jq j 0 7 (jp ⟨b1,0,none⟩::jq j 8 53 (jb (decide ((f:Int)<d))::jp ad::r.val::jp ⟨b1,1,none⟩::ji g::jb (decide ((g:Int)<1))::jb false::jp ⟨b1,1,none⟩::ji h::jb (decide ((h:Int)>31))::jb (decide ((h:Int)>31))::ji (i64.wrap (f+1))::jq j 73 4 [])))) w2))))) else (W prog (sub (aD f181) [1,1,1,1]) (mQ s2 (jq j 0 61 (js a b c::ji d::ji f::jb (decide ((f:Int)<d))::jq j 62 15 []))) (retQ prog f181 R) w))):=by kernel_rfl
theorem pq (a:Addr) (j:LV):W prog (sub (aD f181) [1,1,1,1]) (mQ a j) (retQ prog f181 R) w=(∃ b c d,w.cell? ⟨a.block,a.off+1,none⟩=some (.slice b c d)∧Calls prog 223 #[.slice b c d,.func (.func 224) #[] #[]] w λe w1=>∃ f,e=.returned (.bool f)∧(bif (!f) then (R (.int .i64 13) w1) else (R (.int .i64 0) w1))):=by kernel_rfl
theorem rL (p0:Int):fnW prog f222 [.int .i64 p0] R w=((bif (decide ((p0:Int)≥1)) then (R (.bool (decide ((p0:Int)≤5))) w) else (R (.bool false) w))):=by kernel_rfl
theorem eR (p0:Option Addr) (a b:Nat) (p1:Value):fnW prog f223 [.slice p0 a b,p1] R w=(Calls prog 280 #[.slice p0 a b,p1] w λe w1=>∃ c,e=.returned (.int .i64 c)∧R (.bool (decide ((c:Int)≥0))) w1):=by kernel_rfl
theorem sM (p0:aE):fnW prog f224 [p0.val] R w=(∀ b1 w1,b1=w.heap.size→w1=w.alloc (.cells p0.cells.toArray 128)→∃ a,w1.cell? ⟨b1,2,none⟩=some (.bool a)∧R (.bool a) w1):=by kernel_rfl
theorem rM (p0:aM):fnW prog f238 [p0.val] R w=(∀ b1 w1,b1=w.heap.size→w1=w.alloc (.cells p0.cells.toArray 35)→∃ a b c,w1.cell? ⟨b1,1,none⟩=some (.slice a b c)∧(bif (((b:Nat):Int) == 0) then (R (.slice none 0 0) w1) else (∃ d f g,w1.cell? ⟨b1,1,none⟩=some (.slice d f g)∧sl3 d f g 1 (f:Nat) (g:Nat) 3 λxa xl xc=>Calls prog 286 #[.slice xa xl xc] w1 λe w2=>∃ h i k,e=.returned (.slice h i k)∧R (.slice h i k) w2))):=by kernel_rfl
def bC (s0:Option Addr) (a b:Nat) (s1:Value) (s7 s8:Int) (j:LV):LV:=.slice s0 a b::s1::jq j 0 5 (.int .i64 s7::.int .i64 s8::jq j 5 10 [])
def cT  (j:LV):LV:=jq j 0 19 []
theorem fA (p0:Option Addr) (a b:Nat) (p1:Value):fnW prog f280 [.slice p0 a b,p1] R w=(cQ prog (.loop (sub (aD f280) [1,0,1,0,0])) (bC p0 a b p1 (a:Nat) 0 (uq 2 (ji 0::undef::js p0 a b::uq 10 []))) (aK 0 (nx f280 [1,1] R)) w):=by kernel_rfl
theorem ey (s0:Option Addr) (a b:Nat) (s1:Value) (s7 s8:Int) (j:LV) (N1:LV→World→Prop):W prog (sub (aD f280) [1,0,1,0,0]) (bC s0 a b s1 s7 s8 j) (seqQ N1 (aK 0 (nx f280 [1,1] R))) w=((bif (decide ((s8:Int)<s7)) then (idxS s0 a s8 3 λad=>aE.ex λr=>aC w ad 0 r.cells∧nU prog s1 #[r.val] w λe w1=>∃ c,e=.returned (.bool c)∧(bif c then (R (.int .i64 s8) w1) else (N1 (bC s0 a b s1 s7 (i64.wrap (s8+1)) [jg j 0,jg j 1,jg j 2,ji s8,jg j 4,jb (decide ((s8:Int)<s7)),ji s8,s1,js s0 a b,ji s8,jp ad,r.val,jb c,jg j 13,ji (i64.wrap (s8+1))]) w1))) else (W prog (sub (aD f280) [1,1]) (cT  (js s0 a b::s1::jq j 0 5 (ji s7::ji s8::jb (decide ((s8:Int)<s7))::jq j 6 9 []))) (retQ prog f280 R) w))):=by kernel_rfl
theorem eL  (j:LV):W prog (sub (aD f280) [1,1]) (cT  j) (retQ prog f280 R) w=(R (.int .i64 (-1)) w):=by kernel_rfl
end Go.Proofs.YtgpmeaicjonenaaGreat
