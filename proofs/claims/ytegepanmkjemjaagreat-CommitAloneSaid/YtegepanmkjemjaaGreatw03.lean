import Derived.Test.YtegepanmkjemjaaGreatProg
import Derived.Test.YtegepanmkjemjaaGreatw01
import Derived.Test.YtegepanmkjemjaaGreatw02
set_option linter.unusedVariables false
namespace Go.Proofs.YtegepanmkjemjaaGreat
open Go.Proofs.Tryz
open Go.Eng
abbrev nx (f:Func) (p:List Nat) (R:Value→World→Prop):Exit→List Value→World→Prop:=seqQ (λenv w=>W prog (sub (aD f) p) env (retQ prog f R) w) (retQ prog f R)
structure aL where
 Kind:Int
 Node:Int
 At:Int
 N:Int
 Old:Int
 New:Int
 Words:Option Addr
 Wl:Nat
 Wc:Nat
 Key:Int
 Boot:Int
def aL.cells (r:aL):List Value:=[.int .i64 r.Kind,.int .i64 r.Node,.int .i64 r.At,.int .i64 r.N,.int .u64 r.Old,.int .u64 r.New,.slice r.Words r.Wl r.Wc,.int .u64 r.Key,.int .i64 r.Boot]
def aL.val (r:aL):Value:=.agg r.cells.toArray
def aL.ex (K:aL→Prop):Prop:=∃ (xKind:Int) (xNode:Int) (xAt:Int) (xN:Int) (xOld:Int) (xNew:Int) (xWords:Option Addr) (xWords_l:Nat) (xWords_c:Nat) (xKey:Int) (xBoot:Int),K ⟨xKind,xNode,xAt,xN,xOld,xNew,xWords,xWords_l,xWords_c,xKey,xBoot⟩
theorem aL.mk_ex {K:aL→Prop} (r:aL) (h:K r):aL.ex K:=⟨_,_,_,_,_,_,_,_,_,_,_,h⟩
theorem aL.len (r:aL):r.cells.length=9:=rfl
theorem aL.single (r:aL):∀ u ∈ r.cells,single u=true:=by
 intro u hu
 simp only [aL.cells,List.mem_cons,List.not_mem_nil,or_false] at hu
 rcases hu with rfl | rfl | rfl | rfl | rfl | rfl | rfl | rfl | rfl<;>rfl
structure bF where
 Code:Int
 Words:Option Addr
 Wl:Nat
 Wc:Nat
def bF.cells (r:bF):List Value:=[.int .i64 r.Code,.slice r.Words r.Wl r.Wc]
def bF.val (r:bF):Value:=.agg r.cells.toArray
def bF.ex (K:bF→Prop):Prop:=∃ (xCode:Int) (xWords:Option Addr) (xWords_l:Nat) (xWords_c:Nat),K ⟨xCode,xWords,xWords_l,xWords_c⟩
theorem bF.mk_ex {K:bF→Prop} (r:bF) (h:K r):bF.ex K:=⟨_,_,_,_,h⟩
theorem bF.len (r:bF):r.cells.length=2:=rfl
theorem bF.single (r:bF):∀ u ∈ r.cells,single u=true:=by
 intro u hu
 simp only [bF.cells,List.mem_cons,List.not_mem_nil,or_false] at hu
 rcases hu with rfl | rfl<;>rfl
structure aM where
 Number:Int
 Members:Option Addr
 Members_l:Nat
 Members_c:Nat
def aM.cells (r:aM):List Value:=[.int .i64 r.Number,.slice r.Members r.Members_l r.Members_c]
def aM.val (r:aM):Value:=.agg r.cells.toArray
def aM.ex (K:aM→Prop):Prop:=∃ (xNumber:Int) (xMembers:Option Addr) (xMembers_l:Nat) (xMembers_c:Nat),K ⟨xNumber,xMembers,xMembers_l,xMembers_c⟩
theorem aM.mk_ex {K:aM→Prop} (r:aM) (h:K r):aM.ex K:=⟨_,_,_,_,h⟩
theorem aM.single (r:aM):∀ u ∈ r.cells,single u=true:=by
 intro u hu
 simp only [aM.cells,List.mem_cons,List.not_mem_nil,or_false] at hu
 rcases hu with rfl | rfl<;>rfl
structure aH where
 Client:Int
 Seq:Int
 Lines:Int
 View:aM
 Reads:Option Addr
 Reads_l:Nat
 Reads_c:Nat
 Writes:Option Addr
 Writes_l:Nat
 Writes_c:Nat
def aH.cells (r:aH):List Value:=[.int .i64 r.Client,.int .i64 r.Seq,.int .i64 r.Lines,.int .i64 r.View.Number,.slice r.View.Members r.View.Members_l r.View.Members_c,.slice r.Reads r.Reads_l r.Reads_c,.slice r.Writes r.Writes_l r.Writes_c]
def aH.val (r:aH):Value:=.agg r.cells.toArray
def aH.ex (K:aH→Prop):Prop:=∃ (xClient:Int) (xSeq:Int) (xLines:Int) (xView_Number:Int) (xView_Members:Option Addr) (xView_Members_l:Nat) (xView_Members_c:Nat) (xReads:Option Addr) (xReads_l:Nat) (xReads_c:Nat) (xWrites:Option Addr) (xWrites_l:Nat) (xWrites_c:Nat),K ⟨xClient,xSeq,xLines,⟨xView_Number,xView_Members,xView_Members_l,xView_Members_c⟩,xReads,xReads_l,xReads_c,xWrites,xWrites_l,xWrites_c⟩
theorem aH.mk_ex {K:aH→Prop} (r:aH) (h:K r):aH.ex K:=⟨_,_,_,_,_,_,_,_,_,_,_,_,_,h⟩
theorem aH.single (r:aH):∀ u ∈ r.cells,single u=true:=by
 intro u hu
 simp only [aH.cells,List.mem_cons,List.not_mem_nil,or_false] at hu
 rcases hu with rfl | rfl | rfl | rfl | rfl | rfl | rfl<;>rfl
structure bY where
 Nodes:Int
def bY.cells (r:bY):List Value:=[.int .i64 r.Nodes]
def bY.val (r:bY):Value:=.agg r.cells.toArray
def bY.ex (K:bY→Prop):Prop:=∃ (xNodes:Int),K ⟨xNodes⟩
theorem bY.mk_ex {K:bY→Prop} (r:bY) (h:K r):bY.ex K:=⟨_,h⟩
theorem bY.single (r:bY):∀ u ∈ r.cells,single u=true:=by
 intro u hu
 simp only [bY.cells,List.mem_cons,List.not_mem_nil,or_false] at hu
 rcases hu with rfl<;>rfl
structure ee where
 Nodes:Int
 Number:Int
 Client:Int
 Round:Int
 Val:Int
def ee.cells (r:ee):List Value:=[.int .i64 r.Nodes,.int .i64 r.Number,.int .i64 r.Client,.int .i64 r.Round,.int .u64 r.Val]
def ee.val (r:ee):Value:=.agg r.cells.toArray
def ee.ex (K:ee→Prop):Prop:=∃ (xNodes:Int) (xNumber:Int) (xClient:Int) (xRound:Int) (xVal:Int),K ⟨xNodes,xNumber,xClient,xRound,xVal⟩
theorem ee.mk_ex {K:ee→Prop} (r:ee) (h:K r):ee.ex K:=⟨_,_,_,_,_,h⟩
theorem ee.single (r:ee):∀ u ∈ r.cells,single u=true:=by
 intro u hu
 simp only [ee.cells,List.mem_cons,List.not_mem_nil,or_false] at hu
 rcases hu with rfl | rfl | rfl | rfl | rfl<;>rfl
structure aC where
 Kind:Int
 Client:Int
 Discover:bY
 Paxos:ee
 Commit:aH
 Got:Option Addr
 Got_l:Nat
 Got_c:Nat
 Over:Bool
 Bad:Bool
 Code:Int
 View:aM
 Status:Int
 Doors:Option Addr
 Doors_l:Nat
 Doors_c:Nat
 Val:Int
 Fate:Int
def aC.cells (r:aC):List Value:=[.int .i64 r.Kind,.int .i64 r.Client,.int .i64 r.Discover.Nodes,.int .i64 r.Paxos.Nodes,.int .i64 r.Paxos.Number,.int .i64 r.Paxos.Client,.int .i64 r.Paxos.Round,.int .u64 r.Paxos.Val,.int .i64 r.Commit.Client,.int .i64 r.Commit.Seq,.int .i64 r.Commit.Lines,.int .i64 r.Commit.View.Number,.slice r.Commit.View.Members r.Commit.View.Members_l r.Commit.View.Members_c,.slice r.Commit.Reads r.Commit.Reads_l r.Commit.Reads_c,.slice r.Commit.Writes r.Commit.Writes_l r.Commit.Writes_c,.slice r.Got r.Got_l r.Got_c,.bool r.Over,.bool r.Bad,.int .i64 r.Code,.int .i64 r.View.Number,.slice r.View.Members r.View.Members_l r.View.Members_c,.int .i64 r.Status,.slice r.Doors r.Doors_l r.Doors_c,.int .u64 r.Val,.int .i64 r.Fate]
def aC.val (r:aC):Value:=.agg r.cells.toArray
def aC.ex (K:aC→Prop):Prop:=∃ (xKind:Int) (xClient:Int) (xDiscover_Nodes:Int) (xPaxos_Nodes:Int) (xPaxos_Number:Int) (xPaxos_Client:Int) (xPaxos_Round:Int) (xPaxos_Val:Int) (xCommit_Client:Int) (xCommit_Seq:Int) (xCommit_Lines:Int) (xCommit_View_Number:Int) (xCommit_View_Members:Option Addr) (xCommit_View_Members_l:Nat) (xCommit_View_Members_c:Nat) (xCommit_Reads:Option Addr) (xCommit_Reads_l:Nat) (xCommit_Reads_c:Nat) (xCommit_Writes:Option Addr) (xCommit_Writes_l:Nat) (xCommit_Writes_c:Nat) (xGot:Option Addr) (xGot_l:Nat) (xGot_c:Nat) (xOver:Bool) (xBad:Bool) (xCode:Int) (xView_Number:Int) (xView_Members:Option Addr) (xView_Members_l:Nat) (xView_Members_c:Nat) (xStatus:Int) (xDoors:Option Addr) (xDoors_l:Nat) (xDoors_c:Nat) (xVal:Int) (xFate:Int),K ⟨xKind,xClient,⟨xDiscover_Nodes⟩,⟨xPaxos_Nodes,xPaxos_Number,xPaxos_Client,xPaxos_Round,xPaxos_Val⟩,⟨xCommit_Client,xCommit_Seq,xCommit_Lines,⟨xCommit_View_Number,xCommit_View_Members,xCommit_View_Members_l,xCommit_View_Members_c⟩,xCommit_Reads,xCommit_Reads_l,xCommit_Reads_c,xCommit_Writes,xCommit_Writes_l,xCommit_Writes_c⟩,xGot,xGot_l,xGot_c,xOver,xBad,xCode,⟨xView_Number,xView_Members,xView_Members_l,xView_Members_c⟩,xStatus,xDoors,xDoors_l,xDoors_c,xVal,xFate⟩
theorem aC.mk_ex {K:aC→Prop} (r:aC) (h:K r):aC.ex K:=⟨_,_,_,_,_,_,_,_,_,_,_,_,_,_,_,_,_,_,_,_,_,_,_,_,_,_,_,_,_,_,_,_,_,_,_,_,_,h⟩
theorem aC.single (r:aC):∀ u ∈ r.cells,single u=true:=by
 intro u hu
 simp only [aC.cells,List.mem_cons,List.not_mem_nil,or_false] at hu
 rcases hu with rfl | rfl | rfl | rfl | rfl | rfl | rfl | rfl | rfl | rfl | rfl | rfl | rfl | rfl | rfl | rfl | rfl | rfl | rfl | rfl | rfl | rfl | rfl | rfl | rfl<;>rfl
structure aB where
 Line:Int
 Head:Int
 Data0:Int
 Data1:Int
 Data2:Int
 Data3:Int
 Data4:Int
 Data5:Int
 Data6:Int
def aB.cells (r:aB):List Value:=[.int .i64 r.Line,.int .u64 r.Head,.int .u64 r.Data0,.int .u64 r.Data1,.int .u64 r.Data2,.int .u64 r.Data3,.int .u64 r.Data4,.int .u64 r.Data5,.int .u64 r.Data6]
def aB.val (r:aB):Value:=.agg r.cells.toArray
def aB.ex (K:aB→Prop):Prop:=∃ (xLine:Int) (xHead:Int) (xData0:Int) (xData1:Int) (xData2:Int) (xData3:Int) (xData4:Int) (xData5:Int) (xData6:Int),K ⟨xLine,xHead,xData0,xData1,xData2,xData3,xData4,xData5,xData6⟩
theorem aB.mk_ex {K:aB→Prop} (r:aB) (h:K r):aB.ex K:=⟨_,_,_,_,_,_,_,_,_,h⟩
theorem aB.len (r:aB):r.cells.length=9:=rfl
theorem aB.single (r:aB):∀ u ∈ r.cells,single u=true:=by
 intro u hu
 simp only [aB.cells,List.mem_cons,List.not_mem_nil,or_false] at hu
 rcases hu with rfl | rfl | rfl | rfl | rfl | rfl | rfl | rfl | rfl<;>rfl
structure aU where
 Line:Int
 Head:Int
def aU.cells (r:aU):List Value:=[.int .i64 r.Line,.int .u64 r.Head]
def aU.val (r:aU):Value:=.agg r.cells.toArray
def aU.ex (K:aU→Prop):Prop:=∃ (xLine:Int) (xHead:Int),K ⟨xLine,xHead⟩
theorem aU.mk_ex {K:aU→Prop} (r:aU) (h:K r):aU.ex K:=⟨_,_,h⟩
theorem aU.len (r:aU):r.cells.length=2:=rfl
theorem aU.single (r:aU):∀ u ∈ r.cells,single u=true:=by
 intro u hu
 simp only [aU.cells,List.mem_cons,List.not_mem_nil,or_false] at hu
 rcases hu with rfl | rfl<;>rfl
structure bE where
 At:Int
 Kind:Int
 A:Int
def bE.cells (r:bE):List Value:=[.int .i64 r.At,.int .i64 r.Kind,.int .i64 r.A]
def bE.val (r:bE):Value:=.agg r.cells.toArray
def bE.ex (K:bE→Prop):Prop:=∃ (xAt:Int) (xKind:Int) (xA:Int),K ⟨xAt,xKind,xA⟩
theorem bE.mk_ex {K:bE→Prop} (r:bE) (h:K r):bE.ex K:=⟨_,_,_,h⟩
theorem bE.single (r:bE):∀ u ∈ r.cells,single u=true:=by
 intro u hu
 simp only [bE.cells,List.mem_cons,List.not_mem_nil,or_false] at hu
 rcases hu with rfl | rfl | rfl<;>rfl
structure aF where
 Node:Int
 Boot:Int
 Full:Bool
def aF.cells (r:aF):List Value:=[.int .i64 r.Node,.int .i64 r.Boot,.bool r.Full]
def aF.val (r:aF):Value:=.agg r.cells.toArray
def aF.ex (K:aF→Prop):Prop:=∃ (xNode:Int) (xBoot:Int) (xFull:Bool),K ⟨xNode,xBoot,xFull⟩
theorem aF.mk_ex {K:aF→Prop} (r:aF) (h:K r):aF.ex K:=⟨_,_,_,h⟩
theorem aF.len (r:aF):r.cells.length=3:=rfl
theorem aF.single (r:aF):∀ u ∈ r.cells,single u=true:=by
 intro u hu
 simp only [aF.cells,List.mem_cons,List.not_mem_nil,or_false] at hu
 rcases hu with rfl | rfl | rfl<;>rfl
structure bI where
 Code:Int
 Number:Int
 View:aM
 Status:Int
 Opened:Bool
 Hint:Int
 Boots:Option Addr
 Boots_l:Nat
 Boots_c:Nat
 Keys:Option Addr
 Keys_l:Nat
 Keys_c:Nat
 Doors:Option Addr
 Doors_l:Nat
 Doors_c:Nat
def bI.cells (r:bI):List Value:=[.int .i64 r.Code,.int .i64 r.Number,.int .i64 r.View.Number,.slice r.View.Members r.View.Members_l r.View.Members_c,.int .i64 r.Status,.bool r.Opened,.int .u64 r.Hint,.slice r.Boots r.Boots_l r.Boots_c,.slice r.Keys r.Keys_l r.Keys_c,.slice r.Doors r.Doors_l r.Doors_c]
def bI.val (r:bI):Value:=.agg r.cells.toArray
def bI.ex (K:bI→Prop):Prop:=∃ (xCode:Int) (xNumber:Int) (xView_Number:Int) (xView_Members:Option Addr) (xView_Members_l:Nat) (xView_Members_c:Nat) (xStatus:Int) (xOpened:Bool) (xHint:Int) (xBoots:Option Addr) (xBoots_l:Nat) (xBoots_c:Nat) (xKeys:Option Addr) (xKeys_l:Nat) (xKeys_c:Nat) (xDoors:Option Addr) (xDoors_l:Nat) (xDoors_c:Nat),K ⟨xCode,xNumber,⟨xView_Number,xView_Members,xView_Members_l,xView_Members_c⟩,xStatus,xOpened,xHint,xBoots,xBoots_l,xBoots_c,xKeys,xKeys_l,xKeys_c,xDoors,xDoors_l,xDoors_c⟩
theorem bI.mk_ex {K:bI→Prop} (r:bI) (h:K r):bI.ex K:=⟨_,_,_,_,_,_,_,_,_,_,_,_,_,_,_,_,_,_,h⟩
theorem bI.single (r:bI):∀ u ∈ r.cells,single u=true:=by
 intro u hu
 simp only [bI.cells,List.mem_cons,List.not_mem_nil,or_false] at hu
 rcases hu with rfl | rfl | rfl | rfl | rfl | rfl | rfl | rfl | rfl | rfl<;>rfl
structure bT where
 Code:Int
 Val:Int
 Round:Int
def bT.cells (r:bT):List Value:=[.int .i64 r.Code,.int .u64 r.Val,.int .i64 r.Round]
def bT.val (r:bT):Value:=.agg r.cells.toArray
def bT.ex (K:bT→Prop):Prop:=∃ (xCode:Int) (xVal:Int) (xRound:Int),K ⟨xCode,xVal,xRound⟩
theorem bT.mk_ex {K:bT→Prop} (r:bT) (h:K r):bT.ex K:=⟨_,_,_,h⟩
theorem bT.single (r:bT):∀ u ∈ r.cells,single u=true:=by
 intro u hu
 simp only [bT.cells,List.mem_cons,List.not_mem_nil,or_false] at hu
 rcases hu with rfl | rfl | rfl<;>rfl
structure aA where
 Code:Int
 Fate:Int
def aA.cells (r:aA):List Value:=[.int .i64 r.Code,.int .i64 r.Fate]
def aA.val (r:aA):Value:=.agg r.cells.toArray
def aA.ex (K:aA→Prop):Prop:=∃ (xCode:Int) (xFate:Int),K ⟨xCode,xFate⟩
theorem aA.mk_ex {K:aA→Prop} (r:aA) (h:K r):aA.ex K:=⟨_,_,h⟩
theorem aA.single (r:aA):∀ u ∈ r.cells,single u=true:=by
 intro u hu
 simp only [aA.cells,List.mem_cons,List.not_mem_nil,or_false] at hu
 rcases hu with rfl | rfl<;>rfl
structure aS where
 Seq:Int
 Writes:Option Addr
 Writes_l:Nat
 Writes_c:Nat
def aS.cells (r:aS):List Value:=[.int .i64 r.Seq,.slice r.Writes r.Writes_l r.Writes_c]
def aS.val (r:aS):Value:=.agg r.cells.toArray
def aS.ex (K:aS→Prop):Prop:=∃ (xSeq:Int) (xWrites:Option Addr) (xWrites_l:Nat) (xWrites_c:Nat),K ⟨xSeq,xWrites,xWrites_l,xWrites_c⟩
theorem aS.mk_ex {K:aS→Prop} (r:aS) (h:K r):aS.ex K:=⟨_,_,_,_,h⟩
theorem aS.single (r:aS):∀ u ∈ r.cells,single u=true:=by
 intro u hu
 simp only [aS.cells,List.mem_cons,List.not_mem_nil,or_false] at hu
 rcases hu with rfl | rfl<;>rfl
structure bX where
 l:List Int
def bX.cells (r:bX):List Value:=r.l.map λx=>.int .u64 x
def bX.val (r:bX):Value:=.agg r.cells.toArray
def bX.ex (K:bX→Prop):Prop:=exI 256 λl=>K ⟨l⟩
theorem bX.mk_ex {K:bX→Prop} (r:bX) (hl:r.l.length=256) (h:K r):bX.ex K:=DT 256 r.l hl h
theorem bX.single (r:bX):∀ u ∈ r.cells,single u=true:=by
 intro u hu
 obtain ⟨x,_,rfl⟩:=List.mem_map.1 hu
 rfl
end Go.Proofs.YtegepanmkjemjaaGreat
namespace Go.Proofs.YtegepanmkjemjaaGreat
open Go.Proofs.Tryz
open Go.Eng IntKind
variable (w:World) (R:Value→World→Prop)
theorem qh (p0 p1:Int):fnW prog f11 [.int .i64 p0,.int .i64 p1] R w=((bif (decide ((p1:Int)<1)) then (R (.int .i64 0) w) else (IntKind.i64=IntKind.i64∧p1≠0∧IntKind.i64=IntKind.i64∧p1≠0∧R (.int .i64 (Int.tmod (i64.wrap ((Int.tmod p0 p1)+p1)) p1)) w))):=by kernel_rfl
end Go.Proofs.YtegepanmkjemjaaGreat
namespace Go.Proofs.YtegepanmkjemjaaGreat
open Go.Eng
theorem fS (w:World) (x n:Int) (hx:-9223372036854775808≤x∧x<9223372036854775808) (hn:n<4611686018427387904):Does 11 [.int .i64 x,.int .i64 n] w λv w'=>v=.int .i64 (if n<1 then 0 else x % n)∧w'=w:=by
 refine does Tryz.func11 ?_
 rw [qh]
 refine aJ (λh=>⟨by rw [if_pos h],rfl⟩) (λh=>⟨rfl,by omega,rfl,by omega,?_,rfl⟩)
 rw [if_neg h]
 have h1:0<n:=by omega
 have key:∃ t k,Int.tmod x n=t∧-n<t∧t<n∧t+n * k=x:=by
  rcases Int.le_total 0 x with hx0 | hx0
  ·refine ⟨x % n,x / n,Int.tmod_eq_emod_of_nonneg hx0,?_,Int.emod_lt_of_pos x h1,Int.emod_add_mul_ediv x n⟩
   have:=Int.emod_nonneg x (Int.ne_of_gt h1)
   omega
  ·refine ⟨-((-x) % n),-((-x) / n),?_,?_,?_,?_⟩
   ·rw [←Int.tmod_eq_emod_of_nonneg (by omega),Int.neg_tmod,Int.neg_neg]
   ·have:=Int.emod_lt_of_pos (-x) h1
    omega
   ·have:=Int.emod_nonneg (-x) (Int.ne_of_gt h1)
    omega
   ·have:=Int.emod_add_mul_ediv (-x) n
    rw [Int.mul_neg]
    omega
 obtain ⟨t,k,ht,h2,h3,hk⟩:=key
 rw [ht,w64 (by omega) (by omega)]
 congr 1
 rw [Int.tmod_eq_emod_of_nonneg (by omega),Int.add_emod_right,←hk,Int.add_mul_emod_self_left]
end Go.Proofs.YtegepanmkjemjaaGreat
namespace Go.Proofs.YtegepanmkjemjaaGreat
open Go.Proofs.Tryz
open Go.Eng IntKind
variable (w:World) (R:Value→World→Prop)
theorem sP (p0:aM):fnW prog f107 [p0.val] R w=(∀ b1 w1,b1=w.heap.size→w1=w.alloc (.cells p0.cells.toArray 30)→∀ b2 w2,b2=w1.heap.size→w2=w1.alloc (.cells #[(.int .i64 0),(.int .i64 0),(.bool false)] 103)→∃ a b c,w2.cell? ⟨b1,1,none⟩=some (.slice a b c)∧(bif (((b:Nat):Int) == 0) then (wrAt w2 ⟨b2,0,none⟩ 0 [(.int .i64 0),(.int .i64 0),(.bool false)]∧∀ w3,w3=puts w2 ⟨b2,0,none⟩ 0 [(.int .i64 0),(.int .i64 0),(.bool false)]→aF.ex λh=>aG w3 ⟨b2,0,none⟩ 0 h.cells∧w3=w3∧R (.tuple #[h.val,(.bool false)]) w3) else (∃ d f g,w2.cell? ⟨b1,1,none⟩=some (.slice d f g)∧idxS d f 0 3 λad=>aF.ex λr=>aG w2 ad 0 r.cells∧wrAt w2 ⟨b2,0,none⟩ 0 r.cells∧∀ w4,w4=puts w2 ⟨b2,0,none⟩ 0 r.cells→aF.ex λi=>aG w4 ⟨b2,0,none⟩ 0 i.cells∧w4=w4∧R (.tuple #[i.val,(.bool true)]) w4))):=by kernel_rfl
def gy (s1:Int) (s2:Addr) (a:Option Addr) (b c:Nat) (d f:Int) (j:LV):LV:=jq j 0 1 (.int .i64 s1::.pointer (some s2)::jq j 1 25 (.slice a b c::.int .i64 d::.int .i64 f::jq j 26 50 []))
def nK (a:Addr) (j:LV):LV:=jq j 0 2 (.pointer (some a)::jq j 2 78 [])
def iB (s2:Addr) (a:Option Addr) (b c:Nat) (d f:Int) (j:LV):LV:=jq j 0 2 (.pointer (some s2)::jq j 2 59 (.slice a b c::.int .i64 d::.int .i64 f::jq j 61 16 []))
def nL (a:Addr) (j:LV):LV:=jq j 0 2 (.pointer (some a)::jq j 2 78 [])
theorem uV (p0:aM) (p1:Int):fnW prog f141 [p0.val,.int .i64 p1] R w=(∀ b1 w1,b1=w.heap.size→w1=w.alloc (.cells p0.cells.toArray 30)→Calls prog 171 #[.int .i64 p1] w1 λe w2=>∃ a,e=.returned (.bool a)∧(bif (!a) then (R (.int .i64 1) w2) else (∃ b,w2.cell? ⟨b1,0,none⟩=some (.int .i64 b)∧(bif (decide ((b:Int)<0)) then (R (.int .i64 2) w2) else (∃ c,w2.cell? ⟨b1,0,none⟩=some (.int .i64 c)∧(bif (decide ((c:Int)≥16)) then (R (.int .i64 2) w2) else (∃ d f g,w2.cell? ⟨b1,1,none⟩=some (.slice d f g)∧(bif (((f:Nat):Int) == 0) then (R (.int .i64 1) w2) else (∃ h i k,w2.cell? ⟨b1,1,none⟩=some (.slice h i k)∧bS prog (.loop (sub (aD f141) [1,1,0,1,0,0])) (gy p1 ⟨b1,0,none⟩ h i k (i:Nat) 0 (p0.val::undef::ji 0::uq 4 (jb (!a)::ji p1::jb a::jb (!a)::jb (decide ((c:Int)≥16))::jp ⟨b1,0,none⟩::ji b::jb (decide ((b:Int)<0))::jb false::jp ⟨b1,0,none⟩::ji c::jb (decide ((c:Int)≥16))::jb (decide ((c:Int)≥16))::jb (((f:Nat):Int) == 0)::jp ⟨b1,1,none⟩::js d f g::jn f::jb (((f:Nat):Int) == 0)::jp ⟨b1,1,none⟩::uq 50 []))) (aI 1 (nx f141 [1,1,1] R)) w2))))))))):=by kernel_rfl
theorem nM (s1:Int) (s2:Addr) (a:Option Addr) (b c:Nat) (d f:Int) (j:LV) (N1:LV→World→Prop):W prog (sub (aD f141) [1,1,0,1,0,0]) (gy s1 s2 a b c d f j) (seqQ N1 (aI 1 (nx f141 [1,1,1] R))) w=((bif (decide ((f:Int)<d)) then (idxS a b f 3 λad=>aF.ex λr=>aG w ad 0 r.cells∧∀ b1 w1,b1=w.heap.size→w1=w.alloc (.cells #[.int .i64 0,.int .i64 0,.bool false] 103)→wrAt w1 ⟨b1,0,none⟩ 0 r.cells∧∀ w2,w2=puts w1 ⟨b1,0,none⟩ 0 r.cells→∀ w3,w3=w2.drew→∃ Sx:World→Prop,Sx w3∧∃ g,(∀ u,Sx u→u.cell? ⟨b1,0,none⟩=some (.int .i64 g))∧(bif (decide ((g:Int)<0)) then (R (.int .i64 1) w3) else (∃ h,(∀ u,Sx u→u.cell? ⟨b1,0,none⟩=some (.int .i64 h))∧(bif (decide ((h:Int)≥s1)) then (R (.int .i64 1) w3) else ((bif (decide ((f:Int)>0)) then (∃ i,(∀ u,Sx u→u.cell? ⟨b1,0,none⟩=some (.int .i64 i))∧∃ k l m,(∀ u,Sx u→u.cell? ⟨s2.block,s2.off+1,none⟩=some (.slice k l m))∧idxS k l (i64.wrap (f - 1)) 3 λo=>∃ n,(∀ u,Sx u→u.cell? o=some (.int .i64 n))∧(bif (decide ((i:Int)≤n)) then (R (.int .i64 1) w3) else (N1 (gy s1 s2 a b c d (i64.wrap (f+1)) (jg j 0::jg j 1::jg j 2::ji f::jp ⟨b1,0,none⟩::jq j 5 21 (jb (decide ((f:Int)<d))::ji f::jp ad::r.val::jp ⟨b1,0,none⟩::ji g::jb (decide ((g:Int)<0))::jb false::jp ⟨b1,0,none⟩::ji h::ji s1::jb (decide ((h:Int)≥s1))::jb (decide ((h:Int)≥s1))::jb false::ji f::jb (decide ((f:Int)>0))::jb true::jp ⟨b1,0,none⟩::ji i::jf s2 1::js k l m::ji f::ji (i64.wrap (f - 1))::jp o::jp o::ji n::jb (decide ((i:Int)≤n))::jb (decide ((i:Int)≤n))::jb (decide ((i:Int)≤n))::ji (i64.wrap (f+1))::jq j 56 20 []))) w3))) else (N1 (gy s1 s2 a b c d (i64.wrap (f+1)) (jg j 0::jg j 1::jg j 2::ji f::jp ⟨b1,0,none⟩::jq j 5 21 (jb (decide ((f:Int)<d))::ji f::jp ad::r.val::jp ⟨b1,0,none⟩::ji g::jb (decide ((g:Int)<0))::jb false::jp ⟨b1,0,none⟩::ji h::ji s1::jb (decide ((h:Int)≥s1))::jb (decide ((h:Int)≥s1))::jb false::ji f::jb (decide ((f:Int)>0))::jb false::uq 10 (jb false::jb false::ji (i64.wrap (f+1))::jq j 56 20 [])))) w3))))))) else (W prog (sub (aD f141) [1,1,1]) (nK s2 (jg j 0::ji s1::jq j 1 25 (js a b c::ji d::ji f::jb (decide ((f:Int)<d))::jq j 27 49 []))) (retQ prog f141 R) w))):=by kernel_rfl
theorem qi (a:Addr) (j:LV):W prog (sub (aD f141) [1,1,1]) (nK a j) (retQ prog f141 R) w=(∃ b c d,w.cell? ⟨a.block,a.off+1,none⟩=some (.slice b c d)∧bS prog (.loop (sub (aD f141) [1,1,1,0,1,0,0])) (iB a b c d (c:Nat) 0 (jq j 0 60 (jf a 1::jq j 64 16 []))) (aI 3 (nx f141 [1,1,1,1] R)) w):=by kernel_rfl
theorem nN (s2:Addr) (a:Option Addr) (b c:Nat) (d f:Int) (j:LV) (N2:LV→World→Prop):W prog (sub (aD f141) [1,1,1,0,1,0,0]) (iB s2 a b c d f j) (seqQ N2 (aI 3 (nx f141 [1,1,1,1] R))) w=((bif (decide ((f:Int)<d)) then (idxS a b f 3 λad=>aF.ex λr=>aG w ad 0 r.cells∧∀ b1 w1,b1=w.heap.size→w1=w.alloc (.cells #[.int .i64 0,.int .i64 0,.bool false] 103)→wrAt w1 ⟨b1,0,none⟩ 0 r.cells∧∀ w2,w2=puts w1 ⟨b1,0,none⟩ 0 r.cells→∃ g,w2.cell? ⟨b1,1,none⟩=some (.int .i64 g)∧(bif (decide ((g:Int)<1)) then (R (.int .i64 2) w2) else (∃ h,w2.cell? ⟨b1,1,none⟩=some (.int .i64 h)∧(bif (decide ((h:Int)>31)) then (R (.int .i64 2) w2) else (N2 (iB s2 a b c d (i64.wrap (f+1)) (jq j 0 7 (jp ⟨b1,0,none⟩::jq j 8 53 (jb (decide ((f:Int)<d))::jp ad::r.val::jp ⟨b1,1,none⟩::ji g::jb (decide ((g:Int)<1))::jb false::jp ⟨b1,1,none⟩::ji h::jb (decide ((h:Int)>31))::jb (decide ((h:Int)>31))::ji (i64.wrap (f+1))::jq j 73 4 [])))) w2))))) else (W prog (sub (aD f141) [1,1,1,1]) (nL s2 (jq j 0 61 (js a b c::ji d::ji f::jb (decide ((f:Int)<d))::jq j 62 15 []))) (retQ prog f141 R) w))):=by kernel_rfl
theorem qj (a:Addr) (j:LV):W prog (sub (aD f141) [1,1,1,1]) (nL a j) (retQ prog f141 R) w=(∃ b c d,w.cell? ⟨a.block,a.off+1,none⟩=some (.slice b c d)∧Calls prog 172 #[.slice b c d,.func (.func 173) #[] #[]] w λe w1=>∃ f,e=.returned (.bool f)∧(bif (!f) then (R (.int .i64 13) w1) else (R (.int .i64 0) w1))):=by kernel_rfl
theorem sQ (p0:Int):fnW prog f171 [.int .i64 p0] R w=((bif (decide ((p0:Int)≥1)) then (R (.bool (decide ((p0:Int)≤5))) w) else (R (.bool false) w))):=by kernel_rfl
theorem eW (p0:Option Addr) (a b:Nat) (p1:Value):fnW prog f172 [.slice p0 a b,p1] R w=(Calls prog 195 #[.slice p0 a b,p1] w λe w1=>∃ c,e=.returned (.int .i64 c)∧R (.bool (decide ((c:Int)≥0))) w1):=by kernel_rfl
theorem tU (p0:aF):fnW prog f173 [p0.val] R w=(∀ b1 w1,b1=w.heap.size→w1=w.alloc (.cells p0.cells.toArray 103)→∃ a,w1.cell? ⟨b1,2,none⟩=some (.bool a)∧R (.bool a) w1):=by kernel_rfl
theorem sR (p0:aM):fnW prog f187 [p0.val] R w=(∀ b1 w1,b1=w.heap.size→w1=w.alloc (.cells p0.cells.toArray 30)→∃ a b c,w1.cell? ⟨b1,1,none⟩=some (.slice a b c)∧(bif (((b:Nat):Int) == 0) then (R (.slice none 0 0) w1) else (∃ d f g,w1.cell? ⟨b1,1,none⟩=some (.slice d f g)∧sl3 d f g 1 (f:Nat) (g:Nat) 3 λxa xl xc=>Calls prog 204 #[.slice xa xl xc] w1 λe w2=>∃ h i k,e=.returned (.slice h i k)∧R (.slice h i k) w2))):=by kernel_rfl
def bD (s0:Option Addr) (a b:Nat) (s1:Value) (s7 s8:Int) (j:LV):LV:=.slice s0 a b::s1::jq j 0 5 (.int .i64 s7::.int .i64 s8::jq j 5 10 [])
def cS  (j:LV):LV:=jq j 0 19 []
theorem fH (p0:Option Addr) (a b:Nat) (p1:Value):fnW prog f195 [.slice p0 a b,p1] R w=(bS prog (.loop (sub (aD f195) [1,0,1,0,0])) (bD p0 a b p1 (a:Nat) 0 (uq 2 (ji 0::undef::js p0 a b::uq 10 []))) (aI 0 (nx f195 [1,1] R)) w):=by kernel_rfl
theorem ey (s0:Option Addr) (a b:Nat) (s1:Value) (s7 s8:Int) (j:LV) (N1:LV→World→Prop):W prog (sub (aD f195) [1,0,1,0,0]) (bD s0 a b s1 s7 s8 j) (seqQ N1 (aI 0 (nx f195 [1,1] R))) w=((bif (decide ((s8:Int)<s7)) then (idxS s0 a s8 3 λad=>aF.ex λr=>aG w ad 0 r.cells∧oM prog s1 #[r.val] w λe w1=>∃ c,e=.returned (.bool c)∧(bif c then (R (.int .i64 s8) w1) else (N1 (bD s0 a b s1 s7 (i64.wrap (s8+1)) [jg j 0,jg j 1,jg j 2,ji s8,jg j 4,jb (decide ((s8:Int)<s7)),ji s8,s1,js s0 a b,ji s8,jp ad,r.val,jb c,jg j 13,ji (i64.wrap (s8+1))]) w1))) else (W prog (sub (aD f195) [1,1]) (cS  (js s0 a b::s1::jq j 0 5 (ji s7::ji s8::jb (decide ((s8:Int)<s7))::jq j 6 9 []))) (retQ prog f195 R) w))):=by kernel_rfl
theorem eN  (j:LV):W prog (sub (aD f195) [1,1]) (cS  j) (retQ prog f195 R) w=(R (.int .i64 (-1)) w):=by kernel_rfl
theorem sS (p0:aM) (p1:aF) (p2:Bool) (p3:aL):fnW prog f202 [p0.val,p1.val,.bool p2,p3.val] R w=(∀ b1 w1,b1=w.heap.size→w1=w.alloc (.cells p0.cells.toArray 30)→∀ b2 w2,b2=w1.heap.size→w2=w1.alloc (.cells p1.cells.toArray 103)→∀ b3 w3,b3=w2.heap.size→w3=w2.alloc (.cells p3.cells.toArray 166)→∀ b4 w4,b4=w3.heap.size→w4=w3.alloc (.cells #[.int .i64 0,.int .i64 0,.int .i64 0,.int .i64 0,.int .u64 0,.int .u64 0,.slice none 0 0,.int .u64 0,.int .i64 0] 166)→∀ w5,w5=w4.drew→∃ Sx:World→Prop,Sx w5∧∃ a,(∀ u,Sx u→u.cell? ⟨b2,0,none⟩=some (.int .i64 a))∧∃ b,(∀ u,Sx u→u.cell? ⟨b2,1,none⟩=some (.int .i64 b))∧(∃ u,w5.cell? ⟨b3,1,none⟩=some u)∧w5.frozen? ⟨b3,1,none⟩=false∧∀ w6,w6=w5.setCell ⟨b3,1,none⟩ (.int .i64 a)→Sx w6∧(∃ u,w6.cell? ⟨b3,8,none⟩=some u)∧w6.frozen? ⟨b3,8,none⟩=false∧∀ w7,w7=w6.setCell ⟨b3,8,none⟩ (.int .i64 b)→∃ c,w7.cell? ⟨b1,0,none⟩=some (.int .i64 c)∧Calls prog 90 #[.int .i64 c,.bool p2] w7 λe w8=>∃ d f,e=.returned (.tuple #[.int .u64 d,.int .i64 f])∧(∃ u,w8.cell? ⟨b3,7,none⟩=some u)∧w8.frozen? ⟨b3,7,none⟩=false∧∀ w9,w9=w8.setCell ⟨b3,7,none⟩ (.int .u64 d)→∃ g h i,w9.cell? ⟨b3,6,none⟩=some (.slice g h i)∧Calls prog 53 #[.slice g h i] w9 λe n=>∃ k l m,e=.returned (.slice k l m)∧(∃ u,n.cell? ⟨b3,6,none⟩=some u)∧n.frozen? ⟨b3,6,none⟩=false∧∀ o,o=n.setCell ⟨b3,6,none⟩ (.slice k l m)→aL.ex λr=>aG o ⟨b3,0,none⟩ 0 r.cells∧wrAt o ⟨b4,0,none⟩ 0 r.cells∧∀ p,p=puts o ⟨b4,0,none⟩ 0 r.cells→aL.ex λq=>aG p ⟨b4,0,none⟩ 0 q.cells∧p=p∧R q.val p):=by kernel_rfl
end Go.Proofs.YtegepanmkjemjaaGreat
namespace Go.Proofs.YtegepanmkjemjaaGreat
open Go.Proofs.Tryz
open Go.Eng
abbrev TMb:TypeId:=103
abbrev TVw:TypeId:=30
abbrev TSM:TypeId:=28
def iC (l:List aF):List (List Value):=l.map aF.cells
theorem zi (l:List aF) (m:aF):(iC (l++[m])).flatten=(iC l).flatten++m.cells:=by simp [iC]
structure Vw where
 number:Int
 mem:List aF
def noM:aF:=⟨0,0,false⟩
def qk (n:Int) (l:List aF) (i:Nat):Bool:=
 decide (0≤(l.getD i noM).Node∧(l.getD i noM).Node<n) && (decide (i=0) || decide ((l.getD (i - 1) noM).Node<(l.getD i noM).Node))
def ql (m:aF):Bool:=decide (1≤m.Boot∧m.Boot≤31)
def Vw.valid (v:Vw) (n:Int):Int:=
 if ¬ (1≤n∧n≤5) then 1 else if v.number<0∨16≤v.number then 2 else if v.mem.length=0 then 1
 else if (List.range v.mem.length).all (qk n v.mem)=false then 1 else if v.mem.all ql=false then 2 else if v.mem.any aF.Full=false then 13 else 0
structure ViewAt (M:Nat→Prop) (w:World) (r:aM) (v:Vw):Prop where
 num:r.Number=v.number
 len:r.Members_l=v.mem.length
 cap:r.Members_l≤r.Members_c
 rd:Rd w r.Members (iC v.mem).flatten
 off:(iC v.mem).flatten=[]∨Off M r.Members
 small:v.mem.length≤1000000
theorem ViewAt.new {M:Nat→Prop} {w w':World} {r:aM} {v:Vw} (h:ViewAt M w r v) (hn:New w w'):ViewAt M w' r v:=⟨h.num,h.len,h.cap,h.rd.new hn,h.off,h.small⟩
theorem Aq (w:World) (n:Int):Does 171 [.int .i64 n] w λv w'=>v=.bool (decide (1≤n∧n≤5))∧w'=w:=by
 refine does Tryz.func171 ?_
 rw [sQ]
 refine aJ (λh=>⟨?_,rfl⟩) (λh=>⟨?_,rfl⟩)
 ·congr 1;simp;omega
 ·congr 1;simp;omega
theorem Cm (w:World) (m:aF):Does 173 [m.val] w λv w'=>v=.bool m.Full∧New w w':=by
 refine does Tryz.func173 ?_
 rw [tU]
 rintro b1 w1 hb1 hw1
 obtain ⟨hz,hn⟩:=aN hb1 hw1
 exact ⟨_,hz.cell rfl,rfl,hn⟩
theorem FF:mJ prog 173=true:=by kernel_rfl
section
attribute [local irreducible] mJ oM tT
theorem xF {w:World} {a:Option Addr} {c:Nat} {l:List aF} (h:Rd w a (iC l).flatten) (hl:l.length≤1000000) :
  Does 195 [.slice a l.length c,.func (.func 173) #[] #[]] w λv w'=>∃ z:Int,v=.int .i64 z∧(decide (z≥0)=l.any aF.Full)∧New w w':=by
 refine does Tryz.func195 ?_
 rw [fH]
 refine aQ mix (λm env u=>∃ (i:Nat) (jj:List Value),m=l.length - i∧i≤l.length∧env=bD a l.length c (.func (.func 173) #[] #[]) l.length i jj∧New w u∧(l.take i).any aF.Full=false) l.length
  ⟨0,_,by omega,by omega,rfl,Keep.refl _ _,rfl⟩ ?_
 rintro m env u ⟨i,jj,rfl,hi,rfl,hn,hno⟩
 rw [ey]
 refine aJ (λhp=>?_) (λhp=>?_)
 ·have hlt:i<l.length:=by omega
  have hg:l[i]?=some l[i]:=List.getElem?_eq_getElem hlt
  refine fR (cells:=aF.cells) aF.len (by omega) (h.new hn) hg rfl rfl λb o hc _=>aF.mk_ex l[i] ⟨hc,?_⟩
  refine oG FF (xs:=#[l[i].val]) (by simp) ?_
  refine aE (Cm _ l[i]) ?_
  rintro v u1 ⟨rfl,hn1⟩
  refine ⟨_,rfl,rX (λhf=>⟨i,rfl,?_,hn.new hn1⟩) (λhf=>?_)⟩
  ·have h1:l.any aF.Full=true:=List.any_eq_true.2 ⟨l[i],List.getElem_mem hlt,hf⟩
   rw [h1]
   simp
  ·rw [w64 (by omega) (by omega)]
   refine ⟨l.length - (i+1),by omega,i+1,_,rfl,by omega,rfl,hn.new hn1,?_⟩
   rw [List.take_add_one,hg,List.any_append,hno]
   simpa using hf
 ·rw [eN]
  have:l.take i=l:=List.take_of_length_le (by omega)
  rw [this] at hno
  exact ⟨-1,rfl,by rw [hno];decide,hn⟩
end
theorem tV {w:World} {a:Option Addr} {c:Nat} {l:List aF} (h:Rd w a (iC l).flatten) (hl:l.length≤1000000) :
  Does 172 [.slice a l.length c,.func (.func 173) #[] #[]] w λv w'=>v=.bool (l.any aF.Full)∧New w w':=by
 refine does Tryz.func172 ?_
 rw [eW]
 refine aE (xF h hl) ?_
 rintro v w1 ⟨z,rfl,hz,hn⟩
 exact ⟨_,rfl,by rw [hz],hn⟩
theorem lA {p:Nat→Bool} {n i:Nat} (hi:i<n) (h:p i=false):(List.range n).all p=false:=by
 rw [List.all_eq_false]
 exact ⟨i,List.mem_range.2 hi,by simp [h]⟩
theorem nO {α:Type} {l:List α} {i:Nat} {x d:α} (h:l[i]?=some x):l.getD i d=x:=by rw [List.getD_eq_getElem?_getD,h];rfl
set_option maxHeartbeats 1000000 in
theorem Cn {M:Nat→Prop} {w:World} {r:aM} {v:Vw} (h:ViewAt M w r v) (n:Int):Does 141 [r.val,.int .i64 n] w λx w'=>x=.int .i64 (v.valid n)∧New w w':=by
 refine does Tryz.func141 ?_
 rw [uV]
 rintro b1 w1 hb1 hw1
 obtain ⟨hz,hn⟩:=aN hb1 hw1
 have hz:Blk w1 b1 r.cells TVw:=hz
 clear hw1
 have hsm:=h.small
 have hlen:=h.len
 have hnum:=h.num
 unfold Vw.valid
 refine aE (Aq _ n) ?_
 rintro x w2 ⟨rfl,rfl⟩
 refine ⟨_,rfl,dN (λhb=>?_) (λhb=>?_)⟩
 ·rw [if_pos (by simpa using hb)];exact ⟨rfl,hn⟩
 have hn15:1≤n∧n≤5:=by simpa using hb
 rw [if_neg (λe=>e hn15)]
 refine ⟨_,hz.cell rfl,aJ (λhp=>?_) (λhp=>⟨_,hz.cell rfl,aJ (λhp2=>?_) (λhp2=>?_)⟩)⟩
 ·rw [if_pos (by omega)];exact ⟨rfl,hn⟩
 ·rw [if_pos (by omega)];exact ⟨rfl,hn⟩
 rw [if_neg (by omega)]
 refine ⟨_,_,_,hz.cell rfl,bH (λh0=>?_) (λh0=>⟨_,_,_,hz.cell rfl,?_⟩)⟩
 ·rw [if_pos (by omega)];exact ⟨rfl,hn⟩
 rw [if_neg (by omega)]
 refine aQ mix (λm env u=>∃ (i:Nat) (jj:List Value),m=v.mem.length - i∧i≤v.mem.length∧env=gy n ⟨b1,0,none⟩ r.Members r.Members_l r.Members_c r.Members_l i jj∧New w2 u∧∀ k,k<i→qk n v.mem k=true) v.mem.length
  ⟨0,_,by omega,by omega,rfl,Keep.refl _ _,λk hk=>by omega⟩ ?_
 rintro m env u ⟨i,jj,rfl,hi,rfl,hnu,hok⟩
 rw [nM]
 refine aJ (λhq=>?_) (λhq=>?_)
 ·have hlt:i<v.mem.length:=by omega
  have hg:v.mem[i]?=some v.mem[i]:=List.getElem?_eq_getElem hlt
  have hgd:=nO (d:=noM) hg
  have hno:qk n v.mem i=false→(List.range v.mem.length).all (qk n v.mem)=false:=lA hlt
  refine fR (cells:=aF.cells) aF.len (by omega) ((h.rd.new hn).new hnu) hg rfl hlen λb o hc _=>aF.mk_ex v.mem[i] ⟨hc,?_⟩
  refine gX (vs:=v.mem[i].cells) rfl (aF.single _) λb2 u2 hb2 hz2 hn2=>?_
  rintro u3 hu3
  have hn3:New u2 u3:=by rw [hu3];exact aV _
  clear hu3
  have hz3:=New.blk hn3 hz2
  have hnu3:=(hnu.new hn2).new hn3
  refine ⟨λy=>New u3 y,Keep.refl _ _,_,λy hy=>(New.blk hy hz3).cell (i:=0) rfl,aJ (λhp3=>?_) (λhp3=>⟨_,λy hy=>(New.blk hy hz3).cell (i:=0) rfl,aJ (λhp4=>?_) (λhp4=>aJ (λhp5=>?_) (λhp5=>?_))⟩)⟩
  ·rw [if_pos (hno (by unfold qk;rw [hgd];simp;omega))];exact ⟨rfl,hn.new hnu3⟩
  ·rw [if_pos (hno (by unfold qk;rw [hgd];simp;omega))];exact ⟨rfl,hn.new hnu3⟩
  ·have hg1:v.mem[i - 1]?=some v.mem[i - 1]:=List.getElem?_eq_getElem (by omega)
   have hgd1:=nO (d:=noM) hg1
   refine ⟨_,λy hy=>(New.blk hy hz3).cell (i:=0) rfl,_,_,_,λy hy=>(New.blk (hnu3.new hy) hz).cell (i:=1) rfl,?_⟩
   refine kN (cells:=aF.cells) aF.len (by omega) ((h.rd.new hn).new hnu3) hg1 (by rw [w64 (by omega) (by omega)];omega) hlen λb' o' hc'=>⟨_,λy hy=>hc' y hy 0 _ rfl,aJ (λhp6=>?_) (λhp6=>?_)⟩
   ·rw [if_pos (hno (by unfold qk;rw [hgd,hgd1];simp;omega))];exact ⟨rfl,hn.new hnu3⟩
   ·rw [w64 (by omega) (by omega)]
    refine ⟨v.mem.length - (i+1),by omega,i+1,_,rfl,by omega,rfl,hnu3,λk hk=>?_⟩
    rcases Nat.lt_succ_iff_lt_or_eq.1 hk with hk | rfl
    ·exact hok k hk
    ·unfold qk;rw [hgd,hgd1];simp;omega
  ·rw [w64 (by omega) (by omega)]
   refine ⟨v.mem.length - (i+1),by omega,i+1,_,rfl,by omega,rfl,hnu3,λk hk=>?_⟩
   rcases Nat.lt_succ_iff_lt_or_eq.1 hk with hk | rfl
   ·exact hok k hk
   ·unfold qk;rw [hgd];simp;omega
 have hall:(List.range v.mem.length).all (qk n v.mem)=true:=by
  rw [List.all_eq_true]
  intro k hk
  exact hok k (by have:=List.mem_range.1 hk;omega)
 rw [if_neg (by rw [hall];simp)]
 rw [qi]
 have hzu:=New.blk hnu hz
 refine ⟨_,_,_,hzu.cell (i:=1) rfl,?_⟩
 refine aQ mix (λm env z=>∃ (i:Nat) (jj:List Value),m=v.mem.length - i∧i≤v.mem.length∧env=iB ⟨b1,0,none⟩ r.Members r.Members_l r.Members_c r.Members_l i jj∧New w2 z∧(v.mem.take i).all ql=true) v.mem.length
  ⟨0,_,by omega,by omega,rfl,hnu,rfl⟩ ?_
 clear hzu hnu hok hi hq
 rintro m env u ⟨i,jj,rfl,hi,rfl,hnu,hok⟩
 rw [nN]
 refine aJ (λhq=>?_) (λhq=>?_)
 ·have hlt:i<v.mem.length:=by omega
  have hg:v.mem[i]?=some v.mem[i]:=List.getElem?_eq_getElem hlt
  have hno:ql v.mem[i]=false→v.mem.all ql=false:=λe=>by
   rw [List.all_eq_false]
   exact ⟨v.mem[i],List.getElem_mem hlt,by simp [e]⟩
  refine fR (cells:=aF.cells) aF.len (by omega) ((h.rd.new hn).new hnu) hg rfl hlen λb o hc _=>aF.mk_ex v.mem[i] ⟨hc,?_⟩
  refine gX (vs:=v.mem[i].cells) rfl (aF.single _) λb2 u2 hb2 hz2 hn2=>?_
  have hnu2:=hnu.new hn2
  refine ⟨_,hz2.cell (i:=1) rfl,aJ (λhp3=>?_) (λhp3=>⟨_,hz2.cell (i:=1) rfl,aJ (λhp4=>?_) (λhp4=>?_)⟩)⟩
  ·rw [if_pos (hno (by unfold ql;simp;omega))];exact ⟨rfl,hn.new hnu2⟩
  ·rw [if_pos (hno (by unfold ql;simp;omega))];exact ⟨rfl,hn.new hnu2⟩
  ·rw [w64 (by omega) (by omega)]
   refine ⟨v.mem.length - (i+1),by omega,i+1,_,rfl,by omega,rfl,hnu2,?_⟩
   rw [List.take_add_one,hg,List.all_append,hok]
   simp [ql];omega
 have htake:v.mem.take i=v.mem:=List.take_of_length_le (by omega)
 rw [htake] at hok
 rw [if_neg (by rw [hok];simp)]
 rw [qj]
 have hzu:=New.blk hnu hz
 refine ⟨_,_,_,hzu.cell (i:=1) rfl,?_⟩
 rw [hlen]
 refine aE (tV ((h.rd.new hn).new hnu) hsm) ?_
 rintro x u3 ⟨rfl,hn3⟩
 refine ⟨_,rfl,dN (λhf=>?_) (λhf=>?_)⟩
 ·rw [if_pos hf];exact ⟨rfl,hn.new (hnu.new hn3)⟩
 ·rw [if_neg (by rw [hf];simp)];exact ⟨rfl,hn.new (hnu.new hn3)⟩
end Go.Proofs.YtegepanmkjemjaaGreat
