import Derived.Test.YtegepanmkjemjaaGreatProg
import Derived.Test.YtegepanmkjemjaaGreatv01
import Derived.Test.YtegepanmkjemjaaGreatv02
set_option linter.unusedVariables false
namespace Go.Proofs.YtegepanmkjemjaaGreat
open Go.Proofs.Tryz
open Go.Eng
abbrev nx (f:Func) (p:List Nat) (R:Value→World→Prop):Exit→List Value→World→Prop:=seqQ (λenv w=>W prog (sub (aD f) p) env (retQ prog f R) w) (retQ prog f R)
structure aK where
 Kind:Int
 Node:Int
 At:Int
 N:Int
 Old:Int
 New:Int
 Words:Option Addr
 Wl:Nat
 Wc:Nat
 Key:Int
 Boot:Int
def aK.cells (r:aK):List Value:=[.int .i64 r.Kind,.int .i64 r.Node,.int .i64 r.At,.int .i64 r.N,.int .u64 r.Old,.int .u64 r.New,.slice r.Words r.Wl r.Wc,.int .u64 r.Key,.int .i64 r.Boot]
def aK.val (r:aK):Value:=.agg r.cells.toArray
def aK.ex (K:aK→Prop):Prop:=∃ (xKind:Int) (xNode:Int) (xAt:Int) (xN:Int) (xOld:Int) (xNew:Int) (xWords:Option Addr) (xWords_l:Nat) (xWords_c:Nat) (xKey:Int) (xBoot:Int),K ⟨xKind,xNode,xAt,xN,xOld,xNew,xWords,xWords_l,xWords_c,xKey,xBoot⟩
theorem aK.mk_ex {K:aK→Prop} (r:aK) (h:K r):aK.ex K:=⟨_,_,_,_,_,_,_,_,_,_,_,h⟩
theorem aK.len (r:aK):r.cells.length=9:=rfl
theorem aK.single (r:aK):∀ u ∈ r.cells,single u=true:=by
 intro u hu
 simp only [aK.cells,List.mem_cons,List.not_mem_nil,or_false] at hu
 rcases hu with rfl | rfl | rfl | rfl | rfl | rfl | rfl | rfl | rfl<;>rfl
structure bC where
 Code:Int
 Words:Option Addr
 Wl:Nat
 Wc:Nat
def bC.cells (r:bC):List Value:=[.int .i64 r.Code,.slice r.Words r.Wl r.Wc]
def bC.val (r:bC):Value:=.agg r.cells.toArray
def bC.ex (K:bC→Prop):Prop:=∃ (xCode:Int) (xWords:Option Addr) (xWords_l:Nat) (xWords_c:Nat),K ⟨xCode,xWords,xWords_l,xWords_c⟩
theorem bC.mk_ex {K:bC→Prop} (r:bC) (h:K r):bC.ex K:=⟨_,_,_,_,h⟩
theorem bC.len (r:bC):r.cells.length=2:=rfl
theorem bC.single (r:bC):∀ u ∈ r.cells,single u=true:=by
 intro u hu
 simp only [bC.cells,List.mem_cons,List.not_mem_nil,or_false] at hu
 rcases hu with rfl | rfl<;>rfl
structure aM where
 Number:Int
 Members:Option Addr
 Members_l:Nat
 Members_c:Nat
def aM.cells (r:aM):List Value:=[.int .i64 r.Number,.slice r.Members r.Members_l r.Members_c]
def aM.val (r:aM):Value:=.agg r.cells.toArray
def aM.ex (K:aM→Prop):Prop:=∃ (xNumber:Int) (xMembers:Option Addr) (xMembers_l:Nat) (xMembers_c:Nat),K ⟨xNumber,xMembers,xMembers_l,xMembers_c⟩
theorem aM.mk_ex {K:aM→Prop} (r:aM) (h:K r):aM.ex K:=⟨_,_,_,_,h⟩
theorem aM.single (r:aM):∀ u ∈ r.cells,single u=true:=by
 intro u hu
 simp only [aM.cells,List.mem_cons,List.not_mem_nil,or_false] at hu
 rcases hu with rfl | rfl<;>rfl
structure aL where
 Client:Int
 Seq:Int
 Lines:Int
 View:aM
 Reads:Option Addr
 Reads_l:Nat
 Reads_c:Nat
 Writes:Option Addr
 Writes_l:Nat
 Writes_c:Nat
def aL.cells (r:aL):List Value:=[.int .i64 r.Client,.int .i64 r.Seq,.int .i64 r.Lines,.int .i64 r.View.Number,.slice r.View.Members r.View.Members_l r.View.Members_c,.slice r.Reads r.Reads_l r.Reads_c,.slice r.Writes r.Writes_l r.Writes_c]
def aL.val (r:aL):Value:=.agg r.cells.toArray
def aL.ex (K:aL→Prop):Prop:=∃ (xClient:Int) (xSeq:Int) (xLines:Int) (xView_Number:Int) (xView_Members:Option Addr) (xView_Members_l:Nat) (xView_Members_c:Nat) (xReads:Option Addr) (xReads_l:Nat) (xReads_c:Nat) (xWrites:Option Addr) (xWrites_l:Nat) (xWrites_c:Nat),K ⟨xClient,xSeq,xLines,⟨xView_Number,xView_Members,xView_Members_l,xView_Members_c⟩,xReads,xReads_l,xReads_c,xWrites,xWrites_l,xWrites_c⟩
theorem aL.mk_ex {K:aL→Prop} (r:aL) (h:K r):aL.ex K:=⟨_,_,_,_,_,_,_,_,_,_,_,_,_,h⟩
theorem aL.single (r:aL):∀ u ∈ r.cells,single u=true:=by
 intro u hu
 simp only [aL.cells,List.mem_cons,List.not_mem_nil,or_false] at hu
 rcases hu with rfl | rfl | rfl | rfl | rfl | rfl | rfl<;>rfl
structure bY where
 Nodes:Int
def bY.cells (r:bY):List Value:=[.int .i64 r.Nodes]
def bY.val (r:bY):Value:=.agg r.cells.toArray
def bY.ex (K:bY→Prop):Prop:=∃ (xNodes:Int),K ⟨xNodes⟩
theorem bY.mk_ex {K:bY→Prop} (r:bY) (h:K r):bY.ex K:=⟨_,h⟩
theorem bY.single (r:bY):∀ u ∈ r.cells,single u=true:=by
 intro u hu
 simp only [bY.cells,List.mem_cons,List.not_mem_nil,or_false] at hu
 rcases hu with rfl<;>rfl
structure eh where
 Nodes:Int
 Number:Int
 Client:Int
 Round:Int
 Val:Int
def eh.cells (r:eh):List Value:=[.int .i64 r.Nodes,.int .i64 r.Number,.int .i64 r.Client,.int .i64 r.Round,.int .u64 r.Val]
def eh.val (r:eh):Value:=.agg r.cells.toArray
def eh.ex (K:eh→Prop):Prop:=∃ (xNodes:Int) (xNumber:Int) (xClient:Int) (xRound:Int) (xVal:Int),K ⟨xNodes,xNumber,xClient,xRound,xVal⟩
theorem eh.mk_ex {K:eh→Prop} (r:eh) (h:K r):eh.ex K:=⟨_,_,_,_,_,h⟩
theorem eh.single (r:eh):∀ u ∈ r.cells,single u=true:=by
 intro u hu
 simp only [eh.cells,List.mem_cons,List.not_mem_nil,or_false] at hu
 rcases hu with rfl | rfl | rfl | rfl | rfl<;>rfl
structure aB where
 Kind:Int
 Client:Int
 Discover:bY
 Paxos:eh
 Commit:aL
 Got:Option Addr
 Got_l:Nat
 Got_c:Nat
 Over:Bool
 Bad:Bool
 Code:Int
 View:aM
 Status:Int
 Doors:Option Addr
 Doors_l:Nat
 Doors_c:Nat
 Val:Int
 Fate:Int
def aB.cells (r:aB):List Value:=[.int .i64 r.Kind,.int .i64 r.Client,.int .i64 r.Discover.Nodes,.int .i64 r.Paxos.Nodes,.int .i64 r.Paxos.Number,.int .i64 r.Paxos.Client,.int .i64 r.Paxos.Round,.int .u64 r.Paxos.Val,.int .i64 r.Commit.Client,.int .i64 r.Commit.Seq,.int .i64 r.Commit.Lines,.int .i64 r.Commit.View.Number,.slice r.Commit.View.Members r.Commit.View.Members_l r.Commit.View.Members_c,.slice r.Commit.Reads r.Commit.Reads_l r.Commit.Reads_c,.slice r.Commit.Writes r.Commit.Writes_l r.Commit.Writes_c,.slice r.Got r.Got_l r.Got_c,.bool r.Over,.bool r.Bad,.int .i64 r.Code,.int .i64 r.View.Number,.slice r.View.Members r.View.Members_l r.View.Members_c,.int .i64 r.Status,.slice r.Doors r.Doors_l r.Doors_c,.int .u64 r.Val,.int .i64 r.Fate]
def aB.val (r:aB):Value:=.agg r.cells.toArray
def aB.ex (K:aB→Prop):Prop:=∃ (xKind:Int) (xClient:Int) (xDiscover_Nodes:Int) (xPaxos_Nodes:Int) (xPaxos_Number:Int) (xPaxos_Client:Int) (xPaxos_Round:Int) (xPaxos_Val:Int) (xCommit_Client:Int) (xCommit_Seq:Int) (xCommit_Lines:Int) (xCommit_View_Number:Int) (xCommit_View_Members:Option Addr) (xCommit_View_Members_l:Nat) (xCommit_View_Members_c:Nat) (xCommit_Reads:Option Addr) (xCommit_Reads_l:Nat) (xCommit_Reads_c:Nat) (xCommit_Writes:Option Addr) (xCommit_Writes_l:Nat) (xCommit_Writes_c:Nat) (xGot:Option Addr) (xGot_l:Nat) (xGot_c:Nat) (xOver:Bool) (xBad:Bool) (xCode:Int) (xView_Number:Int) (xView_Members:Option Addr) (xView_Members_l:Nat) (xView_Members_c:Nat) (xStatus:Int) (xDoors:Option Addr) (xDoors_l:Nat) (xDoors_c:Nat) (xVal:Int) (xFate:Int),K ⟨xKind,xClient,⟨xDiscover_Nodes⟩,⟨xPaxos_Nodes,xPaxos_Number,xPaxos_Client,xPaxos_Round,xPaxos_Val⟩,⟨xCommit_Client,xCommit_Seq,xCommit_Lines,⟨xCommit_View_Number,xCommit_View_Members,xCommit_View_Members_l,xCommit_View_Members_c⟩,xCommit_Reads,xCommit_Reads_l,xCommit_Reads_c,xCommit_Writes,xCommit_Writes_l,xCommit_Writes_c⟩,xGot,xGot_l,xGot_c,xOver,xBad,xCode,⟨xView_Number,xView_Members,xView_Members_l,xView_Members_c⟩,xStatus,xDoors,xDoors_l,xDoors_c,xVal,xFate⟩
theorem aB.mk_ex {K:aB→Prop} (r:aB) (h:K r):aB.ex K:=⟨_,_,_,_,_,_,_,_,_,_,_,_,_,_,_,_,_,_,_,_,_,_,_,_,_,_,_,_,_,_,_,_,_,_,_,_,_,h⟩
theorem aB.len (r:aB):r.cells.length=25:=rfl
theorem aB.single (r:aB):∀ u ∈ r.cells,single u=true:=by
 intro u hu
 simp only [aB.cells,List.mem_cons,List.not_mem_nil,or_false] at hu
 rcases hu with rfl | rfl | rfl | rfl | rfl | rfl | rfl | rfl | rfl | rfl | rfl | rfl | rfl | rfl | rfl | rfl | rfl | rfl | rfl | rfl | rfl | rfl | rfl | rfl | rfl<;>rfl
structure aG where
 Line:Int
 Head:Int
 Data0:Int
 Data1:Int
 Data2:Int
 Data3:Int
 Data4:Int
 Data5:Int
 Data6:Int
def aG.cells (r:aG):List Value:=[.int .i64 r.Line,.int .u64 r.Head,.int .u64 r.Data0,.int .u64 r.Data1,.int .u64 r.Data2,.int .u64 r.Data3,.int .u64 r.Data4,.int .u64 r.Data5,.int .u64 r.Data6]
def aG.val (r:aG):Value:=.agg r.cells.toArray
def aG.ex (K:aG→Prop):Prop:=∃ (xLine:Int) (xHead:Int) (xData0:Int) (xData1:Int) (xData2:Int) (xData3:Int) (xData4:Int) (xData5:Int) (xData6:Int),K ⟨xLine,xHead,xData0,xData1,xData2,xData3,xData4,xData5,xData6⟩
theorem aG.mk_ex {K:aG→Prop} (r:aG) (h:K r):aG.ex K:=⟨_,_,_,_,_,_,_,_,_,h⟩
theorem aG.len (r:aG):r.cells.length=9:=rfl
theorem aG.single (r:aG):∀ u ∈ r.cells,single u=true:=by
 intro u hu
 simp only [aG.cells,List.mem_cons,List.not_mem_nil,or_false] at hu
 rcases hu with rfl | rfl | rfl | rfl | rfl | rfl | rfl | rfl | rfl<;>rfl
structure aV where
 Line:Int
 Head:Int
def aV.cells (r:aV):List Value:=[.int .i64 r.Line,.int .u64 r.Head]
def aV.val (r:aV):Value:=.agg r.cells.toArray
def aV.ex (K:aV→Prop):Prop:=∃ (xLine:Int) (xHead:Int),K ⟨xLine,xHead⟩
theorem aV.mk_ex {K:aV→Prop} (r:aV) (h:K r):aV.ex K:=⟨_,_,h⟩
theorem aV.len (r:aV):r.cells.length=2:=rfl
theorem aV.single (r:aV):∀ u ∈ r.cells,single u=true:=by
 intro u hu
 simp only [aV.cells,List.mem_cons,List.not_mem_nil,or_false] at hu
 rcases hu with rfl | rfl<;>rfl
structure bB where
 At:Int
 Kind:Int
 A:Int
def bB.cells (r:bB):List Value:=[.int .i64 r.At,.int .i64 r.Kind,.int .i64 r.A]
def bB.val (r:bB):Value:=.agg r.cells.toArray
def bB.ex (K:bB→Prop):Prop:=∃ (xAt:Int) (xKind:Int) (xA:Int),K ⟨xAt,xKind,xA⟩
theorem bB.mk_ex {K:bB→Prop} (r:bB) (h:K r):bB.ex K:=⟨_,_,_,h⟩
theorem bB.single (r:bB):∀ u ∈ r.cells,single u=true:=by
 intro u hu
 simp only [bB.cells,List.mem_cons,List.not_mem_nil,or_false] at hu
 rcases hu with rfl | rfl | rfl<;>rfl
structure aC where
 Node:Int
 Boot:Int
 Full:Bool
def aC.cells (r:aC):List Value:=[.int .i64 r.Node,.int .i64 r.Boot,.bool r.Full]
def aC.val (r:aC):Value:=.agg r.cells.toArray
def aC.ex (K:aC→Prop):Prop:=∃ (xNode:Int) (xBoot:Int) (xFull:Bool),K ⟨xNode,xBoot,xFull⟩
theorem aC.mk_ex {K:aC→Prop} (r:aC) (h:K r):aC.ex K:=⟨_,_,_,h⟩
theorem aC.len (r:aC):r.cells.length=3:=rfl
theorem aC.single (r:aC):∀ u ∈ r.cells,single u=true:=by
 intro u hu
 simp only [aC.cells,List.mem_cons,List.not_mem_nil,or_false] at hu
 rcases hu with rfl | rfl | rfl<;>rfl
structure bE where
 Code:Int
 Number:Int
 View:aM
 Status:Int
 Opened:Bool
 Hint:Int
 Boots:Option Addr
 Boots_l:Nat
 Boots_c:Nat
 Keys:Option Addr
 Keys_l:Nat
 Keys_c:Nat
 Doors:Option Addr
 Doors_l:Nat
 Doors_c:Nat
def bE.cells (r:bE):List Value:=[.int .i64 r.Code,.int .i64 r.Number,.int .i64 r.View.Number,.slice r.View.Members r.View.Members_l r.View.Members_c,.int .i64 r.Status,.bool r.Opened,.int .u64 r.Hint,.slice r.Boots r.Boots_l r.Boots_c,.slice r.Keys r.Keys_l r.Keys_c,.slice r.Doors r.Doors_l r.Doors_c]
def bE.val (r:bE):Value:=.agg r.cells.toArray
def bE.ex (K:bE→Prop):Prop:=∃ (xCode:Int) (xNumber:Int) (xView_Number:Int) (xView_Members:Option Addr) (xView_Members_l:Nat) (xView_Members_c:Nat) (xStatus:Int) (xOpened:Bool) (xHint:Int) (xBoots:Option Addr) (xBoots_l:Nat) (xBoots_c:Nat) (xKeys:Option Addr) (xKeys_l:Nat) (xKeys_c:Nat) (xDoors:Option Addr) (xDoors_l:Nat) (xDoors_c:Nat),K ⟨xCode,xNumber,⟨xView_Number,xView_Members,xView_Members_l,xView_Members_c⟩,xStatus,xOpened,xHint,xBoots,xBoots_l,xBoots_c,xKeys,xKeys_l,xKeys_c,xDoors,xDoors_l,xDoors_c⟩
theorem bE.mk_ex {K:bE→Prop} (r:bE) (h:K r):bE.ex K:=⟨_,_,_,_,_,_,_,_,_,_,_,_,_,_,_,_,_,_,h⟩
theorem bE.single (r:bE):∀ u ∈ r.cells,single u=true:=by
 intro u hu
 simp only [bE.cells,List.mem_cons,List.not_mem_nil,or_false] at hu
 rcases hu with rfl | rfl | rfl | rfl | rfl | rfl | rfl | rfl | rfl | rfl<;>rfl
structure bT where
 Code:Int
 Val:Int
 Round:Int
def bT.cells (r:bT):List Value:=[.int .i64 r.Code,.int .u64 r.Val,.int .i64 r.Round]
def bT.val (r:bT):Value:=.agg r.cells.toArray
def bT.ex (K:bT→Prop):Prop:=∃ (xCode:Int) (xVal:Int) (xRound:Int),K ⟨xCode,xVal,xRound⟩
theorem bT.mk_ex {K:bT→Prop} (r:bT) (h:K r):bT.ex K:=⟨_,_,_,h⟩
theorem bT.single (r:bT):∀ u ∈ r.cells,single u=true:=by
 intro u hu
 simp only [bT.cells,List.mem_cons,List.not_mem_nil,or_false] at hu
 rcases hu with rfl | rfl | rfl<;>rfl
structure aA where
 Code:Int
 Fate:Int
def aA.cells (r:aA):List Value:=[.int .i64 r.Code,.int .i64 r.Fate]
def aA.val (r:aA):Value:=.agg r.cells.toArray
def aA.ex (K:aA→Prop):Prop:=∃ (xCode:Int) (xFate:Int),K ⟨xCode,xFate⟩
theorem aA.mk_ex {K:aA→Prop} (r:aA) (h:K r):aA.ex K:=⟨_,_,h⟩
theorem aA.single (r:aA):∀ u ∈ r.cells,single u=true:=by
 intro u hu
 simp only [aA.cells,List.mem_cons,List.not_mem_nil,or_false] at hu
 rcases hu with rfl | rfl<;>rfl
structure aS where
 Seq:Int
 Writes:Option Addr
 Writes_l:Nat
 Writes_c:Nat
def aS.cells (r:aS):List Value:=[.int .i64 r.Seq,.slice r.Writes r.Writes_l r.Writes_c]
def aS.val (r:aS):Value:=.agg r.cells.toArray
def aS.ex (K:aS→Prop):Prop:=∃ (xSeq:Int) (xWrites:Option Addr) (xWrites_l:Nat) (xWrites_c:Nat),K ⟨xSeq,xWrites,xWrites_l,xWrites_c⟩
theorem aS.mk_ex {K:aS→Prop} (r:aS) (h:K r):aS.ex K:=⟨_,_,_,_,h⟩
theorem aS.single (r:aS):∀ u ∈ r.cells,single u=true:=by
 intro u hu
 simp only [aS.cells,List.mem_cons,List.not_mem_nil,or_false] at hu
 rcases hu with rfl | rfl<;>rfl
structure bW where
 l:List Int
def bW.cells (r:bW):List Value:=r.l.map λx=>.int .u64 x
def bW.val (r:bW):Value:=.agg r.cells.toArray
def bW.ex (K:bW→Prop):Prop:=exI 256 λl=>K ⟨l⟩
theorem bW.mk_ex {K:bW→Prop} (r:bW) (hl:r.l.length=256) (h:K r):bW.ex K:=Dt 256 r.l hl h
theorem bW.single (r:bW):∀ u ∈ r.cells,single u=true:=by
 intro u hu
 obtain ⟨x,_,rfl⟩:=List.mem_map.1 hu
 rfl
end Go.Proofs.YtegepanmkjemjaaGreat
namespace Go.Proofs.YtegepanmkjemjaaGreat
open Go.Proofs.Tryz
open Go.Eng IntKind
variable (w:World) (R:Value→World→Prop)
theorem pU (p0 p1:Int):fnW prog f11 [.int .i64 p0,.int .i64 p1] R w=((bif (decide ((p1:Int)<1)) then (R (.int .i64 0) w) else (IntKind.i64=IntKind.i64∧p1≠0∧IntKind.i64=IntKind.i64∧p1≠0∧R (.int .i64 (Int.tmod (i64.wrap ((Int.tmod p0 p1)+p1)) p1)) w))):=by kernel_rfl
end Go.Proofs.YtegepanmkjemjaaGreat
namespace Go.Proofs.YtegepanmkjemjaaGreat
open Go.Eng
theorem nv (w:World) (x n:Int) (hx:-9223372036854775808≤x∧x<9223372036854775808) (hn:n<4611686018427387904):Does 11 [.int .i64 x,.int .i64 n] w λv w'=>v=.int .i64 (if n<1 then 0 else x % n)∧w'=w:=by
 refine does Tryz.func11 ?_
 rw [pU]
 refine aH (λh=>⟨by rw [if_pos h],rfl⟩) (λh=>⟨rfl,by omega,rfl,by omega,?_,rfl⟩)
 rw [if_neg h]
 have h1:0<n:=by omega
 have key:∃ t k,Int.tmod x n=t∧-n<t∧t<n∧t+n * k=x:=by
  rcases Int.le_total 0 x with hx0 | hx0
  ·refine ⟨x % n,x / n,Int.tmod_eq_emod_of_nonneg hx0,?_,Int.emod_lt_of_pos x h1,Int.emod_add_mul_ediv x n⟩
   have:=Int.emod_nonneg x (Int.ne_of_gt h1)
   omega
  ·refine ⟨-((-x) % n),-((-x) / n),?_,?_,?_,?_⟩
   ·rw [←Int.tmod_eq_emod_of_nonneg (by omega),Int.neg_tmod,Int.neg_neg]
   ·have:=Int.emod_lt_of_pos (-x) h1
    omega
   ·have:=Int.emod_nonneg (-x) (Int.ne_of_gt h1)
    omega
   ·have:=Int.emod_add_mul_ediv (-x) n
    rw [Int.mul_neg]
    omega
 obtain ⟨t,k,ht,h2,h3,hk⟩:=key
 rw [ht,w64 (by omega) (by omega)]
 congr 1
 rw [Int.tmod_eq_emod_of_nonneg (by omega),Int.add_emod_right,←hk,Int.add_mul_emod_self_left]
end Go.Proofs.YtegepanmkjemjaaGreat
namespace Go.Proofs.YtegepanmkjemjaaGreat
open Go.Proofs.Tryz
open Go.Eng IntKind
variable (w:World) (R:Value→World→Prop)
theorem sn (p0:aM):fnW prog f107 [p0.val] R w=(∀ b1 w1,b1=w.heap.size→w1=w.alloc (.cells p0.cells.toArray 30)→∀ b2 w2,b2=w1.heap.size→w2=w1.alloc (.cells #[(.int .i64 0),(.int .i64 0),(.bool false)] 103)→∃ a b c,w2.cell? ⟨b1,1,none⟩=some (.slice a b c)∧(bif (((b:Nat):Int) == 0) then (wrAt w2 ⟨b2,0,none⟩ 0 [(.int .i64 0),(.int .i64 0),(.bool false)]∧∀ w3,w3=puts w2 ⟨b2,0,none⟩ 0 [(.int .i64 0),(.int .i64 0),(.bool false)]→aC.ex λh=>aE w3 ⟨b2,0,none⟩ 0 h.cells∧w3=w3∧R (.tuple #[h.val,(.bool false)]) w3) else (∃ d f g,w2.cell? ⟨b1,1,none⟩=some (.slice d f g)∧idxS d f 0 3 λad=>aC.ex λr=>aE w2 ad 0 r.cells∧wrAt w2 ⟨b2,0,none⟩ 0 r.cells∧∀ w4,w4=puts w2 ⟨b2,0,none⟩ 0 r.cells→aC.ex λi=>aE w4 ⟨b2,0,none⟩ 0 i.cells∧w4=w4∧R (.tuple #[i.val,(.bool true)]) w4))):=by kernel_rfl
def fX (s1:Int) (s2:Addr) (a:Option Addr) (b c:Nat) (d f:Int) (j:LV):LV:=jq j 0 1 (.int .i64 s1::.pointer (some s2)::jq j 1 25 (.slice a b c::.int .i64 d::.int .i64 f::jq j 26 50 []))
def ny (a:Addr) (j:LV):LV:=jq j 0 2 (.pointer (some a)::jq j 2 78 [])
def iq (s2:Addr) (a:Option Addr) (b c:Nat) (d f:Int) (j:LV):LV:=jq j 0 2 (.pointer (some s2)::jq j 2 59 (.slice a b c::.int .i64 d::.int .i64 f::jq j 61 16 []))
def nz (a:Addr) (j:LV):LV:=jq j 0 2 (.pointer (some a)::jq j 2 78 [])
theorem uy (p0:aM) (p1:Int):fnW prog f141 [p0.val,.int .i64 p1] R w=(∀ b1 w1,b1=w.heap.size→w1=w.alloc (.cells p0.cells.toArray 30)→Calls prog 171 #[.int .i64 p1] w1 λe w2=>∃ a,e=.returned (.bool a)∧(bif (!a) then (R (.int .i64 1) w2) else (∃ b,w2.cell? ⟨b1,0,none⟩=some (.int .i64 b)∧(bif (decide ((b:Int)<0)) then (R (.int .i64 2) w2) else (∃ c,w2.cell? ⟨b1,0,none⟩=some (.int .i64 c)∧(bif (decide ((c:Int)≥16)) then (R (.int .i64 2) w2) else (∃ d f g,w2.cell? ⟨b1,1,none⟩=some (.slice d f g)∧(bif (((f:Nat):Int) == 0) then (R (.int .i64 1) w2) else (∃ h i k,w2.cell? ⟨b1,1,none⟩=some (.slice h i k)∧bX prog (.loop (sub (aD f141) [1,1,0,1,0,0])) (fX p1 ⟨b1,0,none⟩ h i k (i:Nat) 0 (p0.val::undef::ji 0::uq 4 (jb (!a)::ji p1::jb a::jb (!a)::jb (decide ((c:Int)≥16))::jp ⟨b1,0,none⟩::ji b::jb (decide ((b:Int)<0))::jb false::jp ⟨b1,0,none⟩::ji c::jb (decide ((c:Int)≥16))::jb (decide ((c:Int)≥16))::jb (((f:Nat):Int) == 0)::jp ⟨b1,1,none⟩::js d f g::jn f::jb (((f:Nat):Int) == 0)::jp ⟨b1,1,none⟩::uq 50 []))) (aI 1 (nx f141 [1,1,1] R)) w2))))))))):=by kernel_rfl
theorem nA (s1:Int) (s2:Addr) (a:Option Addr) (b c:Nat) (d f:Int) (j:LV) (N1:LV→World→Prop):W prog (sub (aD f141) [1,1,0,1,0,0]) (fX s1 s2 a b c d f j) (seqQ N1 (aI 1 (nx f141 [1,1,1] R))) w=((bif (decide ((f:Int)<d)) then (idxS a b f 3 λad=>aC.ex λr=>aE w ad 0 r.cells∧∀ b1 w1,b1=w.heap.size→w1=w.alloc (.cells #[.int .i64 0,.int .i64 0,.bool false] 103)→wrAt w1 ⟨b1,0,none⟩ 0 r.cells∧∀ w2,w2=puts w1 ⟨b1,0,none⟩ 0 r.cells→∀ w3,w3=w2.drew→∃ Sx:World→Prop,Sx w3∧∃ g,(∀ u,Sx u→u.cell? ⟨b1,0,none⟩=some (.int .i64 g))∧(bif (decide ((g:Int)<0)) then (R (.int .i64 1) w3) else (∃ h,(∀ u,Sx u→u.cell? ⟨b1,0,none⟩=some (.int .i64 h))∧(bif (decide ((h:Int)≥s1)) then (R (.int .i64 1) w3) else ((bif (decide ((f:Int)>0)) then (∃ i,(∀ u,Sx u→u.cell? ⟨b1,0,none⟩=some (.int .i64 i))∧∃ k l m,(∀ u,Sx u→u.cell? ⟨s2.block,s2.off+1,none⟩=some (.slice k l m))∧idxS k l (i64.wrap (f - 1)) 3 λo=>∃ n,(∀ u,Sx u→u.cell? o=some (.int .i64 n))∧(bif (decide ((i:Int)≤n)) then (R (.int .i64 1) w3) else (N1 (fX s1 s2 a b c d (i64.wrap (f+1)) (jg j 0::jg j 1::jg j 2::ji f::jp ⟨b1,0,none⟩::jq j 5 21 (jb (decide ((f:Int)<d))::ji f::jp ad::r.val::jp ⟨b1,0,none⟩::ji g::jb (decide ((g:Int)<0))::jb false::jp ⟨b1,0,none⟩::ji h::ji s1::jb (decide ((h:Int)≥s1))::jb (decide ((h:Int)≥s1))::jb false::ji f::jb (decide ((f:Int)>0))::jb true::jp ⟨b1,0,none⟩::ji i::jf s2 1::js k l m::ji f::ji (i64.wrap (f - 1))::jp o::jp o::ji n::jb (decide ((i:Int)≤n))::jb (decide ((i:Int)≤n))::jb (decide ((i:Int)≤n))::ji (i64.wrap (f+1))::jq j 56 20 []))) w3))) else (N1 (fX s1 s2 a b c d (i64.wrap (f+1)) (jg j 0::jg j 1::jg j 2::ji f::jp ⟨b1,0,none⟩::jq j 5 21 (jb (decide ((f:Int)<d))::ji f::jp ad::r.val::jp ⟨b1,0,none⟩::ji g::jb (decide ((g:Int)<0))::jb false::jp ⟨b1,0,none⟩::ji h::ji s1::jb (decide ((h:Int)≥s1))::jb (decide ((h:Int)≥s1))::jb false::ji f::jb (decide ((f:Int)>0))::jb false::uq 10 (jb false::jb false::ji (i64.wrap (f+1))::jq j 56 20 [])))) w3))))))) else (W prog (sub (aD f141) [1,1,1]) (ny s2 (jg j 0::ji s1::jq j 1 25 (js a b c::ji d::ji f::jb (decide ((f:Int)<d))::jq j 27 49 []))) (retQ prog f141 R) w))):=by kernel_rfl
theorem pV (a:Addr) (j:LV):W prog (sub (aD f141) [1,1,1]) (ny a j) (retQ prog f141 R) w=(∃ b c d,w.cell? ⟨a.block,a.off+1,none⟩=some (.slice b c d)∧bX prog (.loop (sub (aD f141) [1,1,1,0,1,0,0])) (iq a b c d (c:Nat) 0 (jq j 0 60 (jf a 1::jq j 64 16 []))) (aI 3 (nx f141 [1,1,1,1] R)) w):=by kernel_rfl
theorem nB (s2:Addr) (a:Option Addr) (b c:Nat) (d f:Int) (j:LV) (N2:LV→World→Prop):W prog (sub (aD f141) [1,1,1,0,1,0,0]) (iq s2 a b c d f j) (seqQ N2 (aI 3 (nx f141 [1,1,1,1] R))) w=((bif (decide ((f:Int)<d)) then (idxS a b f 3 λad=>aC.ex λr=>aE w ad 0 r.cells∧∀ b1 w1,b1=w.heap.size→w1=w.alloc (.cells #[.int .i64 0,.int .i64 0,.bool false] 103)→wrAt w1 ⟨b1,0,none⟩ 0 r.cells∧∀ w2,w2=puts w1 ⟨b1,0,none⟩ 0 r.cells→∃ g,w2.cell? ⟨b1,1,none⟩=some (.int .i64 g)∧(bif (decide ((g:Int)<1)) then (R (.int .i64 2) w2) else (∃ h,w2.cell? ⟨b1,1,none⟩=some (.int .i64 h)∧(bif (decide ((h:Int)>31)) then (R (.int .i64 2) w2) else (N2 (iq s2 a b c d (i64.wrap (f+1)) (jq j 0 7 (jp ⟨b1,0,none⟩::jq j 8 53 (jb (decide ((f:Int)<d))::jp ad::r.val::jp ⟨b1,1,none⟩::ji g::jb (decide ((g:Int)<1))::jb false::jp ⟨b1,1,none⟩::ji h::jb (decide ((h:Int)>31))::jb (decide ((h:Int)>31))::ji (i64.wrap (f+1))::jq j 73 4 [])))) w2))))) else (W prog (sub (aD f141) [1,1,1,1]) (nz s2 (jq j 0 61 (js a b c::ji d::ji f::jb (decide ((f:Int)<d))::jq j 62 15 []))) (retQ prog f141 R) w))):=by kernel_rfl
theorem pW (a:Addr) (j:LV):W prog (sub (aD f141) [1,1,1,1]) (nz a j) (retQ prog f141 R) w=(∃ b c d,w.cell? ⟨a.block,a.off+1,none⟩=some (.slice b c d)∧Calls prog 172 #[.slice b c d,.func (.func 173) #[] #[]] w λe w1=>∃ f,e=.returned (.bool f)∧(bif (!f) then (R (.int .i64 13) w1) else (R (.int .i64 0) w1))):=by kernel_rfl
theorem sr (p0:Int):fnW prog f171 [.int .i64 p0] R w=((bif (decide ((p0:Int)≥1)) then (R (.bool (decide ((p0:Int)≤5))) w) else (R (.bool false) w))):=by kernel_rfl
theorem eR (p0:Option Addr) (a b:Nat) (p1:Value):fnW prog f172 [.slice p0 a b,p1] R w=(Calls prog 195 #[.slice p0 a b,p1] w λe w1=>∃ c,e=.returned (.int .i64 c)∧R (.bool (decide ((c:Int)≥0))) w1):=by kernel_rfl
theorem tz (p0:aC):fnW prog f173 [p0.val] R w=(∀ b1 w1,b1=w.heap.size→w1=w.alloc (.cells p0.cells.toArray 103)→∃ a,w1.cell? ⟨b1,2,none⟩=some (.bool a)∧R (.bool a) w1):=by kernel_rfl
theorem ss (p0:aM):fnW prog f187 [p0.val] R w=(∀ b1 w1,b1=w.heap.size→w1=w.alloc (.cells p0.cells.toArray 30)→∃ a b c,w1.cell? ⟨b1,1,none⟩=some (.slice a b c)∧(bif (((b:Nat):Int) == 0) then (R (.slice none 0 0) w1) else (∃ d f g,w1.cell? ⟨b1,1,none⟩=some (.slice d f g)∧sl3 d f g 1 (f:Nat) (g:Nat) 3 λxa xl xc=>Calls prog 204 #[.slice xa xl xc] w1 λe w2=>∃ h i k,e=.returned (.slice h i k)∧R (.slice h i k) w2))):=by kernel_rfl
def aZ (s0:Option Addr) (a b:Nat) (s1:Value) (s7 s8:Int) (j:LV):LV:=.slice s0 a b::s1::jq j 0 5 (.int .i64 s7::.int .i64 s8::jq j 5 10 [])
def cR  (j:LV):LV:=jq j 0 19 []
theorem fF (p0:Option Addr) (a b:Nat) (p1:Value):fnW prog f195 [.slice p0 a b,p1] R w=(bX prog (.loop (sub (aD f195) [1,0,1,0,0])) (aZ p0 a b p1 (a:Nat) 0 (uq 2 (ji 0::undef::js p0 a b::uq 10 []))) (aI 0 (nx f195 [1,1] R)) w):=by kernel_rfl
theorem ey (s0:Option Addr) (a b:Nat) (s1:Value) (s7 s8:Int) (j:LV) (N1:LV→World→Prop):W prog (sub (aD f195) [1,0,1,0,0]) (aZ s0 a b s1 s7 s8 j) (seqQ N1 (aI 0 (nx f195 [1,1] R))) w=((bif (decide ((s8:Int)<s7)) then (idxS s0 a s8 3 λad=>aC.ex λr=>aE w ad 0 r.cells∧oy prog s1 #[r.val] w λe w1=>∃ c,e=.returned (.bool c)∧(bif c then (R (.int .i64 s8) w1) else (N1 (aZ s0 a b s1 s7 (i64.wrap (s8+1)) [jg j 0,jg j 1,jg j 2,ji s8,jg j 4,jb (decide ((s8:Int)<s7)),ji s8,s1,js s0 a b,ji s8,jp ad,r.val,jb c,jg j 13,ji (i64.wrap (s8+1))]) w1))) else (W prog (sub (aD f195) [1,1]) (cR  (js s0 a b::s1::jq j 0 5 (ji s7::ji s8::jb (decide ((s8:Int)<s7))::jq j 6 9 []))) (retQ prog f195 R) w))):=by kernel_rfl
theorem eL  (j:LV):W prog (sub (aD f195) [1,1]) (cR  j) (retQ prog f195 R) w=(R (.int .i64 (-1)) w):=by kernel_rfl
theorem su (p0:aM) (p1:aC) (p2:Bool) (p3:aK):fnW prog f202 [p0.val,p1.val,.bool p2,p3.val] R w=(∀ b1 w1,b1=w.heap.size→w1=w.alloc (.cells p0.cells.toArray 30)→∀ b2 w2,b2=w1.heap.size→w2=w1.alloc (.cells p1.cells.toArray 103)→∀ b3 w3,b3=w2.heap.size→w3=w2.alloc (.cells p3.cells.toArray 166)→∀ b4 w4,b4=w3.heap.size→w4=w3.alloc (.cells #[.int .i64 0,.int .i64 0,.int .i64 0,.int .i64 0,.int .u64 0,.int .u64 0,.slice none 0 0,.int .u64 0,.int .i64 0] 166)→∀ w5,w5=w4.drew→∃ Sx:World→Prop,Sx w5∧∃ a,(∀ u,Sx u→u.cell? ⟨b2,0,none⟩=some (.int .i64 a))∧∃ b,(∀ u,Sx u→u.cell? ⟨b2,1,none⟩=some (.int .i64 b))∧(∃ u,w5.cell? ⟨b3,1,none⟩=some u)∧w5.frozen? ⟨b3,1,none⟩=false∧∀ w6,w6=w5.setCell ⟨b3,1,none⟩ (.int .i64 a)→Sx w6∧(∃ u,w6.cell? ⟨b3,8,none⟩=some u)∧w6.frozen? ⟨b3,8,none⟩=false∧∀ w7,w7=w6.setCell ⟨b3,8,none⟩ (.int .i64 b)→∃ c,w7.cell? ⟨b1,0,none⟩=some (.int .i64 c)∧Calls prog 90 #[.int .i64 c,.bool p2] w7 λe w8=>∃ d f,e=.returned (.tuple #[.int .u64 d,.int .i64 f])∧(∃ u,w8.cell? ⟨b3,7,none⟩=some u)∧w8.frozen? ⟨b3,7,none⟩=false∧∀ w9,w9=w8.setCell ⟨b3,7,none⟩ (.int .u64 d)→∃ g h i,w9.cell? ⟨b3,6,none⟩=some (.slice g h i)∧Calls prog 53 #[.slice g h i] w9 λe n=>∃ k l m,e=.returned (.slice k l m)∧(∃ u,n.cell? ⟨b3,6,none⟩=some u)∧n.frozen? ⟨b3,6,none⟩=false∧∀ o,o=n.setCell ⟨b3,6,none⟩ (.slice k l m)→aK.ex λr=>aE o ⟨b3,0,none⟩ 0 r.cells∧wrAt o ⟨b4,0,none⟩ 0 r.cells∧∀ p,p=puts o ⟨b4,0,none⟩ 0 r.cells→aK.ex λq=>aE p ⟨b4,0,none⟩ 0 q.cells∧p=p∧R q.val p):=by kernel_rfl
end Go.Proofs.YtegepanmkjemjaaGreat
