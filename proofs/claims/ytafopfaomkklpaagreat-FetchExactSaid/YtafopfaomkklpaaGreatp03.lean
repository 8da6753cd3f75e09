/- A part of the proof. -/
import Derived.Test.YtafopfaomkklpaaGreatp02
import Derived.Deep.Slices
import Derived.Test.YtafopfaomkklpaaGreatProg
import Derived.Test.YtafopfaomkklpaaGreatp01
set_option linter.unusedVariables false
namespace Go.Proofs.YtafopfaomkklpaaGreat
open Go.ChangeShapes Go.WideShapes Go.ChangeAt Go.RowKit Go.Eng
theorem yI {sz:Nat} (h0:0<sz):∀ {rows:List (List Value)} {j:Nat} {u:Value},(∀ r ∈ rows,r.length=sz)→rows.flatten[j]?=some u→∃ r,rows[j / sz]?=some r∧r[j % sz]?=some u
 | [],j,u,_,h=>by simp at h
 |r::rows,j,u,hr,h=>by
  have hl:=hr r List.mem_cons_self
  rw [List.flatten_cons,List.getElem?_append] at h
  by_cases hj:j<sz
  ·rw [if_pos (by omega)] at h
   exact ⟨r,by rw [Nat.div_eq_of_lt hj];rfl,by rw [Nat.mod_eq_of_lt hj];exact h⟩
  ·rw [if_neg (by omega),hl] at h
   obtain ⟨r',h1,h2⟩:=yI h0 (λr hr'=>hr r (List.mem_cons_of_mem _ hr')) h
   have e1:j / sz=(j - sz) / sz+1:=by
    rw [Nat.div_eq_sub_div h0 (by omega)]
   have e2:j % sz=(j - sz) % sz:=by rw [Nat.mod_eq_sub_mod (by omega)]
   exact ⟨r',by rw [e1];simpa using h1,by rw [e2];exact h2⟩
theorem Al {w:World} {a:Addr} {v:Value} (h:w.cell? a=some v):a.spot=none:=by
 cases hs:a.spot with
 |none=>rfl
 |some s=>
  exfalso
  unfold World.cell? at h
  simp only [hs,Option.isSome_some,if_true] at h
  split at h<;>simp_all
theorem uD {H:Type} {enc:TypeId×Value→H} {P:Program} {W:World} {k fuel:Nat} {t e:TypeId} {cs:List Value} {x:DataW H×List MemPlace} {held:Bool} (ht:P.underlying t=some (.slice e)) (hc:P.cellsOf e=k) (hk:0<k)
  (hf:DataW.trod enc P W 0 (λ_=>true) held fuel t cs=some x):∃ a cap rows,cs=[.slice a (List.length rows) cap]∧rows.length≤cap∧Rd W a rows.flatten∧∀ r ∈ rows,r.length=k∧∃ fuel x,DataW.trod enc P W 0 (λ_=>true) held fuel e r=some x:=by
 rcases Deep.open_slice ht hf with ⟨h1,_⟩ | ⟨ad,len,cap,m,n,D,Pl,h1,_,h3,_,h5,_,h7⟩
 ·exact ⟨none,0,[],h1,Nat.le_refl _,.inl rfl,λx hx=>by cases hx⟩
 ·subst h1
  have hm:len≤m:=by rw [h5];simp;omega
  obtain ⟨f,hf'⟩:=Deep.choose_lt (α:=List Value) (p:=λi cs=>W.cells? 0 (ad.add (i * k)) k=some cs∧DataW.trod enc P W 0 (λ_=>true) held n e cs=some (D i,Pl i)) (n:=m) (λi hi=>by
   obtain ⟨cs,g1,g2⟩:=h7 i hi
   rw [hc] at g1
   exact ⟨cs,g1,g2⟩)
  have hrow:∀ (i:Nat) (r:List Value),((List.range len).map f)[i]?=some r→i<len∧r=f i:=by
   intro i r hr
   have hi:=cN hr
   simp at hi
   simp [hi] at hr
   exact ⟨hi,hr.symm⟩
  have hlens:∀ r ∈ (List.range len).map f,r.length=k:=by
   intro r hr
   obtain ⟨i,hi⟩:=List.mem_iff_getElem?.1 hr
   obtain ⟨hi,rfl⟩:=hrow i r hi
   exact (World.cells?_some (hf' i (by omega)).1).2.1
  refine ⟨some ad,cap,(List.range len).map f,by simp,by simpa using h3,?_,λr hr=>⟨hlens r hr,?_⟩⟩
  ·by_cases h0:len=0
   ·subst h0;exact .inl rfl
   ·have hcell:∀ (i q:Nat) (u:Value),i<len→(f i)[q]?=some u→q<k→W.cell? (ad.add (i * k+q))=some u:=by
     intro i q u hi hq hqk
     have:=(World.cells?_some (hf' i (by omega)).1).2.2 q hqk
     rw [Deep.add_add] at this
     rw [this,hq]
    have hf0:=(World.cells?_some (hf' 0 (by omega)).1).2.1
    have hs:ad.spot=none:=by
     have h8:=hcell 0 0 _ (by omega) (List.getElem?_eq_getElem (by omega)) hk
     have:=Al h8
     simpa [Addr.add] using this
    refine .inr ⟨ad.block,ad.off,by cases ad;simp_all,λj u hu=>?_⟩
    obtain ⟨r,g1,g2⟩:=yI hk hlens hu
    obtain ⟨hi,rfl⟩:=hrow _ _ g1
    have h8:=hcell (j / k) (j % k) u hi g2 (Nat.mod_lt _ hk)
    rw [Nat.mul_comm,Nat.div_add_mod] at h8
    rw [←h8]
    unfold Addr.add
    split
    ·rename_i h0;subst h0;cases ad;simp_all
    ·cases ad;simp_all
  ·obtain ⟨i,hi⟩:=List.mem_iff_getElem?.1 hr
   obtain ⟨hi,rfl⟩:=hrow i r hi
   exact ⟨n,_,(hf' i (by omega)).2⟩
theorem wq {H:Type} {enc:TypeId×Value→H} {P:Program} {W:World} {r:Reach} {b0 k:Nat} {t e:TypeId} {v:Value} {d:DataW H} {ps:List MemPlace} {held:Bool} (ht:P.underlying t=some (.slice e)) (hc:P.cellsOf e=k) (hk:0<k) (hval:Value.okWide P W r b0 t v)
  (hd:DataW.Trod enc P W 0 (λ_=>true) held t v d ps):∃ a cap rows,v=.slice a (List.length rows) cap∧Rd W a rows.flatten∧∀ r ∈ rows,r.length=k∧∃ fuel x,DataW.trod enc P W 0 (λ_=>true) held fuel e r=some x:=by
 obtain ⟨a,len,cap,rfl⟩:=okWide_slice ht hval
 obtain ⟨fuel,hf⟩:=hd
 obtain ⟨a',cap',rows,h1,_,h2,h3⟩:=uD ht hc hk hf
 have h1':[Value.slice a len cap]=[.slice a' rows.length cap']:=h1
 simp at h1'
 obtain ⟨rfl,rfl,rfl⟩:=h1'
 exact ⟨_,_,_,rfl,h2,h3⟩
theorem Am {H:Type} {enc:TypeId×Value→H} {P:Program} {W:World} {e:TypeId} {held:Bool} (he:P.underlying e=some (.int .i64)):∀ rows:List (List Value),(∀ r ∈ rows,∃ fuel x,DataW.trod enc P W 0 (λ_=>true) held fuel e r=some x)→∃ xs:List Int,rows.length=xs.length∧rows.flatten=is xs∧∀ x ∈ xs,I64 x
 | [],_=>⟨[],rfl,rfl,λx hx=>by cases hx⟩
 |r::rows,h=>by
  obtain ⟨fuel,x,hx⟩:=h r List.mem_cons_self
  obtain ⟨n,rfl,_,w⟩:=DataW.trod_int he hx
  obtain ⟨xs,g1,g2,g3⟩:=Am he rows λr hr=>h r (List.mem_cons_of_mem _ hr)
  refine ⟨n::xs,by simp [g1],by simp [is,g2],λx hx=>?_⟩
  rcases List.mem_cons.1 hx with rfl | hx
  ·exact m6 w
  ·exact g3 x hx
theorem zt {H:Type} {enc:TypeId×Value→H} {P:Program} {W:World} {fuel:Nat} {t e:TypeId} {cs:List Value} {x:DataW H×List MemPlace} {held:Bool} (ht:P.underlying t=some (.slice e)) (he:P.underlying e=some (.int .i64)) (hc:P.cellsOf e=1)
  (hf:DataW.trod enc P W 0 (λ_=>true) held fuel t cs=some x):∃ a cap xs,cs=[.slice a (List.length xs) cap]∧xs.length≤cap∧Rd W a (is xs)∧∀ x ∈ xs,I64 x:=by
 obtain ⟨a,cap,rows,h1,h2,h3,h4⟩:=uD ht hc (by omega) hf
 obtain ⟨xs,g1,g2,g3⟩:=Am he rows λr hr=>(h4 r hr).2
 exact ⟨a,cap,xs,by rw [h1,g1],by omega,by rw [←g2];exact h3,g3⟩
theorem xK {α:Type} {cells:α→List Value} {Ok:α→Prop}:∀ {rows:List (List Value)},(∀ r ∈ rows,∃ x:α,r=cells x∧Ok x)→∃ xs:List α,rows=xs.map cells∧∀ x ∈ xs,Ok x
 | [],_=>⟨[],rfl,λx hx=>by cases hx⟩
 |r::rows,h=>by
  obtain ⟨x,rfl,hx⟩:=h r List.mem_cons_self
  obtain ⟨xs,g1,g2⟩:=xK λr hr=>h r (List.mem_cons_of_mem _ hr)
  refine ⟨x::xs,by rw [g1];rfl,λy hy=>?_⟩
  rcases List.mem_cons.1 hy with rfl | hy
  ·exact hx
  ·exact g2 y hy
end Go.Proofs.YtafopfaomkklpaaGreat
namespace Go.Proofs.YtafopfaomkklpaaGreat
open Go.Proofs.Tryz
open Go.Eng
abbrev nx (f:Func) (p:List Nat) (R:Value→World→Prop):Exit→List Value→World→Prop:=seqQ (λenv w=>W prog (sub (aA f) p) env (retQ prog f R) w) (retQ prog f R)
structure aV where
 Code:Int
 Words:Option Addr
 Wl:Nat
 Wc:Nat
def aV.cells (r:aV):List Value:=[.int .i64 r.Code,.slice r.Words r.Wl r.Wc]
def aV.val (r:aV):Value:=.agg r.cells.toArray
def aV.ex (K:aV→Prop):Prop:=∃ (xCode:Int) (xWords:Option Addr) (xWords_l:Nat) (xWords_c:Nat),K ⟨xCode,xWords,xWords_l,xWords_c⟩
theorem aV.mk_ex {K:aV→Prop} (r:aV) (h:K r):aV.ex K:=⟨_,_,_,_,h⟩
theorem aV.len (r:aV):r.cells.length=2:=rfl
theorem aV.single (r:aV):∀ u ∈ r.cells,single u=true:=by
 intro u hu
 simp only [aV.cells,List.mem_cons,List.not_mem_nil,or_false] at hu
 rcases hu with rfl | rfl<;>rfl
structure aU where
 Kind:Int
 Node:Int
 At:Int
 N:Int
 Old:Int
 New:Int
 Words:Option Addr
 Wl:Nat
 Wc:Nat
 Key:Int
 Boot:Int
def aU.cells (r:aU):List Value:=[.int .i64 r.Kind,.int .i64 r.Node,.int .i64 r.At,.int .i64 r.N,.int .u64 r.Old,.int .u64 r.New,.slice r.Words r.Wl r.Wc,.int .u64 r.Key,.int .i64 r.Boot]
def aU.val (r:aU):Value:=.agg r.cells.toArray
def aU.ex (K:aU→Prop):Prop:=∃ (xKind:Int) (xNode:Int) (xAt:Int) (xN:Int) (xOld:Int) (xNew:Int) (xWords:Option Addr) (xWords_l:Nat) (xWords_c:Nat) (xKey:Int) (xBoot:Int),K ⟨xKind,xNode,xAt,xN,xOld,xNew,xWords,xWords_l,xWords_c,xKey,xBoot⟩
theorem aU.mk_ex {K:aU→Prop} (r:aU) (h:K r):aU.ex K:=⟨_,_,_,_,_,_,_,_,_,_,_,h⟩
theorem aU.len (r:aU):r.cells.length=9:=rfl
theorem aU.single (r:aU):∀ u ∈ r.cells,single u=true:=by
 intro u hu
 simp only [aU.cells,List.mem_cons,List.not_mem_nil,or_false] at hu
 rcases hu with rfl | rfl | rfl | rfl | rfl | rfl | rfl | rfl | rfl<;>rfl
structure aF where
 Number:Int
 Members:Option Addr
 Members_l:Nat
 Members_c:Nat
def aF.cells (r:aF):List Value:=[.int .i64 r.Number,.slice r.Members r.Members_l r.Members_c]
def aF.val (r:aF):Value:=.agg r.cells.toArray
def aF.ex (K:aF→Prop):Prop:=∃ (xNumber:Int) (xMembers:Option Addr) (xMembers_l:Nat) (xMembers_c:Nat),K ⟨xNumber,xMembers,xMembers_l,xMembers_c⟩
theorem aF.mk_ex {K:aF→Prop} (r:aF) (h:K r):aF.ex K:=⟨_,_,_,_,h⟩
theorem aF.single (r:aF):∀ u ∈ r.cells,single u=true:=by
 intro u hu
 simp only [aF.cells,List.mem_cons,List.not_mem_nil,or_false] at hu
 rcases hu with rfl | rfl<;>rfl
structure aX where
 Total:Int
 Mask:Int
 Spoil:Int
 At:Int
 Lines:Option Addr
 Lines_l:Nat
 Lines_c:Nat
def aX.cells (r:aX):List Value:=[.int .i64 r.Total,.int .i64 r.Mask,.int .i64 r.Spoil,.int .i64 r.At,.slice r.Lines r.Lines_l r.Lines_c]
def aX.val (r:aX):Value:=.agg r.cells.toArray
def aX.ex (K:aX→Prop):Prop:=∃ (xTotal:Int) (xMask:Int) (xSpoil:Int) (xAt:Int) (xLines:Option Addr) (xLines_l:Nat) (xLines_c:Nat),K ⟨xTotal,xMask,xSpoil,xAt,xLines,xLines_l,xLines_c⟩
theorem aX.mk_ex {K:aX→Prop} (r:aX) (h:K r):aX.ex K:=⟨_,_,_,_,_,_,_,h⟩
structure aN where
 Total:Int
 View:aF
 Lines:Option Addr
 Lines_l:Nat
 Lines_c:Nat
def aN.cells (r:aN):List Value:=[.int .i64 r.Total,.int .i64 r.View.Number,.slice r.View.Members r.View.Members_l r.View.Members_c,.slice r.Lines r.Lines_l r.Lines_c]
def aN.val (r:aN):Value:=.agg r.cells.toArray
def aN.ex (K:aN→Prop):Prop:=∃ (xTotal:Int) (xView_Number:Int) (xView_Members:Option Addr) (xView_Members_l:Nat) (xView_Members_c:Nat) (xLines:Option Addr) (xLines_l:Nat) (xLines_c:Nat),K ⟨xTotal,⟨xView_Number,xView_Members,xView_Members_l,xView_Members_c⟩,xLines,xLines_l,xLines_c⟩
theorem aN.mk_ex {K:aN→Prop} (r:aN) (h:K r):aN.ex K:=⟨_,_,_,_,_,_,_,_,h⟩
theorem aN.single (r:aN):∀ u ∈ r.cells,single u=true:=by
 intro u hu
 simp only [aN.cells,List.mem_cons,List.not_mem_nil,or_false] at hu
 rcases hu with rfl | rfl | rfl | rfl<;>rfl
structure aI where
 Code:Int
 Pages:Option Addr
 Pages_l:Nat
 Pages_c:Nat
def aI.cells (r:aI):List Value:=[.int .i64 r.Code,.slice r.Pages r.Pages_l r.Pages_c]
def aI.val (r:aI):Value:=.agg r.cells.toArray
def aI.ex (K:aI→Prop):Prop:=∃ (xCode:Int) (xPages:Option Addr) (xPages_l:Nat) (xPages_c:Nat),K ⟨xCode,xPages,xPages_l,xPages_c⟩
theorem aI.mk_ex {K:aI→Prop} (r:aI) (h:K r):aI.ex K:=⟨_,_,_,_,h⟩
theorem aI.single (r:aI):∀ u ∈ r.cells,single u=true:=by
 intro u hu
 simp only [aI.cells,List.mem_cons,List.not_mem_nil,or_false] at hu
 rcases hu with rfl | rfl<;>rfl
structure aQ where
 Kind:Int
 Node:Int
 Client:Int
 A:Int
 B:Int
 W:Int
def aQ.cells (r:aQ):List Value:=[.int .i64 r.Kind,.int .i64 r.Node,.int .i64 r.Client,.int .i64 r.A,.int .i64 r.B,.int .u64 r.W]
def aQ.val (r:aQ):Value:=.agg r.cells.toArray
def aQ.ex (K:aQ→Prop):Prop:=∃ (xKind:Int) (xNode:Int) (xClient:Int) (xA:Int) (xB:Int) (xW:Int),K ⟨xKind,xNode,xClient,xA,xB,xW⟩
theorem aQ.mk_ex {K:aQ→Prop} (r:aQ) (h:K r):aQ.ex K:=⟨_,_,_,_,_,_,h⟩
theorem aQ.len (r:aQ):r.cells.length=6:=rfl
structure aY where
 Batch:Int
 Verb:Int
 Kind:Int
 W:Int
def aY.cells (r:aY):List Value:=[.int .i64 r.Batch,.int .i64 r.Verb,.int .i64 r.Kind,.int .u64 r.W]
def aY.val (r:aY):Value:=.agg r.cells.toArray
def aY.ex (K:aY→Prop):Prop:=∃ (xBatch:Int) (xVerb:Int) (xKind:Int) (xW:Int),K ⟨xBatch,xVerb,xKind,xW⟩
theorem aY.mk_ex {K:aY→Prop} (r:aY) (h:K r):aY.ex K:=⟨_,_,_,_,h⟩
theorem aY.len (r:aY):r.cells.length=4:=rfl
theorem aY.single (r:aY):∀ u ∈ r.cells,single u=true:=by
 intro u hu
 simp only [aY.cells,List.mem_cons,List.not_mem_nil,or_false] at hu
 rcases hu with rfl | rfl | rfl | rfl<;>rfl
structure aJ where
 Orphan:Int
 Client:Int
 Node:Int
def aJ.cells (r:aJ):List Value:=[.int .i64 r.Orphan,.int .i64 r.Client,.int .i64 r.Node]
def aJ.val (r:aJ):Value:=.agg r.cells.toArray
def aJ.ex (K:aJ→Prop):Prop:=∃ (xOrphan:Int) (xClient:Int) (xNode:Int),K ⟨xOrphan,xClient,xNode⟩
theorem aJ.mk_ex {K:aJ→Prop} (r:aJ) (h:K r):aJ.ex K:=⟨_,_,_,h⟩
theorem aJ.len (r:aJ):r.cells.length=3:=rfl
theorem aJ.single (r:aJ):∀ u ∈ r.cells,single u=true:=by
 intro u hu
 simp only [aJ.cells,List.mem_cons,List.not_mem_nil,or_false] at hu
 rcases hu with rfl | rfl | rfl<;>rfl
structure aB where
 Node:Int
 Boot:Int
 Full:Bool
def aB.cells (r:aB):List Value:=[.int .i64 r.Node,.int .i64 r.Boot,.bool r.Full]
def aB.val (r:aB):Value:=.agg r.cells.toArray
def aB.ex (K:aB→Prop):Prop:=∃ (xNode:Int) (xBoot:Int) (xFull:Bool),K ⟨xNode,xBoot,xFull⟩
theorem aB.mk_ex {K:aB→Prop} (r:aB) (h:K r):aB.ex K:=⟨_,_,_,h⟩
theorem aB.len (r:aB):r.cells.length=3:=rfl
theorem aB.single (r:aB):∀ u ∈ r.cells,single u=true:=by
 intro u hu
 simp only [aB.cells,List.mem_cons,List.not_mem_nil,or_false] at hu
 rcases hu with rfl | rfl | rfl<;>rfl
structure aG where
 Line:Int
 Head:Int
 Data0:Int
 Data1:Int
 Data2:Int
 Data3:Int
 Data4:Int
 Data5:Int
 Data6:Int
def aG.cells (r:aG):List Value:=[.int .i64 r.Line,.int .u64 r.Head,.int .u64 r.Data0,.int .u64 r.Data1,.int .u64 r.Data2,.int .u64 r.Data3,.int .u64 r.Data4,.int .u64 r.Data5,.int .u64 r.Data6]
def aG.val (r:aG):Value:=.agg r.cells.toArray
def aG.ex (K:aG→Prop):Prop:=∃ (xLine:Int) (xHead:Int) (xData0:Int) (xData1:Int) (xData2:Int) (xData3:Int) (xData4:Int) (xData5:Int) (xData6:Int),K ⟨xLine,xHead,xData0,xData1,xData2,xData3,xData4,xData5,xData6⟩
theorem aG.mk_ex {K:aG→Prop} (r:aG) (h:K r):aG.ex K:=⟨_,_,_,_,_,_,_,_,_,h⟩
theorem aG.len (r:aG):r.cells.length=9:=rfl
theorem aG.single (r:aG):∀ u ∈ r.cells,single u=true:=by
 intro u hu
 simp only [aG.cells,List.mem_cons,List.not_mem_nil,or_false] at hu
 rcases hu with rfl | rfl | rfl | rfl | rfl | rfl | rfl | rfl | rfl<;>rfl
structure aO where
 Words:Option Addr
 Words_l:Nat
 Words_c:Nat
 Up:Bool
def aO.cells (r:aO):List Value:=[.slice r.Words r.Words_l r.Words_c,.bool r.Up]
def aO.val (r:aO):Value:=.agg r.cells.toArray
def aO.ex (K:aO→Prop):Prop:=∃ (xWords:Option Addr) (xWords_l:Nat) (xWords_c:Nat) (xUp:Bool),K ⟨xWords,xWords_l,xWords_c,xUp⟩
theorem aO.mk_ex {K:aO→Prop} (r:aO) (h:K r):aO.ex K:=⟨_,_,_,_,h⟩
theorem aO.len (r:aO):r.cells.length=2:=rfl
theorem aO.single (r:aO):∀ u ∈ r.cells,single u=true:=by
 intro u hu
 simp only [aO.cells,List.mem_cons,List.not_mem_nil,or_false] at hu
 rcases hu with rfl | rfl<;>rfl
structure aM where
 Seq:Int
 Writes:Option Addr
 Writes_l:Nat
 Writes_c:Nat
def aM.cells (r:aM):List Value:=[.int .i64 r.Seq,.slice r.Writes r.Writes_l r.Writes_c]
def aM.val (r:aM):Value:=.agg r.cells.toArray
def aM.ex (K:aM→Prop):Prop:=∃ (xSeq:Int) (xWrites:Option Addr) (xWrites_l:Nat) (xWrites_c:Nat),K ⟨xSeq,xWrites,xWrites_l,xWrites_c⟩
theorem aM.mk_ex {K:aM→Prop} (r:aM) (h:K r):aM.ex K:=⟨_,_,_,_,h⟩
theorem aM.single (r:aM):∀ u ∈ r.cells,single u=true:=by
 intro u hu
 simp only [aM.cells,List.mem_cons,List.not_mem_nil,or_false] at hu
 rcases hu with rfl | rfl<;>rfl
structure aL where
 V:aU
 Executed:Int
 Words:Option Addr
 Words_l:Nat
 Words_c:Nat
 Slot:Int
def aL.cells (r:aL):List Value:=[.int .i64 r.V.Kind,.int .i64 r.V.Node,.int .i64 r.V.At,.int .i64 r.V.N,.int .u64 r.V.Old,.int .u64 r.V.New,.slice r.V.Words r.V.Wl r.V.Wc,.int .u64 r.V.Key,.int .i64 r.V.Boot,.int .i64 r.Executed,.slice r.Words r.Words_l r.Words_c,.int .i64 r.Slot]
def aL.ex (K:aL→Prop):Prop:=∃ (xV_Kind:Int) (xV_Node:Int) (xV_At:Int) (xV_N:Int) (xV_Old:Int) (xV_New:Int) (xV_Words:Option Addr) (xV_Words_l:Nat) (xV_Words_c:Nat) (xV_Key:Int) (xV_Boot:Int) (xExecuted:Int) (xWords:Option Addr) (xWords_l:Nat) (xWords_c:Nat) (xSlot:Int),K ⟨⟨xV_Kind,xV_Node,xV_At,xV_N,xV_Old,xV_New,xV_Words,xV_Words_l,xV_Words_c,xV_Key,xV_Boot⟩,xExecuted,xWords,xWords_l,xWords_c,xSlot⟩
theorem aL.mk_ex {K:aL→Prop} (r:aL) (h:K r):aL.ex K:=⟨_,_,_,_,_,_,_,_,_,_,_,_,_,_,_,_,h⟩
theorem aL.len (r:aL):r.cells.length=12:=rfl
theorem aL.single (r:aL):∀ u ∈ r.cells,single u=true:=by
 intro u hu
 simp only [aL.cells,List.mem_cons,List.not_mem_nil,or_false] at hu
 rcases hu with rfl | rfl | rfl | rfl | rfl | rfl | rfl | rfl | rfl | rfl | rfl | rfl<;>rfl
structure aS where
 At:Int
 N:Int
def aS.cells (r:aS):List Value:=[.int .i64 r.At,.int .i64 r.N]
def aS.val (r:aS):Value:=.agg r.cells.toArray
def aS.ex (K:aS→Prop):Prop:=∃ (xAt:Int) (xN:Int),K ⟨xAt,xN⟩
theorem aS.mk_ex {K:aS→Prop} (r:aS) (h:K r):aS.ex K:=⟨_,_,h⟩
theorem aS.len (r:aS):r.cells.length=2:=rfl
theorem aS.single (r:aS):∀ u ∈ r.cells,single u=true:=by
 intro u hu
 simp only [aS.cells,List.mem_cons,List.not_mem_nil,or_false] at hu
 rcases hu with rfl | rfl<;>rfl
end Go.Proofs.YtafopfaomkklpaaGreat
namespace Go.Proofs.YtafopfaomkklpaaGreat
open Go.Proofs.Tryz
open Go.Eng IntKind
variable (w:World) (R:Value→World→Prop)
theorem rN (p0 p1:Int):fnW prog f6 [.int .i64 p0,.int .i64 p1] R w=((bif (decide ((p1:Int)<1)) then (R (.int .i64 0) w) else (IntKind.i64=IntKind.i64∧p1≠0∧IntKind.i64=IntKind.i64∧p1≠0∧R (.int .i64 (Int.tmod (i64.wrap ((Int.tmod p0 p1)+p1)) p1)) w))):=by kernel_rfl
end Go.Proofs.YtafopfaomkklpaaGreat
namespace Go.Proofs.YtafopfaomkklpaaGreat
open Go.Eng
theorem dK (w:World) (x n:Int) (hx:-9223372036854775808≤x∧x<9223372036854775808) (hn:n<4611686018427387904):Does 6 [.int .i64 x,.int .i64 n] w λv w'=>v=.int .i64 (if n<1 then 0 else x % n)∧w'=w:=by
 refine does Tryz.func6 ?_
 rw [rN]
 refine aD (λh=>⟨by rw [if_pos h],rfl⟩) (λh=>⟨rfl,by omega,rfl,by omega,?_,rfl⟩)
 rw [if_neg h]
 have h1:0<n:=by omega
 have key:∃ t k,Int.tmod x n=t∧-n<t∧t<n∧t+n * k=x:=by
  rcases Int.le_total 0 x with hx0 | hx0
  ·refine ⟨x % n,x / n,Int.tmod_eq_emod_of_nonneg hx0,?_,Int.emod_lt_of_pos x h1,Int.emod_add_mul_ediv x n⟩
   have:=Int.emod_nonneg x (Int.ne_of_gt h1)
   omega
  ·refine ⟨-((-x) % n),-((-x) / n),?_,?_,?_,?_⟩
   ·rw [←Int.tmod_eq_emod_of_nonneg (by omega),Int.neg_tmod,Int.neg_neg]
   ·have:=Int.emod_lt_of_pos (-x) h1
    omega
   ·have:=Int.emod_nonneg (-x) (Int.ne_of_gt h1)
    omega
   ·have:=Int.emod_add_mul_ediv (-x) n
    rw [Int.mul_neg]
    omega
 obtain ⟨t,k,ht,h2,h3,hk⟩:=key
 rw [ht,w64 (by omega) (by omega)]
 congr 1
 rw [Int.tmod_eq_emod_of_nonneg (by omega),Int.add_emod_right,←hk,Int.add_mul_emod_self_left]
end Go.Proofs.YtafopfaomkklpaaGreat
namespace Go.Proofs.YtafopfaomkklpaaGreat
open Go.Proofs.Tryz
open Go.Eng IntKind
variable (w:World) (R:Value→World→Prop)
def gU (s1:Int) (s2:Addr) (a:Option Addr) (b c:Nat) (d f:Int) (j:LV):LV:=[jg j 0,(.int .i64 s1),(.pointer (some s2)),jg j 1,jg j 2,jg j 3,jg j 4,jg j 5,jg j 6,jg j 7,jg j 8,jg j 9,jg j 10,jg j 11,jg j 12,jg j 13,jg j 14,jg j 15,jg j 16,jg j 17,jg j 18,jg j 19,jg j 20,jg j 21,jg j 22,jg j 23,jg j 24,jg j 25,(.slice a b c),(.int .i64 d),(.int .i64 f),jg j 26,jg j 27,jg j 28,jg j 29,jg j 30,jg j 31,jg j 32,jg j 33,jg j 34,jg j 35,jg j 36,jg j 37,jg j 38,jg j 39,jg j 40,jg j 41,jg j 42,jg j 43,jg j 44,jg j 45,jg j 46,jg j 47,jg j 48,jg j 49,jg j 50,jg j 51,jg j 52,jg j 53,jg j 54,jg j 55,jg j 56,jg j 57,jg j 58,jg j 59,jg j 60,jg j 61,jg j 62,jg j 63,jg j 64,jg j 65,jg j 66,jg j 67,jg j 68,jg j 69,jg j 70,jg j 71,jg j 72,jg j 73,jg j 74,jg j 75]
def pN (a:Addr) (j:LV):LV:=jq j 0 2 (.pointer (some a)::jq j 2 78 [])
def iX (s2:Addr) (a:Option Addr) (b c:Nat) (d f:Int) (j:LV):LV:=jq j 0 2 (.pointer (some s2)::jq j 2 59 (.slice a b c::.int .i64 d::.int .i64 f::jq j 61 16 []))
def pP (a:Addr) (j:LV):LV:=jq j 0 2 (.pointer (some a)::jq j 2 78 [])
theorem vn (p0:aF) (p1:Int):fnW prog f99 [p0.val,.int .i64 p1] R w=(∀ b1 w1,b1=w.heap.size→w1=w.alloc (.cells p0.cells.toArray 31)→Calls prog 139 #[.int .i64 p1] w1 λe w2=>∃ a,e=.returned (.bool a)∧(bif (!a) then (R (.int .i64 1) w2) else (∃ b,w2.cell? ⟨b1,0,none⟩=some (.int .i64 b)∧(bif (decide ((b:Int)<0)) then (R (.int .i64 2) w2) else (∃ c,w2.cell? ⟨b1,0,none⟩=some (.int .i64 c)∧(bif (decide ((c:Int)≥16)) then (R (.int .i64 2) w2) else (∃ d f g,w2.cell? ⟨b1,1,none⟩=some (.slice d f g)∧(bif (((f:Nat):Int) == 0) then (R (.int .i64 1) w2) else (∃ h i k,w2.cell? ⟨b1,1,none⟩=some (.slice h i k)∧bW prog (.loop (sub (aA f99) [1,1,0,1,0,0])) (gU p1 ⟨b1,0,none⟩ h i k (i:Nat) 0 (p0.val::undef::ji 0::uq 4 (jb (!a)::ji p1::jb a::jb (!a)::jb (decide ((c:Int)≥16))::jp ⟨b1,0,none⟩::ji b::jb (decide ((b:Int)<0))::jb false::jp ⟨b1,0,none⟩::ji c::jb (decide ((c:Int)≥16))::jb (decide ((c:Int)≥16))::jb (((f:Nat):Int) == 0)::jp ⟨b1,1,none⟩::js d f g::jn f::jb (((f:Nat):Int) == 0)::jp ⟨b1,1,none⟩::uq 50 []))) (aK 1 (nx f99 [1,1,1] R)) w2))))))))):=by kernel_rfl
theorem pQ (s1:Int) (s2:Addr) (a:Option Addr) (b c:Nat) (d f:Int) (j:LV) (N1:LV→World→Prop):W prog (sub (aA f99) [1,1,0,1,0,0]) (gU s1 s2 a b c d f j) (seqQ N1 (aK 1 (nx f99 [1,1,1] R))) w=((bif (decide ((f:Int)<d)) then (idxS a b f 3 λad=>aB.ex λr=>aE w ad 0 r.cells∧∀ b1 w1,b1=w.heap.size→w1=w.alloc (.cells #[.int .i64 0,.int .i64 0,.bool false] 133)→wrAt w1 ⟨b1,0,none⟩ 0 r.cells∧∀ w2,w2=puts w1 ⟨b1,0,none⟩ 0 r.cells→∀ w3,w3=w2.drew→∃ Sx:World→Prop,Sx w3∧∃ g,(∀ u,Sx u→u.cell? ⟨b1,0,none⟩=some (.int .i64 g))∧(bif (decide ((g:Int)<0)) then (R (.int .i64 1) w3) else (∃ h,(∀ u,Sx u→u.cell? ⟨b1,0,none⟩=some (.int .i64 h))∧(bif (decide ((h:Int)≥s1)) then (R (.int .i64 1) w3) else ((bif (decide ((f:Int)>0)) then (∃ i,(∀ u,Sx u→u.cell? ⟨b1,0,none⟩=some (.int .i64 i))∧∃ k l m,(∀ u,Sx u→u.cell? ⟨s2.block,s2.off+1,none⟩=some (.slice k l m))∧idxS k l (i64.wrap (f - 1)) 3 λo=>∃ n,(∀ u,Sx u→u.cell? o=some (.int .i64 n))∧(bif (decide ((i:Int)≤n)) then (R (.int .i64 1) w3) else (N1 (gU s1 s2 a b c d (i64.wrap (f+1)) (jg j 0::jg j 1::jg j 2::ji f::jp ⟨b1,0,none⟩::jq j 5 21 (jb (decide ((f:Int)<d))::ji f::jp ad::r.val::jp ⟨b1,0,none⟩::ji g::jb (decide ((g:Int)<0))::jb false::jp ⟨b1,0,none⟩::ji h::ji s1::jb (decide ((h:Int)≥s1))::jb (decide ((h:Int)≥s1))::jb false::ji f::jb (decide ((f:Int)>0))::jb true::jp ⟨b1,0,none⟩::ji i::jf s2 1::js k l m::ji f::ji (i64.wrap (f - 1))::jp o::jp o::ji n::jb (decide ((i:Int)≤n))::jb (decide ((i:Int)≤n))::jb (decide ((i:Int)≤n))::ji (i64.wrap (f+1))::jq j 56 20 []))) w3))) else (N1 (gU s1 s2 a b c d (i64.wrap (f+1)) (jg j 0::jg j 1::jg j 2::ji f::jp ⟨b1,0,none⟩::jq j 5 21 (jb (decide ((f:Int)<d))::ji f::jp ad::r.val::jp ⟨b1,0,none⟩::ji g::jb (decide ((g:Int)<0))::jb false::jp ⟨b1,0,none⟩::ji h::ji s1::jb (decide ((h:Int)≥s1))::jb (decide ((h:Int)≥s1))::jb false::ji f::jb (decide ((f:Int)>0))::jb false::uq 10 (jb false::jb false::ji (i64.wrap (f+1))::jq j 56 20 [])))) w3))))))) else (W prog (sub (aA f99) [1,1,1]) (pN s2 (jg j 0::ji s1::jq j 1 25 (js a b c::ji d::ji f::jb (decide ((f:Int)<d))::jq j 27 49 []))) (retQ prog f99 R) w))):=by kernel_rfl
theorem rO (a:Addr) (j:LV):W prog (sub (aA f99) [1,1,1]) (pN a j) (retQ prog f99 R) w=(∃ b c d,w.cell? ⟨a.block,a.off+1,none⟩=some (.slice b c d)∧bW prog (.loop (sub (aA f99) [1,1,1,0,1,0,0])) (iX a b c d (c:Nat) 0 (jq j 0 60 (jf a 1::jq j 64 16 []))) (aK 3 (nx f99 [1,1,1,1] R)) w):=by kernel_rfl
theorem pR (s2:Addr) (a:Option Addr) (b c:Nat) (d f:Int) (j:LV) (N2:LV→World→Prop):W prog (sub (aA f99) [1,1,1,0,1,0,0]) (iX s2 a b c d f j) (seqQ N2 (aK 3 (nx f99 [1,1,1,1] R))) w=((bif (decide ((f:Int)<d)) then (idxS a b f 3 λad=>aB.ex λr=>aE w ad 0 r.cells∧∀ b1 w1,b1=w.heap.size→w1=w.alloc (.cells #[.int .i64 0,.int .i64 0,.bool false] 133)→wrAt w1 ⟨b1,0,none⟩ 0 r.cells∧∀ w2,w2=puts w1 ⟨b1,0,none⟩ 0 r.cells→∃ g,w2.cell? ⟨b1,1,none⟩=some (.int .i64 g)∧(bif (decide ((g:Int)<1)) then (R (.int .i64 2) w2) else (∃ h,w2.cell? ⟨b1,1,none⟩=some (.int .i64 h)∧(bif (decide ((h:Int)>31)) then (R (.int .i64 2) w2) else (N2 (iX s2 a b c d (i64.wrap (f+1)) (jq j 0 7 (jp ⟨b1,0,none⟩::jq j 8 53 (jb (decide ((f:Int)<d))::jp ad::r.val::jp ⟨b1,1,none⟩::ji g::jb (decide ((g:Int)<1))::jb false::jp ⟨b1,1,none⟩::ji h::jb (decide ((h:Int)>31))::jb (decide ((h:Int)>31))::ji (i64.wrap (f+1))::jq j 73 4 [])))) w2))))) else (W prog (sub (aA f99) [1,1,1,1]) (pP s2 (jq j 0 61 (js a b c::ji d::ji f::jb (decide ((f:Int)<d))::jq j 62 15 []))) (retQ prog f99 R) w))):=by kernel_rfl
theorem rP (a:Addr) (j:LV):W prog (sub (aA f99) [1,1,1,1]) (pP a j) (retQ prog f99 R) w=(∃ b c d,w.cell? ⟨a.block,a.off+1,none⟩=some (.slice b c d)∧Calls prog 140 #[.slice b c d,.func (.func 141) #[] #[]] w λe w1=>∃ f,e=.returned (.bool f)∧(bif (!f) then (R (.int .i64 13) w1) else (R (.int .i64 0) w1))):=by kernel_rfl
theorem tL (p0:Int):fnW prog f139 [.int .i64 p0] R w=((bif (decide ((p0:Int)≥1)) then (R (.bool (decide ((p0:Int)≤5))) w) else (R (.bool false) w))):=by kernel_rfl
theorem fO (p0:Option Addr) (a b:Nat) (p1:Value):fnW prog f140 [.slice p0 a b,p1] R w=(Calls prog 172 #[.slice p0 a b,p1] w λe w1=>∃ c,e=.returned (.int .i64 c)∧R (.bool (decide ((c:Int)≥0))) w1):=by kernel_rfl
theorem ur (p0:aB):fnW prog f141 [p0.val] R w=(∀ b1 w1,b1=w.heap.size→w1=w.alloc (.cells p0.cells.toArray 133)→∃ a,w1.cell? ⟨b1,2,none⟩=some (.bool a)∧R (.bool a) w1):=by kernel_rfl
def bL (s0:Option Addr) (a b:Nat) (s1:Value) (s7 s8:Int) (j:LV):LV:=.slice s0 a b::s1::jq j 0 5 (.int .i64 s7::.int .i64 s8::jq j 5 10 [])
def dL  (j:LV):LV:=jq j 0 19 []
theorem gH (p0:Option Addr) (a b:Nat) (p1:Value):fnW prog f172 [.slice p0 a b,p1] R w=(bW prog (.loop (sub (aA f172) [1,0,1,0,0])) (bL p0 a b p1 (a:Nat) 0 (uq 2 (ji 0::undef::js p0 a b::uq 10 []))) (aK 0 (nx f172 [1,1] R)) w):=by kernel_rfl
theorem eQ (s0:Option Addr) (a b:Nat) (s1:Value) (s7 s8:Int) (j:LV) (N1:LV→World→Prop):W prog (sub (aA f172) [1,0,1,0,0]) (bL s0 a b s1 s7 s8 j) (seqQ N1 (aK 0 (nx f172 [1,1] R))) w=((bif (decide ((s8:Int)<s7)) then (idxS s0 a s8 3 λad=>aB.ex λr=>aE w ad 0 r.cells∧v9 prog s1 #[r.val] w λe w1=>∃ c,e=.returned (.bool c)∧(bif c then (R (.int .i64 s8) w1) else (N1 (bL s0 a b s1 s7 (i64.wrap (s8+1)) [jg j 0,jg j 1,jg j 2,ji s8,jg j 4,jb (decide ((s8:Int)<s7)),ji s8,s1,js s0 a b,ji s8,jp ad,r.val,jb c,jg j 13,ji (i64.wrap (s8+1))]) w1))) else (W prog (sub (aA f172) [1,1]) (dL  (js s0 a b::s1::jq j 0 5 (ji s7::ji s8::jb (decide ((s8:Int)<s7))::jq j 6 9 []))) (retQ prog f172 R) w))):=by kernel_rfl
theorem fC  (j:LV):W prog (sub (aA f172) [1,1]) (dL  j) (retQ prog f172 R) w=(R (.int .i64 (-1)) w):=by kernel_rfl
end Go.Proofs.YtafopfaomkklpaaGreat
