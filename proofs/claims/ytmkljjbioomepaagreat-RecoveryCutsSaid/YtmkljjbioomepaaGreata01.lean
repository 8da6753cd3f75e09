import Derived.OrdersHeld
import Derived.KernelRfl
import Derived.Tactics
import Derived.Laws.World
import Derived.TacticsIn
import Derived.RangeFuncSeq
set_option linter.all false
namespace Go
abbrev av:=World
abbrev bx:=Value
abbrev bh:=Addr
abbrev ax:=Option Addr
abbrev aH:=List Value
abbrev eI:=List Nat
abbrev bR:=List Int
abbrev aV:=World->Prop
abbrev dW:=Value->World->Prop
abbrev bB:=Nat->Prop
abbrev QZ:=@Array.getElem?_eq_none
abbrev L_:=@Array.getElem?_eq_some_iff
abbrev Q7:=@Array.getElem?_modify
abbrev iz:=@Bool.and_eq_true
abbrev FA:=@Bool.false_eq_true
abbrev Ie:=@Bool.not_eq_false
abbrev FC:=@Bool.not_eq_true'
abbrev Ml:=@Bool.or_eq_true
abbrev Mn:=@Bool.true_and
abbrev Mp:=@Int.emod_lt_of_pos
abbrev L':=@Int.emod_nonneg
abbrev CU:=@Int.eq_ofNat_of_zero_le
abbrev Mb:=@Int.fdiv_eq_ediv_of_nonneg
abbrev Q3:=@Int.tdiv_eq_ediv_of_nonneg
abbrev Q4:=@Int.tmod_eq_emod_of_nonneg
abbrev j_:=@Int.toNat_natCast
abbrev Q5:=@List.all_eq_false
abbrev lM:=@List.all_eq_true
abbrev Q6:=@List.any_eq_false
abbrev CX:=@List.any_eq_true
abbrev ue:=@List.append_assoc
abbrev qd:=@List.append_nil
abbrev WR:=@List.contains_iff_mem
abbrev Mf:=@List.drop_drop
abbrev A2:=@List.drop_eq_getElem_cons
abbrev WS:=@List.drop_eq_nil_of_le
abbrev Fy:=@List.drop_length
abbrev Mg:=@List.drop_zero
abbrev jR:=@List.eq_nil_of_length_eq_zero
abbrev Fz:=@List.exists_cons_of_ne_nil
abbrev rL:=@List.ext_getElem?
abbrev WT:=@List.filter_append
abbrev WU:=@List.flatten_append
abbrev l7:=@List.flatten_cons
abbrev Q8:=@List.foldl_append
abbrev Mh:=@List.foldl_cons
abbrev gd:=@List.getD_eq_getElem?_getD
abbrev CY:=@List.getElem?_append
abbrev nA:=@List.getElem?_append_left
abbrev nB:=@List.getElem?_append_right
abbrev zg:=@List.getElem?_cons_succ
abbrev FB:=@List.getElem?_cons_zero
abbrev uf:=@List.getElem?_drop
abbrev cp:=@List.getElem?_eq_getElem
abbrev ug:=@List.getElem?_eq_none
abbrev uh:=@List.getElem?_eq_some_iff
abbrev Q9:=@List.getElem?_inj
abbrev gV:=@List.getElem?_map
abbrev Ic:=@List.getElem?_modify
abbrev rM:=@List.getElem?_range
abbrev WV:=@List.getElem?_replicate
abbrev oy:=@List.getElem?_set
abbrev nC:=@List.getElem?_set_ne
abbrev qe:=@List.getElem?_set_self
abbrev A3:=@List.getElem?_take
abbrev Ig:=@List.getElem?_take_of_lt
abbrev Mi:=@List.getElem?_toArray
abbrev WW:=@List.getElem?_zip_eq_some
abbrev qS:=@List.getElem_mem
abbrev Q_:=@List.getElem_of_mem
abbrev gp:=@List.length_append
abbrev l8:=@List.length_cons
abbrev vq:=@List.length_drop
abbrev Ih:=@List.length_eq_one_iff
abbrev zh:=@List.length_eq_zero_iff
abbrev Mj:=@List.length_filter_le
abbrev jS:=@List.length_map
abbrev CZ:=@List.length_nil
abbrev Mk:=@List.length_pos_iff
abbrev ui:=@List.length_range
abbrev Q':=@List.length_replicate
abbrev C0:=@List.length_set
abbrev Ii:=@List.length_singleton
abbrev FD:=@List.length_tail
abbrev o2:=@List.length_take
abbrev pB:=@List.map_append
abbrev Ij:=@List.map_congr_left
abbrev kQ:=@List.map_cons
abbrev FE:=@List.map_map
abbrev Mm:=@List.map_nil
abbrev oz:=@List.map_set
abbrev qT:=@List.mem_append
abbrev Mo:=@List.mem_append_left
abbrev iF:=@List.mem_cons
abbrev jz:=@List.mem_cons_of_mem
abbrev iA:=@List.mem_cons_self
abbrev Ik:=@List.mem_filter
abbrev A4:=@List.mem_flatten
abbrev hn:=@List.mem_iff_getElem?
abbrev eQ:=@List.mem_map
abbrev dn:=@List.mem_of_getElem?
abbrev A5:=@List.mem_of_mem_drop
abbrev Ra:=@List.mem_of_mem_eraseIdx
abbrev Il:=@List.mem_of_mem_tail
abbrev Im:=@List.mem_of_mem_take
abbrev zi:=@List.mem_or_eq_of_mem_set
abbrev jT:=@List.mem_range
abbrev WX:=@List.mem_replicate
abbrev zj:=@List.mem_singleton
abbrev xN:=@List.nil_append
abbrev uc:=@List.not_mem_nil
abbrev WM:=@List.pairwise_cons
abbrev WN:=@List.pairwise_iff_getElem
abbrev rK:=@List.range_succ
abbrev H':=@List.range_succ_eq_map
abbrev Fw:=@List.replicate_succ
abbrev WO:=@List.set_append_right
abbrev WP:=@List.set_cons_succ
abbrev Q0:=@List.set_cons_zero
abbrev qR:=@List.sum_cons
abbrev iW:=@List.take_add_one
abbrev nx:=@List.take_length
abbrev ny:=@List.take_of_length_le
abbrev agF:=@List.take_succ_eq_append_getElem
abbrev Ma:=@Nat.add_assoc
abbrev Fx:=@Nat.add_mul
abbrev vp:=@Nat.add_zero
abbrev sX:=@Nat.eq_of_beq_eq_true
abbrev Q1:=@Nat.eq_zero_or_pos
abbrev Q2:=@Nat.le_of_not_lt
abbrev eJ:=@Nat.le_refl
abbrev ud:=@Nat.le_trans
abbrev ks:=@Nat.lt_of_lt_of_le
abbrev A1:=@Nat.lt_or_ge
abbrev CV:=@Nat.lt_succ_iff_lt_or_eq
abbrev Ia:=@Nat.mod_eq_of_lt
abbrev Mc:=@Nat.mul_comm
abbrev CW:=@Nat.mul_le_mul
abbrev Ib:=@Nat.mul_le_mul_right
abbrev WQ:=@Nat.ne_of_beq_eq_false
abbrev xL:=@Nat.sub_self
abbrev nz:=@Nat.succ_mul
abbrev l6:=@Nat.zero_add
abbrev Md:=@Nat.zero_le
abbrev Me:=@Nat.zero_mul
abbrev sY:=@Option.map_eq_some_iff
abbrev xM:=@Option.map_some
abbrev zf:=@Option.some.inj
abbrev iX:=@Option.some.injEq
end Go
namespace Go.b8
variable {K:bx->Prop} {N:aH->aV} {P:Program} {Q:Exit->aH->aV} {R:dW} {a b p:ax} {all ops:List Oper} {c:Call} {c' cap l l' len:Nat} {captured first:Array bx} {env:aH} {f x y:Operand} {fn:Func} {h m n:Int} {inf:TypeInfo} {k:IntKind} {next:Act->aV} {sD:Oper} {op:BinOp} {q:bh} {s:Sem bx} {t:TypeId} {v:bx} {w w':av}
def dj (env:aH):Operand->bx
 | .tmp t=>env.getD t undef
 | .const v=>v
 | .global g=>.pointer (some ⟨g,0,none⟩)
 | .func f=>.func (.func f) #[] #[]
def ag (j:aH):Nat->Nat->aH->aH
 | _,0,r=>r
 |a,n+1,r=>j.getD a undef::ag j (a+1) n r
def bQ:Nat->aH->aH
 | 0,r=>r
 |n+1,r=>undef::bQ n r
def put (env:aH):Option Tmp->bx->aH
 |some d,v=>env.set d v
 |none,_=>env
def act (env:aH):Act:={ tmps:=env.toArray,defers:=[] }
theorem HS (env:aH):(act env).eval=dj env:=by
 funext x;cases x with
 |tmp t=>simp only [Act.eval,act,dj,Array.getD_eq_getD_getElem?,Mi,gd]
 |const v=>rfl
 |global g=>rfl
 |func f=>rfl
theorem tH (env:aH) (d:Option Tmp) (v:bx):(act env).put d v=act (put env d v):=by
 cases d with
 |none=>rfl
 |some d=>simp [Act.put,act,put]
def single:bx->Bool
 | .agg _=>false
 | .tuple _=>false
 | _=>true
def AG {α:Type} (P:Program):Sem α->(α->aV)->aV
 | .pure a,K,w=>K a w
 | .load _ a k,K,w=>∃ v,w.cell? a=some v/\AG P (k v) K w
 | .store _ a v k,K,w=>(∃ u,w.cell? a=some u)/\w.frozen? a=false/\single v=true/\∀ w1,w1=w.setCell a v->AG P k K w1
 | .new o k,K,w=>∀ b w1,b=w.heap.size->w1=w.alloc o->AG P (k b) K w1
 | .shape r k,K,w=>AG P (k (w.shape? r)) K w
 | .frozen a k,K,w=>AG P (k (w.frozen? a)) K w
 | .program k,K,w=>AG P (k P) K w
 | .mark _ k,K,w=>AG P k K w
 | _,_,_=>False
theorem Xi {α:Type} {m:Mode} {a:bh} {k:Sem α} (ab:∃ u,w.cell? a=some u) (aJ:w.frozen? a=false) (aw:single v=true) :
  (Sem.store m a v k).run P w=k.run P (w.setCell a v):=by
 obtain ⟨u,hu⟩:=ab;cases v<;>simp [single] at aw<;>simp [Sem.run,hu,aJ]
theorem ajB {α:Type} (s:Sem α):∀ {K:α->aV} {w:av},AG P s K w->∃ a w',s.run P w=.ok a w'/\K a w':=by
 induction s with
 |pure a=>intro K w h;exact ⟨a,w,rfl,h⟩
 |load m a k c5=>intro K w h;obtain ⟨v,aw,h⟩:=h;obtain ⟨x,w',aA,J⟩:=c5 v h;exact ⟨x,w',by simp only [Sem.run,aw];exact aA,J⟩
 |store m a v k c5=>intro K w h;obtain ⟨ab,aJ,aX,h⟩:=h;obtain ⟨x,w',aA,J⟩:=c5 (h _ rfl);exact ⟨x,w',by rw [Xi ab aJ aX];exact aA,J⟩
 |new o k c5=>intro K w h;obtain ⟨x,w',aA,J⟩:=c5 _ (h _ _ rfl rfl);exact ⟨x,w',aA,J⟩
 |shape r k c5=>intro K w h;exact c5 _ h
 |frozen a k c5=>intro K w h;exact c5 _ h
 |program k c5=>intro K w h;exact c5 _ h
 |mark m k c5=>intro K w h;exact c5 h
 | _=>intro K w h;exact h.elim
def jC (k:IntKind) (x y:Int):Int:=k.wrap (BitVec.ofInt k.bits x &&& BitVec.ofInt k.bits y).toNat
def pI (k:IntKind) (x y:Int):Int:=k.wrap (BitVec.ofInt k.bits x ||| BitVec.ofInt k.bits y).toNat
def nH (k:IntKind) (x y:Int):Int:=k.wrap (BitVec.ofInt k.bits x ^^^ BitVec.ofInt k.bits y).toNat
def IH (k:IntKind) (x y:Int):Int:=k.wrap (BitVec.ofInt k.bits x &&& ~~~ BitVec.ofInt k.bits y).toNat
def n8 (k:IntKind) (x n:Int):Int:=k.wrap (x * 2 ^ min n.toNat k.bits)
def fr (k:IntKind) (x n:Int):Int:=x.fdiv (2 ^ min n.toNat k.bits)
inductive xW where
 |i (k:IntKind) | b | p | s | v
def PV:Option TypeDesc->xW
 |some (.int k)=>.i k
 |some .bool=>.b
 |some (.pointer _)=>.p
 |some (.slice _)=>.s
 | _=>.v
def Bw:xW->(bx->Prop)->Prop
 | .i k,K=>∃ x:Int,K (.int k x)
 | .b,K=>∃ x:Bool,K (.bool x)
 | .p,K=>∃ x:ax,K (.pointer x)
 | .s,K=>∃ (x:ax) (l c:Nat),K (.slice x l c)
 | .v,K=>∃ v:bx,K v
theorem FP {k:xW} (h:Bw k K):∃ v,K v:=by
 cases k with
 |i k=>obtain ⟨x,h⟩:=h;exact ⟨_,h⟩
 |b=>obtain ⟨x,h⟩:=h;exact ⟨_,h⟩
 |p=>obtain ⟨x,h⟩:=h;exact ⟨_,h⟩
 |s=>obtain ⟨x,l,c,h⟩:=h;exact ⟨_,h⟩
 |v=>exact h
theorem YE {k:xW} {Bf:bx->Prop} (J:∀ v,K v->Bf v) (h:Bw k K):Bw k Bf:=by
 cases k with
 |i k=>obtain ⟨x,h⟩:=h;exact ⟨_,J _ h⟩
 |b=>obtain ⟨x,h⟩:=h;exact ⟨_,J _ h⟩
 |p=>obtain ⟨x,h⟩:=h;exact ⟨_,J _ h⟩
 |s=>obtain ⟨x,l,c,h⟩:=h;exact ⟨_,_,_,J _ h⟩
 |v=>obtain ⟨x,h⟩:=h;exact ⟨_,J _ h⟩
def DJ:List xW->(aH->Prop)->Prop
 | [],K=>K []
 |k::en,K=>Bw k λv=>DJ en λvs=>K (v::vs)
theorem Is:∀ {en:List xW} {K:aH->Prop},DJ en K->∃ vs,vs.length=en.length/\K vs
 | [],_,h=>⟨[],rfl,h⟩
 |k::en,K,h=>by obtain ⟨v,h⟩:=FP h;obtain ⟨vs,au,h⟩:=Is h;exact ⟨v::vs,by simp [au],h⟩
theorem YF:∀ {en:List xW} {K Bf:aH->Prop},(∀ vs,K vs->Bf vs)->DJ en K->DJ en Bf
 | [],_,_,J,h=>J _ h
 | _::_,_,_,J,h=>YE (λv h=>YF (λvs h=>J (v::vs) h) h) h
def ED (P:Program):Nat->TypeId->List xW
 | 0,_=>[]
 |n+1,t=>match P.underlying t with
  |some (.struct qo)=>qo.toList.flatMap λf=>ED P n f.type
  |some (.array len e)=>(List.replicate len (ED P n e)).flatten
  |d=>[PV d]
def lA (P:Program) (t:TypeId):Bool:=
 match P.underlying t with
 |some (.struct _)=>true
 |some (.array _ _)=>true
 | _=>false
def C7 (P:Program) (t:TypeId):Nat:=match P.info? t with | some i=>i.size | none=>0
def N2 (P:Program) (t:TypeId) (K:bx->Prop):Prop:=
 match lA P t with
 |true=>DJ (ED P 8 t) λvs=>K (.agg vs.toArray)
 |false=>Bw (PV (P.underlying t)) K
theorem ZJ (h:N2 P t K):∃ v,K v:=by
 unfold N2 at h;split at h
 ·obtain ⟨vs,_,h⟩:=Is h;exact ⟨_,h⟩
 ·exact FP h
def SN (P:Program):List TypeId->(aH->Prop)->Prop
 | [],K=>K []
 |t::ts,K=>N2 P t λv=>SN P ts λvs=>K (v::vs)
theorem ZK {P:Program}:∀ {ts:List TypeId} {K:aH->Prop},SN P ts K->∃ vs,K vs
 | [],_,h=>⟨[],h⟩
 |t::ts,K,h=>by obtain ⟨v,h⟩:=ZJ h;obtain ⟨vs,h⟩:=ZK h;exact ⟨v::vs,h⟩
def Gu (P:Program):List TypeId->(bx->Prop)->Prop
 | [t],K=>N2 P t K
 |ts,K=>SN P ts λvs=>K (.tuple vs.toArray)
theorem ZL {ts:List TypeId} (h:Gu P ts K):∃ v,K v:=by
 unfold Gu at h;split at h
 ·exact ZJ h
 ·obtain ⟨vs,h⟩:=ZK h;exact ⟨_,h⟩
def df (w:av) (ch:bh):Nat->aH->Prop
 | _,[]=>True
 |i,v::vs=>w.cell? (ch.add i)=some v/\df w ch (i+1) vs
def ha (w:av) (ch:bh):Nat->aH->Prop
 | _,[]=>True
 |i,v::vs=>(∃ u,w.cell? (ch.add i)=some u)/\w.frozen? (ch.add i)=false/\single v=true/\ha w ch (i+1) vs
def dO (w:av) (ch:bh):Nat->aH->av
 | _,[]=>w
 |i,v::vs=>dO (w.setCell (ch.add i) v) ch (i+1) vs
theorem azE {p:bh} (h:∃ u,w.cell? q=some u):∃ u,(w.setCell p v).cell? q=some u:=by
 obtain ⟨u,hu⟩:=h;unfold World.cell? World.setCell at *;simp only [Q7];cases ak:w.heap[q.block]? with
 |none=>rw [ak] at hu;cases hu
 |some o=>
  rw [ak] at hu;cases o with
  |cells c e aDj=>
   simp only at hu;by_cases aX:q.spot.isSome=true
   ·simp [aX] at hu
   ·simp only [aX,FA,if_false] at hu;by_cases KJ:p.block=q.block
    ·simp only [KJ,if_true,xM,aX,FA,if_false];by_cases ar:p.spot.isSome=true
     ·simp only [ar,if_true];exact ⟨u,hu⟩
     ·simp only [ar,FA,if_false];rw [Array.getElem?_setIfInBounds];split
      ·rename_i he;have aK:p.off<c.size:=by
        rcases A1 p.off c.size with h | h
        ·exact h
        ·rw [QZ (by omega)] at hu;cases hu
       rw [if_pos aK];exact ⟨_,rfl⟩
      ·exact ⟨u,hu⟩
    ·simp only [KJ,if_false,aX,FA];exact ⟨u,hu⟩
  | _=>cases hu
theorem aCC {p:bh}:(w.setCell p v).frozen? q=w.frozen? q:=by
 unfold World.frozen? World.setCell;simp only [Q7];cases ak:w.heap[q.block]? with
 |none=>simp
 |some o=>
  by_cases KJ:p.block=q.block
  ·simp only [KJ,if_true,xM];cases o<;>rfl
  ·simp only [KJ,if_false]
theorem agn {w:av} {ch p:bh} {u:bx}:∀ {vs:aH} {i:Nat},ha w ch i vs->ha (w.setCell p u) ch i vs
 | [],_,_=>trivial
 | _::_,_,h=>⟨azE h.1,by rw [aCC];exact h.2.1,h.2.2.1,agn h.2.2.2⟩
theorem HK {P:Program} {ch:bh}:∀ {vs:aH} {i:Nat} {w:av},ha w ch i vs->
  (storeCells ch vs i).run P w=.ok () (dO w ch i vs)
 | [],_,_,_=>rfl
 |v::vs,i,w,h=>by unfold storeCells;show ((store (ch.add i) v).bind λ_=>storeCells ch vs (i+1)).run P w=_;show (Sem.store .plain (ch.add i) v (storeCells ch vs (i+1))).run P w=_;rw [Xi h.1 h.2.1 h.2.2.1];exact HK (agn h.2.2.2)
theorem run_loadCellsFrom {P:Program} {ch:bh} {w:av}:∀ {vs:aH} {i:Nat} {acc:Array bx},df w ch i vs->
  (loadCellsFrom ch i vs.length acc).run P w=.ok (acc++vs.toArray) w
 | [],_,acc,_=>by simp [loadCellsFrom]
 |v::vs,i,acc,h=>by show (Sem.load .plain (ch.add i) λv=>loadCellsFrom ch (i+1) vs.length (acc.push v)).run P w=_;simp only [Sem.run,h.1];rw [run_loadCellsFrom (acc:=acc.push v) h.2];simp
def zl (P:Program) (t:TypeId) (x:bx) (K:dW) (w:av):Prop:=
 match x with
 | .pointer (some ch)=>
  match P.info? t with
  |none=>False
  |some inf=>
   match lA P t with
   |true=>match Nat.beq (ED P 8 t).length inf.size with
    |true=>DJ (ED P 8 t) λvs=>df w ch 0 vs/\K (.agg vs.toArray) w
    |false=>False
   |false=>match P.underlying t with
    |none=>False
    |some d=>Bw (PV (some d)) λv=>w.cell? ch=some v/\K v w
 | _=>False
def RP (P:Program) (t:TypeId) (x v:bx) (K:aV) (w:av):Prop:=
 match x with
 | .pointer (some ch)=>
  match P.info? t with
  |none=>False
  |some inf=>
   match lA P t with
   |true=>match Nat.beq v.cells.size inf.size with
    |true=>ha w ch 0 v.cells.toList/\∀ w1,w1=dO w ch 0 v.cells.toList->K w1
    |false=>False
   |false=>match single v,Nat.beq inf.size 1 with
    |true,true=>(∃ u,w.cell? ch=some u)/\w.frozen? ch=false/\∀ w1,w1=w.setCell ch v->K w1
    | _,_=>False
 | _=>False
def jg:ax->(bh->Prop)->Prop
 |some ch,K=>K ch
 |none,_=>False
def cb (a:ax) (len:Nat) (n:Int) (sz:Nat) (K:bh->Prop):Prop:=
 ∃ ch,a=some ch/\0<=n/\n<len/\K (ch.add (n.toNat * sz))
def tE (ch:bh) (len:Nat) (n:Int) (sz:Nat) (K:bh->Prop):Prop:=
 0<=n/\n<len/\K (ch.add (n.toNat * sz))
def ns (a:ax) (len cap:Nat) (mP aD nV:Int) (sz:Nat) (K:ax->Nat->bB):Prop:=
 0<=mP/\mP<=aD/\aD<=nV/\nV<=cap/\len<=cap/\K (if nV=mP then a else a.map (·.add (mP.toNat * sz))) (aD.toNat - mP.toNat) (nV.toNat - mP.toNat)
def p8 (n:Nat) (zs:aH):aH:=(List.replicate n zs).flatten
def EI (len cap:Int) (bytes:Nat) (o:Obj) (w:av) (K:Nat->aV):Prop:=0<=len/\len<=cap/\cap * bytes<=140737488355328/\cap<=140737488355328/\∀ b w1,b=w.heap.size->w1=w.alloc o->K b w1
def oq (P:Program) (f:FuncId):Bool:=
 match P.funcs[f]? with
 |some fn=>fn.body.isSome && !(fn.name == "runtime.NumGoroutine")
 |none=>false
def xI (P:Program) (f:bx) (args:Array bx) (w:av) (R:Ending->aV):Prop:=
 match f with
 | .func (.func g) first captured=>match oq P g with
  |true=>Calls P g (first++args++captured) w R
  |false=>False
 | _=>False
def M6 (P:Program) (t:TypeId):List TypeId:=
 match P.underlying t with
 |some (.tuple ts)=>ts.toList
 | _=>[t]
def Qi (P:Program) (s:Sem bx) (k:xW) (K:dW) (w:av):Prop:=
 Bw k λv=>∃ w',s.run P w=.ok v w'/\K v w'
def aEH:bx->Option Int
 | .int _ n=>some n
 | _=>none
def aad (K:dW):Next->aV
 | .value v,w=>K v w
 | .skip,w=>K undef w
 | _,_=>False
def SZ (P:Program) (env:aH) (o:Oper) (K:dW) (w:av):Prop:=
 AG P (execOp (dj env) o) (aad K) w
def Mu:Operand->Bool
 | .const _=>true
 | _=>false
def vF (d:Int):Option bx->Option Int
 |none=>some d
 |some (.int _ n)=>some n
 |some _=>none
def Mv {α:Type} (P:Program):Sem α->Option α
 | .pure a=>some a
 | .program k=>Mv P (k P)
 | _=>none
theorem ahI {α:Type} (s:Sem α):∀ {a:α},Mv P s=some a->∀ w,s.run P w=.ok a w:=by
 induction s with
 |pure a=>intro b h w;simp [Mv] at h;subst h;rfl
 |program k c5=>intro b h w;exact c5 P h w
 | _=>intro b h;cases h
def zO (P:Program) (env:aH) (o:Oper) (K:bx->Prop):Prop:=
 match Mv P (execOp (dj env) o) with
 |some (.value v)=>K v
 | _=>False
def ahR (P:Program) (t:TypeId) (x y:bx) (r:Bool) (w:av):Prop:=
 (∀ op a b,(eqGuard op t a b x y).run P w=.ok () w)/\(binOp .eql t x y).run P w=.ok (.bool r) w/\(binOp .neq t x y).run P w=.ok (.bool (!r)) w
def F3 (P:Program) (t:TypeId) (x y:bx) (K:Bool->Prop):Prop:=∃ r:Bool,(∀ w,ahR P t x y r w)/\K r
def M7 (P:Program) (env:aH) (o:Oper) (K:bx->Prop):Prop:=
 match o.op with
 | .pick c a b=>match dj env c with
  | .bool t=>bif t then K (dj env a) else K (dj env b)
  | _=>False
 | .nilCheck x=>match dj env x with
  | .pointer p=>jg p λch=>K (.pointer (some ch))
  | _=>False
 | .indexAddr t x i=>match dj env i with
  | .int _ n=>match P.underlying t with
   |some (.slice e)=>match dj env x,P.info? e with
    | .slice a len _,some inf=>cb a len n inf.size λch=>K (.pointer (some ch))
    | _,_=>False
   |some (.array len e)=>match dj env x,P.info? e with
    | .pointer (some ch),some inf=>tE ch len n inf.size λch=>K (.pointer (some ch))
    | _,_=>False
   | _=>False
  | _=>False
 | .slice t x mP aD nV=>match P.underlying t with
  |some (.slice e)=>match dj env x,P.info? e with
   | .slice a len cap,some inf=>
    match vF 0 (mP.map (dj env)),vF len (aD.map (dj env)),vF cap (nV.map (dj env)),aD.isNone && nV.isSome with
    |some l,some h,some m,false=>ns a len cap l h m inf.size λcB l' c'=>K (.slice cB l' c')
    | _,_,_,_=>False
   | _,_=>False
  | _=>zO P env o K
 | .binOp op t x y _=>match op,dj env x,dj env y with
  | .eql,.pointer p,.pointer none=>match P.underlying t with
   |some (.pointer _)=>K (.bool p.isNone)
   | _=>False
  | .neq,.pointer p,.pointer none=>match P.underlying t with
   |some (.pointer _)=>K (.bool (!p.isNone))
   | _=>False
  | .eql,.slice a _ _,.slice none _ _=>match P.underlying t with
   |some (.slice _)=>K (.bool a.isNone)
   | _=>False
  | .neq,.slice a _ _,.slice none _ _=>match P.underlying t with
   |some (.slice _)=>K (.bool (!a.isNone))
   | _=>False
  | .quo,.int k a,.int hU b=>match Mu y with
   |true=>zO P env o K
   |false=>k=hU/\b≠0/\K (.int k (k.wrap (a.tdiv b)))
  | .rem,.int k a,.int hU b=>match Mu y with
   |true=>zO P env o K
   |false=>k=hU/\b≠0/\K (.int k (a.tmod b))
  | .shl,.int k a,.int _ b=>match Mu y with
   |true=>zO P env o K
   |false=>0<=b/\K (.int k (k.wrap (a * 2 ^ min b.toNat k.bits)))
  | .shr,.int k a,.int _ b=>match Mu y with
   |true=>zO P env o K
   |false=>0<=b/\K (.int k (a.fdiv (2 ^ min b.toNat k.bits)))
  | .eql,.agg a,.agg b=>F3 P t (.agg a) (.agg b) λr=>K (.bool r)
  | .neq,.agg a,.agg b=>F3 P t (.agg a) (.agg b) λr=>K (.bool (!r))
  | _,_,_=>zO P env o K
 | _=>zO P env o K
def MY:Op->Bool
 | .move _ | .assign _ | .pick .. | .build .. | .nilCheck _ | .binOp .. | .unOp .. | .convert .. | .makeFunc .. | .slice .. | .fieldAddr .. | .field .. | .indexAddr .. | .index .. | .extract ..=>true
 | .call { callee:=.builtin .len,.. } | .call { callee:=.builtin .cap,.. } | .call { callee:=.builtin .min,.. } | .call { callee:=.builtin .max,.. }=>true
 | _=>false
def EP (P:Program) (env:aH) (o:Oper) (K:dW) (w:av):Prop:=
 match MY o.op with
 |true=>M7 P env o λv=>K v w
 |false=>match o.op with
  | .load t x=>zl P t (dj env x) K w
  | .store t x v=>RP P t (dj env x) (dj env v) (K undef) w
  | .makeSlice t l c=>match P.underlying t,dj env l,dj env c with
   |some (.slice e),.int _ len,.int _ cap=>match P.info? e with
    |some inf=>match inf.zero with
     |some z=>match Nat.beq z.cells.size inf.size && Nat.ble 1 inf.size with
      |false=>False
      |true=>EI len cap inf.bytes (.cells (p8 cap.toNat z.cells.toList).toArray e) w λb w1=>K (.slice (some ⟨b,0,none⟩) len.toNat cap.toNat) w1
     |none=>False
    |none=>False
   | _,_,_=>False
  | .call c=>match c.callee with
   | .builtin .append=>Qi P (Builtin.append_ c.argTypes o.type (c.args.map (dj env))) .s K w
   | .builtin .copy=>Qi P (Builtin.copy_ c.argTypes o.type (c.args.map (dj env))) (.i .i64) K w
   | .builtin .clear=>Qi P (Builtin.clear_ c.argTypes o.type (c.args.map (dj env))) .v K w
   | .value f=>xI P (dj env f) (c.args.map (dj env)) w λe w'=>Gu P (M6 P o.type) λv=>e=.returned v/\K v w'
   | _=>SZ P env o K w
  | _=>SZ P env o K w
def px (P:Program) (f:bx) (args:Array bx) (w:av) (R:Ending->aV):Prop:=
 match f with
 | .func (.yield l) first _=>YieldAt Fence.wide 0 P l (first++args) w R
 |f=>xI P f args w R
def VA (P:Program) (env:aH) (o:Oper) (K:dW) (w:av):Prop:=
 match o.op with
 | .call c=>match c.callee with
  | .value f=>px P (dj env f) (c.args.map (dj env)) w λe w'=>Gu P (M6 P o.type) λv=>e=.returned v/\K v w'
  | _=>EP P env o K w
 | _=>EP P env o K w
section
variable {P:Program} {env:aH} {o:Oper} {K:dW} {w:av}
def va (P:Program) (env:aH) (o:Oper) (K:dW) (w:av):Prop:=
 (∃ n w',(execOp (dj env) o).run P w=.ok n w'/\aad K n w')\/
 (∃ f args,(execOp (dj env) o).run P w=.ok (.enter f args) w/\Calls P f args w λe w'=>∃ v,e=.returned v/\K v w')
theorem YG (h:SZ P env o K w):va P env o K w:=.inl (ajB _ h)
theorem Rc (he:execOp (dj env) o=(do pure (.value (<- s)))) (aA:s.run P w=.ok v w') (h:K v w'):va P env o K w:=by refine .inl ⟨.value v,w',?_,h⟩;rw [he,Sem.run_bind,aA];rfl
theorem Xj {s:Sem Unit} (he:execOp (dj env) o=(do s;pure .skip)) (aA:s.run P w=.ok () w') (h:K undef w'):va P env o K w:=by refine .inl ⟨.skip,w',?_,h⟩;rw [he,Sem.run_bind,aA];rfl
theorem VT {i:TypeInfo} (h:P.info? t=some i) (w:av):(typeInfo t).run P w=.ok i w:=by simp [typeInfo,h,program,Sem.run]
theorem run_sizeOf {i:TypeInfo} (h:P.info? t=some i) (w:av):(sizeOf t).run P w=.ok i.size w:=by simp [sizeOf,VT h]
theorem Ci {d:TypeDesc} (h:P.underlying t=some d) (w:av):(Go.isAgg t).run P w=.ok (lA P t) w:=by simp only [Go.isAgg,Sem.run_bind,run_underlying h,Result.andThen_ok,lA,h];cases d<;>rfl
theorem Vq (h:lA P t=true):∃ d,P.underlying t=some d:=by
 unfold lA at h;cases hu:P.underlying t with
 |none=>simp [hu] at h
 |some d=>exact ⟨d,rfl⟩
def wx (P:Program) (env:aH) (o:Oper) (K:bx->Prop):Prop:=
 ∃ v,(∀ w,(execOp (dj env) o).run P w=.ok (.value v) w)/\K v
theorem wx.bO (h:wx P env o λv=>K v w):va P env o K w:=
 let ⟨v,aA,h⟩:=h
 .inl ⟨.value v,w,aA w,h⟩
theorem QH {K:bx->Prop} (he:execOp (dj env) o=(do pure (.value (<- s)))) (aA:∀ w,s.run P w=.ok v w) (h:K v):wx P env o K:=by
 refine ⟨v,λw=>?_,h⟩
 rw [he,Sem.run_bind,aA];rfl
theorem EV {K:bx->Prop} (h:zO P env o K):wx P env o K:=by
 unfold zO at h;split at h
 ·rename_i v aw;exact ⟨v,ahI _ aw,h⟩
 ·exact h.elim
theorem ait (aq:o.op=.load t x) (h:zl P t (dj env x) K w):va P env o K w:=by
 have he:execOp (dj env) o=(do pure (.value (<- Instr.loadAt t (dj env x)))):=by unfold execOp;rw [aq]
 unfold zl at h;split at h
 ·rename_i ch ao;split at h
  ·exact h.elim
  ·rename_i inf kf;split at h
   ·rename_i qu;split at h
    ·rename_i hlen;obtain ⟨vs,au,ab,h⟩:=Is h;obtain ⟨d,aC⟩:=Vq qu;refine Rc he ?_ h;have aj:vs.length=inf.size:=by rw [au];exact sX hlen
     simp only [Instr.loadAt,ao,Instr.sureAddr,pure_bind,loadVar,Sem.run_bind,Ci aC,Result.andThen_ok,qu,if_true,run_sizeOf kf];have:=run_loadCellsFrom (P:=P) (acc:=#[]) ab;rw [aj] at this;simp [loadCells,this]
    ·exact h.elim
   ·rename_i qu;split at h
    ·exact h.elim
    ·rename_i d aC;obtain ⟨v,aw,h⟩:=FP h;refine Rc he ?_ h;simp only [Instr.loadAt,ao,Instr.sureAddr,pure_bind,loadVar,Sem.run_bind,Ci aC,Result.andThen_ok,qu];simp [aw]
 ·exact h.elim
theorem Fr {v:Operand} (aq:o.op=.store t x v) (h:RP P t (dj env x) (dj env v) (K undef) w):va P env o K w:=by
 have he:execOp (dj env) o=(do Instr.storeAt t (dj env x) (dj env v);pure .skip):=by unfold execOp;rw [aq]
 unfold RP at h;split at h
 ·rename_i ch ao;split at h
  ·exact h.elim
  ·rename_i inf kf;split at h
   ·split at h
    ·rename_i hlen;obtain ⟨hw,h⟩:=h;have h:=h _ rfl;refine Xj he ?_ h;have aj:=sX hlen;simp only [Instr.storeAt,ao,Instr.sureAddr,pure_bind,storeVar,Sem.run_bind,run_sizeOf kf,Result.andThen_ok,aj];simp [HK hw]
    ·exact h.elim
   ·split at h
    ·rename_i aX aj;obtain ⟨ab,aJ,h⟩:=h;have h:=h _ rfl;refine Xj he ?_ h;have aj:=sX aj;have Ts:(dj env v).cells=#[dj env v]:=by revert aX;cases dj env v<;>simp [single,Value.cells]
     have bc:ch.add 0=ch:=by simp [Addr.add]
     have hw:ha w ch 0 [dj env v]:=⟨by rw [bc];exact ab,by rw [bc];exact aJ,aX,trivial⟩;simp only [Instr.storeAt,ao,Instr.sureAddr,pure_bind,storeVar,Sem.run_bind,run_sizeOf kf,Result.andThen_ok,aj,Ts];simp [HK hw,dO,bc]
    ·exact h.elim
 ·exact h.elim
theorem ajD {K:bx->Prop} (aq:o.op=.nilCheck x) (ao:dj env x=.pointer p) (h:jg p λch=>K (.pointer (some ch))):wx P env o K:=by
 cases p with
 |none=>exact h.elim
 |some ch=>
  refine ⟨.pointer (some ch),λw=>?_,h⟩
  unfold execOp;rw [aq];simp only [ao];rfl
theorem aiu {c a b:Operand} {t:Bool} {K:bx->Prop} (aq:o.op=.pick c a b) (ab:dj env c=.bool t) (h:bif t then K (dj env a) else K (dj env b)):wx P env o K:=by refine ⟨bif t then dj env a else dj env b,λw=>?_,by cases t<;>exact h⟩;unfold execOp;rw [aq];simp only [ab,asBool,pure_bind];cases t<;>rfl
theorem aiv {t e:TypeId} {x i:Operand} {K:bx->Prop} (aq:o.op=.indexAddr t x i) (aD:dj env i=.int k n)
  (hu:P.underlying t=some (.slice e)) (ao:dj env x=.slice a len cap) (kf:P.info? e=some inf) (h:cb a len n inf.size λch=>K (.pointer (some ch))):wx P env o K:=by
 have he:execOp (dj env) o=(do pure (.value (<- Instr.indexAt t (dj env x) (dj env i)))):=by unfold execOp;rw [aq]
 obtain ⟨ch,rfl,aN,af,h⟩:=h;refine QH he (λw=>?_) h;simp [Instr.indexAt,aD,ao,asIntOf,run_underlying hu,aN,af,run_sizeOf kf]
theorem aiw {t e:TypeId} {x i:Operand} {ch:bh} {K:bx->Prop} (aq:o.op=.indexAddr t x i) (aD:dj env i=.int k n)
  (hu:P.underlying t=some (.array len e)) (ao:dj env x=.pointer (some ch)) (kf:P.info? e=some inf) (h:tE ch len n inf.size λch=>K (.pointer (some ch))):wx P env o K:=by
 have he:execOp (dj env) o=(do pure (.value (<- Instr.indexAt t (dj env x) (dj env i)))):=by unfold execOp;rw [aq]
 obtain ⟨aN,af,h⟩:=h;refine QH he (λw=>?_) h;simp [Instr.indexAt,aD,ao,asIntOf,run_underlying hu,aN,af,run_sizeOf kf,Instr.sureAddr]
theorem HT {d:Int} {v:Option bx} (h:vF d v=some n):(v=none/\n=d)\/∃ k,v=some (.int k n):=by
 unfold vF at h;split at h
 ·exact .inl ⟨rfl,by simpa using h.symm⟩
 ·rename_i k m;exact .inr ⟨k,by simp at h;rw [h]⟩
 ·cases h
theorem zK {y:Nat} {c:BoundsCode} (aN:0<=n) (af:n<=y) (w:av):(Instr.sliceBound (.int k n) y c).run P w=.ok n.toNat w:=by simp [Instr.sliceBound,asIntOf,aN,af]
theorem aCv {mP aD nV:Option bx} {l:Int} (au:vF 0 mP=some l) (ed:vF len aD=some h) (hm:vF cap nV=some m) (TS:¬ (aD=none/\nV≠none))
  (s9:0<=l) (b1:l<=h) (aP:h<=m) (bT:m<=cap) (w:av):(Instr.sliceBounds true len cap mP aD nV).run P w=.ok (l.toNat,h.toNat,m.toNat) w:=by
 unfold Instr.sliceBounds;rcases HT hm with ⟨rfl,rfl⟩ | ⟨aEK,rfl⟩
 ·rcases HT ed with ⟨rfl,rfl⟩ | ⟨auR,rfl⟩
  ·rcases HT au with ⟨rfl,rfl⟩ | ⟨PW,rfl⟩
   ·simp
   ·simp [zK (y:=len) s9 b1]
  ·rcases HT au with ⟨rfl,rfl⟩ | ⟨PW,rfl⟩
   ·simp [zK (y:=cap) b1 aP]
   ·simp [zK (y:=cap) (Int.le_trans s9 b1) aP,zK (y:=h.toNat) s9 (by omega:l<=((h.toNat:Nat):Int))]
 ·rcases HT ed with ⟨rfl,rfl⟩ | ⟨auR,rfl⟩
  ·exact absurd ⟨rfl,by simp⟩ TS
  ·rcases HT au with ⟨rfl,rfl⟩ | ⟨PW,rfl⟩
   ·simp [zK (y:=cap) (by omega:(0:Int)<=m) bT,zK (y:=m.toNat) b1 (by omega:h<=((m.toNat:Nat):Int))]
   ·simp [zK (y:=cap) (by omega:(0:Int)<=m) bT,zK (y:=m.toNat) (Int.le_trans s9 b1) (by omega:h<=((m.toNat:Nat):Int)),
     zK (y:=h.toNat) s9 (by omega:l<=((h.toNat:Nat):Int))]
theorem aid {t e:TypeId} {mP aD nV:Option Operand} {K:bx->Prop} {l:Int} (aq:o.op=.slice t x mP aD nV)
  (hu:P.underlying t=some (.slice e)) (ao:dj env x=.slice a len cap) (kf:P.info? e=some inf)
  (au:vF 0 (mP.map (dj env))=some l) (ed:vF len (aD.map (dj env))=some h) (hm:vF cap (nV.map (dj env))=some m) (TS:¬ (aD=none/\nV≠none))
  (J:ns a len cap l h m inf.size λcB l' c'=>K (.slice cB l' c')):wx P env o K:=by
 have he:execOp (dj env) o=(do pure (.value (<- Instr.sliceAt t (dj env x) (mP.map (dj env)) (aD.map (dj env)) (nV.map (dj env))))):=by unfold execOp;rw [aq]
 obtain ⟨s9,b1,aP,bT,_,J⟩:=J;refine QH he (λw=>?_) J;have ak:=aCv (P:=P) au ed hm (by intro ab;exact TS ⟨by simpa using ab.1,by simpa using ab.2⟩) s9 b1 aP bT w;have bY:(m=l)↔(m.toNat=l.toNat):=by omega
 simp only [Instr.sliceAt,Sem.run_bind,run_underlying hu,Result.andThen_ok,Instr.slice,ao,ak,run_sizeOf kf,bY];rfl
theorem alO (n:Nat) (zs:Array bx) (aE:0<zs.size):(Array.range (n * zs.size)).map (zs[· % zs.size]!)=(p8 n zs.toList).toArray:=by
 apply Array.ext
 ·simp [p8]
 ·intro i af al;simp only [Array.size_map,Array.size_range] at af;simp only [Array.getElem_map,Array.getElem_range,List.getElem_toArray];have key:∀ (m i:Nat) (zs:aH) (sv:zs≠[]),i<m * zs.length->((List.replicate m zs).flatten)[i]?=zs[i % zs.length]?:=by
   intro m;induction m with
   |zero=>intro i zs _ h;simp at h
   |succ m c5=>
    intro i zs sv h;have ar:0<zs.length:=Mk.2 sv;simp only [Fw,l7];by_cases aD:i<zs.length
    ·rw [nA aD,Ia aD]
    ·rw [nB (by omega),c5 (i - zs.length) zs sv (by rw [nz] at h;omega)];congr 1;rw [Nat.mod_eq_sub_mod (by omega:i>=zs.length)]
  have cj:zs.toList≠[]:=by
   intro ab;have aN:zs.toList.length=0:=by rw [ab];rfl
   rw [Array.length_toList] at aN;omega
  have J:=key n i zs.toList cj (by simpa using af);have aK:i % zs.size<zs.size:=Nat.mod_lt _ aE;unfold p8;have aL:((List.replicate n zs.toList).flatten)[i]?=some zs[i % zs.size]:=by rw [J];simp [aK]
  rw [getElem!_pos zs _ aK];have apJ:i<((List.replicate n zs.toList).flatten).length:=by simpa [p8] using al
  rw [cp apJ] at aL;exact (zf aL).symm
theorem aix {t e:TypeId} {l c:Operand} {PW auM:IntKind} {len cap:Int} {z:bx} (aq:o.op=.makeSlice t l c)
  (hu:P.underlying t=some (.slice e)) (au:dj env l=.int PW len) (ab:dj env c=.int auM cap) (kf:P.info? e=some inf) (aE:inf.zero=some z) (sv:z.cells.size=inf.size) (ar:0<inf.size)
  (h:EI len cap inf.bytes (.cells (p8 cap.toNat z.cells.toList).toArray e) w λb w1=>K (.slice (some ⟨b,0,none⟩) len.toNat cap.toNat) w1):va P env o K w:=by
 have he:execOp (dj env) o=(do pure (.value (<- Instr.makeSlice t (dj env l) (dj env c)))):=by unfold execOp;rw [aq]
 obtain ⟨s9,b1,aP,bT,h⟩:=h;have h:=h _ _ rfl rfl;refine Rc he ?_ h;have wl:IntKind.i64.wrap len=len:=by simp only [IntKind.wrap,IntKind.bits,IntKind.signed];simp;omega
 have h0:IntKind.i64.wrap cap=cap:=by simp only [IntKind.wrap,IntKind.bits,IntKind.signed];simp;omega
 have t1:¬ cap<0:=by omega
 have t2:¬ ((281474976710656:Int)<(inf.bytes:Int) * cap):=by rw [Int.mul_comm];omega
 have t3:¬ len<0:=by omega
 have t4:¬ cap<len:=by omega
 have room:(askRoom (cap.toNat * inf.bytes)).run P w=.ok () w:=by
  have:¬ (cap.toNat * inf.bytes>roomBytes):=by
   have:((cap.toNat * inf.bytes:Nat):Int)=cap * inf.bytes:=by rw [Int.natCast_mul,Int.toNat_of_nonneg (by omega)]
   unfold roomBytes;omega
  simp [askRoom,this]
 have aA:=alO cap.toNat z.cells (by omega);rw [sv] at aA;by_cases aj:cap.toNat * inf.size=0
 ·have q6:cap.toNat=0:=by
   rcases Nat.mul_eq_zero.1 aj with h | h
   ·exact h
   ·omega
  simp [Instr.makeSlice,run_underlying hu,au,ab,asInt,asIntOf,VT kf,wl,h0,t1,t2,t3,t4,run_sizeOf kf,q6,p8,newRow,newObj,Sem.run];rw [show Array.map (λ_=>(default:bx)) (Array.range 0)=#[] from Array.eq_empty_of_size_eq_zero (by simp)]
 ·simp [Instr.makeSlice,run_underlying hu,au,ab,asInt,asIntOf,VT kf,wl,h0,t1,t2,t3,t4,run_sizeOf kf,aj,zeroValue,aE,sv,newRow,newObj,Sem.run,<-aA]
theorem afF {t e:TypeId} (hu:P.underlying t=some (.pointer e)) (w:av):(Op.equal t (.pointer p) (.pointer none)).run P w=.ok p.isNone w:=by
 have h:∀ d:Nat,(Op.equalIn (d+1) t (.pointer p) (.pointer none)).run P w=.ok p.isNone w:=λd=>by cases p<;>simp [Op.equalIn,run_underlying hu]
 exact h 9999
theorem afR {t e:TypeId} {c:Nat} (hu:P.underlying t=some (.slice e)) (w:av):(Op.equal t (.slice p l c) (.slice none l' c')).run P w=.ok p.isNone w:=by
 have h:∀ d:Nat,(Op.equalIn (d+1) t (.slice p l c) (.slice none l' c')).run P w=.ok p.isNone w:=λd=>by cases p<;>simp [Op.equalIn,run_underlying hu]
 exact h 9999
theorem mt {u:TypeId} {K:bx->Prop} (aq:o.op=.binOp op t x y u) (a':∀ w,(eqGuard op t x y (dj env x) (dj env y)).run P w=.ok () w)
  (aA:∀ w,(binOp op t (dj env x) (dj env y)).run P w=.ok v w) (h:K v):wx P env o K:=by
 have he:execOp (dj env) o=(do pure (.value (<- (do eqGuard op t x y (dj env x) (dj env y);binOp op t (dj env x) (dj env y))))):=by unfold execOp;rw [aq]
 refine QH he (λw=>?_) h;rw [Sem.run_bind,a'];exact aA w
theorem aie {g:FuncId} (aq:o.op=.call c) (ab:c.callee=.value f) (aJ:dj env f=.func (.func g) first captured) (b3:oq P g=true)
  (h:Calls P g (first++c.args.map (dj env)++captured) w λe w'=>Gu P (M6 P o.type) λv=>e=.returned v/\K v w'):va P env o K w:=by
 refine .inr ⟨g,first++c.args.map (dj env)++captured,?_,h.mono λe w' h=>ZL h⟩;unfold oq at b3;cases D2:P.funcs[g]? with
 |none=>simp [D2] at b3
 |some fn=>
  simp only [D2,iz,FC] at b3;have ak:fn.body≠none:=by intro ak;simp [ak] at b3
  have aj:fn.name≠ "runtime.NumGoroutine" :=by simpa using b3.2
  unfold execOp;rw [aq];simp only [resolve,ab,aJ,Deferred.ofValue,pure_bind,invoke,callFunc];simp [program,Sem.run,D2,aj,ak]
theorem VU {b:Builtin} {k:xW} (aq:o.op=.call c) (ab:c.callee=.builtin b)
  (ak:∀ cs,builtin b c.argTypes o.type cs (c.args.map (dj env))=(do pure (.value (<- s))))
  (h:Qi P s k K w):va P env o K w:=by
 obtain ⟨v,w',aA,h⟩:=FP h;refine .inl ⟨.value v,w',?_,h⟩;unfold execOp;rw [aq];simp only [resolve,ab,pure_bind,invoke,ak];rw [Sem.run_bind,aA];rfl
theorem Qz {hU:IntKind} {a b:Int}:(eqGuard op t x y (.int k a) (.int hU b)).run P w=.ok () w:=by cases op<;>rfl
theorem Xk:(eqGuard op t x y (.pointer a) (.pointer b)).run P w=.ok () w:=by cases op<;>rfl
theorem YH {c:Nat}:(eqGuard op t x y (.slice a l c) (.slice b l' c')).run P w=.ok () w:=by cases op<;>rfl
theorem Xl {K:bx->Prop} (h:M7 P env o K):wx P env o K:=by
 unfold M7 at h;split at h
 ·rename_i aq;split at h
  ·rename_i ab;exact aiu aq ab h
  ·exact h.elim
 ·rename_i aq;split at h
  ·rename_i ao;exact ajD aq ao h
  ·exact h.elim
 ·rename_i aq;split at h
  ·rename_i aD;split at h
   ·rename_i hu;split at h
    ·rename_i ao kf;exact aiv aq aD hu ao kf h
    ·exact h.elim
   ·rename_i hu;split at h
    ·rename_i ao kf;exact aiw aq aD hu ao kf h
    ·exact h.elim
   ·exact h.elim
  ·exact h.elim
 ·rename_i aq;split at h
  ·rename_i hu;split at h
   ·rename_i ao kf;split at h
    ·rename_i au ed hm fp;refine aid aq hu ao kf au ed hm ?_ h;rintro ⟨af,al⟩;rw [af] at fp;simp at fp;exact al fp
    ·exact h.elim
   ·exact h.elim
  ·exact EV h
 ·rename_i aq;split at h
  ·rename_i ao az;split at h
   ·rename_i hu;exact mt aq (λw=>by rw [ao,az];exact Xk) (λw=>by rw [ao,az];simp [binOp,afF hu]) h
   ·exact h.elim
  ·rename_i ao az;split at h
   ·rename_i hu;exact mt aq (λw=>by rw [ao,az];exact Xk) (λw=>by rw [ao,az];simp [binOp,afF hu]) h
   ·exact h.elim
  ·rename_i ao az;split at h
   ·rename_i hu;exact mt aq (λw=>by rw [ao,az];exact YH) (λw=>by rw [ao,az];simp [binOp,afR hu]) h
   ·exact h.elim
  ·rename_i ao az;split at h
   ·rename_i hu;exact mt aq (λw=>by rw [ao,az];exact YH) (λw=>by rw [ao,az];simp [binOp,afR hu]) h
   ·exact h.elim
  ·rename_i ao az;split at h
   ·exact EV h
   ·obtain ⟨rfl,ak,h⟩:=h;exact mt aq (λw=>by rw [ao,az];exact Qz) (λw=>by rw [ao,az];simp [binOp,Op.intDiv,ak]) h
  ·rename_i ao az;split at h
   ·exact EV h
   ·obtain ⟨rfl,ak,h⟩:=h;exact mt aq (λw=>by rw [ao,az];exact Qz) (λw=>by rw [ao,az];simp [binOp,Op.intDiv,ak]) h
  ·rename_i ao az;split at h
   ·exact EV h
   ·obtain ⟨ak,h⟩:=h;have pg:¬ _<(0:Int):=Int.not_lt.2 ak;exact mt aq (λw=>by rw [ao,az];exact Qz) (λw=>by rw [ao,az];simp only [binOp,Op.shift,pg,if_false];rfl) h
  ·rename_i ao az;split at h
   ·exact EV h
   ·obtain ⟨ak,h⟩:=h;have pg:¬ _<(0:Int):=Int.not_lt.2 ak;exact mt aq (λw=>by rw [ao,az];exact Qz) (λw=>by rw [ao,az];simp only [binOp,Op.shift,pg,if_false];rfl) h
  ·rename_i ao az;obtain ⟨r,aA,h⟩:=h;exact mt aq (λw=>by rw [ao,az];exact (aA w).1 _ _ _) (λw=>by rw [ao,az];exact (aA w).2.1) h
  ·rename_i ao az;obtain ⟨r,aA,h⟩:=h;exact mt aq (λw=>by rw [ao,az];exact (aA w).1 _ _ _) (λw=>by rw [ao,az];exact (aA w).2.2) h
  ·exact EV h
 ·exact EV h
theorem H6 (h:EP P env o K w):va P env o K w:=by
 unfold EP at h;split at h
 ·exact (Xl h).bO
 split at h
 ·rename_i aq;exact ait aq h
 ·rename_i aq;exact Fr aq h
 ·rename_i aq;split at h
  ·rename_i hu au ab;split at h
   ·rename_i kf;split at h
    ·rename_i pv;split at h
     ·exact h.elim
     ·rename_i vW;simp only [iz] at vW;exact aix aq hu au ab kf pv (sX vW.1) (Nat.le_of_ble_eq_true vW.2) h
    ·exact h.elim
   ·exact h.elim
  ·exact h.elim
 ·rename_i aq;split at h
  ·rename_i ab;exact VU aq ab (λ_=>rfl) h
  ·rename_i ab;exact VU aq ab (λ_=>rfl) h
  ·rename_i ab;exact VU aq ab (λ_=>rfl) h
  ·rename_i ab;unfold xI at h;split at h
   ·rename_i aJ;split at h
    ·rename_i b3;exact aie aq ab aJ b3 h
    ·exact h.elim
   ·exact h.elim
  ·exact YG h
 ·exact YG h
theorem alP {Q:Exit->Act->aV} (h:va P env o K w) (aj:∀ v w',K v w'->next (act (put env o.dst v)) w'):o.wp P (act env) w next Q:=by
 unfold Oper.wp;rw [HS];rcases h with ⟨n,w',aA,h⟩ | ⟨f,args,aA,h⟩
 ·rw [aA];cases n with
  |value v=>simp only [Oper.upon,tH];exact aj _ _ h
  |skip=>simp only [Oper.upon,tH];exact aj _ _ h
  | _=>exact h.elim
 ·rw [aA];simp only [Oper.upon];refine h.mono λe w' ⟨v,he,h⟩=>?_
  subst he;simp only [tH];exact aj _ _ h
theorem Lz {Q:Exit->Act->aV} (h:va P env o K w) (aj:∀ v w',K v w'->next (act (put env o.dst v)) w'):o.wpIn Fence.wide 0 P (act env) w next Q:=by
 refine ⟨λ_ _=>trivial,?_⟩;show o.uponIn Fence.wide 0 P (act env) next Q ((execOp (act env).eval o).run P w)
 rw [HS];rcases h with ⟨n,w',aA,h⟩ | ⟨f,args,aA,h⟩
 ·rw [aA];cases n with
  |value v=>simp only [Oper.uponIn,tH];exact aj _ _ h
  |skip=>simp only [Oper.uponIn,tH];exact aj _ _ h
  | _=>exact h.elim
 ·rw [aA];simp only [Oper.uponIn];refine ⟨λab=>by simp [Fence.wide] at ab,callsIn_wide.2 (h.mono λe w' ⟨v,he,h⟩=>?_)⟩;subst he;simp only [tH];exact aj _ _ h
theorem aif {Q:Exit->Act->aV} (aq:o.op=.call c) (ab:c.callee=.value f) (aJ:dj env f=.func (.yield l) first captured)
  (h:YieldAt Fence.wide 0 P l (first++c.args.map (dj env)) w λe w'=>Gu P (M6 P o.type) λv=>e=.returned v/\K v w') (aj:∀ v w',K v w'->next (act (put env o.dst v)) w'):o.wpIn Fence.wide 0 P (act env) w next Q:=by
 refine ⟨λ_ _=>trivial,?_⟩;show o.uponIn Fence.wide 0 P (act env) next Q ((execOp (act env).eval o).run P w)
 rw [HS];obtain ⟨fn,tmps,assign,body,fV,cC⟩:=h;have aA:(execOp (dj env) o).run P w=.ok (.round l fn tmps assign body) w:=by unfold execOp;rw [aq];simp only [resolve,ab,aJ,Deferred.ofValue,pure_bind,invoke];exact fV
 rw [aA];simp only [Oper.uponIn];refine ⟨λab=>by simp [Fence.wide] at ab,cC.mono λe w' h=>?_⟩;obtain ⟨v,he,arS⟩:=ZL h;subst he;simp only [tH];exact aj _ _ arS
theorem ajE {Q:Exit->Act->aV} (h:VA P env o K w) (aj:∀ v w',K v w'->next (act (put env o.dst v)) w'):o.wpIn Fence.wide 0 P (act env) w next Q:=by
 unfold VA at h;split at h
 ·rename_i c aq;split at h
  ·rename_i f ab;unfold px at h;split at h
   ·rename_i l first captured aJ
    exact aif aq ab aJ h aj
   ·refine Lz (H6 ?_) aj;cases o with
    |mk dst op type pos after guard=>
     cases c with
     |mk callee args argTypes=>simp only at aq ab;subst aq;subst ab;exact h
  ·exact Lz (H6 h) aj
 ·exact Lz (H6 h) aj
end
def F4 (ops:List Oper) (j:Nat):Option Tmp:=match ops[j]? with | some o=>o.dst | none=>none
def qF (P:Program) (all:List Oper):List Oper->aH->(aH->aV)->aV
 | [],env,K,w=>K env w
 |o::rest,env,K,w=>
  match o.guard with
  |none=>VA P env o (λv w'=>qF P all rest (put env o.dst v) K w') w
  |some (j,want)=>match F4 all j with
   |none=>False
   |some d=>match env[d]? with
    |some (.bool b)=>
     bif b then (match want with
      |true=>EP P (env.set d (.bool true)) o (λv w'=>qF P all rest (put (env.set d (.bool true)) o.dst v) K w') w
      |false=>qF P all rest (put (env.set d (.bool true)) o.dst undef) K w)
     else (match want with
      |true=>qF P all rest (put (env.set d (.bool false)) o.dst undef) K w
      |false=>EP P (env.set d (.bool false)) o (λv w'=>qF P all rest (put (env.set d (.bool false)) o.dst v) K w') w)
    |some _=>qF P all rest (put env o.dst undef) K w
    |none=>False
theorem agx {ops:Array Oper} {o:Oper} (a':o.guard=none):Region.wanted o (yielded ops (act env).tmps)=true:=by simp [Region.wanted,a']
theorem agy {j:Nat} {d:Tmp} (h:F4 all j=some d):yielded all.toArray (act env).tmps j=match env[d]? with | some (.bool b)=>some b | _=>none:=by
 unfold yielded F4 at *;cases c_:all[j]? with
 |none=>simp [c_] at h
 |some o=>
  simp only [c_] at h;simp only [Mi,c_,Option.bind_some,h,act];rcases env[d]? with _ | v
  ·rfl
  ·cases v<;>rfl
theorem Au {P:Program} {all:List Oper} {Q:Exit->Act->aV}:∀ (l:List Oper) (env:aH) (w:av) (K:aH->aV),
  (∀ env w,K env w->Q .normal (act env) w)->qF P all l env K w->wpListIn Fence.wide 0 P all.toArray Q l (act env) w
 | [],env,w,K,J,h=>J _ _ h
 |o::rest,env,w,K,J,h=>by
  unfold qF at h;unfold wpListIn;cases a':o.guard with
  |none=>simp only [a'] at h;rw [if_pos (agx a')];exact ajE h λv w' h=>Au rest _ _ K J h
  |some p=>
   obtain ⟨j,want⟩:=p;simp only [a'] at h;cases aC:F4 all j with
   |none=>simp only [aC] at h
   |some d=>
    simp only [aC] at h;have az:=agy (env:=env) aC;cases he:env[d]? with
    |none=>simp only [he] at h
    |some v=>
     have KN:env.set d v=env:=by
      apply rL;intro i;rw [oy];split
      ·rename_i aD;subst aD;have:d<env.length:=by
        rcases A1 d env.length with h | h
        ·exact h
        ·rw [ug h] at he;cases he
       rw [if_pos this,he]
      ·rfl
     cases v with
     |bool b=>
      simp only [he] at h;cases b with
      |true=>
       rw [cond_true,KN] at h;cases want with
       |true=>simp only at h;rw [if_pos (by simp [Region.wanted,a',az,he])];exact Lz (H6 h) λv w' h=>Au rest _ _ K J h
       |false=>simp only at h;rw [if_neg (by simp [Region.wanted,a',az,he]),tH];exact ⟨λ_ _=>trivial,Au rest _ _ K J h⟩
      |false=>
       rw [cond_false,KN] at h;cases want with
       |true=>simp only at h;rw [if_neg (by simp [Region.wanted,a',az,he]),tH];exact ⟨λ_ _=>trivial,Au rest _ _ K J h⟩
       |false=>simp only at h;rw [if_pos (by simp [Region.wanted,a',az,he])];exact Lz (H6 h) λv w' h=>Au rest _ _ K J h
     | _=>simp only [he] at h;rw [if_neg (by simp [Region.wanted,a',az,he]),tH];exact ⟨λ_ _=>trivial,Au rest _ _ K J h⟩
section
variable {P:Program} {ops:Array Oper} {Q:Exit->Act->aV} {S:aV} {nd:Nat->Bool}
def FQ (P:Program) (ops:Array Oper) (Q:Exit->Act->aV) (S:aV) (nd:Nat->Bool):Nat->Array Bool->Act->aV
 | 0,eY,a,w=>Region.ready .any ops eY=[]/\Q .normal a w
 |fuel+1,eY,a,w=>
  (Region.ready .any ops eY=[]->Q .normal a w)/\
  ∀ i ∈ Region.ready .any ops eY,wpOp P ops Q i (λcB w'=>(nd i=true->S w->S w')/\FQ P ops Q S nd fuel (eY.setIfInBounds i true) cB w') a w
theorem Lk:∀ (fuel:Nat) (eY:Array Bool) (a:Act) (w:av),FQ P ops Q S nd fuel eY a w->wpAny P .any ops Q fuel eY a w
 | 0,_,_,_,h=>h
 |fuel+1,_,_,_,h=>⟨h.1,λi aD=>wpOp_mono (λcB w' gH=>Lk fuel _ cB w' gH.2) (h.2 i aD)⟩
def tN (ops:Array Oper) (eY:Array Bool):Prop:=∀ j k2,ops[j]?=some k2->eY.getD j false=true->∀ e ∈ k2.after,Region.binds .any e=true->eY.getD e.on false=true
theorem tN.set {eY:Array Bool} {i:Nat} (h:tN ops eY) (aD:i ∈ Region.ready .any ops eY):tN ops (eY.setIfInBounds i true):=by
 intro j k2 c_ au e he ak;by_cases vY:j=i
 ·subst vY;obtain ⟨_,o,aq,k_⟩:=mem_ready.1 aD;rw [aq] at c_;cases c_;exact getD_set_true (k_ e he ak)
 ·rw [getD_set_ne false (Ne.symm vY)] at au;exact getD_set_true (h j k2 c_ au e he ak)
theorem ago {i:Nat} {L:Bool} (aD:ops[i]?=some sD) (adn:∀ (j:Nat) (o:Oper) cs b,ops[j]?=some o->o.op≠.select cs b)
  (gi:∀ c a w,Q (.panic c) (a.put sD.dst v) w->Q (.panic c) a w) :
  ∀ (fuel:Nat) (eY:Array Bool) (a:Act) (w:av),tN ops eY->
   (∀ (l2:Array Bool) j k2,tN ops l2->(∀ k,eY.getD k false=true->l2.getD k false=true)->l2.getD i true=false->j ∈ Region.ready .any ops l2->ops[j]?=some k2->j≠i->eY.getD j true=false->(∀ e ∈ k2.after,Region.binds .any e=true->e.on≠i)->sD.apart ops k2=true/\(L=true->nd j=true))->
   i ∈ Region.ready .any ops eY->YieldsIf P ops (λw=>L=true->S w) sD v a->(L=true->S w)->
   FQ P ops Q S nd fuel (eY.setIfInBounds i true) (a.put sD.dst v) w->FQ P ops Q S nd (fuel+1) eY a w:=by
 intro fuel;induction fuel with
 |zero=>
  intro eY a w _ _ aA az gl H;refine ⟨λh=>(by rw [h] at aA;cases aA),λj c_=>?_⟩;by_cases vY:j=i
  ·subst vY;exact az.wpOp aD gl ⟨λ_ h=>h,H⟩
  ·have:=ready_mono c_ vY;rw [H.1] at this;cases this
 |succ fuel c5=>
  intro eY a w c7 J0 aA az gl H;refine ⟨λh=>(by rw [h] at aA;cases aA),λj c_=>?_⟩;by_cases vY:j=i
  ·subst vY;exact az.wpOp aD gl ⟨λ_ h=>h,H⟩
  ·have af:=H.2 j (ready_mono c_ vY);obtain ⟨aco,k2,Uv,k_⟩:=mem_ready.1 c_;have OV:∀ e ∈ k2.after,Region.binds .any e=true->e.on≠i:=λe he ak heq=>by
    have af:=k_ e he ak;have aN:=(mem_ready.1 aA).1;rw [heq] at af;rcases A1 i eY.size with gH | gH
    ·simp [gH] at aN af;rw [aN] at af;cases af
    ·simp [QZ gH] at af
   have OH:=J0 eY j k2 c7 (λ_ h=>h) (mem_ready.1 aA).1 c_ Uv vY aco OV;have al:=wpOp_putIf Uv OH.1 (λcs b=>adn i sD cs b aD) (λcs b=>adn j k2 cs b Uv) gi az af;have arj:∀ (l2:Array Bool) k ok,tN ops l2->(∀ q,(eY.setIfInBounds j true).getD q false=true->l2.getD q false=true)->l2.getD i true=false->k ∈ Region.ready .any ops l2->ops[k]?=some ok->k≠i->(eY.setIfInBounds j true).getD k true=false->
     (∀ e ∈ ok.after,Region.binds .any e=true->e.on≠i)->sD.apart ops ok=true/\(L=true->nd k=true):=λl2 k ok aL ca c9 e8 J arQ Cb fp=>by
    refine J0 l2 k ok aL (λq aM=>ca q (getD_set_true aM)) c9 e8 J arQ ?_ fp;by_cases acn:j=k
    ·subst acn;exact aco
    ·rw [getD_set_ne true acn] at Cb;exact Cb
   refine wpOp_mono (λcB w' aL=>⟨aL.2.1,c5 (eY.setIfInBounds j true) cB w' (c7.set c_) arj (ready_mono aA (Ne.symm vY)) aL.1 (λbE=>aL.2.1 (OH.2 bE) (gl bE)) ?_⟩) al;rw [Array.setIfInBounds_comm _ _ vY];exact aL.2.2
end
def sA:Op->Bool
 | .load ..=>true
 | _=>false
def R8 (ops:List Oper) (j i:Nat):Bool:=match ops[j]? with
 |some o=>o.after.any λe=>Region.binds .any e && e.on == i
 |none=>false
def EL (ops:List Oper) (j:Nat):Bool:=(List.range ops.length).any λi=>i != j && (match ops[i]? with | some o=>sA o.op | none=>false) && !R8 ops j i
def FR (m:eI) (o:Oper):eI:=m++[o.after.toList.foldl (λx e=>match Region.binds .any e with | true=>x ||| (1 <<< e.on) ||| m.getD e.on 0 | false=>x) 0]
def aae (ops:List Oper):eI:=ops.foldl FR []
def FT (ops:List Oper) (j i:Nat):Bool:=((aae ops).getD j 0).testBit i
def Vx (ops:List Oper) (j:Nat):Bool:=(List.range ops.length).any λi=>i != j && (match ops[i]? with | some o=>sA o.op | none=>false) && !FT ops j i && !FT ops i j
def amE:Op->Bool
 | .call ..=>true
 | _=>false
def aou:Op->Bool
 | .indexAddr ..=>true
 | _=>false
def RC (ops:List Oper):Bool:=ops.any λo=>sA o.op && o.after.any λe=>match ops[e.on]? with
 |some p=>aou p.op && p.after.any λbg=>match ops[bg.on]? with
  |some q=>amE q.op
  |none=>false
 |none=>false
def M5 (ops:List Oper):Bool->Nat->Bool
 |true=>Vx ops
 |false=>EL ops
def F5 (nd:Nat->Bool) (ops:List Oper) (eY:Array Bool) (i:Nat):Bool:=
 nd i || (List.range ops.length).any λk=>!eY.getD k true && k != i && (match ops[k]? with | some o=>!MY o.op | none=>false) && nd k
def alQ (ops:List Oper):Bool:=ops.any λo=>sA o.op
def aaf (P:Program) (S:aV) (t:TypeId) (x:bx) (K:bx->Prop):Prop:=
 match x with
 | .pointer (some ch)=>
  match P.info? t with
  |none=>False
  |some inf=>
   match lA P t with
   |true=>match Nat.beq (ED P 8 t).length inf.size with
    |true=>DJ (ED P 8 t) λvs=>(∀ w,S w->df w ch 0 vs)/\K (.agg vs.toArray)
    |false=>False
   |false=>match P.underlying t with
    |none=>False
    |some d=>Bw (PV (some d)) λv=>(∀ w,S w->w.cell? ch=some v)/\K v
 | _=>False
def RQ (P:Program) (S:aV) (env:aH) (o:Oper) (K:bx->Prop):Prop:=
 match o.op with
 | .load t x=>aaf P S t (dj env x) K
 | _=>M7 P env o K
def MZ (all:List Oper) (env:aH) (g:Option (Nat×Bool)) (run skip:aH->Prop):Prop:=
 match g with
 |none=>run env
 |some (j,want)=>match F4 all j with
  |none=>False
  |some d=>match env[d]? with
   |some (.bool b)=>
    bif b then (match want with | true=>run (env.set d (.bool true)) | false=>skip (env.set d (.bool true)))
    else (match want with | true=>skip (env.set d (.bool false)) | false=>run (env.set d (.bool false)))
   |some _=>skip env
   |none=>False
def SD:List Prop->Prop
 | []=>True
 | [p]=>p
 |p::dA=>p/\SD dA
theorem YI:∀ {dA:List Prop} {p:Prop},SD dA->p ∈ dA->p
 | [q],p,h,hm=>by simp only [zj] at hm;subst hm;exact h
 |q::r::rs,p,h,hm=>by
  rcases iF.1 hm with rfl | hm
  ·exact h.1
  ·exact YI h.2 hm
def awy:Bool->Bool->Prop->Prop->Prop
 |true,true,s,p=>s/\p
 |true,false,_,p=>p
 |false,false,_,p=>p
 |false,true,_,_=>False
def Sy:Bool->Prop->Prop
 |true,_=>False
 |false,p=>p
def AL (P:Program) (ops:List Oper) (nd:Nat->Bool) (S:aV) (K:aH->aV):Nat->Array Bool->Bool->aH->aV
 | 0,eY,_,env,w=>Sy (!(Region.ready .any ops.toArray eY).isEmpty) (K env w)
 |fuel+1,eY,qH,env,w=>
  match (Region.ready .any ops.toArray eY).find? (λi=>match ops[i]? with | some o=>(MY o.op || (sA o.op && qH)) && Region.free .any ops.toArray eY i | none=>false) with
  |some i=>match ops[i]? with
   |none=>False
   |some o=>MZ ops env o.guard (λenv=>RQ P S env o λv=>AL P ops nd S K fuel (eY.setIfInBounds i true) qH (put env o.dst v) w)
     (λenv=>AL P ops nd S K fuel (eY.setIfInBounds i true) qH (put env o.dst undef) w)
  |none=>match (Region.ready .any ops.toArray eY) with
   | []=>K env w
   |rs=>SD (rs.map λi=>match ops[i]? with
    |none=>False
    |some o=>MZ ops env o.guard (λenv=>EP P env o (λv w'=>awy qH (F5 nd ops eY i) (S w') (AL P ops nd S K fuel (eY.setIfInBounds i true) (qH && F5 nd ops eY i) (put env o.dst v) w')) w)
     (λenv=>AL P ops nd S K fuel (eY.setIfInBounds i true) qH (put env o.dst undef) w))
theorem aih {S:aV} {o:Oper} (h:RQ P S env o K):∃ v,(∀ w,(sA o.op=true->S w)->(execOp (dj env) o).run P w=.ok (.value v) w)/\K v:=by
 unfold RQ at h;split at h
 ·rename_i t x aq;have he:execOp (dj env) o=(do pure (.value (<- Instr.loadAt t (dj env x)))):=by unfold execOp;rw [aq]
  have au:sA o.op=true:=by rw [aq];rfl
  unfold aaf at h;split at h
  ·rename_i ch ao;split at h
   ·exact h.elim
   ·rename_i inf kf;split at h
    ·rename_i qu;split at h
     ·rename_i hlen;obtain ⟨vs,hl,ab,h⟩:=Is h;obtain ⟨d,aC⟩:=Vq qu;refine ⟨_,λw gl=>?_,h⟩;have aj:vs.length=inf.size:=by rw [hl];exact sX hlen
      rw [he,Sem.run_bind];simp only [Instr.loadAt,ao,Instr.sureAddr,pure_bind,loadVar,Sem.run_bind,Ci aC,Result.andThen_ok,qu,if_true,run_sizeOf kf];have:=run_loadCellsFrom (P:=P) (acc:=#[]) (ab w (gl au));rw [aj] at this;simp [loadCells,this]
     ·exact h.elim
    ·rename_i qu;split at h
     ·exact h.elim
     ·rename_i d aC;obtain ⟨v,aw,h⟩:=FP h;refine ⟨_,λw gl=>?_,h⟩;rw [he,Sem.run_bind];simp only [Instr.loadAt,ao,Instr.sureAddr,pure_bind,loadVar,Sem.run_bind,Ci aC,Result.andThen_ok,qu];simp [aw w (gl au)]
  ·exact h.elim
 ·obtain ⟨v,aA,h⟩:=Xl h;exact ⟨v,λw _=>aA w,h⟩
theorem agz {o:Oper} {run skip:aH->Prop} (h:MZ all env o.guard run skip) :
  (Region.wanted o (yielded all.toArray (act env).tmps)=true/\run env)\/(Region.wanted o (yielded all.toArray (act env).tmps)=false/\skip env):=by
 unfold MZ at h;cases a':o.guard with
 |none=>simp only [a'] at h;exact .inl ⟨agx a',h⟩
 |some p=>
  obtain ⟨j,want⟩:=p;simp only [a'] at h;cases aC:F4 all j with
  |none=>simp only [aC] at h
  |some d=>
   simp only [aC] at h;have az:=agy (env:=env) aC;cases he:env[d]? with
   |none=>simp only [he] at h
   |some v=>
    have KN:env.set d v=env:=by
     apply rL;intro i;rw [oy];split
     ·rename_i aD;subst aD;have:d<env.length:=by
       rcases A1 d env.length with h | h
       ·exact h
       ·rw [ug h] at he;cases he
      rw [if_pos this,he]
     ·rfl
    cases v with
    |bool b=>
     simp only [he] at h;cases b with
     |true=>
      rw [cond_true,KN] at h;cases want with
      |true=>exact .inl ⟨by simp [Region.wanted,a',az,he],h⟩
      |false=>exact .inr ⟨by simp [Region.wanted,a',az,he],h⟩
     |false=>
      rw [cond_false,KN] at h;cases want with
      |true=>exact .inr ⟨by simp [Region.wanted,a',az,he],h⟩
      |false=>exact .inl ⟨by simp [Region.wanted,a',az,he],h⟩
    | _=>simp only [he] at h;exact .inr ⟨by simp [Region.wanted,a',az,he],h⟩
theorem aov {i j:Nat} {k2:Oper} (aD:ops[i]?=some sD) (c_:ops[j]?=some k2) (au:sA sD.op=true) (cj:j≠i) (fp:∀ e ∈ k2.after,Region.binds .any e=true->e.on≠i):EL ops j=true:=by
 unfold EL;rw [CX];have aK:i<ops.length:=by
  rcases A1 i ops.length with h | h
  ·exact h
  ·rw [ug h] at aD;cases aD
 refine ⟨i,jT.2 aK,?_⟩;have hw:R8 ops j i=false:=by unfold R8;simp only [c_];rw [Array.any_eq_false'];intro e he ak;simp only [iz,beq_iff_eq] at ak;exact fp e he ak.1 ak.2
 simp [aD,au,hw,Ne.symm cj]
def Nm (ops:List Oper) (nd:Nat->Bool):Prop:=∀ (eY l2:Array Bool) (i j:Nat) (sD k2:Oper),ops[i]?=some sD->ops[j]?=some k2->sA sD.op=true->tN ops.toArray eY->tN ops.toArray l2->
 (∀ k,eY.getD k false=true->l2.getD k false=true)->i ∈ Region.ready .any ops.toArray eY->l2.getD i true=false->j ∈ Region.ready .any ops.toArray l2->j≠i->(∀ e ∈ k2.after,Region.binds .any e=true->e.on≠i)->nd j=true
theorem RD (ops:List Oper):Nm ops (EL ops):=λ_ _ i j sD k2 aD c_ au _ _ _ _ _ _ cj fp=>aov aD c_ au cj fp
inductive ur (ops:List Oper):Nat->bB
 |one {j o e}:ops[j]?=some o->e ∈ o.after->Region.binds .any e=true->ur ops j e.on
 |more {j o e i}:ops[j]?=some o->e ∈ o.after->Region.binds .any e=true->ur ops e.on i->ur ops j i
theorem ur.eY {l:Array Bool} (ab:tN ops.toArray l) {j i:Nat} (h:ur ops j i):l.getD j false=true->l.getD i false=true:=by
 induction h with
 |one aq he ak=>exact λau=>ab _ _ (by simpa using aq) au _ he ak
 |more aq he ak _ c5=>exact λau=>c5 (ab _ _ (by simpa using aq) au _ he ak)
theorem ur.ready {l:Array Bool} (ab:tN ops.toArray l) {j i:Nat} (h:ur ops j i) (aA:j ∈ Region.ready .any ops.toArray l):l.getD i false=true:=by
 obtain ⟨_,o,aq,k_⟩:=mem_ready.1 aA;cases h with
 |one nO he ak=>simp only [Mi] at aq;rw [aq] at nO;cases nO;exact k_ _ he ak
 |more nO he ak al=>simp only [Mi] at aq;rw [aq] at nO;cases nO;exact al.eY ab (k_ _ he ak)
theorem agA {ops:List Oper} {m:eI} {k:Nat} {o:Oper} (aq:ops[k]?=some o) (hm:∀ j i,(m.getD j 0).testBit i=true->ur ops j i):∀ (es:List Edge) (x:Nat),(∀ e ∈ es,e ∈ o.after)->(∀ i,x.testBit i=true->ur ops k i)->
  ∀ i,(es.foldl (λx e=>match Region.binds .any e with | true=>x ||| (1 <<< e.on) ||| m.getD e.on 0 | false=>x) x).testBit i=true->ur ops k i
 | [],x,_,ao,i,h=>ao i h
 |e::es,x,he,ao,i,h=>by
  rw [Mh] at h;refine agA aq hm es _ (λjj gH=>he jj (jz _ gH)) (λi ak=>?_) i h;have ab5:=he e (iA ..);cases BH:Region.binds .any e with
  |false=>rw [BH] at ak;exact ao i ak
  |true=>
   rw [BH] at ak;simp only [Nat.testBit_or,Ml] at ak;rcases ak with (ak | ak) | ak
   ·exact ao i ak
   ·rw [Nat.one_shiftLeft,Nat.testBit_two_pow] at ak;have:e.on=i:=by simpa using ak
    rw [<-this];exact .one aq ab5 BH
   ·exact .more aq ab5 BH (hm _ _ ak)
theorem YJ (ops:List Oper):∀ j i,((aae ops).getD j 0).testBit i=true->ur ops j i:=by
 have main:∀ n,n<=ops.length->((ops.take n).foldl FR []).length=n/\∀ j i,(((ops.take n).foldl FR []).getD j 0).testBit i=true->ur ops j i:=by
  intro n;induction n with
  |zero=>intro _;refine ⟨rfl,λj i h=>?_⟩;simp at h
  |succ n c5=>
   intro aj;obtain ⟨af,al⟩:=c5 (by omega);obtain ⟨o,aq⟩:∃ o,ops[n]?=some o:=⟨_,cp (by omega)⟩;rw [iW,aq,Option.toList_some,Q8];generalize (ops.take n).foldl FR []=M at af al ⊢;simp only [Mh,List.foldl_nil];refine ⟨by unfold FR;rw [gp,af];rfl,λj i h=>?_⟩;unfold FR at h;rw [gd,CY] at h;split at h
   ·exact al j i (by rw [gd];exact h)
   ·rename_i aK;by_cases c_:j=n
    ·subst c_;rw [af,xL] at h;exact agA aq al _ 0 (λe he=>by simpa using he) (λi h=>by simp at h) i h
    ·rw [ug (by simp;omega)] at h;simp at h
 have:=main ops.length (eJ _);rw [nx] at this;exact this.2
theorem ZM {l:Array Bool} {k:Nat} (h:l.getD k true=false):¬ l.getD k false=true:=by
 intro al;rcases A1 k l.size with gH | gH
 ·simp [gH] at h al;rw [h] at al;cases al
 ·simp [QZ gH] at al
theorem NE (ops:List Oper):Nm ops (Vx ops):=by
 intro eY l2 i j sD k2 aD c_ au ab gC B7 UL Cb adj cj fp;unfold Vx;rw [CX];have aK:i<ops.length:=(uh.1 aD).1;refine ⟨i,jT.2 aK,?_⟩;have af:FT ops j i=false:=by
  cases hw:FT ops j i with
  |false=>rfl
  |true=>exact absurd ((YJ ops j i hw).ready gC adj) (ZM Cb)
 have al:FT ops i j=false:=by
  cases hw:FT ops i j with
  |false=>rfl
  |true=>exact absurd (B7 _ ((YJ ops i j hw).ready ab UL)) (ZM (mem_ready.1 adj).1)
 simp [aD,au,af,al,Ne.symm cj]
theorem YK (ops:List Oper):∀ b,Nm ops (M5 ops b)
 |true=>NE ops
 |false=>RD ops
theorem yb {P:Program} {ops:List Oper} {nd:Nat->Bool} (ra:Nm ops nd) {S:aV} {K:aH->aV} {Q:Exit->Act->aV} (aX:Region.noSelect ops.toArray=true)
  (J:∀ env w,K env w->Q .normal (act env) w) (gi:∀ c a w,¬ Q (.panic c) a w) :
  ∀ (fuel:Nat) (eY:Array Bool) (qH:Bool) (env:aH) (w:av),tN ops.toArray eY->(qH=true->S w)->AL P ops nd S K fuel eY qH env w->FQ P ops.toArray Q S nd fuel eY (act env) w
 | 0,eY,qH,env,w,c7,gl,h=>by
  unfold AL at h;unfold FQ;cases aA:Region.ready .any ops.toArray eY with
  |nil=>simp [aA,Sy] at h;exact ⟨rfl,J _ _ h⟩
  |cons x xs=>simp [aA,Sy] at h
 |fuel+1,eY,qH,env,w,c7,gl,h=>by
  unfold AL at h;split at h
  ·rename_i i ab';have gj:=List.mem_of_find?_eq_some ab';have ar:=List.find?_some ab';cases aq:ops[i]? with
   |none=>simp only [aq] at h
   |some o=>
    simp only [aq] at h;simp only [aq,iz,Ml] at ar;have aD:ops.toArray[i]?=some o:=by simpa using aq
    have acC:sA o.op=true->qH=true:=by
     intro au;rcases ar.1 with kh | kh
     ·revert kh au;cases o.op<;>simp [MY,sA]
     ·exact kh.2
    have J0:∀ (l2:Array Bool) j k2,tN ops.toArray l2->(∀ k,eY.getD k false=true->l2.getD k false=true)->l2.getD i true=false->j ∈ Region.ready .any ops.toArray l2->ops.toArray[j]?=some k2->j≠i->eY.getD j true=false->(∀ e ∈ k2.after,Region.binds .any e=true->e.on≠i)->o.apart ops.toArray k2=true/\(sA o.op=true->nd j=true):=
     λl2 j k2 aL ca c9 e8 c_ cj Cb fp=>⟨Region.free_spec aD ar.2 j k2 c_ cj Cb fp,λau=>ra eY l2 i j o k2 aq (by simpa using c_) au c7 aL ca gj c9 e8 cj fp⟩
    rcases agz h with ⟨hw,h⟩ | ⟨hw,h⟩
    ·obtain ⟨v,aA,h⟩:=aih h;refine ago (L:=sA o.op) (v:=v) aD (Region.noSelect_spec aX) (λc a w h=>(gi _ _ _ h).elim) fuel eY (act env) w c7 J0 gj ?_ (λau=>gl (acC au)) ?_
     ·exact .inl ⟨hw,λw gl=>by rw [HS];exact aA w gl⟩
     ·rw [tH];exact yb ra aX J gi fuel _ qH _ w (c7.set gj) gl h
    ·refine ago (L:=sA o.op) (v:=undef) aD (Region.noSelect_spec aX) (λc a w h=>(gi _ _ _ h).elim) fuel eY (act env) w c7 J0 gj (.inr ⟨hw,rfl⟩) (λau=>gl (acC au)) ?_;rw [tH];exact yb ra aX J gi fuel _ qH _ w (c7.set gj) gl h
  ·cases aA:Region.ready .any ops.toArray eY with
   |nil=>simp only [aA] at h;exact ⟨λ_=>J _ _ h,by rw [aA];simp⟩
   |cons x xs=>
    simp only [aA] at h;refine ⟨λaN=>(by rw [aA] at aN;cases aN),λi TX=>?_⟩;have th:=c7.set TX;rw [aA] at TX;have aD:=YI h (eQ.2 ⟨i,TX,rfl⟩);cases aq:ops[i]? with
    |none=>simp only [aq] at aD
    |some o=>
     simp only [aq] at aD;unfold wpOp;simp only [Mi,aq];rcases agz aD with ⟨hw,aD⟩ | ⟨hw,aD⟩
     ·rw [if_pos hw];refine .inl (alP (H6 aD) λv w' h=>?_);have fp:F5 nd ops eY i=false->¬ nd i=true:=by intro bc aj;simp [F5,aj] at bc
      cases Pd:qH with
      |true=>
       cases jZ:F5 nd ops eY i with
       |true=>rw [Pd,jZ] at h;exact ⟨λ_ _=>h.1,yb ra aX J gi fuel _ _ _ w' th (λ_=>h.1) h.2⟩
       |false=>rw [Pd,jZ] at h;exact ⟨λab=>absurd ab (fp jZ),yb ra aX J gi fuel _ _ _ w' th (λab=>by simp at ab) h⟩
      |false=>
       cases jZ:F5 nd ops eY i with
       |true=>rw [Pd,jZ] at h;exact h.elim
       |false=>rw [Pd,jZ] at h;exact ⟨λab=>absurd ab (fp jZ),yb ra aX J gi fuel _ _ _ w' th (λab=>by simp at ab) h⟩
     ·rw [if_neg (by simp [hw]),tH];exact ⟨λ_ h=>h,yb ra aX J gi fuel _ qH _ w th gl aD⟩
def II (P:Program) (ops:List Oper) (env:aH) (K:aH->aV) (w:av):Prop:=
 match alQ ops with
 |true=>∀ w1,w1=w.drew->∃ S:aV,S w1/\AL P ops (M5 ops (RC ops)) S K ops.length (Array.replicate ops.length false) true env w1
 |false=>∀ w1,w1=w.drew->AL P ops (EL ops) (λ_=>True) K ops.length (Array.replicate ops.length false) true env w1
theorem P' (ops:Array Oper) (n:Nat):tN ops (Array.replicate n false):=by
 intro j k2 _ au;exfalso;rcases A1 j n with h | h
 ·simp [h] at au
 ·simp [h] at au
theorem ahJ (hm:P.follows .mixedOrders=true) {id:Nat} {K:aH->aV} {Q:Exit->Act->aV} (aX:Region.noSelect ops.toArray=true)
  (J:∀ env w,K env w->Q .normal (act env) w) (gi:∀ c a w,¬ Q (.panic c) a w) (h:II P ops env K w):(Code.region id ops.toArray true).wp P Q (act env) w:=by
 unfold II at h;split at h
 ·obtain ⟨S,gl,h⟩:=h _ rfl;refine wp_region_any hm (Lk (S:=S) (nd:=M5 ops (RC ops)) _ _ _ _ ?_);have:=yb (YK ops _) aX J gi _ _ _ _ _ (P' _ _) (λ_=>gl) h;simpa using this
 ·refine wp_region_any hm (Lk (S:=λ_=>True) (nd:=EL ops) _ _ _ _ ?_);have:=yb (RD ops) aX J gi _ _ _ _ _ (P' _ _) (λ_=>trivial) (h _ rfl);simpa using this
def C8 (Q:Exit->aH->aV):Exit->Act->aV
 | .panic _,_,_=>False
 | .outgrown,_,_=>False
 |e,a,w=>a.defers=[]/\Q e a.tmps.toList w
theorem pL {e:Exit} (h:Q e env w) (he:(∀ c,e≠.panic c)/\e≠.outgrown):C8 Q e (act env) w:=by
 cases e with
 |panic c=>exact absurd rfl (he.1 c)
 |outgrown=>exact absurd rfl he.2
 | _=>exact ⟨rfl,by simpa [act] using h⟩
theorem EJ {e:Exit} {a:Act} (h:C8 Q e a w):((∀ c,e≠.panic c)/\e≠.outgrown)/\∃ env,a=act env/\Q e env w:=by
 have mk:∀ (a:Act),a.defers=[]->a=act a.tmps.toList:=λa bc=>by
  cases a with
  |mk t d=>simp only at bc;subst bc;simp [act]
 cases e with
 |panic c=>exact h.elim
 |outgrown=>exact h.elim
 |normal=>exact ⟨⟨λ_=>by simp,by simp⟩,_,mk a h.1,h.2⟩
 |exit i=>exact ⟨⟨λ_=>by simp,by simp⟩,_,mk a h.1,h.2⟩
 |goto i=>exact ⟨⟨λ_=>by simp,by simp⟩,_,mk a h.1,h.2⟩
 |ret=>exact ⟨⟨λ_=>by simp,by simp⟩,_,mk a h.1,h.2⟩
def dT (P:Program) (c:Code) (env:aH) (Q:Exit->aH->aV) (w:av):Prop:=c.wp P (C8 Q) (act env) w
def bk (next:aH->aV) (Q:Exit->aH->aV):Exit->aH->aV
 | .normal,env,w=>next env w
 |e,env,w=>Q e env w
def a8 (id:Nat) (Q:Exit->aH->aV):Exit->aH->aV
 | .exit i,env,w=>match Nat.beq i id with
  |true=>Q .normal env w
  |false=>Q (.exit i) env w
 |e,env,w=>Q e env w
def W (P:Program):Code->aH->(Exit->aH->aV)->aV
 | .skip,env,Q,w=>Q .normal env w
 | .region _ ops draw,env,Q,w=>match draw with
  |false=>qF P ops.toList ops.toList env (Q .normal) w
  |true=>match Region.noSelect ops with
   |true=>II P ops.toList env (Q .normal) w
   |false=>False
 | .seq a b,env,Q,w=>W P a env (bk (λenv w=>W P b env Q w) Q) w
 | .cond c x y,env,Q,w=>match dj env c with
  | .bool b=>bif b then W P x env Q w else W P y env Q w
  | _=>False
 | .block id c,env,Q,w=>W P c env (a8 id Q) w
 | .exit id,env,Q,w=>Q (.exit id) env w
 | .ret,env,Q,w=>Q .ret env w
 |c,env,Q,w=>dT P c env Q w
theorem CD {P:Program} (hm:P.follows .mixedOrders=true):∀ (c:Code) (env:aH) (Q:Exit->aH->aV) (w:av),W P c env Q w->dT P c env Q w
 | .skip,env,Q,w,h=>wp_skip (pL h ⟨λ_=>by simp,by simp⟩)
 | .region id ops draw,env,Q,w,h=>by
  unfold W at h;cases draw with
  |false=>simp only at h;exact wpIn_wide.1 (wpIn_region_list (n:=0) (Au (all:=ops.toList) ops.toList env w (Q .normal) (λenv w J=>pL J ⟨λ_=>by simp,by simp⟩) h))
  |true=>
   simp only at h;split at h
   ·rename_i aX;have:=ahJ (id:=id) hm (Q:=C8 Q) (by simpa using aX) (λenv w J=>pL J ⟨λ_=>by simp,by simp⟩) (λc a w h=>h.elim) h;unfold dT;simpa using this
   ·exact h.elim
 | .seq a b,env,Q,w,h=>by
  have af:=CD hm a env _ w h;refine wp_seq (wp_mono af λe cB w' lX=>?_);obtain ⟨he,m1,bc,aM⟩:=EJ lX;subst bc;clear lX;cases e with
  |normal=>exact CD hm b m1 Q w' aM
  |panic c=>exact absurd rfl (he.1 c)
  |outgrown=>exact absurd rfl he.2
  |exit i=>exact pL aM he
  |goto i=>exact pL aM he
  |ret=>exact pL aM he
 | .cond c x y,env,Q,w,h=>by
  unfold W at h;split at h
  ·rename_i b ak;refine wp_cond (t:=b) (by rw [HS];exact ak) ?_;cases b with
   |true=>exact CD hm x env Q w h
   |false=>exact CD hm y env Q w h
  ·exact h.elim
 | .block id c,env,Q,w,h=>by
  have af:=CD hm c env _ w h;refine wp_block (wp_mono af λe cB w' lX=>?_);obtain ⟨he,m1,bc,aM⟩:=EJ lX;subst bc;clear lX;cases e with
  |exit i=>
   simp only [a8] at aM;simp only [Exit.inBlock];cases ak:Nat.beq i id with
   |true=>rw [ak] at aM;rw [if_pos (sX ak)];exact pL aM ⟨λ_=>by simp,by simp⟩
   |false=>rw [ak] at aM;rw [if_neg (WQ ak)];exact pL aM he
  |panic c=>exact absurd rfl (he.1 c)
  |outgrown=>exact absurd rfl he.2
  |normal=>exact pL aM he
  |goto i=>exact pL aM he
  |ret=>exact pL aM he
 | .exit id,env,Q,w,h=>wp_exit (pL h ⟨λ_=>by simp,by simp⟩)
 | .ret,env,Q,w,h=>wp_ret (pL h ⟨λ_=>by simp,by simp⟩)
 | .loop _,_,_,_,h=>h
 | .rangeFunc ..,_,_,_,h=>h
 | .scope _,_,_,_,h=>h
 | .label _,_,_,_,h=>h
 | .goto _,_,_,_,h=>h
 | .refuse _,_,_,_,h=>h
theorem aiy {Q:Exit->Act->aV} {a:Act} {c:Code} (bF:Nat->Act->aV) (Ho:Nat) (aud:bF Ho a w)
  (round:∀ n a w,bF n a w->c.wp P (Exit.then (λcB w'=>∃ m,m<n/\bF m cB w') Q) a w):(Code.loop c).wp P Q a w:=by
 intro b k cs;have key:∀ n a w,bF n a w->
   ∃ e cB w',Q e cB w'/\Arrives P (lone (b.at a (.code c::.inLoop c::k)) cs w) b k cs e cB w':=by
  intro n;induction n using Nat.strongRecOn with
  | _ n c5=>
   intro a w f_;obtain ⟨e,Gf,H7,aM,BF⟩:=round n a w f_ b (.inLoop c::k) cs;cases e with
   |normal=>obtain ⟨m,aK,apX⟩:=aM;obtain ⟨apz,aoX,azF,as0,aqo⟩:=c5 m aK Gf H7 apX;exact ⟨apz,aoX,azF,as0,.of_steps (Steps.trans BF (.one step_inLoop)) aqo⟩
   |exit id=>exact ⟨_,Gf,H7,aM,.pass (x:=.inLoop c) rfl (λ_ _=>.inl (by simp)) BF⟩
   |goto l=>exact ⟨_,Gf,H7,aM,.pass (x:=.inLoop c) rfl (λ_ _=>.inl (by simp)) BF⟩
   |ret=>exact ⟨_,Gf,H7,aM,.pass (x:=.inLoop c) rfl (λ_ _=>.inl (by simp)) BF⟩
   |panic aaY=>exact ⟨_,Gf,H7,aM,.pass (x:=.inLoop c) rfl (λ_ _=>.inl (by simp)) BF⟩
   |outgrown=>exact ⟨_,Gf,H7,aM,.pass (x:=.inLoop c) rfl (λ_ _=>.inl (by simp)) BF⟩
 obtain ⟨e,cB,w',aM,BF⟩:=key _ a w aud;exact ⟨e,cB,w',aM,.of_steps (.one step_loop) BF⟩
theorem e2 (hm:P.follows .mixedOrders=true) {c:Code}
  (bF:Nat->aH->aV) (Ho:Nat) (aN:bF Ho env w)
  (aA:∀ n env w,bF n env w->W P c env (bk (λm1 w'=>∃ m,m<n/\bF m m1 w') Q) w):dT P (.loop c) env Q w:=by
 refine aiy (λn a w=>∃ env,a=act env/\bF n env w) Ho ⟨env,rfl,aN⟩ ?_;rintro n a w ⟨env,rfl,f_⟩;refine wp_mono (CD hm c env _ w (aA n env w f_)) λe cB w' lX=>?_
 obtain ⟨he,m1,bc,aM⟩:=EJ lX;subst bc;clear lX;cases e with
 |normal=>obtain ⟨m,hm,DP⟩:=aM;exact ⟨m,hm,m1,rfl,DP⟩
 |panic c=>exact absurd rfl (he.1 c)
 |outgrown=>exact absurd rfl he.2
 |exit i=>exact pL aM he
 |goto i=>exact pL aM he
 |ret=>exact pL aM he
def sub:Code->eI->Code
 |c,[]=>c
 | .seq a b,n::p=>match n with | 0=>sub a p | _=>sub b p
 | .cond _ a b,n::p=>match n with | 0=>sub a p | _=>sub b p
 | .block _ c,_::p=>sub c p
 | .loop c,_::p=>sub c p
 | .scope c,_::p=>sub c p
 | .rangeFunc _ _ a b,n::p=>match n with | 0=>sub a p | _=>sub b p
 |c,_=>c
def b6 (fn:Func):Code:=match fn.body with | some c=>c | none=>.skip
def yT (P:Program):List ResultVar->aH->(aH->Prop)->aV
 | [],_,K,_=>K []
 | .tmp t::rs,env,K,w=>yT P rs env (λvs=>K (env.getD t undef::vs)) w
 | .cell a t::rs,env,K,w=>zl P t (env.getD a undef) (λv w'=>w'=w/\yT P rs env (λvs=>K (v::vs)) w) w
def HI:aH->bx
 | [v]=>v
 |vs=>.tuple vs.toArray
def ga (P:Program) (fn:Func) (R:dW):Exit->aH->aV
 | .normal,env,w=>yT P fn.results.toList env (λvs=>R (HI vs) w) w
 | .ret,env,w=>yT P fn.results.toList env (λvs=>R (HI vs) w) w
 | _,_,_=>False
theorem ayC {x:bx} {K:dW} (h:zl P t x K w):∃ v,(do loadVar t (<- asAddr x):Sem bx).run P w=.ok v w/\K v w:=by
 unfold zl at h;split at h
 ·rename_i ch;split at h
  ·exact h.elim
  ·rename_i inf kf;split at h
   ·rename_i qu;split at h
    ·rename_i hlen;obtain ⟨vs,au,ab,h⟩:=Is h;obtain ⟨d,aC⟩:=Vq qu;refine ⟨_,?_,h⟩;have aj:vs.length=inf.size:=by rw [au];exact sX hlen
     simp only [asAddr,pure_bind,loadVar,Sem.run_bind,Ci aC,Result.andThen_ok,qu,if_true,run_sizeOf kf];have:=run_loadCellsFrom (P:=P) (acc:=#[]) ab;rw [aj] at this;simp [loadCells,this]
    ·exact h.elim
   ·rename_i qu;split at h
    ·exact h.elim
    ·rename_i d aC;obtain ⟨v,aw,h⟩:=FP h;refine ⟨_,?_,h⟩;simp only [asAddr,pure_bind,loadVar,Sem.run_bind,Ci aC,Result.andThen_ok,qu];simp [aw]
 ·exact h.elim
theorem QI {P:Program} {env:aH} {w:av}:∀ (rs:List ResultVar) (K:aH->Prop),yT P rs env K w->
  ∃ vs,(rs.mapM fun | .tmp t=>pure (env.toArray.getD t undef) | .cell a t=>do loadVar t (<- asAddr (env.toArray.getD a undef)):Sem aH).run P w=.ok vs w/\K vs
 | [],K,h=>⟨[],rfl,h⟩
 | .tmp t::rs,K,h=>by obtain ⟨vs,aA,h⟩:=QI rs _ h;refine ⟨_,?_,h⟩;rw [List.mapM_cons];simp only [pure_bind,Sem.run_bind,aA,Result.andThen_ok,Sem.run_pure];simp [gd]
 | .cell a t::rs,K,h=>by
  obtain ⟨v,aw,hw,h⟩:=ayC h;obtain ⟨vs,aA,h⟩:=QI rs _ h;refine ⟨_,?_,h⟩;rw [List.mapM_cons];have e:env.toArray.getD a undef=env.getD a undef:=by simp [gd]
  simp only [e] at aA ⊢;rw [Sem.run_bind,aw];simp only [Result.andThen_ok,Sem.run_bind,aA,Sem.run_pure]
theorem Qa (h:yT P fn.results.toList env (λvs=>K (HI vs)) w):∃ v,(results fn env.toArray).run P w=.ok v w/\K v:=by
 obtain ⟨vs,aA,h⟩:=QI _ _ h;refine ⟨_,?_,h⟩;unfold results;rw [Array.mapM_eq_mapM_toList];simp only [Sem.run_bind,Sem.run_map,Sem.run_pure];refine Eq.trans (congrArg (λr:Result aH=>(r.andThen λa w'=>Result.ok a.toArray w').andThen λa w'=>Result.ok (if h:a.size=1 then a[0] else Value.tuple a) w') aA) ?_;simp only [Result.andThen_ok];congr 1
 match vs with
 | []=>rfl
 | [v]=>rfl
 |v::u::r=>simp [HI]
def bS (P:Program) (fn:Func) (args:aH) (R:dW) (w:av):Prop:=
 match fn.body with
 |some c=>W P c (args++List.replicate (fn.ntmps - args.length) undef) (ga P fn R) w
 |none=>False
theorem ajm (hm:P.follows .mixedOrders=true) {f:FuncId} {args:aH} (aJ:P.funcs[f]?=some fn)
  (h:bS P fn args R w):Calls P f args.toArray w λe w'=>∃ v,e=.returned v/\R v w':=by
 unfold bS at h;split at h
 ·rename_i c ab;refine calls_of_wp aJ ab ?_;have af:=CD hm c _ _ w h;have al:dT P c (args++List.replicate (fn.ntmps - args.length) undef) (ga P fn R) w=c.wp P (C8 (ga P fn R)) { tmps:=args.toArray++Array.replicate (fn.ntmps - args.toArray.size) undef,defers:=[] } w:=by unfold dT act;congr 2;simp
  rw [al] at af;refine wp_mono af λe cB w' lX=>?_
  obtain ⟨he,m1,bc,aM⟩:=EJ lX;subst bc;clear lX;cases e with
  |normal=>obtain ⟨v,aw,cC⟩:=Qa (P:=P) (fn:=fn) (env:=m1) (w:=w') (K:=λv=>R v w') aM;exact ⟨rfl,v,aw,v,rfl,cC⟩
  |ret=>obtain ⟨v,aw,cC⟩:=Qa (P:=P) (fn:=fn) (env:=m1) (w:=w') (K:=λv=>R v w') aM;exact ⟨rfl,v,aw,v,rfl,cC⟩
  |panic c=>exact absurd rfl (he.1 c)
  |outgrown=>exact absurd rfl he.2
  |exit i=>exact aM.elim
  |goto i=>exact aM.elim
 ·exact h.elim
def cw (P:Program) (fn:Func) (R:dW) (Q:Exit->aH->aV):Exit->aH->aV
 | .ret,env,w=>ga P fn R .ret env w
 |e,env,w=>Q e env w
theorem Pi (h:∀ env w,Q .ret env w=ga P fn R .ret env w):cw P fn R Q=Q:=by funext e env w;cases e<;>first | rfl | exact (h env w).symm
theorem St {c:Code} (h:∀ env w,Q .ret env w=ga P fn R .ret env w):W P c env (cw P fn R Q) w=W P c env Q w:=by rw [Pi h]
theorem ia (h:N env w):bk N Q .normal env w:=h
theorem CP {k:Nat} (h:Q (.exit k) env w):bk N Q (.exit k) env w:=h
theorem Cp {k:Nat} (h:Q .normal env w):a8 k Q .normal env w:=h
theorem Cq {k:Nat} (h:Q .normal env w):a8 k Q (.exit k) env w:=by
 show match Nat.beq k k with
  |true=>Q .normal env w
  |false=>Q (.exit k) env w
 rw [Nat.beq_refl k];exact h
noncomputable def aa_ (n:Nat):(bR->Prop)->Prop:=@Nat.rec (λ_=>(bR->Prop)->Prop) (λK=>K []) (λ_ c5 K=>∃ x:Int,c5 λl=>K (x::l)) n
theorem ZN:∀ (n:Nat) (l:bR),l.length=n->∀ {K:bR->Prop},K l->aa_ n K
 | 0,l,h,K,J=>by have:l=[]:=jR h;subst this;exact J
 |n+1,[],h,_,_=>by cases h
 |n+1,x::l,h,K,J=>⟨x,ZN n l (by simpa using h) J⟩
attribute [irreducible] bS W sub b6
end Go.b8
