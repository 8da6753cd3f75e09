import Derived.OrdersHeld
import Derived.KernelRfl
import Derived.Tactics
import Derived.Laws.World
import Derived.TacticsIn
import Derived.RangeFuncSeq
set_option linter.all false
namespace Go
abbrev al:=World
abbrev a0:=Value
abbrev aV:=Addr
abbrev an:=Option Addr
abbrev aw:=List Value
abbrev d9:=List Nat
abbrev a4:=List Int
abbrev aE:=World->Prop
abbrev cp:=Value->World->Prop
abbrev a2:=Nat->Prop
abbrev wN:=@Array.getElem?_eq_none
abbrev tL:=@Array.getElem?_eq_some_iff
abbrev wU:=@Array.getElem?_modify
abbrev eH:=@Bool.and_eq_true
abbrev qe:=@Bool.false_eq_true
abbrev o4:=@Bool.not_eq_false
abbrev qg:=@Bool.not_eq_true'
abbrev r2:=@Bool.or_eq_true
abbrev w3:=@Int.emod_lt_of_pos
abbrev w4:=@Int.emod_nonneg
abbrev m1:=@Int.eq_ofNat_of_zero_le
abbrev tN:=@Int.fdiv_eq_ediv_of_nonneg
abbrev tO:=@Int.le_trans
abbrev wQ:=@Int.tdiv_eq_ediv_of_nonneg
abbrev wR:=@Int.tmod_eq_emod_of_nonneg
abbrev fT:=@Int.toNat_natCast
abbrev wS:=@List.all_eq_false
abbrev gd:=@List.all_eq_true
abbrev wT:=@List.any_eq_false
abbrev o2:=@List.any_eq_true
abbrev jW:=@List.append_assoc
abbrev g_:=@List.append_nil
abbrev tR:=@List.drop_drop
abbrev qa:=@List.drop_eq_getElem_cons
abbrev wV:=@List.drop_eq_nil_of_le
abbrev qb:=@List.drop_length
abbrev tS:=@List.drop_zero
abbrev fb:=@List.eq_nil_of_length_eq_zero
abbrev zX:=@List.exists_cons_of_ne_nil
abbrev kr:=@List.ext_getElem?
abbrev zY:=@List.filter_append
abbrev hr:=@List.flatten_cons
abbrev wW:=@List.foldl_append
abbrev cK:=@List.getD_eq_getElem?_getD
abbrev o3:=@List.getElem?_append
abbrev jd:=@List.getElem?_append_left
abbrev jv:=@List.getElem?_append_right
abbrev qc:=@List.getElem?_cons_succ
abbrev qd:=@List.getElem?_cons_zero
abbrev kW:=@List.getElem?_drop
abbrev bM:=@List.getElem?_eq_getElem
abbrev kX:=@List.getElem?_eq_none
abbrev wX:=@List.getElem?_eq_none_iff
abbrev kY:=@List.getElem?_eq_some_iff
abbrev eL:=@List.getElem?_map
abbrev qf:=@List.getElem?_modify
abbrev lA:=@List.getElem?_range
abbrev zZ:=@List.getElem?_replicate
abbrev iC:=@List.getElem?_set
abbrev gg:=@List.getElem?_set_ne
abbrev ei:=@List.getElem?_set_self
abbrev jX:=@List.getElem?_take
abbrev z0:=@List.getElem?_take_of_lt
abbrev tT:=@List.getElem?_toArray
abbrev jw:=@List.getElem_mem
abbrev wY:=@List.getElem_of_mem
abbrev c8:=@List.length_append
abbrev fU:=@List.length_cons
abbrev jY:=@List.length_drop
abbrev wZ:=@List.length_eq_one_iff
abbrev nY:=@List.length_eq_zero_iff
abbrev z1:=@List.length_filter_le
abbrev fc:=@List.length_map
abbrev nZ:=@List.length_nil
abbrev r0:=@List.length_pos_iff
abbrev mj:=@List.length_range
abbrev w2:=@List.length_replicate
abbrev je:=@List.length_set
abbrev n0:=@List.length_tail
abbrev gR:=@List.length_take
abbrev jx:=@List.map_append
abbrev ml:=@List.map_congr_left
abbrev g':=@List.map_cons
abbrev jZ:=@List.map_map
abbrev qh:=@List.map_nil
abbrev iD:=@List.map_set
abbrev gH:=@List.mem_append
abbrev tU:=@List.mem_append_left
abbrev dy:=@List.mem_cons
abbrev e2:=@List.mem_cons_of_mem
abbrev d_:=@List.mem_cons_self
abbrev kZ:=@List.mem_flatten
abbrev gh:=@List.mem_iff_getElem?
abbrev cD:=@List.mem_map
abbrev o5:=@List.mem_map_of_mem
abbrev cj:=@List.mem_of_getElem?
abbrev n1:=@List.mem_of_mem_drop
abbrev z2:=@List.mem_of_mem_eraseIdx
abbrev qi:=@List.mem_of_mem_tail
abbrev r3:=@List.mem_of_mem_take
abbrev ks:=@List.mem_or_eq_of_mem_set
abbrev dS:=@List.mem_range
abbrev w5:=@List.mem_singleton
abbrev m4:=@List.nil_append
abbrev kt:=@List.not_mem_nil
abbrev w6:=@List.pairwise_iff_getElem
abbrev tV:=@List.pairwise_map
abbrev k0:=@List.range_succ
abbrev r4:=@List.range_succ_eq_map
abbrev o6:=@List.replicate_succ
abbrev wO:=@List.set_append_right
abbrev rY:=@List.set_comm
abbrev zV:=@List.set_cons_succ
abbrev tM:=@List.set_cons_zero
abbrev mi:=@List.set_set
abbrev m2:=@List.sum_cons
abbrev eT:=@List.take_add_one
abbrev hq:=@List.take_length
abbrev gb:=@List.take_of_length_le
abbrev Gm:=@List.take_succ_eq_append_getElem
abbrev p7:=@Nat.add_assoc
abbrev p8:=@Nat.add_mul
abbrev lz:=@Nat.add_zero
abbrev kp:=@Nat.eq_of_beq_eq_true
abbrev wP:=@Nat.eq_zero_or_pos
abbrev dd:=@Nat.le_refl
abbrev kq:=@Nat.le_trans
abbrev fF:=@Nat.lt_of_lt_of_le
abbrev nV:=@Nat.lt_or_ge
abbrev o0:=@Nat.lt_succ_iff_lt_or_eq
abbrev p9:=@Nat.mod_eq_of_lt
abbrev tP:=@Nat.mul_comm
abbrev o1:=@Nat.mul_le_mul
abbrev rZ:=@Nat.mul_le_mul_right
abbrev zW:=@Nat.ne_of_beq_eq_false
abbrev m3:=@Nat.sub_self
abbrev hK:=@Nat.succ_mul
abbrev gG:=@Nat.zero_add
abbrev tQ:=@Nat.zero_mul
abbrev nW:=@Option.map_eq_some_iff
abbrev nX:=@Option.map_some
abbrev p_:=@Option.some.inj
abbrev e7:=@Option.some.injEq
end Go
namespace Go.bn
variable {K:a0->Prop} {N:aw->aE} {P:Program} {Q:Exit->aw->aE} {R:cp} {a b p:an} {all ops:List Oper} {c:Call} {c' cap l l' len:Nat} {captured first:Array a0} {env:aw} {f x y:Operand} {fn:Func} {h m n:Int} {inf:TypeInfo} {k:IntKind} {next:Act->aE} {ke:Oper} {op:BinOp} {q:aV} {s:Sem a0} {t:TypeId} {v:a0} {w w':al}
def bT (env:aw):Operand->a0
 | .tmp t=>env.getD t undef
 | .const v=>v
 | .global g=>.pointer (some ⟨g,0,none⟩)
 | .func f=>.func (.func f) #[] #[]
def ag (j:aw):Nat->Nat->aw->aw
 | _,0,r=>r
 |a,n+1,r=>j.getD a undef::ag j (a+1) n r
def bx:Nat->aw->aw
 | 0,r=>r
 |n+1,r=>undef::bx n r
def put (env:aw):Option Tmp->a0->aw
 |some d,v=>env.set d v
 |none,_=>env
def act (env:aw):Act:={ tmps:=env.toArray,defers:=[] }
theorem rq (env:aw):(act env).eval=bT env:=by
 funext x;cases x with
 |tmp t=>simp only [Act.eval,act,bT,Array.getD_eq_getD_getElem?,tT,cK]
 |const v=>rfl
 |global g=>rfl
 |func f=>rfl
theorem kG (env:aw) (d:Option Tmp) (v:a0):(act env).put d v=act (put env d v):=by
 cases d with
 |none=>rfl
 |some d=>simp [Act.put,act,put]
def single:a0->Bool
 | .agg _=>false
 | .tuple _=>false
 | _=>true
def nO {α:Type} (P:Program):Sem α->(α->aE)->aE
 | .pure a,K,w=>K a w
 | .load _ a k,K,w=>∃ v,w.cell? a=some v/\nO P (k v) K w
 | .store _ a v k,K,w=>(∃ u,w.cell? a=some u)/\w.frozen? a=false/\single v=true/\∀ w1,w1=w.setCell a v->nO P k K w1
 | .new o k,K,w=>∀ b w1,b=w.heap.size->w1=w.alloc o->nO P (k b) K w1
 | .shape r k,K,w=>nO P (k (w.shape? r)) K w
 | .frozen a k,K,w=>nO P (k (w.frozen? a)) K w
 | .program k,K,w=>nO P (k P) K w
 | .mark _ k,K,w=>nO P k K w
 | _,_,_=>False
theorem Ak {α:Type} {m:Mode} {a:aV} {k:Sem α} (b:∃ u,w.cell? a=some u) (c:w.frozen? a=false) (aj:single v=true) :
  (Sem.store m a v k).run P w=k.run P (w.setCell a v):=by
 obtain ⟨u,hu⟩:=b;cases v<;>simp [single] at aj<;>simp [Sem.run,hu,c]
theorem IR {α:Type} (s:Sem α):∀ {K:α->aE} {w:al},nO P s K w->∃ a w',s.run P w=.ok a w'/\K a w':=by
 induction s with
 |pure a=>intro K w h;exact ⟨a,w,rfl,h⟩
 |load m a k b=>intro K w h;obtain ⟨v,aj,h⟩:=h;obtain ⟨x,w',d,c⟩:=b v h;exact ⟨x,w',by simp only [Sem.run,aj];exact d,c⟩
 |store m a v k b=>intro K w h;obtain ⟨e,f,g,h⟩:=h;obtain ⟨x,w',d,c⟩:=b (h _ rfl);exact ⟨x,w',by rw [Ak e f g];exact d,c⟩
 |new o k b=>intro K w h;obtain ⟨x,w',d,c⟩:=b _ (h _ _ rfl rfl);exact ⟨x,w',d,c⟩
 |shape r k b=>intro K w h;exact b _ h
 |frozen a k b=>intro K w h;exact b _ h
 |program k b=>intro K w h;exact b _ h
 |mark m k b=>intro K w h;exact b h
 | _=>intro K w h;exact h.elim
def gw (k:IntKind) (x y:Int):Int:=k.wrap (BitVec.ofInt k.bits x &&& BitVec.ofInt k.bits y).toNat
def jh (k:IntKind) (x y:Int):Int:=k.wrap (BitVec.ofInt k.bits x ||| BitVec.ofInt k.bits y).toNat
def hs (k:IntKind) (x y:Int):Int:=k.wrap (BitVec.ofInt k.bits x ^^^ BitVec.ofInt k.bits y).toNat
def n4 (k:IntKind) (x y:Int):Int:=k.wrap (BitVec.ofInt k.bits x &&& ~~~ BitVec.ofInt k.bits y).toNat
def hN (k:IntKind) (x n:Int):Int:=k.wrap (x * 2 ^ min n.toNat k.bits)
def c5 (k:IntKind) (x n:Int):Int:=x.fdiv (2 ^ min n.toNat k.bits)
inductive mn where
 |i (k:IntKind) | b | p | s | v
def vN:Option TypeDesc->mn
 |some (.int k)=>.i k
 |some .bool=>.b
 |some (.pointer _)=>.p
 |some (.slice _)=>.s
 | _=>.v
def oo:mn->(a0->Prop)->Prop
 | .i k,K=>∃ x:Int,K (.int k x)
 | .b,K=>∃ x:Bool,K (.bool x)
 | .p,K=>∃ x:an,K (.pointer x)
 | .s,K=>∃ (x:an) (l c:Nat),K (.slice x l c)
 | .v,K=>∃ v:a0,K v
theorem rP {k:mn} (h:oo k K):∃ v,K v:=by
 cases k with
 |i k=>obtain ⟨x,h⟩:=h;exact ⟨_,h⟩
 |b=>obtain ⟨x,h⟩:=h;exact ⟨_,h⟩
 |p=>obtain ⟨x,h⟩:=h;exact ⟨_,h⟩
 |s=>obtain ⟨x,l,c,h⟩:=h;exact ⟨_,h⟩
 |v=>exact h
theorem AW {k:mn} {d:a0->Prop} (a:∀ v,K v->d v) (h:oo k K):oo k d:=by
 cases k with
 |i k=>obtain ⟨x,h⟩:=h;exact ⟨_,a _ h⟩
 |b=>obtain ⟨x,h⟩:=h;exact ⟨_,a _ h⟩
 |p=>obtain ⟨x,h⟩:=h;exact ⟨_,a _ h⟩
 |s=>obtain ⟨x,l,c,h⟩:=h;exact ⟨_,_,_,a _ h⟩
 |v=>obtain ⟨x,h⟩:=h;exact ⟨_,a _ h⟩
def pE:List mn->(aw->Prop)->Prop
 | [],K=>K []
 |k::a,K=>oo k λv=>pE a λvs=>K (v::vs)
theorem r_:∀ {a:List mn} {K:aw->Prop},pE a K->∃ vs,vs.length=a.length/\K vs
 | [],_,h=>⟨[],rfl,h⟩
 |k::a,K,h=>by obtain ⟨v,h⟩:=rP h;obtain ⟨vs,b,h⟩:=r_ h;exact ⟨v::vs,by simp [b],h⟩
theorem AX:∀ {c:List mn} {K b:aw->Prop},(∀ vs,K vs->b vs)->pE c K->pE c b
 | [],_,_,a,h=>a _ h
 | _::_,_,_,a,h=>AW (λv h=>AX (λvs h=>a (v::vs) h) h) h
def pL (P:Program):Nat->TypeId->List mn
 | 0,_=>[]
 |n+1,t=>match P.underlying t with
  |some (.struct a)=>a.toList.flatMap λf=>pL P n f.type
  |some (.array len e)=>(List.replicate len (pL P n e)).flatten
  |d=>[vN d]
def gB (P:Program) (t:TypeId):Bool:=
 match P.underlying t with
 |some (.struct _)=>true
 |some (.array _ _)=>true
 | _=>false
def o9 (P:Program) (t:TypeId):Nat:=match P.info? t with | some i=>i.size | none=>0
def vk (P:Program) (t:TypeId) (K:a0->Prop):Prop:=
 match gB P t with
 |true=>pE (pL P 8 t) λvs=>K (.agg vs.toArray)
 |false=>oo (vN (P.underlying t)) K
theorem C7 (h:vk P t K):∃ v,K v:=by
 unfold vk at h;split at h
 ·obtain ⟨vs,_,h⟩:=r_ h;exact ⟨_,h⟩
 ·exact rP h
def yE (P:Program):List TypeId->(aw->Prop)->Prop
 | [],K=>K []
 |t::ts,K=>vk P t λv=>yE P ts λvs=>K (v::vs)
theorem C8 {P:Program}:∀ {ts:List TypeId} {K:aw->Prop},yE P ts K->∃ vs,K vs
 | [],_,h=>⟨[],h⟩
 |t::ts,K,h=>by obtain ⟨v,h⟩:=C7 h;obtain ⟨vs,h⟩:=C8 h;exact ⟨v::vs,h⟩
def qS (P:Program):List TypeId->(a0->Prop)->Prop
 | [t],K=>vk P t K
 |ts,K=>yE P ts λvs=>K (.tuple vs.toArray)
theorem CH {ts:List TypeId} (h:qS P ts K):∃ v,K v:=by
 unfold qS at h;split at h
 ·exact C7 h
 ·obtain ⟨vs,h⟩:=C8 h;exact ⟨_,h⟩
def b7 (w:al) (bu:aV):Nat->aw->Prop
 | _,[]=>True
 |i,v::vs=>w.cell? (bu.add i)=some v/\b7 w bu (i+1) vs
def dR (w:al) (bu:aV):Nat->aw->Prop
 | _,[]=>True
 |i,v::vs=>(∃ u,w.cell? (bu.add i)=some u)/\w.frozen? (bu.add i)=false/\single v=true/\dR w bu (i+1) vs
def cl (w:al) (bu:aV):Nat->aw->al
 | _,[]=>w
 |i,v::vs=>cl (w.setCell (bu.add i) v) bu (i+1) vs
theorem Te {p:aV} (h:∃ u,w.cell? q=some u):∃ u,(w.setCell p v).cell? q=some u:=by
 obtain ⟨u,hu⟩:=h;unfold World.cell? World.setCell at *;simp only [wU];cases f:w.heap[q.block]? with
 |none=>rw [f] at hu;cases hu
 |some o=>
  rw [f] at hu;cases o with
  |cells c e i=>
   simp only at hu;by_cases b:q.spot.isSome=true
   ·simp [b] at hu
   ·simp only [b,qe,if_false] at hu;by_cases a:p.block=q.block
    ·simp only [a,if_true,nX,b,qe,if_false];by_cases g:p.spot.isSome=true
     ·simp only [g,if_true];exact ⟨u,hu⟩
     ·simp only [g,qe,if_false];rw [Array.getElem?_setIfInBounds];split
      ·rename_i he;have d:p.off<c.size:=by
        rcases nV p.off c.size with h | h
        ·exact h
        ·rw [wN (by omega)] at hu;cases hu
       rw [if_pos d];exact ⟨_,rfl⟩
      ·exact ⟨u,hu⟩
    ·simp only [a,if_false,b,qe];exact ⟨u,hu⟩
  | _=>cases hu
theorem TV {p:aV}:(w.setCell p v).frozen? q=w.frozen? q:=by
 unfold World.frozen? World.setCell;simp only [wU];cases b:w.heap[q.block]? with
 |none=>simp
 |some o=>
  by_cases a:p.block=q.block
  ·simp only [a,if_true,nX];cases o<;>rfl
  ·simp only [a,if_false]
theorem FM {w:al} {bu p:aV} {u:a0}:∀ {vs:aw} {i:Nat},dR w bu i vs->dR (w.setCell p u) bu i vs
 | [],_,_=>trivial
 | _::_,_,h=>⟨Te h.1,by rw [TV];exact h.2.1,h.2.2.1,FM h.2.2.2⟩
theorem rp {P:Program} {bu:aV}:∀ {vs:aw} {i:Nat} {w:al},dR w bu i vs->
  (storeCells bu vs i).run P w=.ok () (cl w bu i vs)
 | [],_,_,_=>rfl
 |v::vs,i,w,h=>by unfold storeCells;show ((store (bu.add i) v).bind λ_=>storeCells bu vs (i+1)).run P w=_;show (Sem.store .plain (bu.add i) v (storeCells bu vs (i+1))).run P w=_;rw [Ak h.1 h.2.1 h.2.2.1];exact rp (FM h.2.2.2)
theorem run_loadCellsFrom {P:Program} {bu:aV} {w:al}:∀ {vs:aw} {i:Nat} {acc:Array a0},b7 w bu i vs->
  (loadCellsFrom bu i vs.length acc).run P w=.ok (acc++vs.toArray) w
 | [],_,acc,_=>by simp [loadCellsFrom]
 |v::vs,i,acc,h=>by show (Sem.load .plain (bu.add i) λv=>loadCellsFrom bu (i+1) vs.length (acc.push v)).run P w=_;simp only [Sem.run,h.1];rw [run_loadCellsFrom (acc:=acc.push v) h.2];simp
def nh (P:Program) (t:TypeId) (x:a0) (K:cp) (w:al):Prop:=
 match x with
 | .pointer (some bu)=>
  match P.info? t with
  |none=>False
  |some inf=>
   match gB P t with
   |true=>match Nat.beq (pL P 8 t).length inf.size with
    |true=>pE (pL P 8 t) λvs=>b7 w bu 0 vs/\K (.agg vs.toArray) w
    |false=>False
   |false=>match P.underlying t with
    |none=>False
    |some d=>oo (vN (some d)) λv=>w.cell? bu=some v/\K v w
 | _=>False
def xM (P:Program) (t:TypeId) (x v:a0) (K:aE) (w:al):Prop:=
 match x with
 | .pointer (some bu)=>
  match P.info? t with
  |none=>False
  |some inf=>
   match gB P t with
   |true=>match Nat.beq v.cells.size inf.size with
    |true=>dR w bu 0 v.cells.toList/\∀ w1,w1=cl w bu 0 v.cells.toList->K w1
    |false=>False
   |false=>match single v,Nat.beq inf.size 1 with
    |true,true=>(∃ u,w.cell? bu=some u)/\w.frozen? bu=false/\∀ w1,w1=w.setCell bu v->K w1
    | _,_=>False
 | _=>False
def eZ:an->(aV->Prop)->Prop
 |some bu,K=>K bu
 |none,_=>False
def bB (a:an) (len:Nat) (n:Int) (sz:Nat) (K:aV->Prop):Prop:=
 ∃ bu,a=some bu/\0<=n/\n<len/\K (bu.add (n.toNat * sz))
def ow (bu:aV) (len:Nat) (n:Int) (sz:Nat) (K:aV->Prop):Prop:=
 0<=n/\n<len/\K (bu.add (n.toNat * sz))
def ho (a:an) (len cap:Nat) (b d c:Int) (sz:Nat) (K:an->Nat->a2):Prop:=
 0<=b/\b<=d/\d<=c/\c<=cap/\len<=cap/\K (if c=b then a else a.map (·.add (b.toNat * sz))) (d.toNat - b.toNat) (c.toNat - b.toNat)
def iY (n:Nat) (zs:aw):aw:=(List.replicate n zs).flatten
def pN (len cap:Int) (bytes:Nat) (o:Obj) (w:al) (K:Nat->aE):Prop:=0<=len/\len<=cap/\cap * bytes<=140737488355328/\cap<=140737488355328/\∀ b w1,b=w.heap.size->w1=w.alloc o->K b w1
def hU (P:Program) (f:FuncId):Bool:=
 match P.funcs[f]? with
 |some fn=>fn.body.isSome && !(fn.name == "runtime.NumGoroutine")
 |none=>false
def mb (P:Program) (f:a0) (args:Array a0) (w:al) (R:Ending->aE):Prop:=
 match f with
 | .func (.func g) first captured=>match hU P g with
  |true=>Calls P g (first++args++captured) w R
  |false=>False
 | _=>False
def uJ (P:Program) (t:TypeId):List TypeId:=
 match P.underlying t with
 |some (.tuple ts)=>ts.toList
 | _=>[t]
def v8 (P:Program) (s:Sem a0) (k:mn) (K:cp) (w:al):Prop:=
 oo k λv=>∃ w',s.run P w=.ok v w'/\K v w'
def T':a0->Option Int
 | .int _ n=>some n
 | _=>none
def Dc (K:cp):Next->aE
 | .value v,w=>K v w
 | .skip,w=>K undef w
 | _,_=>False
def yO (P:Program) (env:aw) (o:Oper) (K:cp) (w:al):Prop:=
 nO P (execOp (bT env) o) (Dc K) w
def ug:Operand->Bool
 | .const _=>true
 | _=>false
def lK (d:Int):Option a0->Option Int
 |none=>some d
 |some (.int _ n)=>some n
 |some _=>none
def uh {α:Type} (P:Program):Sem α->Option α
 | .pure a=>some a
 | .program k=>uh P (k P)
 | _=>none
theorem G_ {α:Type} (s:Sem α):∀ {a:α},uh P s=some a->∀ w,s.run P w=.ok a w:=by
 induction s with
 |pure a=>intro b h w;simp [uh] at h;subst h;rfl
 |program k c=>intro b h w;exact c P h w
 | _=>intro b h;cases h
def nE (P:Program) (env:aw) (o:Oper) (K:a0->Prop):Prop:=
 match uh P (execOp (bT env) o) with
 |some (.value v)=>K v
 | _=>False
def HI (P:Program) (t:TypeId) (x y:a0) (r:Bool) (w:al):Prop:=
 (∀ op a b,(eqGuard op t a b x y).run P w=.ok () w)/\(binOp .eql t x y).run P w=.ok (.bool r) w/\(binOp .neq t x y).run P w=.ok (.bool (!r)) w
def uK (P:Program) (t:TypeId) (x y:a0) (K:Bool->Prop):Prop:=∃ r:Bool,(∀ w,HI P t x y r w)/\K r
def uL (P:Program) (env:aw) (o:Oper) (K:a0->Prop):Prop:=
 match o.op with
 | .pick c a b=>match bT env c with
  | .bool t=>bif t then K (bT env a) else K (bT env b)
  | _=>False
 | .nilCheck x=>match bT env x with
  | .pointer p=>eZ p λbu=>K (.pointer (some bu))
  | _=>False
 | .indexAddr t x i=>match bT env i with
  | .int _ n=>match P.underlying t with
   |some (.slice e)=>match bT env x,P.info? e with
    | .slice a len _,some inf=>bB a len n inf.size λbu=>K (.pointer (some bu))
    | _,_=>False
   |some (.array len e)=>match bT env x,P.info? e with
    | .pointer (some bu),some inf=>ow bu len n inf.size λbu=>K (.pointer (some bu))
    | _,_=>False
   | _=>False
  | _=>False
 | .slice t x q f g=>match P.underlying t with
  |some (.slice e)=>match bT env x,P.info? e with
   | .slice a len cap,some inf=>
    match lK 0 (q.map (bT env)),lK len (f.map (bT env)),lK cap (g.map (bT env)),f.isNone && g.isSome with
    |some l,some h,some m,false=>ho a len cap l h m inf.size λj l' c'=>K (.slice j l' c')
    | _,_,_,_=>False
   | _,_=>False
  | _=>nE P env o K
 | .binOp op t x y _=>match op,bT env x,bT env y with
  | .eql,.pointer p,.pointer none=>match P.underlying t with
   |some (.pointer _)=>K (.bool p.isNone)
   | _=>False
  | .neq,.pointer p,.pointer none=>match P.underlying t with
   |some (.pointer _)=>K (.bool (!p.isNone))
   | _=>False
  | .eql,.slice a _ _,.slice none _ _=>match P.underlying t with
   |some (.slice _)=>K (.bool a.isNone)
   | _=>False
  | .neq,.slice a _ _,.slice none _ _=>match P.underlying t with
   |some (.slice _)=>K (.bool (!a.isNone))
   | _=>False
  | .quo,.int k a,.int d b=>match ug y with
   |true=>nE P env o K
   |false=>k=d/\b≠0/\K (.int k (k.wrap (a.tdiv b)))
  | .rem,.int k a,.int d b=>match ug y with
   |true=>nE P env o K
   |false=>k=d/\b≠0/\K (.int k (a.tmod b))
  | .shl,.int k a,.int _ b=>match ug y with
   |true=>nE P env o K
   |false=>0<=b/\K (.int k (k.wrap (a * 2 ^ min b.toNat k.bits)))
  | .shr,.int k a,.int _ b=>match ug y with
   |true=>nE P env o K
   |false=>0<=b/\K (.int k (a.fdiv (2 ^ min b.toNat k.bits)))
  | .eql,.agg a,.agg b=>uK P t (.agg a) (.agg b) λr=>K (.bool r)
  | .neq,.agg a,.agg b=>uK P t (.agg a) (.agg b) λr=>K (.bool (!r))
  | _,_,_=>nE P env o K
 | _=>nE P env o K
def uu:Op->Bool
 | .move _ | .assign _ | .pick .. | .build .. | .nilCheck _ | .binOp .. | .unOp .. | .convert .. | .makeFunc .. | .slice .. | .fieldAddr .. | .field .. | .indexAddr .. | .index .. | .extract ..=>true
 | .call { callee:=.builtin .len,.. } | .call { callee:=.builtin .cap,.. } | .call { callee:=.builtin .min,.. } | .call { callee:=.builtin .max,.. }=>true
 | _=>false
def pS (P:Program) (env:aw) (o:Oper) (K:cp) (w:al):Prop:=
 match uu o.op with
 |true=>uL P env o λv=>K v w
 |false=>match o.op with
  | .load t x=>nh P t (bT env x) K w
  | .store t x v=>xM P t (bT env x) (bT env v) (K undef) w
  | .makeSlice t l c=>match P.underlying t,bT env l,bT env c with
   |some (.slice e),.int _ len,.int _ cap=>match P.info? e with
    |some inf=>match inf.zero with
     |some z=>match Nat.beq z.cells.size inf.size && Nat.ble 1 inf.size with
      |false=>False
      |true=>pN len cap inf.bytes (.cells (iY cap.toNat z.cells.toList).toArray e) w λb w1=>K (.slice (some ⟨b,0,none⟩) len.toNat cap.toNat) w1
     |none=>False
    |none=>False
   | _,_,_=>False
  | .call c=>match c.callee with
   | .builtin .append=>v8 P (Builtin.append_ c.argTypes o.type (c.args.map (bT env))) .s K w
   | .builtin .copy=>v8 P (Builtin.copy_ c.argTypes o.type (c.args.map (bT env))) (.i .i64) K w
   | .builtin .clear=>v8 P (Builtin.clear_ c.argTypes o.type (c.args.map (bT env))) .v K w
   | .value f=>mb P (bT env f) (c.args.map (bT env)) w λe w'=>qS P (uJ P o.type) λv=>e=.returned v/\K v w'
   | _=>yO P env o K w
  | _=>yO P env o K w
def ix (P:Program) (f:a0) (args:Array a0) (w:al) (R:Ending->aE):Prop:=
 match f with
 | .func (.yield l) first _=>YieldAt Fence.wide 0 P l (first++args) w R
 |f=>mb P f args w R
def y5 (P:Program) (env:aw) (o:Oper) (K:cp) (w:al):Prop:=
 match o.op with
 | .call c=>match c.callee with
  | .value f=>ix P (bT env f) (c.args.map (bT env)) w λe w'=>qS P (uJ P o.type) λv=>e=.returned v/\K v w'
  | _=>pS P env o K w
 | _=>pS P env o K w
section
variable {P:Program} {env:aw} {o:Oper} {K:cp} {w:al}
def ll (P:Program) (env:aw) (o:Oper) (K:cp) (w:al):Prop:=
 (∃ n w',(execOp (bT env) o).run P w=.ok n w'/\Dc K n w')\/
 (∃ f args,(execOp (bT env) o).run P w=.ok (.enter f args) w/\Calls P f args w λe w'=>∃ v,e=.returned v/\K v w')
theorem AY (h:yO P env o K w):ll P env o K w:=.inl (IR _ h)
theorem xd (he:execOp (bT env) o=(do pure (.value (<- s)))) (a:s.run P w=.ok v w') (h:K v w'):ll P env o K w:=by refine .inl ⟨.value v,w',?_,h⟩;rw [he,Sem.run_bind,a];rfl
theorem Al {s:Sem Unit} (he:execOp (bT env) o=(do s;pure .skip)) (a:s.run P w=.ok () w') (h:K undef w'):ll P env o K w:=by refine .inl ⟨.skip,w',?_,h⟩;rw [he,Sem.run_bind,a];rfl
theorem zd {i:TypeInfo} (h:P.info? t=some i) (w:al):(typeInfo t).run P w=.ok i w:=by simp [typeInfo,h,program,Sem.run]
theorem run_sizeOf {i:TypeInfo} (h:P.info? t=some i) (w:al):(sizeOf t).run P w=.ok i.size w:=by simp [sizeOf,zd h]
theorem oC {d:TypeDesc} (h:P.underlying t=some d) (w:al):(Go.isAgg t).run P w=.ok (gB P t) w:=by simp only [Go.isAgg,Sem.run_bind,run_underlying h,Result.andThen_ok,gB,h];cases d<;>rfl
theorem yW (h:gB P t=true):∃ d,P.underlying t=some d:=by
 unfold gB at h;cases hu:P.underlying t with
 |none=>simp [hu] at h
 |some d=>exact ⟨d,rfl⟩
def lS (P:Program) (env:aw) (o:Oper) (K:a0->Prop):Prop:=
 ∃ v,(∀ w,(execOp (bT env) o).run P w=.ok (.value v) w)/\K v
theorem lS.bc (h:lS P env o λv=>K v w):ll P env o K w:=
 let ⟨v,a,h⟩:=h
 .inl ⟨.value v,w,a w,h⟩
theorem wA {K:a0->Prop} (he:execOp (bT env) o=(do pure (.value (<- s)))) (a:∀ w,s.run P w=.ok v w) (h:K v):lS P env o K:=by
 refine ⟨v,λw=>?_,h⟩
 rw [he,Sem.run_bind,a];rfl
theorem pW {K:a0->Prop} (h:nE P env o K):lS P env o K:=by
 unfold nE at h;split at h
 ·rename_i v aj;exact ⟨v,G_ _ aj,h⟩
 ·exact h.elim
theorem IS (i:o.op=.load t x) (h:nh P t (bT env x) K w):ll P env o K w:=by
 have he:execOp (bT env) o=(do pure (.value (<- Instr.loadAt t (bT env x)))):=by unfold execOp;rw [i]
 unfold nh at h;split at h
 ·rename_i bu c;split at h
  ·exact h.elim
  ·rename_i inf b;split at h
   ·rename_i a;split at h
    ·rename_i hlen;obtain ⟨vs,f,e,h⟩:=r_ h;obtain ⟨d,aA⟩:=yW a;refine xd he ?_ h;have g:vs.length=inf.size:=by rw [f];exact kp hlen
     simp only [Instr.loadAt,c,Instr.sureAddr,pure_bind,loadVar,Sem.run_bind,oC aA,Result.andThen_ok,a,if_true,run_sizeOf b];have:=run_loadCellsFrom (P:=P) (acc:=#[]) e;rw [g] at this;simp [loadCells,this]
    ·exact h.elim
   ·rename_i a;split at h
    ·exact h.elim
    ·rename_i d aA;obtain ⟨v,aj,h⟩:=rP h;refine xd he ?_ h;simp only [Instr.loadAt,c,Instr.sureAddr,pure_bind,loadVar,Sem.run_bind,oC aA,Result.andThen_ok,a];simp [aj]
 ·exact h.elim
theorem HD {v:Operand} (j:o.op=.store t x v) (h:xM P t (bT env x) (bT env v) (K undef) w):ll P env o K w:=by
 have he:execOp (bT env) o=(do Instr.storeAt t (bT env x) (bT env v);pure .skip):=by unfold execOp;rw [j]
 unfold xM at h;split at h
 ·rename_i bu f;split at h
  ·exact h.elim
  ·rename_i inf b;split at h
   ·split at h
    ·rename_i hlen;obtain ⟨hw,h⟩:=h;have h:=h _ rfl;refine Al he ?_ h;have c:=kp hlen;simp only [Instr.storeAt,f,Instr.sureAddr,pure_bind,storeVar,Sem.run_bind,run_sizeOf b,Result.andThen_ok,c];simp [rp hw]
    ·exact h.elim
   ·split at h
    ·rename_i e c;obtain ⟨g,i,h⟩:=h;have h:=h _ rfl;refine Al he ?_ h;have c:=kp c;have a:(bT env v).cells=#[bT env v]:=by revert e;cases bT env v<;>simp [single,Value.cells]
     have d:bu.add 0=bu:=by simp [Addr.add]
     have hw:dR w bu 0 [bT env v]:=⟨by rw [d];exact g,by rw [d];exact i,e,trivial⟩;simp only [Instr.storeAt,f,Instr.sureAddr,pure_bind,storeVar,Sem.run_bind,run_sizeOf b,Result.andThen_ok,c,a];simp [rp hw,cl,d]
    ·exact h.elim
 ·exact h.elim
theorem JK {K:a0->Prop} (a:o.op=.nilCheck x) (b:bT env x=.pointer p) (h:eZ p λbu=>K (.pointer (some bu))):lS P env o K:=by
 cases p with
 |none=>exact h.elim
 |some bu=>
  refine ⟨.pointer (some bu),λw=>?_,h⟩
  unfold execOp;rw [a];simp only [b];rfl
theorem IT {c a b:Operand} {t:Bool} {K:a0->Prop} (e:o.op=.pick c a b) (d:bT env c=.bool t) (h:bif t then K (bT env a) else K (bT env b)):lS P env o K:=by refine ⟨bif t then bT env a else bT env b,λw=>?_,by cases t<;>exact h⟩;unfold execOp;rw [e];simp only [d,asBool,pure_bind];cases t<;>rfl
theorem IU {t e:TypeId} {x i:Operand} {K:a0->Prop} (g:o.op=.indexAddr t x i) (f:bT env i=.int k n)
  (hu:P.underlying t=some (.slice e)) (j:bT env x=.slice a len cap) (b:P.info? e=some inf) (h:bB a len n inf.size λbu=>K (.pointer (some bu))):lS P env o K:=by
 have he:execOp (bT env) o=(do pure (.value (<- Instr.indexAt t (bT env x) (bT env i)))):=by unfold execOp;rw [g]
 obtain ⟨bu,rfl,c,d,h⟩:=h;refine wA he (λw=>?_) h;simp [Instr.indexAt,f,j,asIntOf,run_underlying hu,c,d,run_sizeOf b]
theorem IV {t e:TypeId} {x i:Operand} {bu:aV} {K:a0->Prop} (f:o.op=.indexAddr t x i) (d:bT env i=.int k n)
  (hu:P.underlying t=some (.array len e)) (g:bT env x=.pointer (some bu)) (a:P.info? e=some inf) (h:ow bu len n inf.size λbu=>K (.pointer (some bu))):lS P env o K:=by
 have he:execOp (bT env) o=(do pure (.value (<- Instr.indexAt t (bT env x) (bT env i)))):=by unfold execOp;rw [f]
 obtain ⟨b,c,h⟩:=h;refine wA he (λw=>?_) h;simp [Instr.indexAt,d,g,asIntOf,run_underlying hu,b,c,run_sizeOf a,Instr.sureAddr]
theorem rr {d:Int} {v:Option a0} (h:lK d v=some n):(v=none/\n=d)\/∃ k,v=some (.int k n):=by
 unfold lK at h;split at h
 ·exact .inl ⟨rfl,by simpa using h.symm⟩
 ·rename_i k m;exact .inr ⟨k,by simp at h;rw [h]⟩
 ·cases h
theorem nB {y:Nat} {c:BoundsCode} (a:0<=n) (b:n<=y) (w:al):(Instr.sliceBound (.int k n) y c).run P w=.ok n.toNat w:=by simp [Instr.sliceBound,asIntOf,a,b]
theorem TP {i b d:Option a0} {l:Int} (c:lK 0 i=some l) (f:lK len b=some h) (hm:lK cap d=some m) (a:¬ (b=none/\d≠none))
  (gV:0<=l) (b1:l<=h) (az:h<=m) (e:m<=cap) (w:al):(Instr.sliceBounds true len cap i b d).run P w=.ok (l.toNat,h.toNat,m.toNat) w:=by
 unfold Instr.sliceBounds;rcases rr hm with ⟨rfl,rfl⟩ | ⟨k,rfl⟩
 ·rcases rr f with ⟨rfl,rfl⟩ | ⟨j,rfl⟩
  ·rcases rr c with ⟨rfl,rfl⟩ | ⟨g,rfl⟩
   ·simp
   ·simp [nB (y:=len) gV b1]
  ·rcases rr c with ⟨rfl,rfl⟩ | ⟨g,rfl⟩
   ·simp [nB (y:=cap) b1 az]
   ·simp [nB (y:=cap) (tO gV b1) az,nB (y:=h.toNat) gV (by omega:l<=((h.toNat:Nat):Int))]
 ·rcases rr f with ⟨rfl,rfl⟩ | ⟨j,rfl⟩
  ·exact absurd ⟨rfl,by simp⟩ a
  ·rcases rr c with ⟨rfl,rfl⟩ | ⟨g,rfl⟩
   ·simp [nB (y:=cap) (by omega:(0:Int)<=m) e,nB (y:=m.toNat) b1 (by omega:h<=((m.toNat:Nat):Int))]
   ·simp [nB (y:=cap) (by omega:(0:Int)<=m) e,nB (y:=m.toNat) (tO gV b1) (by omega:h<=((m.toNat:Nat):Int)),
     nB (y:=h.toNat) gV (by omega:l<=((h.toNat:Nat):Int))]
theorem HE {t e:TypeId} {i c d:Option Operand} {K:a0->Prop} {l:Int} (u:o.op=.slice t x i c d)
  (hu:P.underlying t=some (.slice e)) (y:bT env x=.slice a len cap) (b:P.info? e=some inf)
  (s:lK 0 (i.map (bT env))=some l) (r:lK len (c.map (bT env))=some h) (hm:lK cap (d.map (bT env))=some m) (f:¬ (c=none/\d≠none))
  (g:ho a len cap l h m inf.size λk l' c'=>K (.slice k l' c')):lS P env o K:=by
 have he:execOp (bT env) o=(do pure (.value (<- Instr.sliceAt t (bT env x) (i.map (bT env)) (c.map (bT env)) (d.map (bT env))))):=by unfold execOp;rw [u]
 obtain ⟨gV,b1,az,n,_,g⟩:=g;refine wA he (λw=>?_) g;have q:=TP (P:=P) s r hm (by intro j;exact f ⟨by simpa using j.1,by simpa using j.2⟩) gV b1 az n w;have p:(m=l)↔(m.toNat=l.toNat):=by omega
 simp only [Instr.sliceAt,Sem.run_bind,run_underlying hu,Result.andThen_ok,Instr.slice,y,q,run_sizeOf b,p];rfl
theorem LH (n:Nat) (zs:Array a0) (au:0<zs.size):(Array.range (n * zs.size)).map (zs[· % zs.size]!)=(iY n zs.toList).toArray:=by
 apply Array.ext
 ·simp [iY]
 ·intro i e k;simp only [Array.size_map,Array.size_range] at e;simp only [Array.getElem_map,Array.getElem_range,List.getElem_toArray];have key:∀ (m i:Nat) (zs:aw) (a:zs≠[]),i<m * zs.length->((List.replicate m zs).flatten)[i]?=zs[i % zs.length]?:=by
   intro m;induction m with
   |zero=>intro i zs _ h;simp at h
   |succ m p=>
    intro i zs a h;have q:0<zs.length:=r0.2 a;simp only [o6,hr];by_cases g:i<zs.length
    ·rw [jd g,p9 g]
    ·rw [jv (by omega),p (i - zs.length) zs a (by rw [hK] at h;omega)];congr 1;rw [Nat.mod_eq_sub_mod (by omega:i>=zs.length)]
  have d:zs.toList≠[]:=by
   intro l;have j:zs.toList.length=0:=by rw [l];rfl
   rw [Array.length_toList] at j;omega
  have o:=key n i zs.toList d (by simpa using e);have b:i % zs.size<zs.size:=Nat.mod_lt _ au;unfold iY;have f:((List.replicate n zs.toList).flatten)[i]?=some zs[i % zs.size]:=by rw [o];simp [b]
  rw [getElem!_pos zs _ b];have c:i<((List.replicate n zs.toList).flatten).length:=by simpa [iY] using k
  rw [bM c] at f;exact (p_ f).symm
theorem IW {t e:TypeId} {l c:Operand} {q p:IntKind} {len cap:Int} {z:a0} (n:o.op=.makeSlice t l c)
  (hu:P.underlying t=some (.slice e)) (i:bT env l=.int q len) (g:bT env c=.int p cap) (a:P.info? e=some inf) (au:inf.zero=some z) (d:z.cells.size=inf.size) (s:0<inf.size)
  (h:pN len cap inf.bytes (.cells (iY cap.toNat z.cells.toList).toArray e) w λb w1=>K (.slice (some ⟨b,0,none⟩) len.toNat cap.toNat) w1):ll P env o K w:=by
 have he:execOp (bT env) o=(do pure (.value (<- Instr.makeSlice t (bT env l) (bT env c)))):=by unfold execOp;rw [n]
 obtain ⟨gV,b1,az,r,h⟩:=h;have h:=h _ _ rfl rfl;refine xd he ?_ h;have wl:IntKind.i64.wrap len=len:=by simp only [IntKind.wrap,IntKind.bits,IntKind.signed];simp;omega
 have dY:IntKind.i64.wrap cap=cap:=by simp only [IntKind.wrap,IntKind.bits,IntKind.signed];simp;omega
 have t1:¬ cap<0:=by omega
 have t2:¬ ((281474976710656:Int)<(inf.bytes:Int) * cap):=by rw [Int.mul_comm];omega
 have t3:¬ len<0:=by omega
 have t4:¬ cap<len:=by omega
 have room:(askRoom (cap.toNat * inf.bytes)).run P w=.ok () w:=by
  have:¬ (cap.toNat * inf.bytes>roomBytes):=by
   have:((cap.toNat * inf.bytes:Nat):Int)=cap * inf.bytes:=by rw [Int.natCast_mul,Int.toNat_of_nonneg (by omega)]
   unfold roomBytes;omega
  simp [askRoom,this]
 have k:=LH cap.toNat z.cells (by omega);rw [d] at k;by_cases j:cap.toNat * inf.size=0
 ·have f:cap.toNat=0:=by
   rcases Nat.mul_eq_zero.1 j with h | h
   ·exact h
   ·omega
  simp [Instr.makeSlice,run_underlying hu,i,g,asInt,asIntOf,zd a,wl,dY,t1,t2,t3,t4,run_sizeOf a,f,iY,newRow,newObj,Sem.run];rw [show Array.map (λ_=>(default:a0)) (Array.range 0)=#[] from Array.eq_empty_of_size_eq_zero (by simp)]
 ·simp [Instr.makeSlice,run_underlying hu,i,g,asInt,asIntOf,zd a,wl,dY,t1,t2,t3,t4,run_sizeOf a,j,zeroValue,au,d,newRow,newObj,Sem.run,<-k]
theorem E4 {t e:TypeId} (hu:P.underlying t=some (.pointer e)) (w:al):(Op.equal t (.pointer p) (.pointer none)).run P w=.ok p.isNone w:=by
 have h:∀ d:Nat,(Op.equalIn (d+1) t (.pointer p) (.pointer none)).run P w=.ok p.isNone w:=λd=>by cases p<;>simp [Op.equalIn,run_underlying hu]
 exact h 9999
theorem Fp {t e:TypeId} {c:Nat} (hu:P.underlying t=some (.slice e)) (w:al):(Op.equal t (.slice p l c) (.slice none l' c')).run P w=.ok p.isNone w:=by
 have h:∀ d:Nat,(Op.equalIn (d+1) t (.slice p l c) (.slice none l' c')).run P w=.ok p.isNone w:=λd=>by cases p<;>simp [Op.equalIn,run_underlying hu]
 exact h 9999
theorem ms {u:TypeId} {K:a0->Prop} (b:o.op=.binOp op t x y u) (a:∀ w,(eqGuard op t x y (bT env x) (bT env y)).run P w=.ok () w)
  (c:∀ w,(binOp op t (bT env x) (bT env y)).run P w=.ok v w) (h:K v):lS P env o K:=by
 have he:execOp (bT env) o=(do pure (.value (<- (do eqGuard op t x y (bT env x) (bT env y);binOp op t (bT env x) (bT env y))))):=by unfold execOp;rw [b]
 refine wA he (λw=>?_) h;rw [Sem.run_bind,a];exact c w
theorem HF {g:FuncId} (l:o.op=.call c) (i:c.callee=.value f) (j:bT env f=.func (.func g) first captured) (a:hU P g=true)
  (h:Calls P g (first++c.args.map (bT env)++captured) w λe w'=>qS P (uJ P o.type) λv=>e=.returned v/\K v w'):ll P env o K w:=by
 refine .inr ⟨g,first++c.args.map (bT env)++captured,?_,h.mono λe w' h=>CH h⟩;unfold hU at a;cases b:P.funcs[g]? with
 |none=>simp [b] at a
 |some fn=>
  simp only [b,eH,qg] at a;have d:fn.body≠none:=by intro d;simp [d] at a
  have k:fn.name≠ "runtime.NumGoroutine" :=by simpa using a.2
  unfold execOp;rw [l];simp only [resolve,i,j,Deferred.ofValue,pure_bind,invoke,callFunc];simp [program,Sem.run,b,k,d]
theorem ze {b:Builtin} {k:mn} (e:o.op=.call c) (d:c.callee=.builtin b)
  (a:∀ cs,builtin b c.argTypes o.type cs (c.args.map (bT env))=(do pure (.value (<- s))))
  (h:v8 P s k K w):ll P env o K w:=by
 obtain ⟨v,w',f,h⟩:=rP h;refine .inl ⟨.value v,w',?_,h⟩;unfold execOp;rw [e];simp only [resolve,d,pure_bind,invoke,a];rw [Sem.run_bind,f];rfl
theorem wa {c:IntKind} {a b:Int}:(eqGuard op t x y (.int k a) (.int c b)).run P w=.ok () w:=by cases op<;>rfl
theorem Am:(eqGuard op t x y (.pointer a) (.pointer b)).run P w=.ok () w:=by cases op<;>rfl
theorem AZ {c:Nat}:(eqGuard op t x y (.slice a l c) (.slice b l' c')).run P w=.ok () w:=by cases op<;>rfl
theorem An {K:a0->Prop} (h:uL P env o K):lS P env o K:=by
 unfold uL at h;split at h
 ·rename_i c;split at h
  ·rename_i n;exact IT c n h
  ·exact h.elim
 ·rename_i c;split at h
  ·rename_i a;exact JK c a h
  ·exact h.elim
 ·rename_i c;split at h
  ·rename_i j;split at h
   ·rename_i hu;split at h
    ·rename_i a d;exact IU c j hu a d h
    ·exact h.elim
   ·rename_i hu;split at h
    ·rename_i a d;exact IV c j hu a d h
    ·exact h.elim
   ·exact h.elim
  ·exact h.elim
 ·rename_i c;split at h
  ·rename_i hu;split at h
   ·rename_i a d;split at h
    ·rename_i q p hm g;refine HE c hu a d q p hm ?_ h;rintro ⟨k,l⟩;rw [k] at g;simp at g;exact l g
    ·exact h.elim
   ·exact h.elim
  ·exact pW h
 ·rename_i c;split at h
  ·rename_i a b;split at h
   ·rename_i hu;exact ms c (λw=>by rw [a,b];exact Am) (λw=>by rw [a,b];simp [binOp,E4 hu]) h
   ·exact h.elim
  ·rename_i a b;split at h
   ·rename_i hu;exact ms c (λw=>by rw [a,b];exact Am) (λw=>by rw [a,b];simp [binOp,E4 hu]) h
   ·exact h.elim
  ·rename_i a b;split at h
   ·rename_i hu;exact ms c (λw=>by rw [a,b];exact AZ) (λw=>by rw [a,b];simp [binOp,Fp hu]) h
   ·exact h.elim
  ·rename_i a b;split at h
   ·rename_i hu;exact ms c (λw=>by rw [a,b];exact AZ) (λw=>by rw [a,b];simp [binOp,Fp hu]) h
   ·exact h.elim
  ·rename_i a b;split at h
   ·exact pW h
   ·obtain ⟨rfl,e,h⟩:=h;exact ms c (λw=>by rw [a,b];exact wa) (λw=>by rw [a,b];simp [binOp,Op.intDiv,e]) h
  ·rename_i a b;split at h
   ·exact pW h
   ·obtain ⟨rfl,e,h⟩:=h;exact ms c (λw=>by rw [a,b];exact wa) (λw=>by rw [a,b];simp [binOp,Op.intDiv,e]) h
  ·rename_i a b;split at h
   ·exact pW h
   ·obtain ⟨e,h⟩:=h;have f:¬ _<(0:Int):=Int.not_lt.2 e;exact ms c (λw=>by rw [a,b];exact wa) (λw=>by rw [a,b];simp only [binOp,Op.shift,f,if_false];rfl) h
  ·rename_i a b;split at h
   ·exact pW h
   ·obtain ⟨e,h⟩:=h;have f:¬ _<(0:Int):=Int.not_lt.2 e;exact ms c (λw=>by rw [a,b];exact wa) (λw=>by rw [a,b];simp only [binOp,Op.shift,f,if_false];rfl) h
  ·rename_i a b;obtain ⟨r,i,h⟩:=h;exact ms c (λw=>by rw [a,b];exact (i w).1 _ _ _) (λw=>by rw [a,b];exact (i w).2.1) h
  ·rename_i a b;obtain ⟨r,i,h⟩:=h;exact ms c (λw=>by rw [a,b];exact (i w).1 _ _ _) (λw=>by rw [a,b];exact (i w).2.2) h
  ·exact pW h
 ·exact pW h
theorem rH (h:pS P env o K w):ll P env o K w:=by
 unfold pS at h;split at h
 ·exact (An h).bc
 split at h
 ·rename_i a;exact IS a h
 ·rename_i a;exact HD a h
 ·rename_i a;split at h
  ·rename_i hu i b;split at h
   ·rename_i d;split at h
    ·rename_i f;split at h
     ·exact h.elim
     ·rename_i c;simp only [eH] at c;exact IW a hu i b d f (kp c.1) (Nat.le_of_ble_eq_true c.2) h
    ·exact h.elim
   ·exact h.elim
  ·exact h.elim
 ·rename_i a;split at h
  ·rename_i b;exact ze a b (λ_=>rfl) h
  ·rename_i b;exact ze a b (λ_=>rfl) h
  ·rename_i b;exact ze a b (λ_=>rfl) h
  ·rename_i b;unfold mb at h;split at h
   ·rename_i g;split at h
    ·rename_i e;exact HF a b g e h
    ·exact h.elim
   ·exact h.elim
  ·exact AY h
 ·exact AY h
theorem LI {Q:Exit->Act->aE} (h:ll P env o K w) (a:∀ v w',K v w'->next (act (put env o.dst v)) w'):o.wp P (act env) w next Q:=by
 unfold Oper.wp;rw [rq];rcases h with ⟨n,w',b,h⟩ | ⟨f,args,b,h⟩
 ·rw [b];cases n with
  |value v=>simp only [Oper.upon,kG];exact a _ _ h
  |skip=>simp only [Oper.upon,kG];exact a _ _ h
  | _=>exact h.elim
 ·rw [b];simp only [Oper.upon];refine h.mono λe w' ⟨v,he,h⟩=>?_
  subst he;simp only [kG];exact a _ _ h
theorem te {Q:Exit->Act->aE} (h:ll P env o K w) (a:∀ v w',K v w'->next (act (put env o.dst v)) w'):o.wpIn Fence.wide 0 P (act env) w next Q:=by
 refine ⟨λ_ _=>trivial,?_⟩;show o.uponIn Fence.wide 0 P (act env) next Q ((execOp (act env).eval o).run P w)
 rw [rq];rcases h with ⟨n,w',b,h⟩ | ⟨f,args,b,h⟩
 ·rw [b];cases n with
  |value v=>simp only [Oper.uponIn,kG];exact a _ _ h
  |skip=>simp only [Oper.uponIn,kG];exact a _ _ h
  | _=>exact h.elim
 ·rw [b];simp only [Oper.uponIn];refine ⟨λc=>by simp [Fence.wide] at c,callsIn_wide.2 (h.mono λe w' ⟨v,he,h⟩=>?_)⟩;subst he;simp only [kG];exact a _ _ h
theorem HG {Q:Exit->Act->aE} (k:o.op=.call c) (b:c.callee=.value f) (i:bT env f=.func (.yield l) first captured)
  (h:YieldAt Fence.wide 0 P l (first++c.args.map (bT env)) w λe w'=>qS P (uJ P o.type) λv=>e=.returned v/\K v w') (j:∀ v w',K v w'->next (act (put env o.dst v)) w'):o.wpIn Fence.wide 0 P (act env) w next Q:=by
 refine ⟨λ_ _=>trivial,?_⟩;show o.uponIn Fence.wide 0 P (act env) next Q ((execOp (act env).eval o).run P w)
 rw [rq];obtain ⟨fn,tmps,assign,body,a,g⟩:=h;have n:(execOp (bT env) o).run P w=.ok (.round l fn tmps assign body) w:=by unfold execOp;rw [k];simp only [resolve,b,i,Deferred.ofValue,pure_bind,invoke];exact a
 rw [n];simp only [Oper.uponIn];refine ⟨λb=>by simp [Fence.wide] at b,g.mono λe w' h=>?_⟩;obtain ⟨v,he,d⟩:=CH h;subst he;simp only [kG];exact j _ _ d
theorem JM {Q:Exit->Act->aE} (h:y5 P env o K w) (a:∀ v w',K v w'->next (act (put env o.dst v)) w'):o.wpIn Fence.wide 0 P (act env) w next Q:=by
 unfold y5 at h;split at h
 ·rename_i c d;split at h
  ·rename_i f b;unfold ix at h;split at h
   ·rename_i l first captured e
    exact HG d b e h a
   ·refine te (rH ?_) a;cases o with
    |mk dst op type pos after guard=>
     cases c with
     |mk callee args argTypes=>simp only at d b;subst d;subst b;exact h
  ·exact te (rH h) a
 ·exact te (rH h) a
end
def qm (ops:List Oper) (j:Nat):Option Tmp:=match ops[j]? with | some o=>o.dst | none=>none
def jr (P:Program) (all:List Oper):List Oper->aw->(aw->aE)->aE
 | [],env,K,w=>K env w
 |o::rest,env,K,w=>
  match o.guard with
  |none=>y5 P env o (λv w'=>jr P all rest (put env o.dst v) K w') w
  |some (j,want)=>match qm all j with
   |none=>False
   |some d=>match env[d]? with
    |some (.bool b)=>
     bif b then (match want with
      |true=>pS P (env.set d (.bool true)) o (λv w'=>jr P all rest (put (env.set d (.bool true)) o.dst v) K w') w
      |false=>jr P all rest (put (env.set d (.bool true)) o.dst undef) K w)
     else (match want with
      |true=>jr P all rest (put (env.set d (.bool false)) o.dst undef) K w
      |false=>pS P (env.set d (.bool false)) o (λv w'=>jr P all rest (put (env.set d (.bool false)) o.dst v) K w') w)
    |some _=>jr P all rest (put env o.dst undef) K w
    |none=>False
theorem F4 {ops:Array Oper} {o:Oper} (a:o.guard=none):Region.wanted o (yielded ops (act env).tmps)=true:=by simp [Region.wanted,a]
theorem FY {j:Nat} {d:Tmp} (h:qm all j=some d):yielded all.toArray (act env).tmps j=match env[d]? with | some (.bool b)=>some b | _=>none:=by
 unfold yielded qm at *;cases a:all[j]? with
 |none=>simp [a] at h
 |some o=>
  simp only [a] at h;simp only [tT,a,Option.bind_some,h,act];rcases env[d]? with _ | v
  ·rfl
  ·cases v<;>rfl
theorem nJ {P:Program} {all:List Oper} {Q:Exit->Act->aE}:∀ (l:List Oper) (env:aw) (w:al) (K:aw->aE),
  (∀ env w,K env w->Q .normal (act env) w)->jr P all l env K w->wpListIn Fence.wide 0 P all.toArray Q l (act env) w
 | [],env,w,K,e,h=>e _ _ h
 |o::rest,env,w,K,e,h=>by
  unfold jr at h;unfold wpListIn;cases c:o.guard with
  |none=>simp only [c] at h;rw [if_pos (F4 c)];exact JM h λv w' h=>nJ rest _ _ K e h
  |some p=>
   obtain ⟨j,want⟩:=p;simp only [c] at h;cases aA:qm all j with
   |none=>simp only [aA] at h
   |some d=>
    simp only [aA] at h;have f:=FY (env:=env) aA;cases he:env[d]? with
    |none=>simp only [he] at h
    |some v=>
     have a:env.set d v=env:=by
      apply kr;intro i;rw [iC];split
      ·rename_i g;subst g;have:d<env.length:=by
        rcases nV d env.length with h | h
        ·exact h
        ·rw [kX h] at he;cases he
       rw [if_pos this,he]
      ·rfl
     cases v with
     |bool b=>
      simp only [he] at h;cases b with
      |true=>
       rw [cond_true,a] at h;cases want with
       |true=>simp only at h;rw [if_pos (by simp [Region.wanted,c,f,he])];exact te (rH h) λv w' h=>nJ rest _ _ K e h
       |false=>simp only at h;rw [if_neg (by simp [Region.wanted,c,f,he]),kG];exact ⟨λ_ _=>trivial,nJ rest _ _ K e h⟩
      |false=>
       rw [cond_false,a] at h;cases want with
       |true=>simp only at h;rw [if_neg (by simp [Region.wanted,c,f,he]),kG];exact ⟨λ_ _=>trivial,nJ rest _ _ K e h⟩
       |false=>simp only at h;rw [if_pos (by simp [Region.wanted,c,f,he])];exact te (rH h) λv w' h=>nJ rest _ _ K e h
     | _=>simp only [he] at h;rw [if_neg (by simp [Region.wanted,c,f,he]),kG];exact ⟨λ_ _=>trivial,nJ rest _ _ K e h⟩
section
variable {P:Program} {ops:Array Oper} {Q:Exit->Act->aE} {S:aE} {nd:Nat->Bool}
def rQ (P:Program) (ops:Array Oper) (Q:Exit->Act->aE) (S:aE) (nd:Nat->Bool):Nat->Array Bool->Act->aE
 | 0,cR,a,w=>Region.ready .any ops cR=[]/\Q .normal a w
 |fuel+1,cR,a,w=>
  (Region.ready .any ops cR=[]->Q .normal a w)/\
  ∀ i ∈ Region.ready .any ops cR,wpOp P ops Q i (λb w'=>(nd i=true->S w->S w')/\rQ P ops Q S nd fuel (cR.setIfInBounds i true) b w') a w
theorem s6:∀ (fuel:Nat) (cR:Array Bool) (a:Act) (w:al),rQ P ops Q S nd fuel cR a w->wpAny P .any ops Q fuel cR a w
 | 0,_,_,_,h=>h
 |fuel+1,_,_,_,h=>⟨h.1,λi d=>wpOp_mono (λb w' c=>s6 fuel _ b w' c.2) (h.2 i d)⟩
def kI (ops:Array Oper) (cR:Array Bool):Prop:=∀ j a,ops[j]?=some a->cR.getD j false=true->∀ e ∈ a.after,Region.binds .any e=true->cR.getD e.on false=true
theorem kI.set {cR:Array Bool} {i:Nat} (h:kI ops cR) (g:i ∈ Region.ready .any ops cR):kI ops (cR.setIfInBounds i true):=by
 intro j l c f e he d;by_cases b:j=i
 ·subst b;obtain ⟨_,o,k,a⟩:=mem_ready.1 g;rw [k] at c;cases c;exact getD_set_true (a e he d)
 ·rw [getD_set_ne false (Ne.symm b)] at f;exact getD_set_true (h j l c f e he d)
theorem FN {i:Nat} {L:Bool} (I:ops[i]?=some ke) (p:∀ (j:Nat) (o:Oper) cs b,ops[j]?=some o->o.op≠.select cs b)
  (dp:∀ c a w,Q (.panic c) (a.put ke.dst v) w->Q (.panic c) a w) :
  ∀ (fuel:Nat) (cR:Array Bool) (a:Act) (w:al),kI ops cR->
   (∀ (l2:Array Bool) j t,kI ops l2->(∀ k,cR.getD k false=true->l2.getD k false=true)->l2.getD i true=false->j ∈ Region.ready .any ops l2->ops[j]?=some t->j≠i->cR.getD j true=false->(∀ e ∈ t.after,Region.binds .any e=true->e.on≠i)->ke.apart ops t=true/\(L=true->nd j=true))->
   i ∈ Region.ready .any ops cR->YieldsIf P ops (λw=>L=true->S w) ke v a->(L=true->S w)->
   rQ P ops Q S nd fuel (cR.setIfInBounds i true) (a.put ke.dst v) w->rQ P ops Q S nd (fuel+1) cR a w:=by
 intro fuel;induction fuel with
 |zero=>
  intro cR a w _ _ n F E H;refine ⟨λh=>(by rw [h] at n;cases n),λj x=>?_⟩;by_cases d:j=i
  ·subst d;exact F.wpOp I E ⟨λ_ h=>h,H⟩
  ·have:=ready_mono x d;rw [H.1] at this;cases this
 |succ fuel Z=>
  intro cR a w z f n F E H;refine ⟨λh=>(by rw [h] at n;cases n),λj x=>?_⟩;by_cases d:j=i
  ·subst d;exact F.wpOp I E ⟨λ_ h=>h,H⟩
  ·have r:=H.2 j (ready_mono x d);obtain ⟨l,t,s,y⟩:=mem_ready.1 x;have C:∀ e ∈ t.after,Region.binds .any e=true->e.on≠i:=λe he W heq=>by
    have r:=y e he W;have M:=(mem_ready.1 n).1;rw [heq] at r;rcases nV i cR.size with G | G
    ·simp [G] at M r;rw [M] at r;cases r
    ·simp [wN G] at r
   have A:=f cR j t z (λ_ h=>h) (mem_ready.1 n).1 x s d l C;have R:=wpOp_putIf s A.1 (λcs b=>p i ke cs b I) (λcs b=>p j t cs b s) dp F r;have g:∀ (l2:Array Bool) k ok,kI ops l2->(∀ q,(cR.setIfInBounds j true).getD q false=true->l2.getD q false=true)->l2.getD i true=false->k ∈ Region.ready .any ops l2->ops[k]?=some ok->k≠i->(cR.setIfInBounds j true).getD k true=false->
     (∀ e ∈ ok.after,Region.binds .any e=true->e.on≠i)->ke.apart ops ok=true/\(L=true->nd k=true):=λl2 k ok u T U V X J D K=>by
    refine f l2 k ok u (λq Y=>T q (getD_set_true Y)) U V X J ?_ K;by_cases B:j=k
    ·subst B;exact l
    ·rw [getD_set_ne true B] at D;exact D
   refine wpOp_mono (λO w' u=>⟨u.2.1,Z (cR.setIfInBounds j true) O w' (z.set x) g (ready_mono n (Ne.symm d)) u.1 (λN=>u.2.1 (A.2 N) (E N)) ?_⟩) R;rw [Array.setIfInBounds_comm _ _ d];exact u.2.2
end
def kb:Op->Bool
 | .load ..=>true
 | _=>false
def qn (ops:List Oper) (j i:Nat):Bool:=match ops[j]? with
 |some o=>o.after.any λe=>Region.binds .any e && e.on == i
 |none=>false
def pQ (ops:List Oper) (j:Nat):Bool:=(List.range ops.length).any λi=>i != j && (match ops[i]? with | some o=>kb o.op | none=>false) && !qn ops j i
def rR (m:d9) (o:Oper):d9:=m++[o.after.toList.foldl (λx e=>match Region.binds .any e with | true=>x ||| (1 <<< e.on) ||| m.getD e.on 0 | false=>x) 0]
def Dd (ops:List Oper):d9:=ops.foldl rR []
def rS (ops:List Oper) (j i:Nat):Bool:=((Dd ops).getD j 0).testBit i
def y3 (ops:List Oper) (j:Nat):Bool:=(List.range ops.length).any λi=>i != j && (match ops[i]? with | some o=>kb o.op | none=>false) && !rS ops j i && !rS ops i j
def Mp:Op->Bool
 | .call ..=>true
 | _=>false
def Ny:Op->Bool
 | .indexAddr ..=>true
 | _=>false
def xl (ops:List Oper):Bool:=ops.any λo=>kb o.op && o.after.any λe=>match ops[e.on]? with
 |some p=>Ny p.op && p.after.any λa=>match ops[a.on]? with
  |some q=>Mp q.op
  |none=>false
 |none=>false
def uM (ops:List Oper):Bool->Nat->Bool
 |true=>y3 ops
 |false=>pQ ops
def qo (nd:Nat->Bool) (ops:List Oper) (cR:Array Bool) (i:Nat):Bool:=
 nd i || (List.range ops.length).any λk=>!cR.getD k true && k != i && (match ops[k]? with | some o=>!uu o.op | none=>false) && nd k
def LJ (ops:List Oper):Bool:=ops.any λo=>kb o.op
def De (P:Program) (S:aE) (t:TypeId) (x:a0) (K:a0->Prop):Prop:=
 match x with
 | .pointer (some bu)=>
  match P.info? t with
  |none=>False
  |some inf=>
   match gB P t with
   |true=>match Nat.beq (pL P 8 t).length inf.size with
    |true=>pE (pL P 8 t) λvs=>(∀ w,S w->b7 w bu 0 vs)/\K (.agg vs.toArray)
    |false=>False
   |false=>match P.underlying t with
    |none=>False
    |some d=>oo (vN (some d)) λv=>(∀ w,S w->w.cell? bu=some v)/\K v
 | _=>False
def xQ (P:Program) (S:aE) (env:aw) (o:Oper) (K:a0->Prop):Prop:=
 match o.op with
 | .load t x=>De P S t (bT env x) K
 | _=>uL P env o K
def uv (all:List Oper) (env:aw) (g:Option (Nat×Bool)) (run skip:aw->Prop):Prop:=
 match g with
 |none=>run env
 |some (j,want)=>match qm all j with
  |none=>False
  |some d=>match env[d]? with
   |some (.bool b)=>
    bif b then (match want with | true=>run (env.set d (.bool true)) | false=>skip (env.set d (.bool true)))
    else (match want with | true=>skip (env.set d (.bool false)) | false=>run (env.set d (.bool false)))
   |some _=>skip env
   |none=>False
def yB:List Prop->Prop
 | []=>True
 | [p]=>p
 |p::cn=>p/\yB cn
theorem A0:∀ {cn:List Prop} {p:Prop},yB cn->p ∈ cn->p
 | [q],p,h,hm=>by simp only [w5] at hm;subst hm;exact h
 |q::r::rs,p,h,hm=>by
  rcases dy.1 hm with rfl | hm
  ·exact h.1
  ·exact A0 h.2 hm
def QJ:Bool->Bool->Prop->Prop->Prop
 |true,true,s,p=>s/\p
 |true,false,_,p=>p
 |false,false,_,p=>p
 |false,true,_,_=>False
def yy:Bool->Prop->Prop
 |true,_=>False
 |false,p=>p
def nP (P:Program) (ops:List Oper) (nd:Nat->Bool) (S:aE) (K:aw->aE):Nat->Array Bool->Bool->aw->aE
 | 0,cR,_,env,w=>yy (!(Region.ready .any ops.toArray cR).isEmpty) (K env w)
 |fuel+1,cR,a,env,w=>
  match (Region.ready .any ops.toArray cR).find? (λi=>match ops[i]? with | some o=>(uu o.op || (kb o.op && a)) && Region.free .any ops.toArray cR i | none=>false) with
  |some i=>match ops[i]? with
   |none=>False
   |some o=>uv ops env o.guard (λenv=>xQ P S env o λv=>nP P ops nd S K fuel (cR.setIfInBounds i true) a (put env o.dst v) w)
     (λenv=>nP P ops nd S K fuel (cR.setIfInBounds i true) a (put env o.dst undef) w)
  |none=>match (Region.ready .any ops.toArray cR) with
   | []=>K env w
   |rs=>yB (rs.map λi=>match ops[i]? with
    |none=>False
    |some o=>uv ops env o.guard (λenv=>pS P env o (λv w'=>QJ a (qo nd ops cR i) (S w') (nP P ops nd S K fuel (cR.setIfInBounds i true) (a && qo nd ops cR i) (put env o.dst v) w')) w)
     (λenv=>nP P ops nd S K fuel (cR.setIfInBounds i true) a (put env o.dst undef) w))
theorem HH {S:aE} {o:Oper} (h:xQ P S env o K):∃ v,(∀ w,(kb o.op=true->S w)->(execOp (bT env) o).run P w=.ok (.value v) w)/\K v:=by
 unfold xQ at h;split at h
 ·rename_i t x g;have he:execOp (bT env) o=(do pure (.value (<- Instr.loadAt t (bT env x)))):=by unfold execOp;rw [g]
  have f:kb o.op=true:=by rw [g];rfl
  unfold De at h;split at h
  ·rename_i bu i;split at h
   ·exact h.elim
   ·rename_i inf b;split at h
    ·rename_i a;split at h
     ·rename_i hlen;obtain ⟨vs,e,j,h⟩:=r_ h;obtain ⟨d,aA⟩:=yW a;refine ⟨_,λw c=>?_,h⟩;have k:vs.length=inf.size:=by rw [e];exact kp hlen
      rw [he,Sem.run_bind];simp only [Instr.loadAt,i,Instr.sureAddr,pure_bind,loadVar,Sem.run_bind,oC aA,Result.andThen_ok,a,if_true,run_sizeOf b];have:=run_loadCellsFrom (P:=P) (acc:=#[]) (j w (c f));rw [k] at this;simp [loadCells,this]
     ·exact h.elim
    ·rename_i a;split at h
     ·exact h.elim
     ·rename_i d aA;obtain ⟨v,aj,h⟩:=rP h;refine ⟨_,λw c=>?_,h⟩;rw [he,Sem.run_bind];simp only [Instr.loadAt,i,Instr.sureAddr,pure_bind,loadVar,Sem.run_bind,oC aA,Result.andThen_ok,a];simp [aj w (c f)]
  ·exact h.elim
 ·obtain ⟨v,l,h⟩:=An h;exact ⟨v,λw _=>l w,h⟩
theorem FZ {o:Oper} {run skip:aw->Prop} (h:uv all env o.guard run skip) :
  (Region.wanted o (yielded all.toArray (act env).tmps)=true/\run env)\/(Region.wanted o (yielded all.toArray (act env).tmps)=false/\skip env):=by
 unfold uv at h;cases c:o.guard with
 |none=>simp only [c] at h;exact .inl ⟨F4 c,h⟩
 |some p=>
  obtain ⟨j,want⟩:=p;simp only [c] at h;cases aA:qm all j with
  |none=>simp only [aA] at h
  |some d=>
   simp only [aA] at h;have e:=FY (env:=env) aA;cases he:env[d]? with
   |none=>simp only [he] at h
   |some v=>
    have a:env.set d v=env:=by
     apply kr;intro i;rw [iC];split
     ·rename_i f;subst f;have:d<env.length:=by
       rcases nV d env.length with h | h
       ·exact h
       ·rw [kX h] at he;cases he
      rw [if_pos this,he]
     ·rfl
    cases v with
    |bool b=>
     simp only [he] at h;cases b with
     |true=>
      rw [cond_true,a] at h;cases want with
      |true=>exact .inl ⟨by simp [Region.wanted,c,e,he],h⟩
      |false=>exact .inr ⟨by simp [Region.wanted,c,e,he],h⟩
     |false=>
      rw [cond_false,a] at h;cases want with
      |true=>exact .inr ⟨by simp [Region.wanted,c,e,he],h⟩
      |false=>exact .inl ⟨by simp [Region.wanted,c,e,he],h⟩
    | _=>simp only [he] at h;exact .inr ⟨by simp [Region.wanted,c,e,he],h⟩
theorem Nz {i j:Nat} {g:Oper} (b:ops[i]?=some ke) (k:ops[j]?=some g) (l:kb ke.op=true) (d:j≠i) (f:∀ e ∈ g.after,Region.binds .any e=true->e.on≠i):pQ ops j=true:=by
 unfold pQ;rw [o2];have c:i<ops.length:=by
  rcases nV i ops.length with h | h
  ·exact h
  ·rw [kX h] at b;cases b
 refine ⟨i,dS.2 c,?_⟩;have hw:qn ops j i=false:=by unfold qn;simp only [k];rw [Array.any_eq_false'];intro e he a;simp only [eH,beq_iff_eq] at a;exact f e he a.1 a.2
 simp [b,l,hw,Ne.symm d]
def uT (ops:List Oper) (nd:Nat->Bool):Prop:=∀ (cR l2:Array Bool) (i j:Nat) (ke a:Oper),ops[i]?=some ke->ops[j]?=some a->kb ke.op=true->kI ops.toArray cR->kI ops.toArray l2->
 (∀ k,cR.getD k false=true->l2.getD k false=true)->i ∈ Region.ready .any ops.toArray cR->l2.getD i true=false->j ∈ Region.ready .any ops.toArray l2->j≠i->(∀ e ∈ a.after,Region.binds .any e=true->e.on≠i)->nd j=true
theorem xj (ops:List Oper):uT ops (pQ ops):=λ_ _ i j ke f c d e _ _ _ _ _ _ a b=>Nz c d e a b
inductive k7 (ops:List Oper):Nat->a2
 |one {j o e}:ops[j]?=some o->e ∈ o.after->Region.binds .any e=true->k7 ops j e.on
 |more {j o e i}:ops[j]?=some o->e ∈ o.after->Region.binds .any e=true->k7 ops e.on i->k7 ops j i
theorem k7.cR {l:Array Bool} (d:kI ops.toArray l) {j i:Nat} (h:k7 ops j i):l.getD j false=true->l.getD i false=true:=by
 induction h with
 |one c he a=>exact λb=>d _ _ (by simpa using c) b _ he a
 |more c he a _ e=>exact λb=>e (d _ _ (by simpa using c) b _ he a)
theorem k7.ready {l:Array Bool} (f:kI ops.toArray l) {j i:Nat} (h:k7 ops j i) (g:j ∈ Region.ready .any ops.toArray l):l.getD i false=true:=by
 obtain ⟨_,o,c,b⟩:=mem_ready.1 g;cases h with
 |one a he d=>simp only [tT] at c;rw [c] at a;cases a;exact b _ he d
 |more a he d e=>simp only [tT] at c;rw [c] at a;cases a;exact e.cR f (b _ he d)
theorem F0 {ops:List Oper} {m:d9} {k:Nat} {o:Oper} (f:ops[k]?=some o) (hm:∀ j i,(m.getD j 0).testBit i=true->k7 ops j i):∀ (es:List Edge) (x:Nat),(∀ e ∈ es,e ∈ o.after)->(∀ i,x.testBit i=true->k7 ops k i)->
  ∀ i,(es.foldl (λx e=>match Region.binds .any e with | true=>x ||| (1 <<< e.on) ||| m.getD e.on 0 | false=>x) x).testBit i=true->k7 ops k i
 | [],x,_,d,i,h=>d i h
 |e::es,x,he,d,i,h=>by
  rw [List.foldl_cons] at h;refine F0 f hm es _ (λg l=>he g (e2 _ l)) (λi a=>?_) i h;have c:=he e (d_ ..);cases b:Region.binds .any e with
  |false=>rw [b] at a;exact d i a
  |true=>
   rw [b] at a;simp only [Nat.testBit_or,r2] at a;rcases a with (a | a) | a
   ·exact d i a
   ·rw [Nat.one_shiftLeft,Nat.testBit_two_pow] at a;have:e.on=i:=by simpa using a
    rw [<-this];exact .one f c b
   ·exact .more f c b (hm _ _ a)
theorem Bu (ops:List Oper):∀ j i,((Dd ops).getD j 0).testBit i=true->k7 ops j i:=by
 have main:∀ n,n<=ops.length->((ops.take n).foldl rR []).length=n/\∀ j i,(((ops.take n).foldl rR []).getD j 0).testBit i=true->k7 ops j i:=by
  intro n;induction n with
  |zero=>intro _;refine ⟨rfl,λj i h=>?_⟩;simp at h
  |succ n g=>
   intro k;obtain ⟨a,b⟩:=g (by omega);obtain ⟨o,c⟩:∃ o,ops[n]?=some o:=⟨_,bM (by omega)⟩;rw [eT,c,Option.toList_some,wW];generalize (ops.take n).foldl rR []=M at a b ⊢;simp only [List.foldl_cons,List.foldl_nil];refine ⟨by unfold rR;rw [c8,a];rfl,λj i h=>?_⟩;unfold rR at h;rw [cK,o3] at h;split at h
   ·exact b j i (by rw [cK];exact h)
   ·rename_i f;by_cases d:j=n
    ·subst d;rw [a,m3] at h;exact F0 c b _ 0 (λe he=>by simpa using he) (λi h=>by simp at h) i h
    ·rw [kX (by simp;omega)] at h;simp at h
 have:=main ops.length (dd _);rw [hq] at this;exact this.2
theorem CI {l:Array Bool} {k:Nat} (h:l.getD k true=false):¬ l.getD k false=true:=by
 intro a;rcases nV k l.size with b | b
 ·simp [b] at h a;rw [h] at a;cases a
 ·simp [wN b] at a
theorem L3 (ops:List Oper):uT ops (y3 ops):=by
 intro cR l2 i j ke r h q o n c b f g a e p;unfold y3;rw [o2];have d:i<ops.length:=(kY.1 h).1;refine ⟨i,dS.2 d,?_⟩;have k:rS ops j i=false:=by
  cases hw:rS ops j i with
  |false=>rfl
  |true=>exact absurd ((Bu ops j i hw).ready c a) (CI g)
 have l:rS ops i j=false:=by
  cases hw:rS ops i j with
  |false=>rfl
  |true=>exact absurd (b _ ((Bu ops i j hw).ready n f)) (CI (mem_ready.1 a).1)
 simp [h,o,k,l,Ne.symm e]
theorem Bv (ops:List Oper):∀ b,uT ops (uM ops b)
 |true=>L3 ops
 |false=>xj ops
theorem mB {P:Program} {ops:List Oper} {nd:Nat->Bool} (l:uT ops nd) {S:aE} {K:aw->aE} {Q:Exit->Act->aE} (C:Region.noSelect ops.toArray=true)
  (B:∀ env w,K env w->Q .normal (act env) w) (dp:∀ c a w,¬ Q (.panic c) a w) :
  ∀ (fuel:Nat) (cR:Array Bool) (d:Bool) (env:aw) (w:al),kI ops.toArray cR->(d=true->S w)->nP P ops nd S K fuel cR d env w->rQ P ops.toArray Q S nd fuel cR (act env) w
 | 0,cR,d,env,w,g,A,h=>by
  unfold nP at h;unfold rQ;cases y:Region.ready .any ops.toArray cR with
  |nil=>simp [y,yy] at h;exact ⟨rfl,B _ _ h⟩
  |cons x xs=>simp [y,yy] at h
 |fuel+1,cR,d,env,w,g,A,h=>by
  unfold nP at h;split at h
  ·rename_i i q;have f:=List.mem_of_find?_eq_some q;have J:=List.find?_some q;cases z:ops[i]? with
   |none=>simp only [z] at h
   |some o=>
    simp only [z] at h;simp only [z,eH,r2] at J;have s:ops.toArray[i]?=some o:=by simpa using z
    have t:kb o.op=true->d=true:=by
     intro F;rcases J.1 with G | G
     ·revert G F;cases o.op<;>simp [uu,kb]
     ·exact G.2
    have r:∀ (l2:Array Bool) j H,kI ops.toArray l2->(∀ k,cR.getD k false=true->l2.getD k false=true)->l2.getD i true=false->j ∈ Region.ready .any ops.toArray l2->ops.toArray[j]?=some H->j≠i->cR.getD j true=false->(∀ e ∈ H.after,Region.binds .any e=true->e.on≠i)->o.apart ops.toArray H=true/\(kb o.op=true->nd j=true):=
     λl2 j H R T U V O I M u=>⟨Region.free_spec s J.2 j H O I M u,λF=>l cR l2 i j o H z (by simpa using O) F g R T f U V I u⟩
    rcases FZ h with ⟨hw,h⟩ | ⟨hw,h⟩
    ·obtain ⟨v,y,h⟩:=HH h;refine FN (L:=kb o.op) (v:=v) s (Region.noSelect_spec C) (λc a w h=>(dp _ _ _ h).elim) fuel cR (act env) w g r f ?_ (λF=>A (t F)) ?_
     ·exact .inl ⟨hw,λw A=>by rw [rq];exact y w A⟩
     ·rw [kG];exact mB l C B dp fuel _ d _ w (g.set f) A h
    ·refine FN (L:=kb o.op) (v:=undef) s (Region.noSelect_spec C) (λc a w h=>(dp _ _ _ h).elim) fuel cR (act env) w g r f (.inr ⟨hw,rfl⟩) (λF=>A (t F)) ?_;rw [kG];exact mB l C B dp fuel _ d _ w (g.set f) A h
  ·cases y:Region.ready .any ops.toArray cR with
   |nil=>simp only [y] at h;exact ⟨λ_=>B _ _ h,by rw [y];simp⟩
   |cons x xs=>
    simp only [y] at h;refine ⟨λN=>(by rw [y] at N;cases N),λi E=>?_⟩;have n:=g.set E;rw [y] at E;have s:=A0 h (cD.2 ⟨i,E,rfl⟩);cases z:ops[i]? with
    |none=>simp only [z] at s
    |some o=>
     simp only [z] at s;unfold wpOp;simp only [tT,z];rcases FZ s with ⟨hw,s⟩ | ⟨hw,s⟩
     ·rw [if_pos hw];refine .inl (LI (rH s) λv w' h=>?_);have u:qo nd ops cR i=false->¬ nd i=true:=by intro W X;simp [qo,X] at W
      cases p:d with
      |true=>
       cases b:qo nd ops cR i with
       |true=>rw [p,b] at h;exact ⟨λ_ _=>h.1,mB l C B dp fuel _ _ _ w' n (λ_=>h.1) h.2⟩
       |false=>rw [p,b] at h;exact ⟨λD=>absurd D (u b),mB l C B dp fuel _ _ _ w' n (λD=>by simp at D) h⟩
      |false=>
       cases b:qo nd ops cR i with
       |true=>rw [p,b] at h;exact h.elim
       |false=>rw [p,b] at h;exact ⟨λD=>absurd D (u b),mB l C B dp fuel _ _ _ w' n (λD=>by simp at D) h⟩
     ·rw [if_neg (by simp [hw]),kG];exact ⟨λ_ h=>h,mB l C B dp fuel _ d _ w n A s⟩
def sl (P:Program) (ops:List Oper) (env:aw) (K:aw->aE) (w:al):Prop:=
 match LJ ops with
 |true=>∀ w1,w1=w.drew->∃ S:aE,S w1/\nP P ops (uM ops (xl ops)) S K ops.length (Array.replicate ops.length false) true env w1
 |false=>∀ w1,w1=w.drew->nP P ops (pQ ops) (λ_=>True) K ops.length (Array.replicate ops.length false) true env w1
theorem vW (ops:Array Oper) (n:Nat):kI ops (Array.replicate n false):=by
 intro j b _ a;exfalso;rcases nV j n with h | h
 ·simp [h] at a
 ·simp [h] at a
theorem G2 (hm:P.follows .mixedOrders=true) {id:Nat} {K:aw->aE} {Q:Exit->Act->aE} (d:Region.noSelect ops.toArray=true)
  (b:∀ env w,K env w->Q .normal (act env) w) (dp:∀ c a w,¬ Q (.panic c) a w) (h:sl P ops env K w):(Code.region id ops.toArray true).wp P Q (act env) w:=by
 unfold sl at h;split at h
 ·obtain ⟨S,e,h⟩:=h _ rfl;refine wp_region_any hm (s6 (S:=S) (nd:=uM ops (xl ops)) _ _ _ _ ?_);have:=mB (Bv ops _) d b dp _ _ _ _ _ (vW _ _) (λ_=>e) h;simpa using this
 ·refine wp_region_any hm (s6 (S:=λ_=>True) (nd:=pQ ops) _ _ _ _ ?_);have:=mB (xj ops) d b dp _ _ _ _ _ (vW _ _) (λ_=>trivial) (h _ rfl);simpa using this
def o7 (Q:Exit->aw->aE):Exit->Act->aE
 | .panic _,_,_=>False
 | .outgrown,_,_=>False
 |e,a,w=>a.defers=[]/\Q e a.tmps.toList w
theorem iK {e:Exit} (h:Q e env w) (he:(∀ c,e≠.panic c)/\e≠.outgrown):o7 Q e (act env) w:=by
 cases e with
 |panic c=>exact absurd rfl (he.1 c)
 |outgrown=>exact absurd rfl he.2
 | _=>exact ⟨rfl,by simpa [act] using h⟩
theorem pO {e:Exit} {a:Act} (h:o7 Q e a w):((∀ c,e≠.panic c)/\e≠.outgrown)/\∃ env,a=act env/\Q e env w:=by
 have mk:∀ (a:Act),a.defers=[]->a=act a.tmps.toList:=λa b=>by
  cases a with
  |mk t d=>simp only at b;subst b;simp [act]
 cases e with
 |panic c=>exact h.elim
 |outgrown=>exact h.elim
 |normal=>exact ⟨⟨λ_=>by simp,by simp⟩,_,mk a h.1,h.2⟩
 |exit i=>exact ⟨⟨λ_=>by simp,by simp⟩,_,mk a h.1,h.2⟩
 |goto i=>exact ⟨⟨λ_=>by simp,by simp⟩,_,mk a h.1,h.2⟩
 |ret=>exact ⟨⟨λ_=>by simp,by simp⟩,_,mk a h.1,h.2⟩
def cx (P:Program) (c:Code) (env:aw) (Q:Exit->aw->aE) (w:al):Prop:=c.wp P (o7 Q) (act env) w
def a1 (next:aw->aE) (Q:Exit->aw->aE):Exit->aw->aE
 | .normal,env,w=>next env w
 |e,env,w=>Q e env w
def aW (id:Nat) (Q:Exit->aw->aE):Exit->aw->aE
 | .exit i,env,w=>match Nat.beq i id with
  |true=>Q .normal env w
  |false=>Q (.exit i) env w
 |e,env,w=>Q e env w
def W (P:Program):Code->aw->(Exit->aw->aE)->aE
 | .skip,env,Q,w=>Q .normal env w
 | .region _ ops draw,env,Q,w=>match draw with
  |false=>jr P ops.toList ops.toList env (Q .normal) w
  |true=>match Region.noSelect ops with
   |true=>sl P ops.toList env (Q .normal) w
   |false=>False
 | .seq a b,env,Q,w=>W P a env (a1 (λenv w=>W P b env Q w) Q) w
 | .cond c x y,env,Q,w=>match bT env c with
  | .bool b=>bif b then W P x env Q w else W P y env Q w
  | _=>False
 | .block id c,env,Q,w=>W P c env (aW id Q) w
 | .exit id,env,Q,w=>Q (.exit id) env w
 | .ret,env,Q,w=>Q .ret env w
 |c,env,Q,w=>cx P c env Q w
theorem oJ {P:Program} (hm:P.follows .mixedOrders=true):∀ (c:Code) (env:aw) (Q:Exit->aw->aE) (w:al),W P c env Q w->cx P c env Q w
 | .skip,env,Q,w,h=>wp_skip (iK h ⟨λ_=>by simp,by simp⟩)
 | .region id ops draw,env,Q,w,h=>by
  unfold W at h;cases draw with
  |false=>simp only at h;exact wpIn_wide.1 (wpIn_region_list (n:=0) (nJ (all:=ops.toList) ops.toList env w (Q .normal) (λenv w o=>iK o ⟨λ_=>by simp,by simp⟩) h))
  |true=>
   simp only at h;split at h
   ·rename_i q;have:=G2 (id:=id) hm (Q:=o7 Q) (by simpa using q) (λenv w o=>iK o ⟨λ_=>by simp,by simp⟩) (λc a w h=>h.elim) h;unfold cx;simpa using this
   ·exact h.elim
 | .seq a b,env,Q,w,h=>by
  have k:=oJ hm a env _ w h;refine wp_seq (wp_mono k λe p w' f=>?_);obtain ⟨he,g,l,d⟩:=pO f;subst l;clear f;cases e with
  |normal=>exact oJ hm b g Q w' d
  |panic c=>exact absurd rfl (he.1 c)
  |outgrown=>exact absurd rfl he.2
  |exit i=>exact iK d he
  |goto i=>exact iK d he
  |ret=>exact iK d he
 | .cond c x y,env,Q,w,h=>by
  unfold W at h;split at h
  ·rename_i b j;refine wp_cond (t:=b) (by rw [rq];exact j) ?_;cases b with
   |true=>exact oJ hm x env Q w h
   |false=>exact oJ hm y env Q w h
  ·exact h.elim
 | .block id c,env,Q,w,h=>by
  have k:=oJ hm c env _ w h;refine wp_block (wp_mono k λe p w' f=>?_);obtain ⟨he,g,l,d⟩:=pO f;subst l;clear f;cases e with
  |exit i=>
   simp only [aW] at d;simp only [Exit.inBlock];cases j:Nat.beq i id with
   |true=>rw [j] at d;rw [if_pos (kp j)];exact iK d ⟨λ_=>by simp,by simp⟩
   |false=>rw [j] at d;rw [if_neg (zW j)];exact iK d he
  |panic c=>exact absurd rfl (he.1 c)
  |outgrown=>exact absurd rfl he.2
  |normal=>exact iK d he
  |goto i=>exact iK d he
  |ret=>exact iK d he
 | .exit id,env,Q,w,h=>wp_exit (iK h ⟨λ_=>by simp,by simp⟩)
 | .ret,env,Q,w,h=>wp_ret (iK h ⟨λ_=>by simp,by simp⟩)
 | .loop _,_,_,_,h=>h
 | .rangeFunc ..,_,_,_,h=>h
 | .scope _,_,_,_,h=>h
 | .label _,_,_,_,h=>h
 | .goto _,_,_,_,h=>h
 | .refuse _,_,_,_,h=>h
theorem IX {Q:Exit->Act->aE} {a:Act} {c:Code} (a5:Nat->Act->aE) (z:Nat) (u:a5 z a w)
  (round:∀ n a w,a5 n a w->c.wp P (Exit.then (λh w'=>∃ m,m<n/\a5 m h w') Q) a w):(Code.loop c).wp P Q a w:=by
 intro b k cs;have key:∀ n a w,a5 n a w->
   ∃ e h w',Q e h w'/\Arrives P (lone (b.at a (.code c::.inLoop c::k)) cs w) b k cs e h w':=by
  intro n;induction n using Nat.strongRecOn with
  | _ n y=>
   intro a w t;obtain ⟨e,i,j,f,d⟩:=round n a w t b (.inLoop c::k) cs;cases e with
   |normal=>obtain ⟨m,p,o⟩:=f;obtain ⟨s,r,A,q,g⟩:=y m p i j o;exact ⟨s,r,A,q,.of_steps (Steps.trans d (.one step_inLoop)) g⟩
   |exit id=>exact ⟨_,i,j,f,.pass (x:=.inLoop c) rfl (λ_ _=>.inl (by simp)) d⟩
   |goto l=>exact ⟨_,i,j,f,.pass (x:=.inLoop c) rfl (λ_ _=>.inl (by simp)) d⟩
   |ret=>exact ⟨_,i,j,f,.pass (x:=.inLoop c) rfl (λ_ _=>.inl (by simp)) d⟩
   |panic B=>exact ⟨_,i,j,f,.pass (x:=.inLoop c) rfl (λ_ _=>.inl (by simp)) d⟩
   |outgrown=>exact ⟨_,i,j,f,.pass (x:=.inLoop c) rfl (λ_ _=>.inl (by simp)) d⟩
 obtain ⟨e,h,w',f,d⟩:=key _ a w u;exact ⟨e,h,w',f,.of_steps (.one step_loop) d⟩
theorem c1 (hm:P.follows .mixedOrders=true) {c:Code}
  (a5:Nat->aw->aE) (h:Nat) (j:a5 h env w)
  (o:∀ n env w,a5 n env w->W P c env (a1 (λb w'=>∃ m,m<n/\a5 m b w') Q) w):cx P (.loop c) env Q w:=by
 refine IX (λn a w=>∃ env,a=act env/\a5 n env w) h ⟨env,rfl,j⟩ ?_;rintro n a w ⟨env,rfl,k⟩;refine wp_mono (oJ hm c env _ w (o n env w k)) λe p w' d=>?_
 obtain ⟨he,b,l,f⟩:=pO d;subst l;clear d;cases e with
 |normal=>obtain ⟨m,hm,g⟩:=f;exact ⟨m,hm,b,rfl,g⟩
 |panic c=>exact absurd rfl (he.1 c)
 |outgrown=>exact absurd rfl he.2
 |exit i=>exact iK f he
 |goto i=>exact iK f he
 |ret=>exact iK f he
def sub:Code->d9->Code
 |c,[]=>c
 | .seq a b,n::p=>match n with | 0=>sub a p | _=>sub b p
 | .cond _ a b,n::p=>match n with | 0=>sub a p | _=>sub b p
 | .block _ c,_::p=>sub c p
 | .loop c,_::p=>sub c p
 | .scope c,_::p=>sub c p
 | .rangeFunc _ _ a b,n::p=>match n with | 0=>sub a p | _=>sub b p
 |c,_=>c
def bh (fn:Func):Code:=match fn.body with | some c=>c | none=>.skip
def mT (P:Program):List ResultVar->aw->(aw->Prop)->aE
 | [],_,K,_=>K []
 | .tmp t::rs,env,K,w=>mT P rs env (λvs=>K (env.getD t undef::vs)) w
 | .cell a t::rs,env,K,w=>nh P t (env.getD a undef) (λv w'=>w'=w/\mT P rs env (λvs=>K (v::vs)) w) w
def rm:aw->a0
 | [v]=>v
 |vs=>.tuple vs.toArray
def dh (P:Program) (fn:Func) (R:cp):Exit->aw->aE
 | .normal,env,w=>mT P fn.results.toList env (λvs=>R (rm vs) w) w
 | .ret,env,w=>mT P fn.results.toList env (λvs=>R (rm vs) w) w
 | _,_,_=>False
theorem SI {x:a0} {K:cp} (h:nh P t x K w):∃ v,(do loadVar t (<- asAddr x):Sem a0).run P w=.ok v w/\K v w:=by
 unfold nh at h;split at h
 ·rename_i bu;split at h
  ·exact h.elim
  ·rename_i inf b;split at h
   ·rename_i a;split at h
    ·rename_i hlen;obtain ⟨vs,e,c,h⟩:=r_ h;obtain ⟨d,aA⟩:=yW a;refine ⟨_,?_,h⟩;have f:vs.length=inf.size:=by rw [e];exact kp hlen
     simp only [asAddr,pure_bind,loadVar,Sem.run_bind,oC aA,Result.andThen_ok,a,if_true,run_sizeOf b];have:=run_loadCellsFrom (P:=P) (acc:=#[]) c;rw [f] at this;simp [loadCells,this]
    ·exact h.elim
   ·rename_i a;split at h
    ·exact h.elim
    ·rename_i d aA;obtain ⟨v,aj,h⟩:=rP h;refine ⟨_,?_,h⟩;simp only [asAddr,pure_bind,loadVar,Sem.run_bind,oC aA,Result.andThen_ok,a];simp [aj]
 ·exact h.elim
theorem wB {P:Program} {env:aw} {w:al}:∀ (rs:List ResultVar) (K:aw->Prop),mT P rs env K w->
  ∃ vs,(rs.mapM fun | .tmp t=>pure (env.toArray.getD t undef) | .cell a t=>do loadVar t (<- asAddr (env.toArray.getD a undef)):Sem aw).run P w=.ok vs w/\K vs
 | [],K,h=>⟨[],rfl,h⟩
 | .tmp t::rs,K,h=>by obtain ⟨vs,b,h⟩:=wB rs _ h;refine ⟨_,?_,h⟩;rw [List.mapM_cons];simp only [pure_bind,Sem.run_bind,b,Result.andThen_ok,Sem.run_pure];simp [cK]
 | .cell a t::rs,K,h=>by
  obtain ⟨v,aj,hw,h⟩:=SI h;obtain ⟨vs,b,h⟩:=wB rs _ h;refine ⟨_,?_,h⟩;rw [List.mapM_cons];have e:env.toArray.getD a undef=env.getD a undef:=by simp [cK]
  simp only [e] at b ⊢;rw [Sem.run_bind,aj];simp only [Result.andThen_ok,Sem.run_bind,b,Sem.run_pure]
theorem vX (h:mT P fn.results.toList env (λvs=>K (rm vs)) w):∃ v,(results fn env.toArray).run P w=.ok v w/\K v:=by
 obtain ⟨vs,b,h⟩:=wB _ _ h;refine ⟨_,?_,h⟩;unfold results;rw [Array.mapM_eq_mapM_toList];simp only [Sem.run_bind,Sem.run_map,Sem.run_pure];refine Eq.trans (congrArg (λr:Result aw=>(r.andThen λa w'=>Result.ok a.toArray w').andThen λa w'=>Result.ok (if h:a.size=1 then a[0] else Value.tuple a) w') b) ?_;simp only [Result.andThen_ok];congr 1
 match vs with
 | []=>rfl
 | [v]=>rfl
 |v::u::r=>simp [rm]
def bd (P:Program) (fn:Func) (args:aw) (R:cp) (w:al):Prop:=
 match fn.body with
 |some c=>W P c (args++List.replicate (fn.ntmps - args.length) undef) (dh P fn R) w
 |none=>False
theorem JN (hm:P.follows .mixedOrders=true) {f:FuncId} {args:aw} (o:P.funcs[f]?=some fn)
  (h:bd P fn args R w):Calls P f args.toArray w λe w'=>∃ v,e=.returned v/\R v w':=by
 unfold bd at h;split at h
 ·rename_i c n;refine calls_of_wp o n ?_;have j:=oJ hm c _ _ w h;have k:cx P c (args++List.replicate (fn.ntmps - args.length) undef) (dh P fn R) w=c.wp P (o7 (dh P fn R)) { tmps:=args.toArray++Array.replicate (fn.ntmps - args.toArray.size) undef,defers:=[] } w:=by unfold cx act;congr 2;simp
  rw [k] at j;refine wp_mono j λe p w' b=>?_
  obtain ⟨he,a,l,d⟩:=pO b;subst l;clear b;cases e with
  |normal=>obtain ⟨v,aj,g⟩:=vX (P:=P) (fn:=fn) (env:=a) (w:=w') (K:=λv=>R v w') d;exact ⟨rfl,v,aj,v,rfl,g⟩
  |ret=>obtain ⟨v,aj,g⟩:=vX (P:=P) (fn:=fn) (env:=a) (w:=w') (K:=λv=>R v w') d;exact ⟨rfl,v,aj,v,rfl,g⟩
  |panic c=>exact absurd rfl (he.1 c)
  |outgrown=>exact absurd rfl he.2
  |exit i=>exact d.elim
  |goto i=>exact d.elim
 ·exact h.elim
def bC (P:Program) (fn:Func) (R:cp) (Q:Exit->aw->aE):Exit->aw->aE
 | .ret,env,w=>dh P fn R .ret env w
 |e,env,w=>Q e env w
theorem NA (h:∀ env w,Q .ret env w=dh P fn R .ret env w):bC P fn R Q=Q:=by funext e env w;cases e<;>first | rfl | exact (h env w).symm
theorem yr {c:Code} (h:∀ env w,Q .ret env w=dh P fn R .ret env w):W P c env (bC P fn R Q) w=W P c env Q w:=by rw [NA h]
theorem ev (h:N env w):a1 N Q .normal env w:=h
theorem oU {k:Nat} (h:Q (.exit k) env w):a1 N Q (.exit k) env w:=h
theorem oF {k:Nat} (h:Q .normal env w):aW k Q .normal env w:=h
theorem oG {k:Nat} (h:Q .normal env w):aW k Q (.exit k) env w:=by
 show match Nat.beq k k with
  |true=>Q .normal env w
  |false=>Q (.exit k) env w
 rw [Nat.beq_refl k];exact h
noncomputable def eJ (n:Nat):(a4->Prop)->Prop:=@Nat.rec (λ_=>(a4->Prop)->Prop) (λK=>K []) (λ_ a K=>∃ x:Int,a λl=>K (x::l)) n
theorem CJ:∀ (n:Nat) (l:a4),l.length=n->∀ {K:a4->Prop},K l->eJ n K
 | 0,l,h,K,a=>by have:l=[]:=fb h;subst this;exact a
 |n+1,[],h,_,_=>by cases h
 |n+1,x::l,h,K,a=>⟨x,CJ n l (by simpa using h) a⟩
attribute [irreducible] bd W sub bh
end Go.bn
