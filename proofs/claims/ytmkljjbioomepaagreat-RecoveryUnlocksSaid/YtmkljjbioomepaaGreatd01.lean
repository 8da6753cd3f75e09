import Derived.OrdersHeld
import Derived.KernelRfl
import Derived.Tactics
import Derived.Laws.World
import Derived.TacticsIn
import Derived.RangeFuncSeq
set_option linter.all false
namespace Go
abbrev ak:=World
abbrev a4:=Value
abbrev aX:=Addr
abbrev an:=Option Addr
abbrev ax:=List Value
abbrev cT:=List Nat
abbrev a8:=List Int
abbrev aF:=World->Prop
abbrev cz:=Value->World->Prop
abbrev a6:=Nat->Prop
abbrev yF:=@Array.getElem?_eq_none
abbrev vl:=@Array.getElem?_eq_some_iff
abbrev yL:=@Array.getElem?_modify
abbrev ep:=@Bool.and_eq_true
abbrev ry:=@Bool.false_eq_true
abbrev tk:=@Bool.not_eq_false
abbrev qc:=@Bool.not_eq_true'
abbrev vB:=@Bool.or_eq_true
abbrev vD:=@Bool.true_and
abbrev vG:=@Int.emod_lt_of_pos
abbrev vm:=@Int.emod_nonneg
abbrev p8:=@Int.eq_ofNat_of_zero_le
abbrev vo:=@Int.fdiv_eq_ediv_of_nonneg
abbrev yH:=@Int.tdiv_eq_ediv_of_nonneg
abbrev yI:=@Int.tmod_eq_emod_of_nonneg
abbrev fD:=@Int.toNat_natCast
abbrev vv:=@List.all_cons
abbrev yJ:=@List.all_eq_false
abbrev fE:=@List.all_eq_true
abbrev yK:=@List.any_eq_false
abbrev qa:=@List.any_eq_true
abbrev lF:=@List.append_assoc
abbrev BE:=@List.append_eq_nil_iff
abbrev jJ:=@List.append_nil
abbrev vw:=@List.drop_drop
abbrev oZ:=@List.drop_eq_getElem_cons
abbrev BF:=@List.drop_eq_nil_of_le
abbrev ru:=@List.drop_length
abbrev vx:=@List.drop_zero
abbrev fF:=@List.eq_nil_of_length_eq_zero
abbrev rv:=@List.exists_cons_of_ne_nil
abbrev jK:=@List.ext_getElem?
abbrev BG:=@List.filter_append
abbrev BH:=@List.flatten_append
abbrev hg:=@List.flatten_cons
abbrev yM:=@List.foldl_append
abbrev vy:=@List.foldl_cons
abbrev dq:=@List.getD_eq_getElem?_getD
abbrev qb:=@List.getElem?_append
abbrev h3:=@List.getElem?_append_left
abbrev h4:=@List.getElem?_append_right
abbrev n4:=@List.getElem?_cons_succ
abbrev rz:=@List.getElem?_cons_zero
abbrev kv:=@List.getElem?_drop
abbrev bE:=@List.getElem?_eq_getElem
abbrev iF:=@List.getElem?_eq_none
abbrev BI:=@List.getElem?_eq_none_iff
abbrev lG:=@List.getElem?_eq_some_iff
abbrev yN:=@List.getElem?_inj
abbrev dS:=@List.getElem?_map
abbrev rA:=@List.getElem?_modify
abbrev j6:=@List.getElem?_range
abbrev BJ:=@List.getElem?_replicate
abbrev im:=@List.getElem?_set
abbrev gN:=@List.getElem?_set_ne
abbrev g5:=@List.getElem?_set_self
abbrev m4:=@List.getElem?_take
abbrev tl:=@List.getElem?_take_of_lt
abbrev vz:=@List.getElem?_toArray
abbrev BK:=@List.getElem?_zip_eq_some
abbrev kY:=@List.getElem_mem
abbrev yO:=@List.getElem_of_mem
abbrev dy:=@List.length_append
abbrev hh:=@List.length_cons
abbrev lH:=@List.length_drop
abbrev tm:=@List.length_eq_one_iff
abbrev lI:=@List.length_eq_zero_iff
abbrev vA:=@List.length_filter_le
abbrev fZ:=@List.length_map
abbrev qd:=@List.length_nil
abbrev vC:=@List.length_pos_iff
abbrev lJ:=@List.length_range
abbrev yP:=@List.length_replicate
abbrev o0:=@List.length_set
abbrev tn:=@List.length_singleton
abbrev o1:=@List.length_tail
abbrev iG:=@List.length_take
abbrev jn:=@List.map_append
abbrev rB:=@List.map_congr_left
abbrev gj:=@List.map_cons
abbrev rC:=@List.map_map
abbrev vE:=@List.map_nil
abbrev iH:=@List.map_set
abbrev iq:=@List.mem_append
abbrev vF:=@List.mem_append_left
abbrev eU:=@List.mem_cons
abbrev fw:=@List.mem_cons_of_mem
abbrev eO:=@List.mem_cons_self
abbrev tp:=@List.mem_filter
abbrev o2:=@List.mem_flatten
abbrev ei:=@List.mem_iff_getElem?
abbrev cZ:=@List.mem_map
abbrev b5:=@List.mem_of_getElem?
abbrev o3:=@List.mem_of_mem_drop
abbrev yQ:=@List.mem_of_mem_eraseIdx
abbrev rD:=@List.mem_of_mem_tail
abbrev tq:=@List.mem_of_mem_take
abbrev lK:=@List.mem_or_eq_of_mem_set
abbrev fs:=@List.mem_range
abbrev yR:=@List.mem_replicate
abbrev n3:=@List.mem_singleton
abbrev m2:=@List.nil_append
abbrev lD:=@List.not_mem_nil
abbrev Bz:=@List.pairwise_cons
abbrev BA:=@List.pairwise_iff_getElem
abbrev ku:=@List.range_succ
abbrev tg:=@List.range_succ_eq_map
abbrev rq:=@List.replicate_succ
abbrev BB:=@List.set_append_right
abbrev th:=@List.set_comm
abbrev BC:=@List.set_cons_succ
abbrev yG:=@List.set_cons_zero
abbrev jI:=@List.sum_cons
abbrev ff:=@List.take_add_one
abbrev h0:=@List.take_length
abbrev h1:=@List.take_of_length_le
abbrev H_:=@List.take_succ_eq_append_getElem
abbrev vn:=@Nat.add_assoc
abbrev rr:=@Nat.add_mul
abbrev mb:=@Nat.add_zero
abbrev kW:=@Nat.eq_of_beq_eq_true
abbrev vp:=@Nat.eq_zero_or_pos
abbrev vq:=@Nat.le_of_not_lt
abbrev cY:=@Nat.le_refl
abbrev lE:=@Nat.le_trans
abbrev gi:=@Nat.lt_of_lt_of_le
abbrev oY:=@Nat.lt_or_ge
abbrev p9:=@Nat.lt_succ_iff_lt_or_eq
abbrev ti:=@Nat.mod_eq_of_lt
abbrev vr:=@Nat.mul_comm
abbrev p_:=@Nat.mul_le_mul
abbrev tj:=@Nat.mul_le_mul_right
abbrev BD:=@Nat.ne_of_beq_eq_false
abbrev m3:=@Nat.sub_self
abbrev h2:=@Nat.succ_mul
abbrev gM:=@Nat.zero_add
abbrev vt:=@Nat.zero_le
abbrev vu:=@Nat.zero_mul
abbrev kX:=@Option.map_eq_some_iff
abbrev mc:=@Option.map_some
abbrev me:=@Option.some.inj
abbrev fg:=@Option.some.injEq
end Go
namespace Go.bs
variable {K:a4->Prop} {N:ax->aF} {P:Program} {Q:Exit->ax->aF} {R:cz} {a b p:an} {all ops:List Oper} {c:Call} {c' cap l l' len:Nat} {captured first:Array a4} {env:ax} {f x y:Operand} {fn:Func} {h m n:Int} {inf:TypeInfo} {k:IntKind} {next:Act->aF} {kK:Oper} {op:BinOp} {q:aX} {s:Sem a4} {t:TypeId} {v:a4} {w w':ak}
def ch (env:ax):Operand->a4
 | .tmp t=>env.getD t undef
 | .const v=>v
 | .global g=>.pointer (some ⟨g,0,none⟩)
 | .func f=>.func (.func f) #[] #[]
def ag (j:ax):Nat->Nat->ax->ax
 | _,0,r=>r
 |a,n+1,r=>j.getD a undef::ag j (a+1) n r
def bD:Nat->ax->ax
 | 0,r=>r
 |n+1,r=>undef::bD n r
def put (env:ax):Option Tmp->a4->ax
 |some d,v=>env.set d v
 |none,_=>env
def act (env:ax):Act:={ tmps:=env.toArray,defers:=[] }
theorem s5 (env:ax):(act env).eval=ch env:=by
 funext x;cases x with
 |tmp t=>simp only [Act.eval,act,ch,Array.getD_eq_getD_getElem?,vz,dq]
 |const v=>rfl
 |global g=>rfl
 |func f=>rfl
theorem lg (env:ax) (d:Option Tmp) (v:a4):(act env).put d v=act (put env d v):=by
 cases d with
 |none=>rfl
 |some d=>simp [Act.put,act,put]
def single:a4->Bool
 | .agg _=>false
 | .tuple _=>false
 | _=>true
def oP {α:Type} (P:Program):Sem α->(α->aF)->aF
 | .pure a,K,w=>K a w
 | .load _ a k,K,w=>∃ v,w.cell? a=some v/\oP P (k v) K w
 | .store _ a v k,K,w=>(∃ u,w.cell? a=some u)/\w.frozen? a=false/\single v=true/\∀ w1,w1=w.setCell a v->oP P k K w1
 | .new o k,K,w=>∀ b w1,b=w.heap.size->w1=w.alloc o->oP P (k b) K w1
 | .shape r k,K,w=>oP P (k (w.shape? r)) K w
 | .frozen a k,K,w=>oP P (k (w.frozen? a)) K w
 | .program k,K,w=>oP P (k P) K w
 | .mark _ k,K,w=>oP P k K w
 | _,_,_=>False
theorem B7 {α:Type} {m:Mode} {a:aX} {k:Sem α} (b:∃ u,w.cell? a=some u) (c:w.frozen? a=false) (al:single v=true) :
  (Sem.store m a v k).run P w=k.run P (w.setCell a v):=by
 obtain ⟨u,hu⟩:=b;cases v<;>simp [single] at al<;>simp [Sem.run,hu,c]
theorem LU {α:Type} (s:Sem α):∀ {K:α->aF} {w:ak},oP P s K w->∃ a w',s.run P w=.ok a w'/\K a w':=by
 induction s with
 |pure a=>intro K w h;exact ⟨a,w,rfl,h⟩
 |load m a k b=>intro K w h;obtain ⟨v,al,h⟩:=h;obtain ⟨x,w',d,c⟩:=b v h;exact ⟨x,w',by simp only [Sem.run,al];exact d,c⟩
 |store m a v k b=>intro K w h;obtain ⟨e,f,g,h⟩:=h;obtain ⟨x,w',d,c⟩:=b (h _ rfl);exact ⟨x,w',by rw [B7 e f g];exact d,c⟩
 |new o k b=>intro K w h;obtain ⟨x,w',d,c⟩:=b _ (h _ _ rfl rfl);exact ⟨x,w',d,c⟩
 |shape r k b=>intro K w h;exact b _ h
 |frozen a k b=>intro K w h;exact b _ h
 |program k b=>intro K w h;exact b _ h
 |mark m k b=>intro K w h;exact b h
 | _=>intro K w h;exact h.elim
def fG (k:IntKind) (x y:Int):Int:=k.wrap (BitVec.ofInt k.bits x &&& BitVec.ofInt k.bits y).toNat
def ju (k:IntKind) (x y:Int):Int:=k.wrap (BitVec.ofInt k.bits x ||| BitVec.ofInt k.bits y).toNat
def h6 (k:IntKind) (x y:Int):Int:=k.wrap (BitVec.ofInt k.bits x ^^^ BitVec.ofInt k.bits y).toNat
def tM (k:IntKind) (x y:Int):Int:=k.wrap (BitVec.ofInt k.bits x &&& ~~~ BitVec.ofInt k.bits y).toNat
def ix (k:IntKind) (x n:Int):Int:=k.wrap (x * 2 ^ min n.toNat k.bits)
def df (k:IntKind) (x n:Int):Int:=x.fdiv (2 ^ min n.toNat k.bits)
inductive np where
 |i (k:IntKind) | b | p | s | v
def xL:Option TypeDesc->np
 |some (.int k)=>.i k
 |some .bool=>.b
 |some (.pointer _)=>.p
 |some (.slice _)=>.s
 | _=>.v
def pt:np->(a4->Prop)->Prop
 | .i k,K=>∃ x:Int,K (.int k x)
 | .b,K=>∃ x:Bool,K (.bool x)
 | .p,K=>∃ x:an,K (.pointer x)
 | .s,K=>∃ (x:an) (l c:Nat),K (.slice x l c)
 | .v,K=>∃ v:a4,K v
theorem rQ {k:np} (h:pt k K):∃ v,K v:=by
 cases k with
 |i k=>obtain ⟨x,h⟩:=h;exact ⟨_,h⟩
 |b=>obtain ⟨x,h⟩:=h;exact ⟨_,h⟩
 |p=>obtain ⟨x,h⟩:=h;exact ⟨_,h⟩
 |s=>obtain ⟨x,l,c,h⟩:=h;exact ⟨_,h⟩
 |v=>exact h
theorem Dc {k:np} {d:a4->Prop} (a:∀ v,K v->d v) (h:pt k K):pt k d:=by
 cases k with
 |i k=>obtain ⟨x,h⟩:=h;exact ⟨_,a _ h⟩
 |b=>obtain ⟨x,h⟩:=h;exact ⟨_,a _ h⟩
 |p=>obtain ⟨x,h⟩:=h;exact ⟨_,a _ h⟩
 |s=>obtain ⟨x,l,c,h⟩:=h;exact ⟨_,_,_,a _ h⟩
 |v=>obtain ⟨x,h⟩:=h;exact ⟨_,a _ h⟩
def qM:List np->(ax->Prop)->Prop
 | [],K=>K []
 |k::a,K=>pt k λv=>qM a λvs=>K (v::vs)
theorem tv:∀ {a:List np} {K:ax->Prop},qM a K->∃ vs,vs.length=a.length/\K vs
 | [],_,h=>⟨[],rfl,h⟩
 |k::a,K,h=>by obtain ⟨v,h⟩:=rQ h;obtain ⟨vs,b,h⟩:=tv h;exact ⟨v::vs,by simp [b],h⟩
theorem Dd:∀ {c:List np} {K b:ax->Prop},(∀ vs,K vs->b vs)->qM c K->qM c b
 | [],_,_,a,h=>a _ h
 | _::_,_,_,a,h=>Dc (λv h=>Dd (λvs h=>a (v::vs) h) h) h
def qS (P:Program):Nat->TypeId->List np
 | 0,_=>[]
 |n+1,t=>match P.underlying t with
  |some (.struct a)=>a.toList.flatMap λf=>qS P n f.type
  |some (.array len e)=>(List.replicate len (qS P n e)).flatten
  |d=>[xL d]
def gU (P:Program) (t:TypeId):Bool:=
 match P.underlying t with
 |some (.struct _)=>true
 |some (.array _ _)=>true
 | _=>false
def qf (P:Program) (t:TypeId):Nat:=match P.info? t with | some i=>i.size | none=>0
def xg (P:Program) (t:TypeId) (K:a4->Prop):Prop:=
 match gU P t with
 |true=>qM (qS P 8 t) λvs=>K (.agg vs.toArray)
 |false=>pt (xL (P.underlying t)) K
theorem EY (h:xg P t K):∃ v,K v:=by
 unfold xg at h;split at h
 ·obtain ⟨vs,_,h⟩:=tv h;exact ⟨_,h⟩
 ·exact rQ h
def Ai (P:Program):List TypeId->(ax->Prop)->Prop
 | [],K=>K []
 |t::ts,K=>xg P t λv=>Ai P ts λvs=>K (v::vs)
theorem EZ {P:Program}:∀ {ts:List TypeId} {K:ax->Prop},Ai P ts K->∃ vs,K vs
 | [],_,h=>⟨[],h⟩
 |t::ts,K,h=>by obtain ⟨v,h⟩:=EY h;obtain ⟨vs,h⟩:=EZ h;exact ⟨v::vs,h⟩
def sq (P:Program):List TypeId->(a4->Prop)->Prop
 | [t],K=>xg P t K
 |ts,K=>Ai P ts λvs=>K (.tuple vs.toArray)
theorem E0 {ts:List TypeId} (h:sq P ts K):∃ v,K v:=by
 unfold sq at h;split at h
 ·exact EY h
 ·obtain ⟨vs,h⟩:=EZ h;exact ⟨_,h⟩
def cf (w:ak) (bx:aX):Nat->ax->Prop
 | _,[]=>True
 |i,v::vs=>w.cell? (bx.add i)=some v/\cf w bx (i+1) vs
def eh (w:ak) (bx:aX):Nat->ax->Prop
 | _,[]=>True
 |i,v::vs=>(∃ u,w.cell? (bx.add i)=some u)/\w.frozen? (bx.add i)=false/\single v=true/\eh w bx (i+1) vs
def cu (w:ak) (bx:aX):Nat->ax->ak
 | _,[]=>w
 |i,v::vs=>cu (w.setCell (bx.add i) v) bx (i+1) vs
theorem Wz {p:aX} (h:∃ u,w.cell? q=some u):∃ u,(w.setCell p v).cell? q=some u:=by
 obtain ⟨u,hu⟩:=h;unfold World.cell? World.setCell at *;simp only [yL];cases f:w.heap[q.block]? with
 |none=>rw [f] at hu;cases hu
 |some o=>
  rw [f] at hu;cases o with
  |cells c e i=>
   simp only at hu;by_cases b:q.spot.isSome=true
   ·simp [b] at hu
   ·simp only [b,ry,if_false] at hu;by_cases a:p.block=q.block
    ·simp only [a,if_true,mc,b,ry,if_false];by_cases g:p.spot.isSome=true
     ·simp only [g,if_true];exact ⟨u,hu⟩
     ·simp only [g,ry,if_false];rw [Array.getElem?_setIfInBounds];split
      ·rename_i he;have d:p.off<c.size:=by
        rcases oY p.off c.size with h | h
        ·exact h
        ·rw [yF (by omega)] at hu;cases hu
       rw [if_pos d];exact ⟨_,rfl⟩
      ·exact ⟨u,hu⟩
    ·simp only [a,if_false,b,ry];exact ⟨u,hu⟩
  | _=>cases hu
theorem Xb {p:aX}:(w.setCell p v).frozen? q=w.frozen? q:=by
 unfold World.frozen? World.setCell;simp only [yL];cases b:w.heap[q.block]? with
 |none=>simp
 |some o=>
  by_cases a:p.block=q.block
  ·simp only [a,if_true,mc];cases o<;>rfl
  ·simp only [a,if_false]
theorem HS {w:ak} {bx p:aX} {u:a4}:∀ {vs:ax} {i:Nat},eh w bx i vs->eh (w.setCell p u) bx i vs
 | [],_,_=>trivial
 | _::_,_,h=>⟨Wz h.1,by rw [Xb];exact h.2.1,h.2.2.1,HS h.2.2.2⟩
theorem sT {P:Program} {bx:aX}:∀ {vs:ax} {i:Nat} {w:ak},eh w bx i vs->
  (storeCells bx vs i).run P w=.ok () (cu w bx i vs)
 | [],_,_,_=>rfl
 |v::vs,i,w,h=>by unfold storeCells;show ((store (bx.add i) v).bind λ_=>storeCells bx vs (i+1)).run P w=_;show (Sem.store .plain (bx.add i) v (storeCells bx vs (i+1))).run P w=_;rw [B7 h.1 h.2.1 h.2.2.1];exact sT (HS h.2.2.2)
theorem run_loadCellsFrom {P:Program} {bx:aX} {w:ak}:∀ {vs:ax} {i:Nat} {acc:Array a4},cf w bx i vs->
  (loadCellsFrom bx i vs.length acc).run P w=.ok (acc++vs.toArray) w
 | [],_,acc,_=>by simp [loadCellsFrom]
 |v::vs,i,acc,h=>by show (Sem.load .plain (bx.add i) λv=>loadCellsFrom bx (i+1) vs.length (acc.push v)).run P w=_;simp only [Sem.run,h.1];rw [run_loadCellsFrom (acc:=acc.push v) h.2];simp
def n5 (P:Program) (t:TypeId) (x:a4) (K:cz) (w:ak):Prop:=
 match x with
 | .pointer (some bx)=>
  match P.info? t with
  |none=>False
  |some inf=>
   match gU P t with
   |true=>match Nat.beq (qS P 8 t).length inf.size with
    |true=>qM (qS P 8 t) λvs=>cf w bx 0 vs/\K (.agg vs.toArray) w
    |false=>False
   |false=>match P.underlying t with
    |none=>False
    |some d=>pt (xL (some d)) λv=>w.cell? bx=some v/\K v w
 | _=>False
def zv (P:Program) (t:TypeId) (x v:a4) (K:aF) (w:ak):Prop:=
 match x with
 | .pointer (some bx)=>
  match P.info? t with
  |none=>False
  |some inf=>
   match gU P t with
   |true=>match Nat.beq v.cells.size inf.size with
    |true=>eh w bx 0 v.cells.toList/\∀ w1,w1=cu w bx 0 v.cells.toList->K w1
    |false=>False
   |false=>match single v,Nat.beq inf.size 1 with
    |true,true=>(∃ u,w.cell? bx=some u)/\w.frozen? bx=false/\∀ w1,w1=w.setCell bx v->K w1
    | _,_=>False
 | _=>False
def fq:an->(aX->Prop)->Prop
 |some bx,K=>K bx
 |none,_=>False
def bA (a:an) (len:Nat) (n:Int) (sz:Nat) (K:aX->Prop):Prop:=
 ∃ bx,a=some bx/\0<=n/\n<len/\K (bx.add (n.toNat * sz))
def pw (bx:aX) (len:Nat) (n:Int) (sz:Nat) (K:aX->Prop):Prop:=
 0<=n/\n<len/\K (bx.add (n.toNat * sz))
def hY (a:an) (len cap:Nat) (b d c:Int) (sz:Nat) (K:an->Nat->a6):Prop:=
 0<=b/\b<=d/\d<=c/\c<=cap/\len<=cap/\K (if c=b then a else a.map (·.add (b.toNat * sz))) (d.toNat - b.toNat) (c.toNat - b.toNat)
def jE (n:Nat) (zs:ax):ax:=(List.replicate n zs).flatten
def qU (len cap:Int) (bytes:Nat) (o:Obj) (w:ak) (K:Nat->aF):Prop:=0<=len/\len<=cap/\cap * bytes<=140737488355328/\cap<=140737488355328/\∀ b w1,b=w.heap.size->w1=w.alloc o->K b w1
def iA (P:Program) (f:FuncId):Bool:=
 match P.funcs[f]? with
 |some fn=>fn.body.isSome && !(fn.name == "runtime.NumGoroutine")
 |none=>false
def m0 (P:Program) (f:a4) (args:Array a4) (w:ak) (R:Ending->aF):Prop:=
 match f with
 | .func (.func g) first captured=>match iA P g with
  |true=>Calls P g (first++args++captured) w R
  |false=>False
 | _=>False
def wu (P:Program) (t:TypeId):List TypeId:=
 match P.underlying t with
 |some (.tuple ts)=>ts.toList
 | _=>[t]
def x6 (P:Program) (s:Sem a4) (k:np) (K:cz) (w:ak):Prop:=
 pt k λv=>∃ w',s.run P w=.ok v w'/\K v w'
def Xo:a4->Option Int
 | .int _ n=>some n
 | _=>none
def Fj (K:cz):Next->aF
 | .value v,w=>K v w
 | .skip,w=>K undef w
 | _,_=>False
def As (P:Program) (env:ax) (o:Oper) (K:cz) (w:ak):Prop:=
 oP P (execOp (ch env) o) (Fj K) w
def vI:Operand->Bool
 | .const _=>true
 | _=>false
def mr (d:Int):Option a4->Option Int
 |none=>some d
 |some (.int _ n)=>some n
 |some _=>none
def vJ {α:Type} (P:Program):Sem α->Option α
 | .pure a=>some a
 | .program k=>vJ P (k P)
 | _=>none
theorem I6 {α:Type} (s:Sem α):∀ {a:α},vJ P s=some a->∀ w,s.run P w=.ok a w:=by
 induction s with
 |pure a=>intro b h w;simp [vJ] at h;subst h;rfl
 |program k c=>intro b h w;exact c P h w
 | _=>intro b h;cases h
def oC (P:Program) (env:ax) (o:Oper) (K:a4->Prop):Prop:=
 match vJ P (execOp (ch env) o) with
 |some (.value v)=>K v
 | _=>False
def Ji (P:Program) (t:TypeId) (x y:a4) (r:Bool) (w:ak):Prop:=
 (∀ op a b,(eqGuard op t a b x y).run P w=.ok () w)/\(binOp .eql t x y).run P w=.ok (.bool r) w/\(binOp .neq t x y).run P w=.ok (.bool (!r)) w
def rW (P:Program) (t:TypeId) (x y:a4) (K:Bool->Prop):Prop:=∃ r:Bool,(∀ w,Ji P t x y r w)/\K r
def wv (P:Program) (env:ax) (o:Oper) (K:a4->Prop):Prop:=
 match o.op with
 | .pick c a b=>match ch env c with
  | .bool t=>bif t then K (ch env a) else K (ch env b)
  | _=>False
 | .nilCheck x=>match ch env x with
  | .pointer p=>fq p λbx=>K (.pointer (some bx))
  | _=>False
 | .indexAddr t x i=>match ch env i with
  | .int _ n=>match P.underlying t with
   |some (.slice e)=>match ch env x,P.info? e with
    | .slice a len _,some inf=>bA a len n inf.size λbx=>K (.pointer (some bx))
    | _,_=>False
   |some (.array len e)=>match ch env x,P.info? e with
    | .pointer (some bx),some inf=>pw bx len n inf.size λbx=>K (.pointer (some bx))
    | _,_=>False
   | _=>False
  | _=>False
 | .slice t x q f g=>match P.underlying t with
  |some (.slice e)=>match ch env x,P.info? e with
   | .slice a len cap,some inf=>
    match mr 0 (q.map (ch env)),mr len (f.map (ch env)),mr cap (g.map (ch env)),f.isNone && g.isSome with
    |some l,some h,some m,false=>hY a len cap l h m inf.size λj l' c'=>K (.slice j l' c')
    | _,_,_,_=>False
   | _,_=>False
  | _=>oC P env o K
 | .binOp op t x y _=>match op,ch env x,ch env y with
  | .eql,.pointer p,.pointer none=>match P.underlying t with
   |some (.pointer _)=>K (.bool p.isNone)
   | _=>False
  | .neq,.pointer p,.pointer none=>match P.underlying t with
   |some (.pointer _)=>K (.bool (!p.isNone))
   | _=>False
  | .eql,.slice a _ _,.slice none _ _=>match P.underlying t with
   |some (.slice _)=>K (.bool a.isNone)
   | _=>False
  | .neq,.slice a _ _,.slice none _ _=>match P.underlying t with
   |some (.slice _)=>K (.bool (!a.isNone))
   | _=>False
  | .quo,.int k a,.int d b=>match vI y with
   |true=>oC P env o K
   |false=>k=d/\b≠0/\K (.int k (k.wrap (a.tdiv b)))
  | .rem,.int k a,.int d b=>match vI y with
   |true=>oC P env o K
   |false=>k=d/\b≠0/\K (.int k (a.tmod b))
  | .shl,.int k a,.int _ b=>match vI y with
   |true=>oC P env o K
   |false=>0<=b/\K (.int k (k.wrap (a * 2 ^ min b.toNat k.bits)))
  | .shr,.int k a,.int _ b=>match vI y with
   |true=>oC P env o K
   |false=>0<=b/\K (.int k (a.fdiv (2 ^ min b.toNat k.bits)))
  | .eql,.agg a,.agg b=>rW P t (.agg a) (.agg b) λr=>K (.bool r)
  | .neq,.agg a,.agg b=>rW P t (.agg a) (.agg b) λr=>K (.bool (!r))
  | _,_,_=>oC P env o K
 | _=>oC P env o K
def v8:Op->Bool
 | .move _ | .assign _ | .pick .. | .build .. | .nilCheck _ | .binOp .. | .unOp .. | .convert .. | .makeFunc .. | .slice .. | .fieldAddr .. | .field .. | .indexAddr .. | .index .. | .extract ..=>true
 | .call { callee:=.builtin .len,.. } | .call { callee:=.builtin .cap,.. } | .call { callee:=.builtin .min,.. } | .call { callee:=.builtin .max,.. }=>true
 | _=>false
def q1 (P:Program) (env:ax) (o:Oper) (K:cz) (w:ak):Prop:=
 match v8 o.op with
 |true=>wv P env o λv=>K v w
 |false=>match o.op with
  | .load t x=>n5 P t (ch env x) K w
  | .store t x v=>zv P t (ch env x) (ch env v) (K undef) w
  | .makeSlice t l c=>match P.underlying t,ch env l,ch env c with
   |some (.slice e),.int _ len,.int _ cap=>match P.info? e with
    |some inf=>match inf.zero with
     |some z=>match Nat.beq z.cells.size inf.size && Nat.ble 1 inf.size with
      |false=>False
      |true=>qU len cap inf.bytes (.cells (jE cap.toNat z.cells.toList).toArray e) w λb w1=>K (.slice (some ⟨b,0,none⟩) len.toNat cap.toNat) w1
     |none=>False
    |none=>False
   | _,_,_=>False
  | .call c=>match c.callee with
   | .builtin .append=>x6 P (Builtin.append_ c.argTypes o.type (c.args.map (ch env))) .s K w
   | .builtin .copy=>x6 P (Builtin.copy_ c.argTypes o.type (c.args.map (ch env))) (.i .i64) K w
   | .builtin .clear=>x6 P (Builtin.clear_ c.argTypes o.type (c.args.map (ch env))) .v K w
   | .value f=>m0 P (ch env f) (c.args.map (ch env)) w λe w'=>sq P (wu P o.type) λv=>e=.returned v/\K v w'
   | _=>As P env o K w
  | _=>As P env o K w
def jk (P:Program) (f:a4) (args:Array a4) (w:ak) (R:Ending->aF):Prop:=
 match f with
 | .func (.yield l) first _=>YieldAt Fence.wide 0 P l (first++args) w R
 |f=>m0 P f args w R
def AL (P:Program) (env:ax) (o:Oper) (K:cz) (w:ak):Prop:=
 match o.op with
 | .call c=>match c.callee with
  | .value f=>jk P (ch env f) (c.args.map (ch env)) w λe w'=>sq P (wu P o.type) λv=>e=.returned v/\K v w'
  | _=>q1 P env o K w
 | _=>q1 P env o K w
section
variable {P:Program} {env:ax} {o:Oper} {K:cz} {w:ak}
def l6 (P:Program) (env:ax) (o:Oper) (K:cz) (w:ak):Prop:=
 (∃ n w',(execOp (ch env) o).run P w=.ok n w'/\Fj K n w')\/
 (∃ f args,(execOp (ch env) o).run P w=.ok (.enter f args) w/\Calls P f args w λe w'=>∃ v,e=.returned v/\K v w')
theorem De (h:As P env o K w):l6 P env o K w:=.inl (LU _ h)
theorem y0 (he:execOp (ch env) o=(do pure (.value (<- s)))) (a:s.run P w=.ok v w') (h:K v w'):l6 P env o K w:=by refine .inl ⟨.value v,w',?_,h⟩;rw [he,Sem.run_bind,a];rfl
theorem B8 {s:Sem Unit} (he:execOp (ch env) o=(do s;pure .skip)) (a:s.run P w=.ok () w') (h:K undef w'):l6 P env o K w:=by refine .inl ⟨.skip,w',?_,h⟩;rw [he,Sem.run_bind,a];rfl
theorem A2 {i:TypeInfo} (h:P.info? t=some i) (w:ak):(typeInfo t).run P w=.ok i w:=by simp [typeInfo,h,program,Sem.run]
theorem run_sizeOf {i:TypeInfo} (h:P.info? t=some i) (w:ak):(sizeOf t).run P w=.ok i.size w:=by simp [sizeOf,A2 h]
theorem pz {d:TypeDesc} (h:P.underlying t=some d) (w:ak):(Go.isAgg t).run P w=.ok (gU P t) w:=by simp only [Go.isAgg,Sem.run_bind,run_underlying h,Result.andThen_ok,gU,h];cases d<;>rfl
theorem AD (h:gU P t=true):∃ d,P.underlying t=some d:=by
 unfold gU at h;cases hu:P.underlying t with
 |none=>simp [hu] at h
 |some d=>exact ⟨d,rfl⟩
def mB (P:Program) (env:ax) (o:Oper) (K:a4->Prop):Prop:=
 ∃ v,(∀ w,(execOp (ch env) o).run P w=.ok (.value v) w)/\K v
theorem mB.bd (h:mB P env o λv=>K v w):l6 P env o K w:=
 let ⟨v,a,h⟩:=h
 .inl ⟨.value v,w,a w,h⟩
theorem yr {K:a4->Prop} (he:execOp (ch env) o=(do pure (.value (<- s)))) (a:∀ w,s.run P w=.ok v w) (h:K v):mB P env o K:=by
 refine ⟨v,λw=>?_,h⟩
 rw [he,Sem.run_bind,a];rfl
theorem q3 {K:a4->Prop} (h:oC P env o K):mB P env o K:=by
 unfold oC at h;split at h
 ·rename_i v al;exact ⟨v,I6 _ al,h⟩
 ·exact h.elim
theorem JL (i:o.op=.load t x) (h:n5 P t (ch env x) K w):l6 P env o K w:=by
 have he:execOp (ch env) o=(do pure (.value (<- Instr.loadAt t (ch env x)))):=by unfold execOp;rw [i]
 unfold n5 at h;split at h
 ·rename_i bx c;split at h
  ·exact h.elim
  ·rename_i inf b;split at h
   ·rename_i a;split at h
    ·rename_i hlen;obtain ⟨vs,f,e,h⟩:=tv h;obtain ⟨d,aq⟩:=AD a;refine y0 he ?_ h;have g:vs.length=inf.size:=by rw [f];exact kW hlen
     simp only [Instr.loadAt,c,Instr.sureAddr,pure_bind,loadVar,Sem.run_bind,pz aq,Result.andThen_ok,a,if_true,run_sizeOf b];have:=run_loadCellsFrom (P:=P) (acc:=#[]) e;rw [g] at this;simp [loadCells,this]
    ·exact h.elim
   ·rename_i a;split at h
    ·exact h.elim
    ·rename_i d aq;obtain ⟨v,al,h⟩:=rQ h;refine y0 he ?_ h;simp only [Instr.loadAt,c,Instr.sureAddr,pure_bind,loadVar,Sem.run_bind,pz aq,Result.andThen_ok,a];simp [al]
 ·exact h.elim
theorem Jv {v:Operand} (j:o.op=.store t x v) (h:zv P t (ch env x) (ch env v) (K undef) w):l6 P env o K w:=by
 have he:execOp (ch env) o=(do Instr.storeAt t (ch env x) (ch env v);pure .skip):=by unfold execOp;rw [j]
 unfold zv at h;split at h
 ·rename_i bx f;split at h
  ·exact h.elim
  ·rename_i inf b;split at h
   ·split at h
    ·rename_i hlen;obtain ⟨hw,h⟩:=h;have h:=h _ rfl;refine B8 he ?_ h;have c:=kW hlen;simp only [Instr.storeAt,f,Instr.sureAddr,pure_bind,storeVar,Sem.run_bind,run_sizeOf b,Result.andThen_ok,c];simp [sT hw]
    ·exact h.elim
   ·split at h
    ·rename_i e c;obtain ⟨g,i,h⟩:=h;have h:=h _ rfl;refine B8 he ?_ h;have c:=kW c;have a:(ch env v).cells=#[ch env v]:=by revert e;cases ch env v<;>simp [single,Value.cells]
     have d:bx.add 0=bx:=by simp [Addr.add]
     have hw:eh w bx 0 [ch env v]:=⟨by rw [d];exact g,by rw [d];exact i,e,trivial⟩;simp only [Instr.storeAt,f,Instr.sureAddr,pure_bind,storeVar,Sem.run_bind,run_sizeOf b,Result.andThen_ok,c,a];simp [sT hw,cu,d]
    ·exact h.elim
 ·exact h.elim
theorem LV {K:a4->Prop} (a:o.op=.nilCheck x) (b:ch env x=.pointer p) (h:fq p λbx=>K (.pointer (some bx))):mB P env o K:=by
 cases p with
 |none=>exact h.elim
 |some bx=>
  refine ⟨.pointer (some bx),λw=>?_,h⟩
  unfold execOp;rw [a];simp only [b];rfl
theorem Kz {c a b:Operand} {t:Bool} {K:a4->Prop} (e:o.op=.pick c a b) (d:ch env c=.bool t) (h:bif t then K (ch env a) else K (ch env b)):mB P env o K:=by refine ⟨bif t then ch env a else ch env b,λw=>?_,by cases t<;>exact h⟩;unfold execOp;rw [e];simp only [d,asBool,pure_bind];cases t<;>rfl
theorem KA {t e:TypeId} {x i:Operand} {K:a4->Prop} (g:o.op=.indexAddr t x i) (f:ch env i=.int k n)
  (hu:P.underlying t=some (.slice e)) (j:ch env x=.slice a len cap) (b:P.info? e=some inf) (h:bA a len n inf.size λbx=>K (.pointer (some bx))):mB P env o K:=by
 have he:execOp (ch env) o=(do pure (.value (<- Instr.indexAt t (ch env x) (ch env i)))):=by unfold execOp;rw [g]
 obtain ⟨bx,rfl,c,d,h⟩:=h;refine yr he (λw=>?_) h;simp [Instr.indexAt,f,j,asIntOf,run_underlying hu,c,d,run_sizeOf b]
theorem KB {t e:TypeId} {x i:Operand} {bx:aX} {K:a4->Prop} (f:o.op=.indexAddr t x i) (d:ch env i=.int k n)
  (hu:P.underlying t=some (.array len e)) (g:ch env x=.pointer (some bx)) (a:P.info? e=some inf) (h:pw bx len n inf.size λbx=>K (.pointer (some bx))):mB P env o K:=by
 have he:execOp (ch env) o=(do pure (.value (<- Instr.indexAt t (ch env x) (ch env i)))):=by unfold execOp;rw [f]
 obtain ⟨b,c,h⟩:=h;refine yr he (λw=>?_) h;simp [Instr.indexAt,d,g,asIntOf,run_underlying hu,b,c,run_sizeOf a,Instr.sureAddr]
theorem s6 {d:Int} {v:Option a4} (h:mr d v=some n):(v=none/\n=d)\/∃ k,v=some (.int k n):=by
 unfold mr at h;split at h
 ·exact .inl ⟨rfl,by simpa using h.symm⟩
 ·rename_i k m;exact .inr ⟨k,by simp at h;rw [h]⟩
 ·cases h
theorem oz {y:Nat} {c:BoundsCode} (a:0<=n) (b:n<=y) (w:ak):(Instr.sliceBound (.int k n) y c).run P w=.ok n.toNat w:=by simp [Instr.sliceBound,asIntOf,a,b]
theorem Xa {i b d:Option a4} {l:Int} (c:mr 0 i=some l) (f:mr len b=some h) (hm:mr cap d=some m) (a:¬ (b=none/\d≠none))
  (k5:0<=l) (b1:l<=h) (aB:h<=m) (e:m<=cap) (w:ak):(Instr.sliceBounds true len cap i b d).run P w=.ok (l.toNat,h.toNat,m.toNat) w:=by
 unfold Instr.sliceBounds;rcases s6 hm with ⟨rfl,rfl⟩ | ⟨k,rfl⟩
 ·rcases s6 f with ⟨rfl,rfl⟩ | ⟨j,rfl⟩
  ·rcases s6 c with ⟨rfl,rfl⟩ | ⟨g,rfl⟩
   ·simp
   ·simp [oz (y:=len) k5 b1]
  ·rcases s6 c with ⟨rfl,rfl⟩ | ⟨g,rfl⟩
   ·simp [oz (y:=cap) b1 aB]
   ·simp [oz (y:=cap) (Int.le_trans k5 b1) aB,oz (y:=h.toNat) k5 (by omega:l<=((h.toNat:Nat):Int))]
 ·rcases s6 f with ⟨rfl,rfl⟩ | ⟨j,rfl⟩
  ·exact absurd ⟨rfl,by simp⟩ a
  ·rcases s6 c with ⟨rfl,rfl⟩ | ⟨g,rfl⟩
   ·simp [oz (y:=cap) (by omega:(0:Int)<=m) e,oz (y:=m.toNat) b1 (by omega:h<=((m.toNat:Nat):Int))]
   ·simp [oz (y:=cap) (by omega:(0:Int)<=m) e,oz (y:=m.toNat) (Int.le_trans k5 b1) (by omega:h<=((m.toNat:Nat):Int)),
     oz (y:=h.toNat) k5 (by omega:l<=((h.toNat:Nat):Int))]
theorem Jw {t e:TypeId} {i c d:Option Operand} {K:a4->Prop} {l:Int} (u:o.op=.slice t x i c d)
  (hu:P.underlying t=some (.slice e)) (y:ch env x=.slice a len cap) (b:P.info? e=some inf)
  (s:mr 0 (i.map (ch env))=some l) (r:mr len (c.map (ch env))=some h) (hm:mr cap (d.map (ch env))=some m) (f:¬ (c=none/\d≠none))
  (g:hY a len cap l h m inf.size λk l' c'=>K (.slice k l' c')):mB P env o K:=by
 have he:execOp (ch env) o=(do pure (.value (<- Instr.sliceAt t (ch env x) (i.map (ch env)) (c.map (ch env)) (d.map (ch env))))):=by unfold execOp;rw [u]
 obtain ⟨k5,b1,aB,n,_,g⟩:=g;refine yr he (λw=>?_) g;have q:=Xa (P:=P) s r hm (by intro j;exact f ⟨by simpa using j.1,by simpa using j.2⟩) k5 b1 aB n w;have p:(m=l)↔(m.toNat=l.toNat):=by omega
 simp only [Instr.sliceAt,Sem.run_bind,run_underlying hu,Result.andThen_ok,Instr.slice,y,q,run_sizeOf b,p];rfl
theorem MS (n:Nat) (zs:Array a4) (au:0<zs.size):(Array.range (n * zs.size)).map (zs[· % zs.size]!)=(jE n zs.toList).toArray:=by
 apply Array.ext
 ·simp [jE]
 ·intro i e k;simp only [Array.size_map,Array.size_range] at e;simp only [Array.getElem_map,Array.getElem_range,List.getElem_toArray];have key:∀ (m i:Nat) (zs:ax) (a:zs≠[]),i<m * zs.length->((List.replicate m zs).flatten)[i]?=zs[i % zs.length]?:=by
   intro m;induction m with
   |zero=>intro i zs _ h;simp at h
   |succ m p=>
    intro i zs a h;have q:0<zs.length:=vC.2 a;simp only [rq,hg];by_cases g:i<zs.length
    ·rw [h3 g,ti g]
    ·rw [h4 (by omega),p (i - zs.length) zs a (by rw [h2] at h;omega)];congr 1;rw [Nat.mod_eq_sub_mod (by omega:i>=zs.length)]
  have d:zs.toList≠[]:=by
   intro l;have j:zs.toList.length=0:=by rw [l];rfl
   rw [Array.length_toList] at j;omega
  have o:=key n i zs.toList d (by simpa using e);have b:i % zs.size<zs.size:=Nat.mod_lt _ au;unfold jE;have f:((List.replicate n zs.toList).flatten)[i]?=some zs[i % zs.size]:=by rw [o];simp [b]
  rw [getElem!_pos zs _ b];have c:i<((List.replicate n zs.toList).flatten).length:=by simpa [jE] using k
  rw [bE c] at f;exact (me f).symm
theorem KC {t e:TypeId} {l c:Operand} {q p:IntKind} {len cap:Int} {z:a4} (n:o.op=.makeSlice t l c)
  (hu:P.underlying t=some (.slice e)) (i:ch env l=.int q len) (g:ch env c=.int p cap) (a:P.info? e=some inf) (au:inf.zero=some z) (d:z.cells.size=inf.size) (s:0<inf.size)
  (h:qU len cap inf.bytes (.cells (jE cap.toNat z.cells.toList).toArray e) w λb w1=>K (.slice (some ⟨b,0,none⟩) len.toNat cap.toNat) w1):l6 P env o K w:=by
 have he:execOp (ch env) o=(do pure (.value (<- Instr.makeSlice t (ch env l) (ch env c)))):=by unfold execOp;rw [n]
 obtain ⟨k5,b1,aB,r,h⟩:=h;have h:=h _ _ rfl rfl;refine y0 he ?_ h;have wl:IntKind.i64.wrap len=len:=by simp only [IntKind.wrap,IntKind.bits,IntKind.signed];simp;omega
 have eg:IntKind.i64.wrap cap=cap:=by simp only [IntKind.wrap,IntKind.bits,IntKind.signed];simp;omega
 have t1:¬ cap<0:=by omega
 have t2:¬ ((281474976710656:Int)<(inf.bytes:Int) * cap):=by rw [Int.mul_comm];omega
 have t3:¬ len<0:=by omega
 have t4:¬ cap<len:=by omega
 have room:(askRoom (cap.toNat * inf.bytes)).run P w=.ok () w:=by
  have:¬ (cap.toNat * inf.bytes>roomBytes):=by
   have:((cap.toNat * inf.bytes:Nat):Int)=cap * inf.bytes:=by rw [Int.natCast_mul,Int.toNat_of_nonneg (by omega)]
   unfold roomBytes;omega
  simp [askRoom,this]
 have k:=MS cap.toNat z.cells (by omega);rw [d] at k;by_cases j:cap.toNat * inf.size=0
 ·have f:cap.toNat=0:=by
   rcases Nat.mul_eq_zero.1 j with h | h
   ·exact h
   ·omega
  simp [Instr.makeSlice,run_underlying hu,i,g,asInt,asIntOf,A2 a,wl,eg,t1,t2,t3,t4,run_sizeOf a,f,jE,newRow,newObj,Sem.run];rw [show Array.map (λ_=>(default:a4)) (Array.range 0)=#[] from Array.eq_empty_of_size_eq_zero (by simp)]
 ·simp [Instr.makeSlice,run_underlying hu,i,g,asInt,asIntOf,A2 a,wl,eg,t1,t2,t3,t4,run_sizeOf a,j,zeroValue,au,d,newRow,newObj,Sem.run,<-k]
theorem Hj {t e:TypeId} (hu:P.underlying t=some (.pointer e)) (w:ak):(Op.equal t (.pointer p) (.pointer none)).run P w=.ok p.isNone w:=by
 have h:∀ d:Nat,(Op.equalIn (d+1) t (.pointer p) (.pointer none)).run P w=.ok p.isNone w:=λd=>by cases p<;>simp [Op.equalIn,run_underlying hu]
 exact h 9999
theorem Hq {t e:TypeId} {c:Nat} (hu:P.underlying t=some (.slice e)) (w:ak):(Op.equal t (.slice p l c) (.slice none l' c')).run P w=.ok p.isNone w:=by
 have h:∀ d:Nat,(Op.equalIn (d+1) t (.slice p l c) (.slice none l' c')).run P w=.ok p.isNone w:=λd=>by cases p<;>simp [Op.equalIn,run_underlying hu]
 exact h 9999
theorem nL {u:TypeId} {K:a4->Prop} (b:o.op=.binOp op t x y u) (a:∀ w,(eqGuard op t x y (ch env x) (ch env y)).run P w=.ok () w)
  (c:∀ w,(binOp op t (ch env x) (ch env y)).run P w=.ok v w) (h:K v):mB P env o K:=by
 have he:execOp (ch env) o=(do pure (.value (<- (do eqGuard op t x y (ch env x) (ch env y);binOp op t (ch env x) (ch env y))))):=by unfold execOp;rw [b]
 refine yr he (λw=>?_) h;rw [Sem.run_bind,a];exact c w
theorem Jx {g:FuncId} (l:o.op=.call c) (i:c.callee=.value f) (j:ch env f=.func (.func g) first captured) (a:iA P g=true)
  (h:Calls P g (first++c.args.map (ch env)++captured) w λe w'=>sq P (wu P o.type) λv=>e=.returned v/\K v w'):l6 P env o K w:=by
 refine .inr ⟨g,first++c.args.map (ch env)++captured,?_,h.mono λe w' h=>E0 h⟩;unfold iA at a;cases b:P.funcs[g]? with
 |none=>simp [b] at a
 |some fn=>
  simp only [b,ep,qc] at a;have d:fn.body≠none:=by intro d;simp [d] at a
  have k:fn.name≠ "runtime.NumGoroutine" :=by simpa using a.2
  unfold execOp;rw [l];simp only [resolve,i,j,Deferred.ofValue,pure_bind,invoke,callFunc];simp [program,Sem.run,b,k,d]
theorem A3 {b:Builtin} {k:np} (e:o.op=.call c) (d:c.callee=.builtin b)
  (a:∀ cs,builtin b c.argTypes o.type cs (c.args.map (ch env))=(do pure (.value (<- s))))
  (h:x6 P s k K w):l6 P env o K w:=by
 obtain ⟨v,w',f,h⟩:=rQ h;refine .inl ⟨.value v,w',?_,h⟩;unfold execOp;rw [e];simp only [resolve,d,pure_bind,invoke,a];rw [Sem.run_bind,f];rfl
theorem yi {c:IntKind} {a b:Int}:(eqGuard op t x y (.int k a) (.int c b)).run P w=.ok () w:=by cases op<;>rfl
theorem B9:(eqGuard op t x y (.pointer a) (.pointer b)).run P w=.ok () w:=by cases op<;>rfl
theorem Df {c:Nat}:(eqGuard op t x y (.slice a l c) (.slice b l' c')).run P w=.ok () w:=by cases op<;>rfl
theorem B6 {K:a4->Prop} (h:wv P env o K):mB P env o K:=by
 unfold wv at h;split at h
 ·rename_i c;split at h
  ·rename_i n;exact Kz c n h
  ·exact h.elim
 ·rename_i c;split at h
  ·rename_i a;exact LV c a h
  ·exact h.elim
 ·rename_i c;split at h
  ·rename_i j;split at h
   ·rename_i hu;split at h
    ·rename_i a d;exact KA c j hu a d h
    ·exact h.elim
   ·rename_i hu;split at h
    ·rename_i a d;exact KB c j hu a d h
    ·exact h.elim
   ·exact h.elim
  ·exact h.elim
 ·rename_i c;split at h
  ·rename_i hu;split at h
   ·rename_i a d;split at h
    ·rename_i q p hm g;refine Jw c hu a d q p hm ?_ h;rintro ⟨k,l⟩;rw [k] at g;simp at g;exact l g
    ·exact h.elim
   ·exact h.elim
  ·exact q3 h
 ·rename_i c;split at h
  ·rename_i a b;split at h
   ·rename_i hu;exact nL c (λw=>by rw [a,b];exact B9) (λw=>by rw [a,b];simp [binOp,Hj hu]) h
   ·exact h.elim
  ·rename_i a b;split at h
   ·rename_i hu;exact nL c (λw=>by rw [a,b];exact B9) (λw=>by rw [a,b];simp [binOp,Hj hu]) h
   ·exact h.elim
  ·rename_i a b;split at h
   ·rename_i hu;exact nL c (λw=>by rw [a,b];exact Df) (λw=>by rw [a,b];simp [binOp,Hq hu]) h
   ·exact h.elim
  ·rename_i a b;split at h
   ·rename_i hu;exact nL c (λw=>by rw [a,b];exact Df) (λw=>by rw [a,b];simp [binOp,Hq hu]) h
   ·exact h.elim
  ·rename_i a b;split at h
   ·exact q3 h
   ·obtain ⟨rfl,e,h⟩:=h;exact nL c (λw=>by rw [a,b];exact yi) (λw=>by rw [a,b];simp [binOp,Op.intDiv,e]) h
  ·rename_i a b;split at h
   ·exact q3 h
   ·obtain ⟨rfl,e,h⟩:=h;exact nL c (λw=>by rw [a,b];exact yi) (λw=>by rw [a,b];simp [binOp,Op.intDiv,e]) h
  ·rename_i a b;split at h
   ·exact q3 h
   ·obtain ⟨e,h⟩:=h;have f:¬ _<(0:Int):=Int.not_lt.2 e;exact nL c (λw=>by rw [a,b];exact yi) (λw=>by rw [a,b];simp only [binOp,Op.shift,f,if_false];rfl) h
  ·rename_i a b;split at h
   ·exact q3 h
   ·obtain ⟨e,h⟩:=h;have f:¬ _<(0:Int):=Int.not_lt.2 e;exact nL c (λw=>by rw [a,b];exact yi) (λw=>by rw [a,b];simp only [binOp,Op.shift,f,if_false];rfl) h
  ·rename_i a b;obtain ⟨r,i,h⟩:=h;exact nL c (λw=>by rw [a,b];exact (i w).1 _ _ _) (λw=>by rw [a,b];exact (i w).2.1) h
  ·rename_i a b;obtain ⟨r,i,h⟩:=h;exact nL c (λw=>by rw [a,b];exact (i w).1 _ _ _) (λw=>by rw [a,b];exact (i w).2.2) h
  ·exact q3 h
 ·exact q3 h
theorem s7 (h:q1 P env o K w):l6 P env o K w:=by
 unfold q1 at h;split at h
 ·exact (B6 h).bd
 split at h
 ·rename_i a;exact JL a h
 ·rename_i a;exact Jv a h
 ·rename_i a;split at h
  ·rename_i hu i b;split at h
   ·rename_i d;split at h
    ·rename_i f;split at h
     ·exact h.elim
     ·rename_i c;simp only [ep] at c;exact KC a hu i b d f (kW c.1) (Nat.le_of_ble_eq_true c.2) h
    ·exact h.elim
   ·exact h.elim
  ·exact h.elim
 ·rename_i a;split at h
  ·rename_i b;exact A3 a b (λ_=>rfl) h
  ·rename_i b;exact A3 a b (λ_=>rfl) h
  ·rename_i b;exact A3 a b (λ_=>rfl) h
  ·rename_i b;unfold m0 at h;split at h
   ·rename_i g;split at h
    ·rename_i e;exact Jx a b g e h
    ·exact h.elim
   ·exact h.elim
  ·exact De h
 ·exact De h
theorem Nv {Q:Exit->Act->aF} (h:l6 P env o K w) (a:∀ v w',K v w'->next (act (put env o.dst v)) w'):o.wp P (act env) w next Q:=by
 unfold Oper.wp;rw [s5];rcases h with ⟨n,w',b,h⟩ | ⟨f,args,b,h⟩
 ·rw [b];cases n with
  |value v=>simp only [Oper.upon,lg];exact a _ _ h
  |skip=>simp only [Oper.upon,lg];exact a _ _ h
  | _=>exact h.elim
 ·rw [b];simp only [Oper.upon];refine h.mono λe w' ⟨v,he,h⟩=>?_
  subst he;simp only [lg];exact a _ _ h
theorem u4 {Q:Exit->Act->aF} (h:l6 P env o K w) (a:∀ v w',K v w'->next (act (put env o.dst v)) w'):o.wpIn Fence.wide 0 P (act env) w next Q:=by
 refine ⟨λ_ _=>trivial,?_⟩;show o.uponIn Fence.wide 0 P (act env) next Q ((execOp (act env).eval o).run P w)
 rw [s5];rcases h with ⟨n,w',b,h⟩ | ⟨f,args,b,h⟩
 ·rw [b];cases n with
  |value v=>simp only [Oper.uponIn,lg];exact a _ _ h
  |skip=>simp only [Oper.uponIn,lg];exact a _ _ h
  | _=>exact h.elim
 ·rw [b];simp only [Oper.uponIn];refine ⟨λc=>by simp [Fence.wide] at c,callsIn_wide.2 (h.mono λe w' ⟨v,he,h⟩=>?_)⟩;subst he;simp only [lg];exact a _ _ h
theorem Jy {Q:Exit->Act->aF} (k:o.op=.call c) (b:c.callee=.value f) (i:ch env f=.func (.yield l) first captured)
  (h:YieldAt Fence.wide 0 P l (first++c.args.map (ch env)) w λe w'=>sq P (wu P o.type) λv=>e=.returned v/\K v w') (j:∀ v w',K v w'->next (act (put env o.dst v)) w'):o.wpIn Fence.wide 0 P (act env) w next Q:=by
 refine ⟨λ_ _=>trivial,?_⟩;show o.uponIn Fence.wide 0 P (act env) next Q ((execOp (act env).eval o).run P w)
 rw [s5];obtain ⟨fn,tmps,assign,body,a,g⟩:=h;have n:(execOp (ch env) o).run P w=.ok (.round l fn tmps assign body) w:=by unfold execOp;rw [k];simp only [resolve,b,i,Deferred.ofValue,pure_bind,invoke];exact a
 rw [n];simp only [Oper.uponIn];refine ⟨λb=>by simp [Fence.wide] at b,g.mono λe w' h=>?_⟩;obtain ⟨v,he,d⟩:=E0 h;subst he;simp only [lg];exact j _ _ d
theorem LW {Q:Exit->Act->aF} (h:AL P env o K w) (a:∀ v w',K v w'->next (act (put env o.dst v)) w'):o.wpIn Fence.wide 0 P (act env) w next Q:=by
 unfold AL at h;split at h
 ·rename_i c d;split at h
  ·rename_i f b;unfold jk at h;split at h
   ·rename_i l first captured e
    exact Jy d b e h a
   ·refine u4 (s7 ?_) a;cases o with
    |mk dst op type pos after guard=>
     cases c with
     |mk callee args argTypes=>simp only at d b;subst d;subst b;exact h
  ·exact u4 (s7 h) a
 ·exact u4 (s7 h) a
end
def rX (ops:List Oper) (j:Nat):Option Tmp:=match ops[j]? with | some o=>o.dst | none=>none
def jZ (P:Program) (all:List Oper):List Oper->ax->(ax->aF)->aF
 | [],env,K,w=>K env w
 |o::rest,env,K,w=>
  match o.guard with
  |none=>AL P env o (λv w'=>jZ P all rest (put env o.dst v) K w') w
  |some (j,want)=>match rX all j with
   |none=>False
   |some d=>match env[d]? with
    |some (.bool b)=>
     bif b then (match want with
      |true=>q1 P (env.set d (.bool true)) o (λv w'=>jZ P all rest (put (env.set d (.bool true)) o.dst v) K w') w
      |false=>jZ P all rest (put (env.set d (.bool true)) o.dst undef) K w)
     else (match want with
      |true=>jZ P all rest (put (env.set d (.bool false)) o.dst undef) K w
      |false=>q1 P (env.set d (.bool false)) o (λv w'=>jZ P all rest (put (env.set d (.bool false)) o.dst v) K w') w)
    |some _=>jZ P all rest (put env o.dst undef) K w
    |none=>False
theorem HX {ops:Array Oper} {o:Oper} (a:o.guard=none):Region.wanted o (yielded ops (act env).tmps)=true:=by simp [Region.wanted,a]
theorem HY {j:Nat} {d:Tmp} (h:rX all j=some d):yielded all.toArray (act env).tmps j=match env[d]? with | some (.bool b)=>some b | _=>none:=by
 unfold yielded rX at *;cases a:all[j]? with
 |none=>simp [a] at h
 |some o=>
  simp only [a] at h;simp only [vz,a,Option.bind_some,h,act];rcases env[d]? with _ | v
  ·rfl
  ·cases v<;>rfl
theorem oJ {P:Program} {all:List Oper} {Q:Exit->Act->aF}:∀ (l:List Oper) (env:ax) (w:ak) (K:ax->aF),
  (∀ env w,K env w->Q .normal (act env) w)->jZ P all l env K w->wpListIn Fence.wide 0 P all.toArray Q l (act env) w
 | [],env,w,K,e,h=>e _ _ h
 |o::rest,env,w,K,e,h=>by
  unfold jZ at h;unfold wpListIn;cases c:o.guard with
  |none=>simp only [c] at h;rw [if_pos (HX c)];exact LW h λv w' h=>oJ rest _ _ K e h
  |some p=>
   obtain ⟨j,want⟩:=p;simp only [c] at h;cases aq:rX all j with
   |none=>simp only [aq] at h
   |some d=>
    simp only [aq] at h;have f:=HY (env:=env) aq;cases he:env[d]? with
    |none=>simp only [he] at h
    |some v=>
     have a:env.set d v=env:=by
      apply jK;intro i;rw [im];split
      ·rename_i g;subst g;have:d<env.length:=by
        rcases oY d env.length with h | h
        ·exact h
        ·rw [iF h] at he;cases he
       rw [if_pos this,he]
      ·rfl
     cases v with
     |bool b=>
      simp only [he] at h;cases b with
      |true=>
       rw [cond_true,a] at h;cases want with
       |true=>simp only at h;rw [if_pos (by simp [Region.wanted,c,f,he])];exact u4 (s7 h) λv w' h=>oJ rest _ _ K e h
       |false=>simp only at h;rw [if_neg (by simp [Region.wanted,c,f,he]),lg];exact ⟨λ_ _=>trivial,oJ rest _ _ K e h⟩
      |false=>
       rw [cond_false,a] at h;cases want with
       |true=>simp only at h;rw [if_neg (by simp [Region.wanted,c,f,he]),lg];exact ⟨λ_ _=>trivial,oJ rest _ _ K e h⟩
       |false=>simp only at h;rw [if_pos (by simp [Region.wanted,c,f,he])];exact u4 (s7 h) λv w' h=>oJ rest _ _ K e h
     | _=>simp only [he] at h;rw [if_neg (by simp [Region.wanted,c,f,he]),lg];exact ⟨λ_ _=>trivial,oJ rest _ _ K e h⟩
section
variable {P:Program} {ops:Array Oper} {Q:Exit->Act->aF} {S:aF} {nd:Nat->Bool}
def rR (P:Program) (ops:Array Oper) (Q:Exit->Act->aF) (S:aF) (nd:Nat->Bool):Nat->Array Bool->Act->aF
 | 0,c3,a,w=>Region.ready .any ops c3=[]/\Q .normal a w
 |fuel+1,c3,a,w=>
  (Region.ready .any ops c3=[]->Q .normal a w)/\
  ∀ i ∈ Region.ready .any ops c3,wpOp P ops Q i (λb w'=>(nd i=true->S w->S w')/\rR P ops Q S nd fuel (c3.setIfInBounds i true) b w') a w
theorem uQ:∀ (fuel:Nat) (c3:Array Bool) (a:Act) (w:ak),rR P ops Q S nd fuel c3 a w->wpAny P .any ops Q fuel c3 a w
 | 0,_,_,_,h=>h
 |fuel+1,_,_,_,h=>⟨h.1,λi d=>wpOp_mono (λb w' c=>uQ fuel _ b w' c.2) (h.2 i d)⟩
def lk (ops:Array Oper) (c3:Array Bool):Prop:=∀ j a,ops[j]?=some a->c3.getD j false=true->∀ e ∈ a.after,Region.binds .any e=true->c3.getD e.on false=true
theorem lk.set {c3:Array Bool} {i:Nat} (h:lk ops c3) (g:i ∈ Region.ready .any ops c3):lk ops (c3.setIfInBounds i true):=by
 intro j l c f e he d;by_cases b:j=i
 ·subst b;obtain ⟨_,o,k,a⟩:=mem_ready.1 g;rw [k] at c;cases c;exact getD_set_true (a e he d)
 ·rw [getD_set_ne false (Ne.symm b)] at f;exact getD_set_true (h j l c f e he d)
theorem HT {i:Nat} {L:Bool} (I:ops[i]?=some kK) (p:∀ (j:Nat) (o:Oper) cs b,ops[j]?=some o->o.op≠.select cs b)
  (dH:∀ c a w,Q (.panic c) (a.put kK.dst v) w->Q (.panic c) a w) :
  ∀ (fuel:Nat) (c3:Array Bool) (a:Act) (w:ak),lk ops c3->
   (∀ (l2:Array Bool) j t,lk ops l2->(∀ k,c3.getD k false=true->l2.getD k false=true)->l2.getD i true=false->j ∈ Region.ready .any ops l2->ops[j]?=some t->j≠i->c3.getD j true=false->(∀ e ∈ t.after,Region.binds .any e=true->e.on≠i)->kK.apart ops t=true/\(L=true->nd j=true))->
   i ∈ Region.ready .any ops c3->YieldsIf P ops (λw=>L=true->S w) kK v a->(L=true->S w)->
   rR P ops Q S nd fuel (c3.setIfInBounds i true) (a.put kK.dst v) w->rR P ops Q S nd (fuel+1) c3 a w:=by
 intro fuel;induction fuel with
 |zero=>
  intro c3 a w _ _ n F E H;refine ⟨λh=>(by rw [h] at n;cases n),λj x=>?_⟩;by_cases d:j=i
  ·subst d;exact F.wpOp I E ⟨λ_ h=>h,H⟩
  ·have:=ready_mono x d;rw [H.1] at this;cases this
 |succ fuel Z=>
  intro c3 a w z f n F E H;refine ⟨λh=>(by rw [h] at n;cases n),λj x=>?_⟩;by_cases d:j=i
  ·subst d;exact F.wpOp I E ⟨λ_ h=>h,H⟩
  ·have r:=H.2 j (ready_mono x d);obtain ⟨l,t,s,y⟩:=mem_ready.1 x;have C:∀ e ∈ t.after,Region.binds .any e=true->e.on≠i:=λe he W heq=>by
    have r:=y e he W;have M:=(mem_ready.1 n).1;rw [heq] at r;rcases oY i c3.size with G | G
    ·simp [G] at M r;rw [M] at r;cases r
    ·simp [yF G] at r
   have A:=f c3 j t z (λ_ h=>h) (mem_ready.1 n).1 x s d l C;have R:=wpOp_putIf s A.1 (λcs b=>p i kK cs b I) (λcs b=>p j t cs b s) dH F r;have g:∀ (l2:Array Bool) k ok,lk ops l2->(∀ q,(c3.setIfInBounds j true).getD q false=true->l2.getD q false=true)->l2.getD i true=false->k ∈ Region.ready .any ops l2->ops[k]?=some ok->k≠i->(c3.setIfInBounds j true).getD k true=false->
     (∀ e ∈ ok.after,Region.binds .any e=true->e.on≠i)->kK.apart ops ok=true/\(L=true->nd k=true):=λl2 k ok u T U V X J D K=>by
    refine f l2 k ok u (λq Y=>T q (getD_set_true Y)) U V X J ?_ K;by_cases B:j=k
    ·subst B;exact l
    ·rw [getD_set_ne true B] at D;exact D
   refine wpOp_mono (λO w' u=>⟨u.2.1,Z (c3.setIfInBounds j true) O w' (z.set x) g (ready_mono n (Ne.symm d)) u.1 (λN=>u.2.1 (A.2 N) (E N)) ?_⟩) R;rw [Array.setIfInBounds_comm _ _ d];exact u.2.2
end
def kJ:Op->Bool
 | .load ..=>true
 | _=>false
def rY (ops:List Oper) (j i:Nat):Bool:=match ops[j]? with
 |some o=>o.after.any λe=>Region.binds .any e && e.on == i
 |none=>false
def qW (ops:List Oper) (j:Nat):Bool:=(List.range ops.length).any λi=>i != j && (match ops[i]? with | some o=>kJ o.op | none=>false) && !rY ops j i
def rS (m:cT) (o:Oper):cT:=m++[o.after.toList.foldl (λx e=>match Region.binds .any e with | true=>x ||| (1 <<< e.on) ||| m.getD e.on 0 | false=>x) 0]
def Fk (ops:List Oper):cT:=ops.foldl rS []
def rT (ops:List Oper) (j i:Nat):Bool:=((Fk ops).getD j 0).testBit i
def AI (ops:List Oper) (j:Nat):Bool:=(List.range ops.length).any λi=>i != j && (match ops[i]? with | some o=>kJ o.op | none=>false) && !rT ops j i && !rT ops i j
def Pa:Op->Bool
 | .call ..=>true
 | _=>false
def Pt:Op->Bool
 | .indexAddr ..=>true
 | _=>false
def y8 (ops:List Oper):Bool:=ops.any λo=>kJ o.op && o.after.any λe=>match ops[e.on]? with
 |some p=>Pt p.op && p.after.any λa=>match ops[a.on]? with
  |some q=>Pa q.op
  |none=>false
 |none=>false
def wx (ops:List Oper):Bool->Nat->Bool
 |true=>AI ops
 |false=>qW ops
def rZ (nd:Nat->Bool) (ops:List Oper) (c3:Array Bool) (i:Nat):Bool:=
 nd i || (List.range ops.length).any λk=>!c3.getD k true && k != i && (match ops[k]? with | some o=>!v8 o.op | none=>false) && nd k
def Nw (ops:List Oper):Bool:=ops.any λo=>kJ o.op
def Fl (P:Program) (S:aF) (t:TypeId) (x:a4) (K:a4->Prop):Prop:=
 match x with
 | .pointer (some bx)=>
  match P.info? t with
  |none=>False
  |some inf=>
   match gU P t with
   |true=>match Nat.beq (qS P 8 t).length inf.size with
    |true=>qM (qS P 8 t) λvs=>(∀ w,S w->cf w bx 0 vs)/\K (.agg vs.toArray)
    |false=>False
   |false=>match P.underlying t with
    |none=>False
    |some d=>pt (xL (some d)) λv=>(∀ w,S w->w.cell? bx=some v)/\K v
 | _=>False
def zB (P:Program) (S:aF) (env:ax) (o:Oper) (K:a4->Prop):Prop:=
 match o.op with
 | .load t x=>Fl P S t (ch env x) K
 | _=>wv P env o K
def v9 (all:List Oper) (env:ax) (g:Option (Nat×Bool)) (run skip:ax->Prop):Prop:=
 match g with
 |none=>run env
 |some (j,want)=>match rX all j with
  |none=>False
  |some d=>match env[d]? with
   |some (.bool b)=>
    bif b then (match want with | true=>run (env.set d (.bool true)) | false=>skip (env.set d (.bool true)))
    else (match want with | true=>skip (env.set d (.bool false)) | false=>run (env.set d (.bool false)))
   |some _=>skip env
   |none=>False
def Ad:List Prop->Prop
 | []=>True
 | [p]=>p
 |p::cl=>p/\Ad cl
theorem Dg:∀ {cl:List Prop} {p:Prop},Ad cl->p ∈ cl->p
 | [q],p,h,hm=>by simp only [n3] at hm;subst hm;exact h
 |q::r::rs,p,h,hm=>by
  rcases eU.1 hm with rfl | hm
  ·exact h.1
  ·exact Dg h.2 hm
def TJ:Bool->Bool->Prop->Prop->Prop
 |true,true,s,p=>s/\p
 |true,false,_,p=>p
 |false,false,_,p=>p
 |false,true,_,_=>False
def z_:Bool->Prop->Prop
 |true,_=>False
 |false,p=>p
def oT (P:Program) (ops:List Oper) (nd:Nat->Bool) (S:aF) (K:ax->aF):Nat->Array Bool->Bool->ax->aF
 | 0,c3,_,env,w=>z_ (!(Region.ready .any ops.toArray c3).isEmpty) (K env w)
 |fuel+1,c3,a,env,w=>
  match (Region.ready .any ops.toArray c3).find? (λi=>match ops[i]? with | some o=>(v8 o.op || (kJ o.op && a)) && Region.free .any ops.toArray c3 i | none=>false) with
  |some i=>match ops[i]? with
   |none=>False
   |some o=>v9 ops env o.guard (λenv=>zB P S env o λv=>oT P ops nd S K fuel (c3.setIfInBounds i true) a (put env o.dst v) w)
     (λenv=>oT P ops nd S K fuel (c3.setIfInBounds i true) a (put env o.dst undef) w)
  |none=>match (Region.ready .any ops.toArray c3) with
   | []=>K env w
   |rs=>Ad (rs.map λi=>match ops[i]? with
    |none=>False
    |some o=>v9 ops env o.guard (λenv=>q1 P env o (λv w'=>TJ a (rZ nd ops c3 i) (S w') (oT P ops nd S K fuel (c3.setIfInBounds i true) (a && rZ nd ops c3 i) (put env o.dst v) w')) w)
     (λenv=>oT P ops nd S K fuel (c3.setIfInBounds i true) a (put env o.dst undef) w))
theorem Jz {S:aF} {o:Oper} (h:zB P S env o K):∃ v,(∀ w,(kJ o.op=true->S w)->(execOp (ch env) o).run P w=.ok (.value v) w)/\K v:=by
 unfold zB at h;split at h
 ·rename_i t x g;have he:execOp (ch env) o=(do pure (.value (<- Instr.loadAt t (ch env x)))):=by unfold execOp;rw [g]
  have f:kJ o.op=true:=by rw [g];rfl
  unfold Fl at h;split at h
  ·rename_i bx i;split at h
   ·exact h.elim
   ·rename_i inf b;split at h
    ·rename_i a;split at h
     ·rename_i hlen;obtain ⟨vs,e,j,h⟩:=tv h;obtain ⟨d,aq⟩:=AD a;refine ⟨_,λw c=>?_,h⟩;have k:vs.length=inf.size:=by rw [e];exact kW hlen
      rw [he,Sem.run_bind];simp only [Instr.loadAt,i,Instr.sureAddr,pure_bind,loadVar,Sem.run_bind,pz aq,Result.andThen_ok,a,if_true,run_sizeOf b];have:=run_loadCellsFrom (P:=P) (acc:=#[]) (j w (c f));rw [k] at this;simp [loadCells,this]
     ·exact h.elim
    ·rename_i a;split at h
     ·exact h.elim
     ·rename_i d aq;obtain ⟨v,al,h⟩:=rQ h;refine ⟨_,λw c=>?_,h⟩;rw [he,Sem.run_bind];simp only [Instr.loadAt,i,Instr.sureAddr,pure_bind,loadVar,Sem.run_bind,pz aq,Result.andThen_ok,a];simp [al w (c f)]
  ·exact h.elim
 ·obtain ⟨v,l,h⟩:=B6 h;exact ⟨v,λw _=>l w,h⟩
theorem HZ {o:Oper} {run skip:ax->Prop} (h:v9 all env o.guard run skip) :
  (Region.wanted o (yielded all.toArray (act env).tmps)=true/\run env)\/(Region.wanted o (yielded all.toArray (act env).tmps)=false/\skip env):=by
 unfold v9 at h;cases c:o.guard with
 |none=>simp only [c] at h;exact .inl ⟨HX c,h⟩
 |some p=>
  obtain ⟨j,want⟩:=p;simp only [c] at h;cases aq:rX all j with
  |none=>simp only [aq] at h
  |some d=>
   simp only [aq] at h;have e:=HY (env:=env) aq;cases he:env[d]? with
   |none=>simp only [he] at h
   |some v=>
    have a:env.set d v=env:=by
     apply jK;intro i;rw [im];split
     ·rename_i f;subst f;have:d<env.length:=by
       rcases oY d env.length with h | h
       ·exact h
       ·rw [iF h] at he;cases he
      rw [if_pos this,he]
     ·rfl
    cases v with
    |bool b=>
     simp only [he] at h;cases b with
     |true=>
      rw [cond_true,a] at h;cases want with
      |true=>exact .inl ⟨by simp [Region.wanted,c,e,he],h⟩
      |false=>exact .inr ⟨by simp [Region.wanted,c,e,he],h⟩
     |false=>
      rw [cond_false,a] at h;cases want with
      |true=>exact .inr ⟨by simp [Region.wanted,c,e,he],h⟩
      |false=>exact .inl ⟨by simp [Region.wanted,c,e,he],h⟩
    | _=>simp only [he] at h;exact .inr ⟨by simp [Region.wanted,c,e,he],h⟩
theorem Pu {i j:Nat} {g:Oper} (b:ops[i]?=some kK) (k:ops[j]?=some g) (l:kJ kK.op=true) (d:j≠i) (f:∀ e ∈ g.after,Region.binds .any e=true->e.on≠i):qW ops j=true:=by
 unfold qW;rw [qa];have c:i<ops.length:=by
  rcases oY i ops.length with h | h
  ·exact h
  ·rw [iF h] at b;cases b
 refine ⟨i,fs.2 c,?_⟩;have hw:rY ops j i=false:=by unfold rY;simp only [k];rw [Array.any_eq_false'];intro e he a;simp only [ep,beq_iff_eq] at a;exact f e he a.1 a.2
 simp [b,l,hw,Ne.symm d]
def wK (ops:List Oper) (nd:Nat->Bool):Prop:=∀ (c3 l2:Array Bool) (i j:Nat) (kK a:Oper),ops[i]?=some kK->ops[j]?=some a->kJ kK.op=true->lk ops.toArray c3->lk ops.toArray l2->
 (∀ k,c3.getD k false=true->l2.getD k false=true)->i ∈ Region.ready .any ops.toArray c3->l2.getD i true=false->j ∈ Region.ready .any ops.toArray l2->j≠i->(∀ e ∈ a.after,Region.binds .any e=true->e.on≠i)->nd j=true
theorem y9 (ops:List Oper):wK ops (qW ops):=λ_ _ i j kK f c d e _ _ _ _ _ _ a b=>Pu c d e a b
inductive lQ (ops:List Oper):Nat->a6
 |one {j o e}:ops[j]?=some o->e ∈ o.after->Region.binds .any e=true->lQ ops j e.on
 |more {j o e i}:ops[j]?=some o->e ∈ o.after->Region.binds .any e=true->lQ ops e.on i->lQ ops j i
theorem lQ.c3 {l:Array Bool} (d:lk ops.toArray l) {j i:Nat} (h:lQ ops j i):l.getD j false=true->l.getD i false=true:=by
 induction h with
 |one c he a=>exact λb=>d _ _ (by simpa using c) b _ he a
 |more c he a _ e=>exact λb=>e (d _ _ (by simpa using c) b _ he a)
theorem lQ.ready {l:Array Bool} (f:lk ops.toArray l) {j i:Nat} (h:lQ ops j i) (g:j ∈ Region.ready .any ops.toArray l):l.getD i false=true:=by
 obtain ⟨_,o,c,b⟩:=mem_ready.1 g;cases h with
 |one a he d=>simp only [vz] at c;rw [c] at a;cases a;exact b _ he d
 |more a he d e=>simp only [vz] at c;rw [c] at a;cases a;exact e.c3 f (b _ he d)
theorem H0 {ops:List Oper} {m:cT} {k:Nat} {o:Oper} (f:ops[k]?=some o) (hm:∀ j i,(m.getD j 0).testBit i=true->lQ ops j i):∀ (es:List Edge) (x:Nat),(∀ e ∈ es,e ∈ o.after)->(∀ i,x.testBit i=true->lQ ops k i)->
  ∀ i,(es.foldl (λx e=>match Region.binds .any e with | true=>x ||| (1 <<< e.on) ||| m.getD e.on 0 | false=>x) x).testBit i=true->lQ ops k i
 | [],x,_,d,i,h=>d i h
 |e::es,x,he,d,i,h=>by
  rw [vy] at h;refine H0 f hm es _ (λg l=>he g (fw _ l)) (λi a=>?_) i h;have c:=he e (eO ..);cases b:Region.binds .any e with
  |false=>rw [b] at a;exact d i a
  |true=>
   rw [b] at a;simp only [Nat.testBit_or,vB] at a;rcases a with (a | a) | a
   ·exact d i a
   ·rw [Nat.one_shiftLeft,Nat.testBit_two_pow] at a;have:e.on=i:=by simpa using a
    rw [<-this];exact .one f c b
   ·exact .more f c b (hm _ _ a)
theorem Dh (ops:List Oper):∀ j i,((Fk ops).getD j 0).testBit i=true->lQ ops j i:=by
 have main:∀ n,n<=ops.length->((ops.take n).foldl rS []).length=n/\∀ j i,(((ops.take n).foldl rS []).getD j 0).testBit i=true->lQ ops j i:=by
  intro n;induction n with
  |zero=>intro _;refine ⟨rfl,λj i h=>?_⟩;simp at h
  |succ n g=>
   intro k;obtain ⟨a,b⟩:=g (by omega);obtain ⟨o,c⟩:∃ o,ops[n]?=some o:=⟨_,bE (by omega)⟩;rw [ff,c,Option.toList_some,yM];generalize (ops.take n).foldl rS []=M at a b ⊢;simp only [vy,List.foldl_nil];refine ⟨by unfold rS;rw [dy,a];rfl,λj i h=>?_⟩;unfold rS at h;rw [dq,qb] at h;split at h
   ·exact b j i (by rw [dq];exact h)
   ·rename_i f;by_cases d:j=n
    ·subst d;rw [a,m3] at h;exact H0 c b _ 0 (λe he=>by simpa using he) (λi h=>by simp at h) i h
    ·rw [iF (by simp;omega)] at h;simp at h
 have:=main ops.length (cY _);rw [h0] at this;exact this.2
theorem E1 {l:Array Bool} {k:Nat} (h:l.getD k true=false):¬ l.getD k false=true:=by
 intro a;rcases oY k l.size with b | b
 ·simp [b] at h a;rw [h] at a;cases a
 ·simp [yF b] at a
theorem Pb (ops:List Oper):wK ops (AI ops):=by
 intro c3 l2 i j kK r h q o n c b f g a e p;unfold AI;rw [qa];have d:i<ops.length:=(lG.1 h).1;refine ⟨i,fs.2 d,?_⟩;have k:rT ops j i=false:=by
  cases hw:rT ops j i with
  |false=>rfl
  |true=>exact absurd ((Dh ops j i hw).ready c a) (E1 g)
 have l:rT ops i j=false:=by
  cases hw:rT ops i j with
  |false=>rfl
  |true=>exact absurd (b _ ((Dh ops i j hw).ready n f)) (E1 (mem_ready.1 a).1)
 simp [h,o,k,l,Ne.symm e]
theorem EQ (ops:List Oper):∀ b,wK ops (wx ops b)
 |true=>Pb ops
 |false=>y9 ops
theorem nC {P:Program} {ops:List Oper} {nd:Nat->Bool} (l:wK ops nd) {S:aF} {K:ax->aF} {Q:Exit->Act->aF} (C:Region.noSelect ops.toArray=true)
  (B:∀ env w,K env w->Q .normal (act env) w) (dH:∀ c a w,¬ Q (.panic c) a w) :
  ∀ (fuel:Nat) (c3:Array Bool) (d:Bool) (env:ax) (w:ak),lk ops.toArray c3->(d=true->S w)->oT P ops nd S K fuel c3 d env w->rR P ops.toArray Q S nd fuel c3 (act env) w
 | 0,c3,d,env,w,g,A,h=>by
  unfold oT at h;unfold rR;cases y:Region.ready .any ops.toArray c3 with
  |nil=>simp [y,z_] at h;exact ⟨rfl,B _ _ h⟩
  |cons x xs=>simp [y,z_] at h
 |fuel+1,c3,d,env,w,g,A,h=>by
  unfold oT at h;split at h
  ·rename_i i q;have f:=List.mem_of_find?_eq_some q;have J:=List.find?_some q;cases z:ops[i]? with
   |none=>simp only [z] at h
   |some o=>
    simp only [z] at h;simp only [z,ep,vB] at J;have s:ops.toArray[i]?=some o:=by simpa using z
    have t:kJ o.op=true->d=true:=by
     intro F;rcases J.1 with G | G
     ·revert G F;cases o.op<;>simp [v8,kJ]
     ·exact G.2
    have r:∀ (l2:Array Bool) j H,lk ops.toArray l2->(∀ k,c3.getD k false=true->l2.getD k false=true)->l2.getD i true=false->j ∈ Region.ready .any ops.toArray l2->ops.toArray[j]?=some H->j≠i->c3.getD j true=false->(∀ e ∈ H.after,Region.binds .any e=true->e.on≠i)->o.apart ops.toArray H=true/\(kJ o.op=true->nd j=true):=
     λl2 j H R T U V O I M u=>⟨Region.free_spec s J.2 j H O I M u,λF=>l c3 l2 i j o H z (by simpa using O) F g R T f U V I u⟩
    rcases HZ h with ⟨hw,h⟩ | ⟨hw,h⟩
    ·obtain ⟨v,y,h⟩:=Jz h;refine HT (L:=kJ o.op) (v:=v) s (Region.noSelect_spec C) (λc a w h=>(dH _ _ _ h).elim) fuel c3 (act env) w g r f ?_ (λF=>A (t F)) ?_
     ·exact .inl ⟨hw,λw A=>by rw [s5];exact y w A⟩
     ·rw [lg];exact nC l C B dH fuel _ d _ w (g.set f) A h
    ·refine HT (L:=kJ o.op) (v:=undef) s (Region.noSelect_spec C) (λc a w h=>(dH _ _ _ h).elim) fuel c3 (act env) w g r f (.inr ⟨hw,rfl⟩) (λF=>A (t F)) ?_;rw [lg];exact nC l C B dH fuel _ d _ w (g.set f) A h
  ·cases y:Region.ready .any ops.toArray c3 with
   |nil=>simp only [y] at h;exact ⟨λ_=>B _ _ h,by rw [y];simp⟩
   |cons x xs=>
    simp only [y] at h;refine ⟨λN=>(by rw [y] at N;cases N),λi E=>?_⟩;have n:=g.set E;rw [y] at E;have s:=Dg h (cZ.2 ⟨i,E,rfl⟩);cases z:ops[i]? with
    |none=>simp only [z] at s
    |some o=>
     simp only [z] at s;unfold wpOp;simp only [vz,z];rcases HZ s with ⟨hw,s⟩ | ⟨hw,s⟩
     ·rw [if_pos hw];refine .inl (Nv (s7 s) λv w' h=>?_);have u:rZ nd ops c3 i=false->¬ nd i=true:=by intro W X;simp [rZ,X] at W
      cases p:d with
      |true=>
       cases b:rZ nd ops c3 i with
       |true=>rw [p,b] at h;exact ⟨λ_ _=>h.1,nC l C B dH fuel _ _ _ w' n (λ_=>h.1) h.2⟩
       |false=>rw [p,b] at h;exact ⟨λD=>absurd D (u b),nC l C B dH fuel _ _ _ w' n (λD=>by simp at D) h⟩
      |false=>
       cases b:rZ nd ops c3 i with
       |true=>rw [p,b] at h;exact h.elim
       |false=>rw [p,b] at h;exact ⟨λD=>absurd D (u b),nC l C B dH fuel _ _ _ w' n (λD=>by simp at D) h⟩
     ·rw [if_neg (by simp [hw]),lg];exact ⟨λ_ h=>h,nC l C B dH fuel _ d _ w n A s⟩
def tS (P:Program) (ops:List Oper) (env:ax) (K:ax->aF) (w:ak):Prop:=
 match Nw ops with
 |true=>∀ w1,w1=w.drew->∃ S:aF,S w1/\oT P ops (wx ops (y8 ops)) S K ops.length (Array.replicate ops.length false) true env w1
 |false=>∀ w1,w1=w.drew->oT P ops (qW ops) (λ_=>True) K ops.length (Array.replicate ops.length false) true env w1
theorem xX (ops:Array Oper) (n:Nat):lk ops (Array.replicate n false):=by
 intro j b _ a;exfalso;rcases oY j n with h | h
 ·simp [h] at a
 ·simp [h] at a
theorem I7 (hm:P.follows .mixedOrders=true) {id:Nat} {K:ax->aF} {Q:Exit->Act->aF} (d:Region.noSelect ops.toArray=true)
  (b:∀ env w,K env w->Q .normal (act env) w) (dH:∀ c a w,¬ Q (.panic c) a w) (h:tS P ops env K w):(Code.region id ops.toArray true).wp P Q (act env) w:=by
 unfold tS at h;split at h
 ·obtain ⟨S,e,h⟩:=h _ rfl;refine wp_region_any hm (uQ (S:=S) (nd:=wx ops (y8 ops)) _ _ _ _ ?_);have:=nC (EQ ops _) d b dH _ _ _ _ _ (xX _ _) (λ_=>e) h;simpa using this
 ·refine wp_region_any hm (uQ (S:=λ_=>True) (nd:=qW ops) _ _ _ _ ?_);have:=nC (y9 ops) d b dH _ _ _ _ _ (xX _ _) (λ_=>trivial) (h _ rfl);simpa using this
def qg (Q:Exit->ax->aF):Exit->Act->aF
 | .panic _,_,_=>False
 | .outgrown,_,_=>False
 |e,a,w=>a.defers=[]/\Q e a.tmps.toList w
theorem jx {e:Exit} (h:Q e env w) (he:(∀ c,e≠.panic c)/\e≠.outgrown):qg Q e (act env) w:=by
 cases e with
 |panic c=>exact absurd rfl (he.1 c)
 |outgrown=>exact absurd rfl he.2
 | _=>exact ⟨rfl,by simpa [act] using h⟩
theorem qV {e:Exit} {a:Act} (h:qg Q e a w):((∀ c,e≠.panic c)/\e≠.outgrown)/\∃ env,a=act env/\Q e env w:=by
 have mk:∀ (a:Act),a.defers=[]->a=act a.tmps.toList:=λa b=>by
  cases a with
  |mk t d=>simp only at b;subst b;simp [act]
 cases e with
 |panic c=>exact h.elim
 |outgrown=>exact h.elim
 |normal=>exact ⟨⟨λ_=>by simp,by simp⟩,_,mk a h.1,h.2⟩
 |exit i=>exact ⟨⟨λ_=>by simp,by simp⟩,_,mk a h.1,h.2⟩
 |goto i=>exact ⟨⟨λ_=>by simp,by simp⟩,_,mk a h.1,h.2⟩
 |ret=>exact ⟨⟨λ_=>by simp,by simp⟩,_,mk a h.1,h.2⟩
def cG (P:Program) (c:Code) (env:ax) (Q:Exit->ax->aF) (w:ak):Prop:=c.wp P (qg Q) (act env) w
def aZ (next:ax->aF) (Q:Exit->ax->aF):Exit->ax->aF
 | .normal,env,w=>next env w
 |e,env,w=>Q e env w
def aP (id:Nat) (Q:Exit->ax->aF):Exit->ax->aF
 | .exit i,env,w=>match Nat.beq i id with
  |true=>Q .normal env w
  |false=>Q (.exit i) env w
 |e,env,w=>Q e env w
def W (P:Program):Code->ax->(Exit->ax->aF)->aF
 | .skip,env,Q,w=>Q .normal env w
 | .region _ ops draw,env,Q,w=>match draw with
  |false=>jZ P ops.toList ops.toList env (Q .normal) w
  |true=>match Region.noSelect ops with
   |true=>tS P ops.toList env (Q .normal) w
   |false=>False
 | .seq a b,env,Q,w=>W P a env (aZ (λenv w=>W P b env Q w) Q) w
 | .cond c x y,env,Q,w=>match ch env c with
  | .bool b=>bif b then W P x env Q w else W P y env Q w
  | _=>False
 | .block id c,env,Q,w=>W P c env (aP id Q) w
 | .exit id,env,Q,w=>Q (.exit id) env w
 | .ret,env,Q,w=>Q .ret env w
 |c,env,Q,w=>cG P c env Q w
theorem pT {P:Program} (hm:P.follows .mixedOrders=true):∀ (c:Code) (env:ax) (Q:Exit->ax->aF) (w:ak),W P c env Q w->cG P c env Q w
 | .skip,env,Q,w,h=>wp_skip (jx h ⟨λ_=>by simp,by simp⟩)
 | .region id ops draw,env,Q,w,h=>by
  unfold W at h;cases draw with
  |false=>simp only at h;exact wpIn_wide.1 (wpIn_region_list (n:=0) (oJ (all:=ops.toList) ops.toList env w (Q .normal) (λenv w o=>jx o ⟨λ_=>by simp,by simp⟩) h))
  |true=>
   simp only at h;split at h
   ·rename_i q;have:=I7 (id:=id) hm (Q:=qg Q) (by simpa using q) (λenv w o=>jx o ⟨λ_=>by simp,by simp⟩) (λc a w h=>h.elim) h;unfold cG;simpa using this
   ·exact h.elim
 | .seq a b,env,Q,w,h=>by
  have k:=pT hm a env _ w h;refine wp_seq (wp_mono k λe p w' f=>?_);obtain ⟨he,g,l,d⟩:=qV f;subst l;clear f;cases e with
  |normal=>exact pT hm b g Q w' d
  |panic c=>exact absurd rfl (he.1 c)
  |outgrown=>exact absurd rfl he.2
  |exit i=>exact jx d he
  |goto i=>exact jx d he
  |ret=>exact jx d he
 | .cond c x y,env,Q,w,h=>by
  unfold W at h;split at h
  ·rename_i b j;refine wp_cond (t:=b) (by rw [s5];exact j) ?_;cases b with
   |true=>exact pT hm x env Q w h
   |false=>exact pT hm y env Q w h
  ·exact h.elim
 | .block id c,env,Q,w,h=>by
  have k:=pT hm c env _ w h;refine wp_block (wp_mono k λe p w' f=>?_);obtain ⟨he,g,l,d⟩:=qV f;subst l;clear f;cases e with
  |exit i=>
   simp only [aP] at d;simp only [Exit.inBlock];cases j:Nat.beq i id with
   |true=>rw [j] at d;rw [if_pos (kW j)];exact jx d ⟨λ_=>by simp,by simp⟩
   |false=>rw [j] at d;rw [if_neg (BD j)];exact jx d he
  |panic c=>exact absurd rfl (he.1 c)
  |outgrown=>exact absurd rfl he.2
  |normal=>exact jx d he
  |goto i=>exact jx d he
  |ret=>exact jx d he
 | .exit id,env,Q,w,h=>wp_exit (jx h ⟨λ_=>by simp,by simp⟩)
 | .ret,env,Q,w,h=>wp_ret (jx h ⟨λ_=>by simp,by simp⟩)
 | .loop _,_,_,_,h=>h
 | .rangeFunc ..,_,_,_,h=>h
 | .scope _,_,_,_,h=>h
 | .label _,_,_,_,h=>h
 | .goto _,_,_,_,h=>h
 | .refuse _,_,_,_,h=>h
theorem KD {Q:Exit->Act->aF} {a:Act} {c:Code} (a':Nat->Act->aF) (z:Nat) (u:a' z a w)
  (round:∀ n a w,a' n a w->c.wp P (Exit.then (λh w'=>∃ m,m<n/\a' m h w') Q) a w):(Code.loop c).wp P Q a w:=by
 intro b k cs;have key:∀ n a w,a' n a w->
   ∃ e h w',Q e h w'/\Arrives P (lone (b.at a (.code c::.inLoop c::k)) cs w) b k cs e h w':=by
  intro n;induction n using Nat.strongRecOn with
  | _ n y=>
   intro a w t;obtain ⟨e,i,j,f,d⟩:=round n a w t b (.inLoop c::k) cs;cases e with
   |normal=>obtain ⟨m,p,o⟩:=f;obtain ⟨s,r,A,q,g⟩:=y m p i j o;exact ⟨s,r,A,q,.of_steps (Steps.trans d (.one step_inLoop)) g⟩
   |exit id=>exact ⟨_,i,j,f,.pass (x:=.inLoop c) rfl (λ_ _=>.inl (by simp)) d⟩
   |goto l=>exact ⟨_,i,j,f,.pass (x:=.inLoop c) rfl (λ_ _=>.inl (by simp)) d⟩
   |ret=>exact ⟨_,i,j,f,.pass (x:=.inLoop c) rfl (λ_ _=>.inl (by simp)) d⟩
   |panic B=>exact ⟨_,i,j,f,.pass (x:=.inLoop c) rfl (λ_ _=>.inl (by simp)) d⟩
   |outgrown=>exact ⟨_,i,j,f,.pass (x:=.inLoop c) rfl (λ_ _=>.inl (by simp)) d⟩
 obtain ⟨e,h,w',f,d⟩:=key _ a w u;exact ⟨e,h,w',f,.of_steps (.one step_loop) d⟩
theorem c8 (hm:P.follows .mixedOrders=true) {c:Code}
  (a':Nat->ax->aF) (h:Nat) (j:a' h env w)
  (o:∀ n env w,a' n env w->W P c env (aZ (λb w'=>∃ m,m<n/\a' m b w') Q) w):cG P (.loop c) env Q w:=by
 refine KD (λn a w=>∃ env,a=act env/\a' n env w) h ⟨env,rfl,j⟩ ?_;rintro n a w ⟨env,rfl,k⟩;refine wp_mono (pT hm c env _ w (o n env w k)) λe p w' d=>?_
 obtain ⟨he,b,l,f⟩:=qV d;subst l;clear d;cases e with
 |normal=>obtain ⟨m,hm,g⟩:=f;exact ⟨m,hm,b,rfl,g⟩
 |panic c=>exact absurd rfl (he.1 c)
 |outgrown=>exact absurd rfl he.2
 |exit i=>exact jx f he
 |goto i=>exact jx f he
 |ret=>exact jx f he
def sub:Code->cT->Code
 |c,[]=>c
 | .seq a b,n::p=>match n with | 0=>sub a p | _=>sub b p
 | .cond _ a b,n::p=>match n with | 0=>sub a p | _=>sub b p
 | .block _ c,_::p=>sub c p
 | .loop c,_::p=>sub c p
 | .scope c,_::p=>sub c p
 | .rangeFunc _ _ a b,n::p=>match n with | 0=>sub a p | _=>sub b p
 |c,_=>c
def bn (fn:Func):Code:=match fn.body with | some c=>c | none=>.skip
def nQ (P:Program):List ResultVar->ax->(ax->Prop)->aF
 | [],_,K,_=>K []
 | .tmp t::rs,env,K,w=>nQ P rs env (λvs=>K (env.getD t undef::vs)) w
 | .cell a t::rs,env,K,w=>n5 P t (env.getD a undef) (λv w'=>w'=w/\nQ P rs env (λvs=>K (v::vs)) w) w
def sR:ax->a4
 | [v]=>v
 |vs=>.tuple vs.toArray
def dC (P:Program) (fn:Func) (R:cz):Exit->ax->aF
 | .normal,env,w=>nQ P fn.results.toList env (λvs=>R (sR vs) w) w
 | .ret,env,w=>nQ P fn.results.toList env (λvs=>R (sR vs) w) w
 | _,_,_=>False
theorem VD {x:a4} {K:cz} (h:n5 P t x K w):∃ v,(do loadVar t (<- asAddr x):Sem a4).run P w=.ok v w/\K v w:=by
 unfold n5 at h;split at h
 ·rename_i bx;split at h
  ·exact h.elim
  ·rename_i inf b;split at h
   ·rename_i a;split at h
    ·rename_i hlen;obtain ⟨vs,e,c,h⟩:=tv h;obtain ⟨d,aq⟩:=AD a;refine ⟨_,?_,h⟩;have f:vs.length=inf.size:=by rw [e];exact kW hlen
     simp only [asAddr,pure_bind,loadVar,Sem.run_bind,pz aq,Result.andThen_ok,a,if_true,run_sizeOf b];have:=run_loadCellsFrom (P:=P) (acc:=#[]) c;rw [f] at this;simp [loadCells,this]
    ·exact h.elim
   ·rename_i a;split at h
    ·exact h.elim
    ·rename_i d aq;obtain ⟨v,al,h⟩:=rQ h;refine ⟨_,?_,h⟩;simp only [asAddr,pure_bind,loadVar,Sem.run_bind,pz aq,Result.andThen_ok,a];simp [al]
 ·exact h.elim
theorem yt {P:Program} {env:ax} {w:ak}:∀ (rs:List ResultVar) (K:ax->Prop),nQ P rs env K w->
  ∃ vs,(rs.mapM fun | .tmp t=>pure (env.toArray.getD t undef) | .cell a t=>do loadVar t (<- asAddr (env.toArray.getD a undef)):Sem ax).run P w=.ok vs w/\K vs
 | [],K,h=>⟨[],rfl,h⟩
 | .tmp t::rs,K,h=>by obtain ⟨vs,b,h⟩:=yt rs _ h;refine ⟨_,?_,h⟩;rw [List.mapM_cons];simp only [pure_bind,Sem.run_bind,b,Result.andThen_ok,Sem.run_pure];simp [dq]
 | .cell a t::rs,K,h=>by
  obtain ⟨v,al,hw,h⟩:=VD h;obtain ⟨vs,b,h⟩:=yt rs _ h;refine ⟨_,?_,h⟩;rw [List.mapM_cons];have e:env.toArray.getD a undef=env.getD a undef:=by simp [dq]
  simp only [e] at b ⊢;rw [Sem.run_bind,al];simp only [Result.andThen_ok,Sem.run_bind,b,Sem.run_pure]
theorem xY (h:nQ P fn.results.toList env (λvs=>K (sR vs)) w):∃ v,(results fn env.toArray).run P w=.ok v w/\K v:=by
 obtain ⟨vs,b,h⟩:=yt _ _ h;refine ⟨_,?_,h⟩;unfold results;rw [Array.mapM_eq_mapM_toList];simp only [Sem.run_bind,Sem.run_map,Sem.run_pure];refine Eq.trans (congrArg (λr:Result ax=>(r.andThen λa w'=>Result.ok a.toArray w').andThen λa w'=>Result.ok (if h:a.size=1 then a[0] else Value.tuple a) w') b) ?_;simp only [Result.andThen_ok];congr 1
 match vs with
 | []=>rfl
 | [v]=>rfl
 |v::u::r=>simp [sR]
def bf (P:Program) (fn:Func) (args:ax) (R:cz) (w:ak):Prop:=
 match fn.body with
 |some c=>W P c (args++List.replicate (fn.ntmps - args.length) undef) (dC P fn R) w
 |none=>False
theorem LX (hm:P.follows .mixedOrders=true) {f:FuncId} {args:ax} (o:P.funcs[f]?=some fn)
  (h:bf P fn args R w):Calls P f args.toArray w λe w'=>∃ v,e=.returned v/\R v w':=by
 unfold bf at h;split at h
 ·rename_i c n;refine calls_of_wp o n ?_;have j:=pT hm c _ _ w h;have k:cG P c (args++List.replicate (fn.ntmps - args.length) undef) (dC P fn R) w=c.wp P (qg (dC P fn R)) { tmps:=args.toArray++Array.replicate (fn.ntmps - args.toArray.size) undef,defers:=[] } w:=by unfold cG act;congr 2;simp
  rw [k] at j;refine wp_mono j λe p w' b=>?_
  obtain ⟨he,a,l,d⟩:=qV b;subst l;clear b;cases e with
  |normal=>obtain ⟨v,al,g⟩:=xY (P:=P) (fn:=fn) (env:=a) (w:=w') (K:=λv=>R v w') d;exact ⟨rfl,v,al,v,rfl,g⟩
  |ret=>obtain ⟨v,al,g⟩:=xY (P:=P) (fn:=fn) (env:=a) (w:=w') (K:=λv=>R v w') d;exact ⟨rfl,v,al,v,rfl,g⟩
  |panic c=>exact absurd rfl (he.1 c)
  |outgrown=>exact absurd rfl he.2
  |exit i=>exact d.elim
  |goto i=>exact d.elim
 ·exact h.elim
def bI (P:Program) (fn:Func) (R:cz) (Q:Exit->ax->aF):Exit->ax->aF
 | .ret,env,w=>dC P fn R .ret env w
 |e,env,w=>Q e env w
theorem QE (h:∀ env w,Q .ret env w=dC P fn R .ret env w):bI P fn R Q=Q:=by funext e env w;cases e<;>first | rfl | exact (h env w).symm
theorem z9 {c:Code} (h:∀ env w,Q .ret env w=dC P fn R .ret env w):W P c env (bI P fn R Q) w=W P c env Q w:=by rw [QE h]
theorem eT (h:N env w):aZ N Q .normal env w:=h
theorem p7 {k:Nat} (h:Q (.exit k) env w):aZ N Q (.exit k) env w:=h
theorem pI {k:Nat} (h:Q .normal env w):aP k Q .normal env w:=h
theorem pJ {k:Nat} (h:Q .normal env w):aP k Q (.exit k) env w:=by
 show match Nat.beq k k with
  |true=>Q .normal env w
  |false=>Q (.exit k) env w
 rw [Nat.beq_refl k];exact h
noncomputable def FT (n:Nat):(a8->Prop)->Prop:=@Nat.rec (λ_=>(a8->Prop)->Prop) (λK=>K []) (λ_ a K=>∃ x:Int,a λl=>K (x::l)) n
theorem E2:∀ (n:Nat) (l:a8),l.length=n->∀ {K:a8->Prop},K l->FT n K
 | 0,l,h,K,a=>by have:l=[]:=fF h;subst this;exact a
 |n+1,[],h,_,_=>by cases h
 |n+1,x::l,h,K,a=>⟨x,E2 n l (by simpa using h) a⟩
attribute [irreducible] bf W sub bn
end Go.bs
