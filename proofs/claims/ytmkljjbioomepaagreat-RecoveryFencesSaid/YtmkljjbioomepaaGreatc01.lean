import Derived.OrdersHeld
import Derived.KernelRfl
import Derived.Tactics
import Derived.Laws.World
import Derived.TacticsIn
import Derived.RangeFuncSeq
set_option linter.all false
namespace Go
abbrev ak:=World
abbrev a4:=Value
abbrev aU:=Addr
abbrev al:=Option Addr
abbrev ax:=List Value
abbrev cQ:=List Nat
abbrev bb:=List Int
abbrev aE:=World->Prop
abbrev cA:=Value->World->Prop
abbrev a5:=Nat->Prop
abbrev x1:=@Array.getElem?_eq_none
abbrev uQ:=@Array.getElem?_eq_some_iff
abbrev x_:=@Array.getElem?_modify
abbrev eY:=@Bool.and_eq_true
abbrev re:=@Bool.false_eq_true
abbrev sZ:=@Bool.not_eq_false
abbrev rh:=@Bool.not_eq_true'
abbrev u2:=@Bool.or_eq_true
abbrev u3:=@Bool.true_and
abbrev yd:=@Int.emod_lt_of_pos
abbrev x2:=@Int.emod_nonneg
abbrev pZ:=@Int.eq_ofNat_of_zero_le
abbrev uS:=@Int.fdiv_eq_ediv_of_nonneg
abbrev x6:=@Int.tdiv_eq_ediv_of_nonneg
abbrev x7:=@Int.tmod_eq_emod_of_nonneg
abbrev fY:=@Int.toNat_natCast
abbrev x8:=@List.all_eq_false
abbrev gQ:=@List.all_eq_true
abbrev x9:=@List.any_eq_false
abbrev p2:=@List.any_eq_true
abbrev ln:=@List.append_assoc
abbrev iW:=@List.append_nil
abbrev AR:=@List.contains_iff_mem
abbrev uW:=@List.drop_drop
abbrev oM:=@List.drop_eq_getElem_cons
abbrev AS:=@List.drop_eq_nil_of_le
abbrev rb:=@List.drop_length
abbrev sW:=@List.drop_zero
abbrev fB:=@List.eq_nil_of_length_eq_zero
abbrev sX:=@List.exists_cons_of_ne_nil
abbrev j':=@List.ext_getElem?
abbrev AT:=@List.filter_append
abbrev AU:=@List.flatten_append
abbrev gR:=@List.flatten_cons
abbrev x':=@List.foldl_append
abbrev uX:=@List.foldl_cons
abbrev dD:=@List.getD_eq_getElem?_getD
abbrev p3:=@List.getElem?_append
abbrev hP:=@List.getElem?_append_left
abbrev hQ:=@List.getElem?_append_right
abbrev nO:=@List.getElem?_cons_succ
abbrev rf:=@List.getElem?_cons_zero
abbrev lo:=@List.getElem?_drop
abbrev bF:=@List.getElem?_eq_getElem
abbrev lp:=@List.getElem?_eq_none
abbrev lq:=@List.getElem?_eq_some_iff
abbrev ya:=@List.getElem?_inj
abbrev d':=@List.getElem?_map
abbrev sY:=@List.getElem?_modify
abbrev ka:=@List.getElem?_range
abbrev AV:=@List.getElem?_replicate
abbrev ik:=@List.getElem?_set
abbrev h6:=@List.getElem?_set_ne
abbrev jK:=@List.getElem?_set_self
abbrev oN:=@List.getElem?_take
abbrev s0:=@List.getElem?_take_of_lt
abbrev uY:=@List.getElem?_toArray
abbrev AW:=@List.getElem?_zip_eq_some
abbrev kb:=@List.getElem_mem
abbrev yb:=@List.getElem_of_mem
abbrev dH:=@List.length_append
abbrev hh:=@List.length_cons
abbrev lZ:=@List.length_drop
abbrev uZ:=@List.length_eq_one_iff
abbrev nP:=@List.length_eq_zero_iff
abbrev u0:=@List.length_filter_le
abbrev fC:=@List.length_map
abbrev p4:=@List.length_nil
abbrev u1:=@List.length_pos_iff
abbrev lr:=@List.length_range
abbrev yc:=@List.length_replicate
abbrev p5:=@List.length_set
abbrev s3:=@List.length_singleton
abbrev ri:=@List.length_tail
abbrev iG:=@List.length_take
abbrev iX:=@List.map_append
abbrev s4:=@List.map_congr_left
abbrev gA:=@List.map_cons
abbrev rj:=@List.map_map
abbrev rk:=@List.map_nil
abbrev il:=@List.map_set
abbrev jL:=@List.mem_append
abbrev u4:=@List.mem_append_left
abbrev e9:=@List.mem_cons
abbrev fD:=@List.mem_cons_of_mem
abbrev e_:=@List.mem_cons_self
abbrev u5:=@List.mem_filter
abbrev oO:=@List.mem_flatten
abbrev eF:=@List.mem_iff_getElem?
abbrev cW:=@List.mem_map
abbrev cg:=@List.mem_of_getElem?
abbrev oP:=@List.mem_of_mem_drop
abbrev ye:=@List.mem_of_mem_eraseIdx
abbrev s5:=@List.mem_of_mem_tail
abbrev s6:=@List.mem_of_mem_take
abbrev nQ:=@List.mem_or_eq_of_mem_set
abbrev fE:=@List.mem_range
abbrev AX:=@List.mem_replicate
abbrev nR:=@List.mem_singleton
abbrev oQ:=@List.nil_append
abbrev lk:=@List.not_mem_nil
abbrev AN:=@List.pairwise_iff_getElem
abbrev j9:=@List.range_succ
abbrev sT:=@List.range_succ_eq_map
abbrev q':=@List.replicate_succ
abbrev AO:=@List.set_append_right
abbrev AP:=@List.set_cons_succ
abbrev x3:=@List.set_cons_zero
abbrev j_:=@List.sum_cons
abbrev e7:=@List.take_add_one
abbrev hv:=@List.take_length
abbrev hO:=@List.take_of_length_le
abbrev Hc:=@List.take_succ_eq_append_getElem
abbrev uR:=@Nat.add_assoc
abbrev ra:=@Nat.add_mul
abbrev lY:=@Nat.add_zero
abbrev kJ:=@Nat.eq_of_beq_eq_true
abbrev x4:=@Nat.eq_zero_or_pos
abbrev x5:=@Nat.le_of_not_lt
abbrev cO:=@Nat.le_refl
abbrev ll:=@Nat.le_trans
abbrev fX:=@Nat.lt_of_lt_of_le
abbrev oL:=@Nat.lt_or_ge
abbrev p0:=@Nat.lt_succ_iff_lt_or_eq
abbrev sU:=@Nat.mod_eq_of_lt
abbrev uT:=@Nat.mul_comm
abbrev p1:=@Nat.mul_le_mul
abbrev sV:=@Nat.mul_le_mul_right
abbrev AQ:=@Nat.ne_of_beq_eq_false
abbrev mU:=@Nat.sub_self
abbrev h5:=@Nat.succ_mul
abbrev g3:=@Nat.zero_add
abbrev uU:=@Nat.zero_le
abbrev uV:=@Nat.zero_mul
abbrev kK:=@Option.map_eq_some_iff
abbrev mV:=@Option.map_some
abbrev nN:=@Option.some.inj
abbrev e8:=@Option.some.injEq
end Go
namespace Go.br
variable {K:a4->Prop} {N:ax->aE} {P:Program} {Q:Exit->ax->aE} {R:cA} {a b p:al} {all ops:List Oper} {c:Call} {c' cap l l' len:Nat} {captured first:Array a4} {env:ax} {f x y:Operand} {fn:Func} {h m n:Int} {inf:TypeInfo} {k:IntKind} {next:Act->aE} {ku:Oper} {op:BinOp} {q:aU} {s:Sem a4} {t:TypeId} {v:a4} {w w':ak}
def b7 (env:ax):Operand->a4
 | .tmp t=>env.getD t undef
 | .const v=>v
 | .global g=>.pointer (some ⟨g,0,none⟩)
 | .func f=>.func (.func f) #[] #[]
def ag (j:ax):Nat->Nat->ax->ax
 | _,0,r=>r
 |a,n+1,r=>j.getD a undef::ag j (a+1) n r
def bd:Nat->ax->ax
 | 0,r=>r
 |n+1,r=>undef::bd n r
def put (env:ax):Option Tmp->a4->ax
 |some d,v=>env.set d v
 |none,_=>env
def act (env:ax):Act:={ tmps:=env.toArray,defers:=[] }
theorem sy (env:ax):(act env).eval=b7 env:=by
 funext x;cases x with
 |tmp t=>simp only [Act.eval,act,b7,Array.getD_eq_getD_getElem?,uY,dD]
 |const v=>rfl
 |global g=>rfl
 |func f=>rfl
theorem kY (env:ax) (d:Option Tmp) (v:a4):(act env).put d v=act (put env d v):=by
 cases d with
 |none=>rfl
 |some d=>simp [Act.put,act,put]
def single:a4->Bool
 | .agg _=>false
 | .tuple _=>false
 | _=>true
def oC {α:Type} (P:Program):Sem α->(α->aE)->aE
 | .pure a,K,w=>K a w
 | .load _ a k,K,w=>∃ v,w.cell? a=some v/\oC P (k v) K w
 | .store _ a v k,K,w=>(∃ u,w.cell? a=some u)/\w.frozen? a=false/\single v=true/\∀ w1,w1=w.setCell a v->oC P k K w1
 | .new o k,K,w=>∀ b w1,b=w.heap.size->w1=w.alloc o->oC P (k b) K w1
 | .shape r k,K,w=>oC P (k (w.shape? r)) K w
 | .frozen a k,K,w=>oC P (k (w.frozen? a)) K w
 | .program k,K,w=>oC P (k P) K w
 | .mark _ k,K,w=>oC P k K w
 | _,_,_=>False
theorem Bn {α:Type} {m:Mode} {a:aU} {k:Sem α} (b:∃ u,w.cell? a=some u) (c:w.frozen? a=false) (an:single v=true) :
  (Sem.store m a v k).run P w=k.run P (w.setCell a v):=by
 obtain ⟨u,hu⟩:=b;cases v<;>simp [single] at an<;>simp [Sem.run,hu,c]
theorem J' {α:Type} (s:Sem α):∀ {K:α->aE} {w:ak},oC P s K w->∃ a w',s.run P w=.ok a w'/\K a w':=by
 induction s with
 |pure a=>intro K w h;exact ⟨a,w,rfl,h⟩
 |load m a k b=>intro K w h;obtain ⟨v,an,h⟩:=h;obtain ⟨x,w',d,c⟩:=b v h;exact ⟨x,w',by simp only [Sem.run,an];exact d,c⟩
 |store m a v k b=>intro K w h;obtain ⟨e,f,g,h⟩:=h;obtain ⟨x,w',d,c⟩:=b (h _ rfl);exact ⟨x,w',by rw [Bn e f g];exact d,c⟩
 |new o k b=>intro K w h;obtain ⟨x,w',d,c⟩:=b _ (h _ _ rfl rfl);exact ⟨x,w',d,c⟩
 |shape r k b=>intro K w h;exact b _ h
 |frozen a k b=>intro K w h;exact b _ h
 |program k b=>intro K w h;exact b _ h
 |mark m k b=>intro K w h;exact b h
 | _=>intro K w h;exact h.elim
def fq (k:IntKind) (x y:Int):Int:=k.wrap (BitVec.ofInt k.bits x &&& BitVec.ofInt k.bits y).toNat
def je (k:IntKind) (x y:Int):Int:=k.wrap (BitVec.ofInt k.bits x ||| BitVec.ofInt k.bits y).toNat
def hS (k:IntKind) (x y:Int):Int:=k.wrap (BitVec.ofInt k.bits x ^^^ BitVec.ofInt k.bits y).toNat
def tr (k:IntKind) (x y:Int):Int:=k.wrap (BitVec.ofInt k.bits x &&& ~~~ BitVec.ofInt k.bits y).toNat
def h_ (k:IntKind) (x n:Int):Int:=k.wrap (x * 2 ^ min n.toNat k.bits)
def db (k:IntKind) (x n:Int):Int:=x.fdiv (2 ^ min n.toNat k.bits)
inductive mY where
 |i (k:IntKind) | b | p | s | v
def xa:Option TypeDesc->mY
 |some (.int k)=>.i k
 |some .bool=>.b
 |some (.pointer _)=>.p
 |some (.slice _)=>.s
 | _=>.v
def ph:mY->(a4->Prop)->Prop
 | .i k,K=>∃ x:Int,K (.int k x)
 | .b,K=>∃ x:Bool,K (.bool x)
 | .p,K=>∃ x:al,K (.pointer x)
 | .s,K=>∃ (x:al) (l c:Nat),K (.slice x l c)
 | .v,K=>∃ v:a4,K v
theorem sP {k:mY} (h:ph k K):∃ v,K v:=by
 cases k with
 |i k=>obtain ⟨x,h⟩:=h;exact ⟨_,h⟩
 |b=>obtain ⟨x,h⟩:=h;exact ⟨_,h⟩
 |p=>obtain ⟨x,h⟩:=h;exact ⟨_,h⟩
 |s=>obtain ⟨x,l,c,h⟩:=h;exact ⟨_,h⟩
 |v=>exact h
theorem CE {k:mY} {d:a4->Prop} (a:∀ v,K v->d v) (h:ph k K):ph k d:=by
 cases k with
 |i k=>obtain ⟨x,h⟩:=h;exact ⟨_,a _ h⟩
 |b=>obtain ⟨x,h⟩:=h;exact ⟨_,a _ h⟩
 |p=>obtain ⟨x,h⟩:=h;exact ⟨_,a _ h⟩
 |s=>obtain ⟨x,l,c,h⟩:=h;exact ⟨_,_,_,a _ h⟩
 |v=>obtain ⟨x,h⟩:=h;exact ⟨_,a _ h⟩
def qC:List mY->(ax->Prop)->Prop
 | [],K=>K []
 |k::a,K=>ph k λv=>qC a λvs=>K (v::vs)
theorem tf:∀ {a:List mY} {K:ax->Prop},qC a K->∃ vs,vs.length=a.length/\K vs
 | [],_,h=>⟨[],rfl,h⟩
 |k::a,K,h=>by obtain ⟨v,h⟩:=sP h;obtain ⟨vs,b,h⟩:=tf h;exact ⟨v::vs,by simp [b],h⟩
theorem CF:∀ {c:List mY} {K b:ax->Prop},(∀ vs,K vs->b vs)->qC c K->qC c b
 | [],_,_,a,h=>a _ h
 | _::_,_,_,a,h=>CE (λv h=>CF (λvs h=>a (v::vs) h) h) h
def qI (P:Program):Nat->TypeId->List mY
 | 0,_=>[]
 |n+1,t=>match P.underlying t with
  |some (.struct a)=>a.toList.flatMap λf=>qI P n f.type
  |some (.array len e)=>(List.replicate len (qI P n e)).flatten
  |d=>[xa d]
def gI (P:Program) (t:TypeId):Bool:=
 match P.underlying t with
 |some (.struct _)=>true
 |some (.array _ _)=>true
 | _=>false
def qb (P:Program) (t:TypeId):Nat:=match P.info? t with | some i=>i.size | none=>0
def wE (P:Program) (t:TypeId) (K:a4->Prop):Prop:=
 match gI P t with
 |true=>qC (qI P 8 t) λvs=>K (.agg vs.toArray)
 |false=>ph (xa (P.underlying t)) K
theorem D9 (h:wE P t K):∃ v,K v:=by
 unfold wE at h;split at h
 ·obtain ⟨vs,_,h⟩:=tf h;exact ⟨_,h⟩
 ·exact sP h
def zF (P:Program):List TypeId->(ax->Prop)->Prop
 | [],K=>K []
 |t::ts,K=>wE P t λv=>zF P ts λvs=>K (v::vs)
theorem D_ {P:Program}:∀ {ts:List TypeId} {K:ax->Prop},zF P ts K->∃ vs,K vs
 | [],_,h=>⟨[],h⟩
 |t::ts,K,h=>by obtain ⟨v,h⟩:=D9 h;obtain ⟨vs,h⟩:=D_ h;exact ⟨v::vs,h⟩
def rY (P:Program):List TypeId->(a4->Prop)->Prop
 | [t],K=>wE P t K
 |ts,K=>zF P ts λvs=>K (.tuple vs.toArray)
theorem D' {ts:List TypeId} (h:rY P ts K):∃ v,K v:=by
 unfold rY at h;split at h
 ·exact D9 h
 ·obtain ⟨vs,h⟩:=D_ h;exact ⟨_,h⟩
def b6 (w:ak) (bw:aU):Nat->ax->Prop
 | _,[]=>True
 |i,v::vs=>w.cell? (bw.add i)=some v/\b6 w bw (i+1) vs
def eh (w:ak) (bw:aU):Nat->ax->Prop
 | _,[]=>True
 |i,v::vs=>(∃ u,w.cell? (bw.add i)=some u)/\w.frozen? (bw.add i)=false/\single v=true/\eh w bw (i+1) vs
def ct (w:ak) (bw:aU):Nat->ax->ak
 | _,[]=>w
 |i,v::vs=>ct (w.setCell (bw.add i) v) bw (i+1) vs
theorem UC {p:aU} (h:∃ u,w.cell? q=some u):∃ u,(w.setCell p v).cell? q=some u:=by
 obtain ⟨u,hu⟩:=h;unfold World.cell? World.setCell at *;simp only [x_];cases f:w.heap[q.block]? with
 |none=>rw [f] at hu;cases hu
 |some o=>
  rw [f] at hu;cases o with
  |cells c e i=>
   simp only at hu;by_cases b:q.spot.isSome=true
   ·simp [b] at hu
   ·simp only [b,re,if_false] at hu;by_cases a:p.block=q.block
    ·simp only [a,if_true,mV,b,re,if_false];by_cases g:p.spot.isSome=true
     ·simp only [g,if_true];exact ⟨u,hu⟩
     ·simp only [g,re,if_false];rw [Array.getElem?_setIfInBounds];split
      ·rename_i he;have d:p.off<c.size:=by
        rcases oL p.off c.size with h | h
        ·exact h
        ·rw [x1 (by omega)] at hu;cases hu
       rw [if_pos d];exact ⟨_,rfl⟩
      ·exact ⟨u,hu⟩
    ·simp only [a,if_false,b,re];exact ⟨u,hu⟩
  | _=>cases hu
theorem Vf {p:aU}:(w.setCell p v).frozen? q=w.frozen? q:=by
 unfold World.frozen? World.setCell;simp only [x_];cases b:w.heap[q.block]? with
 |none=>simp
 |some o=>
  by_cases a:p.block=q.block
  ·simp only [a,if_true,mV];cases o<;>rfl
  ·simp only [a,if_false]
theorem GV {w:ak} {bw p:aU} {u:a4}:∀ {vs:ax} {i:Nat},eh w bw i vs->eh (w.setCell p u) bw i vs
 | [],_,_=>trivial
 | _::_,_,h=>⟨UC h.1,by rw [Vf];exact h.2.1,h.2.2.1,GV h.2.2.2⟩
theorem su {P:Program} {bw:aU}:∀ {vs:ax} {i:Nat} {w:ak},eh w bw i vs->
  (storeCells bw vs i).run P w=.ok () (ct w bw i vs)
 | [],_,_,_=>rfl
 |v::vs,i,w,h=>by unfold storeCells;show ((store (bw.add i) v).bind λ_=>storeCells bw vs (i+1)).run P w=_;show (Sem.store .plain (bw.add i) v (storeCells bw vs (i+1))).run P w=_;rw [Bn h.1 h.2.1 h.2.2.1];exact su (GV h.2.2.2)
theorem run_loadCellsFrom {P:Program} {bw:aU} {w:ak}:∀ {vs:ax} {i:Nat} {acc:Array a4},b6 w bw i vs->
  (loadCellsFrom bw i vs.length acc).run P w=.ok (acc++vs.toArray) w
 | [],_,acc,_=>by simp [loadCellsFrom]
 |v::vs,i,acc,h=>by show (Sem.load .plain (bw.add i) λv=>loadCellsFrom bw (i+1) vs.length (acc.push v)).run P w=_;simp only [Sem.run,h.1];rw [run_loadCellsFrom (acc:=acc.push v) h.2];simp
def nT (P:Program) (t:TypeId) (x:a4) (K:cA) (w:ak):Prop:=
 match x with
 | .pointer (some bw)=>
  match P.info? t with
  |none=>False
  |some inf=>
   match gI P t with
   |true=>match Nat.beq (qI P 8 t).length inf.size with
    |true=>qC (qI P 8 t) λvs=>b6 w bw 0 vs/\K (.agg vs.toArray) w
    |false=>False
   |false=>match P.underlying t with
    |none=>False
    |some d=>ph (xa (some d)) λv=>w.cell? bw=some v/\K v w
 | _=>False
def yU (P:Program) (t:TypeId) (x v:a4) (K:aE) (w:ak):Prop:=
 match x with
 | .pointer (some bw)=>
  match P.info? t with
  |none=>False
  |some inf=>
   match gI P t with
   |true=>match Nat.beq v.cells.size inf.size with
    |true=>eh w bw 0 v.cells.toList/\∀ w1,w1=ct w bw 0 v.cells.toList->K w1
    |false=>False
   |false=>match single v,Nat.beq inf.size 1 with
    |true,true=>(∃ u,w.cell? bw=some u)/\w.frozen? bw=false/\∀ w1,w1=w.setCell bw v->K w1
    | _,_=>False
 | _=>False
def ff:al->(aU->Prop)->Prop
 |some bw,K=>K bw
 |none,_=>False
def bk (a:al) (len:Nat) (n:Int) (sz:Nat) (K:aU->Prop):Prop:=
 ∃ bw,a=some bw/\0<=n/\n<len/\K (bw.add (n.toNat * sz))
def kT (bw:aU) (len:Nat) (n:Int) (sz:Nat) (K:aU->Prop):Prop:=
 0<=n/\n<len/\K (bw.add (n.toNat * sz))
def hM (a:al) (len cap:Nat) (b d c:Int) (sz:Nat) (K:al->Nat->a5):Prop:=
 0<=b/\b<=d/\d<=c/\c<=cap/\len<=cap/\K (if c=b then a else a.map (·.add (b.toNat * sz))) (d.toNat - b.toNat) (c.toNat - b.toNat)
def jr (n:Nat) (zs:ax):ax:=(List.replicate n zs).flatten
def qK (len cap:Int) (bytes:Nat) (o:Obj) (w:ak) (K:Nat->aE):Prop:=0<=len/\len<=cap/\cap * bytes<=140737488355328/\cap<=140737488355328/\∀ b w1,b=w.heap.size->w1=w.alloc o->K b w1
def ic (P:Program) (f:FuncId):Bool:=
 match P.funcs[f]? with
 |some fn=>fn.body.isSome && !(fn.name == "runtime.NumGoroutine")
 |none=>false
def mL (P:Program) (f:a4) (args:Array a4) (w:ak) (R:Ending->aE):Prop:=
 match f with
 | .func (.func g) first captured=>match ic P g with
  |true=>Calls P g (first++args++captured) w R
  |false=>False
 | _=>False
def vH (P:Program) (t:TypeId):List TypeId:=
 match P.underlying t with
 |some (.tuple ts)=>ts.toList
 | _=>[t]
def xq (P:Program) (s:Sem a4) (k:mY) (K:cA) (w:ak):Prop:=
 ph k λv=>∃ w',s.run P w=.ok v w'/\K v w'
def Vk:a4->Option Int
 | .int _ n=>some n
 | _=>none
def Ei (K:cA):Next->aE
 | .value v,w=>K v w
 | .skip,w=>K undef w
 | _,_=>False
def zN (P:Program) (env:ax) (o:Oper) (K:cA) (w:ak):Prop:=
 oC P (execOp (b7 env) o) (Ei K) w
def u_:Operand->Bool
 | .const _=>true
 | _=>false
def ma (d:Int):Option a4->Option Int
 |none=>some d
 |some (.int _ n)=>some n
 |some _=>none
def u' {α:Type} (P:Program):Sem α->Option α
 | .pure a=>some a
 | .program k=>u' P (k P)
 | _=>none
theorem Ia {α:Type} (s:Sem α):∀ {a:α},u' P s=some a->∀ w,s.run P w=.ok a w:=by
 induction s with
 |pure a=>intro b h w;simp [u'] at h;subst h;rfl
 |program k c=>intro b h w;exact c P h w
 | _=>intro b h;cases h
def oi (P:Program) (env:ax) (o:Oper) (K:a4->Prop):Prop:=
 match u' P (execOp (b7 env) o) with
 |some (.value v)=>K v
 | _=>False
def Il (P:Program) (t:TypeId) (x y:a4) (r:Bool) (w:ak):Prop:=
 (∀ op a b,(eqGuard op t a b x y).run P w=.ok () w)/\(binOp .eql t x y).run P w=.ok (.bool r) w/\(binOp .neq t x y).run P w=.ok (.bool (!r)) w
def rI (P:Program) (t:TypeId) (x y:a4) (K:Bool->Prop):Prop:=∃ r:Bool,(∀ w,Il P t x y r w)/\K r
def vI (P:Program) (env:ax) (o:Oper) (K:a4->Prop):Prop:=
 match o.op with
 | .pick c a b=>match b7 env c with
  | .bool t=>bif t then K (b7 env a) else K (b7 env b)
  | _=>False
 | .nilCheck x=>match b7 env x with
  | .pointer p=>ff p λbw=>K (.pointer (some bw))
  | _=>False
 | .indexAddr t x i=>match b7 env i with
  | .int _ n=>match P.underlying t with
   |some (.slice e)=>match b7 env x,P.info? e with
    | .slice a len _,some inf=>bk a len n inf.size λbw=>K (.pointer (some bw))
    | _,_=>False
   |some (.array len e)=>match b7 env x,P.info? e with
    | .pointer (some bw),some inf=>kT bw len n inf.size λbw=>K (.pointer (some bw))
    | _,_=>False
   | _=>False
  | _=>False
 | .slice t x q f g=>match P.underlying t with
  |some (.slice e)=>match b7 env x,P.info? e with
   | .slice a len cap,some inf=>
    match ma 0 (q.map (b7 env)),ma len (f.map (b7 env)),ma cap (g.map (b7 env)),f.isNone && g.isSome with
    |some l,some h,some m,false=>hM a len cap l h m inf.size λj l' c'=>K (.slice j l' c')
    | _,_,_,_=>False
   | _,_=>False
  | _=>oi P env o K
 | .binOp op t x y _=>match op,b7 env x,b7 env y with
  | .eql,.pointer p,.pointer none=>match P.underlying t with
   |some (.pointer _)=>K (.bool p.isNone)
   | _=>False
  | .neq,.pointer p,.pointer none=>match P.underlying t with
   |some (.pointer _)=>K (.bool (!p.isNone))
   | _=>False
  | .eql,.slice a _ _,.slice none _ _=>match P.underlying t with
   |some (.slice _)=>K (.bool a.isNone)
   | _=>False
  | .neq,.slice a _ _,.slice none _ _=>match P.underlying t with
   |some (.slice _)=>K (.bool (!a.isNone))
   | _=>False
  | .quo,.int k a,.int d b=>match u_ y with
   |true=>oi P env o K
   |false=>k=d/\b≠0/\K (.int k (k.wrap (a.tdiv b)))
  | .rem,.int k a,.int d b=>match u_ y with
   |true=>oi P env o K
   |false=>k=d/\b≠0/\K (.int k (a.tmod b))
  | .shl,.int k a,.int _ b=>match u_ y with
   |true=>oi P env o K
   |false=>0<=b/\K (.int k (k.wrap (a * 2 ^ min b.toNat k.bits)))
  | .shr,.int k a,.int _ b=>match u_ y with
   |true=>oi P env o K
   |false=>0<=b/\K (.int k (a.fdiv (2 ^ min b.toNat k.bits)))
  | .eql,.agg a,.agg b=>rI P t (.agg a) (.agg b) λr=>K (.bool r)
  | .neq,.agg a,.agg b=>rI P t (.agg a) (.agg b) λr=>K (.bool (!r))
  | _,_,_=>oi P env o K
 | _=>oi P env o K
def vx:Op->Bool
 | .move _ | .assign _ | .pick .. | .build .. | .nilCheck _ | .binOp .. | .unOp .. | .convert .. | .makeFunc .. | .slice .. | .fieldAddr .. | .field .. | .indexAddr .. | .index .. | .extract ..=>true
 | .call { callee:=.builtin .len,.. } | .call { callee:=.builtin .cap,.. } | .call { callee:=.builtin .min,.. } | .call { callee:=.builtin .max,.. }=>true
 | _=>false
def qR (P:Program) (env:ax) (o:Oper) (K:cA) (w:ak):Prop:=
 match vx o.op with
 |true=>vI P env o λv=>K v w
 |false=>match o.op with
  | .load t x=>nT P t (b7 env x) K w
  | .store t x v=>yU P t (b7 env x) (b7 env v) (K undef) w
  | .makeSlice t l c=>match P.underlying t,b7 env l,b7 env c with
   |some (.slice e),.int _ len,.int _ cap=>match P.info? e with
    |some inf=>match inf.zero with
     |some z=>match Nat.beq z.cells.size inf.size && Nat.ble 1 inf.size with
      |false=>False
      |true=>qK len cap inf.bytes (.cells (jr cap.toNat z.cells.toList).toArray e) w λb w1=>K (.slice (some ⟨b,0,none⟩) len.toNat cap.toNat) w1
     |none=>False
    |none=>False
   | _,_,_=>False
  | .call c=>match c.callee with
   | .builtin .append=>xq P (Builtin.append_ c.argTypes o.type (c.args.map (b7 env))) .s K w
   | .builtin .copy=>xq P (Builtin.copy_ c.argTypes o.type (c.args.map (b7 env))) (.i .i64) K w
   | .builtin .clear=>xq P (Builtin.clear_ c.argTypes o.type (c.args.map (b7 env))) .v K w
   | .value f=>mL P (b7 env f) (c.args.map (b7 env)) w λe w'=>rY P (vH P o.type) λv=>e=.returned v/\K v w'
   | _=>zN P env o K w
  | _=>zN P env o K w
def iS (P:Program) (f:a4) (args:Array a4) (w:ak) (R:Ending->aE):Prop:=
 match f with
 | .func (.yield l) first _=>YieldAt Fence.wide 0 P l (first++args) w R
 |f=>mL P f args w R
def z2 (P:Program) (env:ax) (o:Oper) (K:cA) (w:ak):Prop:=
 match o.op with
 | .call c=>match c.callee with
  | .value f=>iS P (b7 env f) (c.args.map (b7 env)) w λe w'=>rY P (vH P o.type) λv=>e=.returned v/\K v w'
  | _=>qR P env o K w
 | _=>qR P env o K w
section
variable {P:Program} {env:ax} {o:Oper} {K:cA} {w:ak}
def lQ (P:Program) (env:ax) (o:Oper) (K:cA) (w:ak):Prop:=
 (∃ n w',(execOp (b7 env) o).run P w=.ok n w'/\Ei K n w')\/
 (∃ f args,(execOp (b7 env) o).run P w=.ok (.enter f args) w/\Calls P f args w λe w'=>∃ v,e=.returned v/\K v w')
theorem CG (h:zN P env o K w):lQ P env o K w:=.inl (J' _ h)
theorem yf (he:execOp (b7 env) o=(do pure (.value (<- s)))) (a:s.run P w=.ok v w') (h:K v w'):lQ P env o K w:=by refine .inl ⟨.value v,w',?_,h⟩;rw [he,Sem.run_bind,a];rfl
theorem Bg {s:Sem Unit} (he:execOp (b7 env) o=(do s;pure .skip)) (a:s.run P w=.ok () w') (h:K undef w'):lQ P env o K w:=by refine .inl ⟨.skip,w',?_,h⟩;rw [he,Sem.run_bind,a];rfl
theorem Ad {i:TypeInfo} (h:P.info? t=some i) (w:ak):(typeInfo t).run P w=.ok i w:=by simp [typeInfo,h,program,Sem.run]
theorem run_sizeOf {i:TypeInfo} (h:P.info? t=some i) (w:ak):(sizeOf t).run P w=.ok i.size w:=by simp [sizeOf,Ad h]
theorem pt {d:TypeDesc} (h:P.underlying t=some d) (w:ak):(Go.isAgg t).run P w=.ok (gI P t) w:=by simp only [Go.isAgg,Sem.run_bind,run_underlying h,Result.andThen_ok,gI,h];cases d<;>rfl
theorem zV (h:gI P t=true):∃ d,P.underlying t=some d:=by
 unfold gI at h;cases hu:P.underlying t with
 |none=>simp [hu] at h
 |some d=>exact ⟨d,rfl⟩
def ml (P:Program) (env:ax) (o:Oper) (K:a4->Prop):Prop:=
 ∃ v,(∀ w,(execOp (b7 env) o).run P w=.ok (.value v) w)/\K v
theorem ml.bc (h:ml P env o λv=>K v w):lQ P env o K w:=
 let ⟨v,a,h⟩:=h
 .inl ⟨.value v,w,a w,h⟩
theorem xO {K:a4->Prop} (he:execOp (b7 env) o=(do pure (.value (<- s)))) (a:∀ w,s.run P w=.ok v w) (h:K v):ml P env o K:=by
 refine ⟨v,λw=>?_,h⟩
 rw [he,Sem.run_bind,a];rfl
theorem qT {K:a4->Prop} (h:oi P env o K):ml P env o K:=by
 unfold oi at h;split at h
 ·rename_i v an;exact ⟨v,Ia _ an,h⟩
 ·exact h.elim
theorem Js (i:o.op=.load t x) (h:nT P t (b7 env x) K w):lQ P env o K w:=by
 have he:execOp (b7 env) o=(do pure (.value (<- Instr.loadAt t (b7 env x)))):=by unfold execOp;rw [i]
 unfold nT at h;split at h
 ·rename_i bw c;split at h
  ·exact h.elim
  ·rename_i inf b;split at h
   ·rename_i a;split at h
    ·rename_i hlen;obtain ⟨vs,f,e,h⟩:=tf h;obtain ⟨d,ar⟩:=zV a;refine yf he ?_ h;have g:vs.length=inf.size:=by rw [f];exact kJ hlen
     simp only [Instr.loadAt,c,Instr.sureAddr,pure_bind,loadVar,Sem.run_bind,pt ar,Result.andThen_ok,a,if_true,run_sizeOf b];have:=run_loadCellsFrom (P:=P) (acc:=#[]) e;rw [g] at this;simp [loadCells,this]
    ·exact h.elim
   ·rename_i a;split at h
    ·exact h.elim
    ·rename_i d ar;obtain ⟨v,an,h⟩:=sP h;refine yf he ?_ h;simp only [Instr.loadAt,c,Instr.sureAddr,pure_bind,loadVar,Sem.run_bind,pt ar,Result.andThen_ok,a];simp [an]
 ·exact h.elim
theorem IJ {v:Operand} (j:o.op=.store t x v) (h:yU P t (b7 env x) (b7 env v) (K undef) w):lQ P env o K w:=by
 have he:execOp (b7 env) o=(do Instr.storeAt t (b7 env x) (b7 env v);pure .skip):=by unfold execOp;rw [j]
 unfold yU at h;split at h
 ·rename_i bw f;split at h
  ·exact h.elim
  ·rename_i inf b;split at h
   ·split at h
    ·rename_i hlen;obtain ⟨hw,h⟩:=h;have h:=h _ rfl;refine Bg he ?_ h;have c:=kJ hlen;simp only [Instr.storeAt,f,Instr.sureAddr,pure_bind,storeVar,Sem.run_bind,run_sizeOf b,Result.andThen_ok,c];simp [su hw]
    ·exact h.elim
   ·split at h
    ·rename_i e c;obtain ⟨g,i,h⟩:=h;have h:=h _ rfl;refine Bg he ?_ h;have c:=kJ c;have a:(b7 env v).cells=#[b7 env v]:=by revert e;cases b7 env v<;>simp [single,Value.cells]
     have d:bw.add 0=bw:=by simp [Addr.add]
     have hw:eh w bw 0 [b7 env v]:=⟨by rw [d];exact g,by rw [d];exact i,e,trivial⟩;simp only [Instr.storeAt,f,Instr.sureAddr,pure_bind,storeVar,Sem.run_bind,run_sizeOf b,Result.andThen_ok,c,a];simp [su hw,ct,d]
    ·exact h.elim
 ·exact h.elim
theorem Ka {K:a4->Prop} (a:o.op=.nilCheck x) (b:b7 env x=.pointer p) (h:ff p λbw=>K (.pointer (some bw))):ml P env o K:=by
 cases p with
 |none=>exact h.elim
 |some bw=>
  refine ⟨.pointer (some bw),λw=>?_,h⟩
  unfold execOp;rw [a];simp only [b];rfl
theorem Jt {c a b:Operand} {t:Bool} {K:a4->Prop} (e:o.op=.pick c a b) (d:b7 env c=.bool t) (h:bif t then K (b7 env a) else K (b7 env b)):ml P env o K:=by refine ⟨bif t then b7 env a else b7 env b,λw=>?_,by cases t<;>exact h⟩;unfold execOp;rw [e];simp only [d,asBool,pure_bind];cases t<;>rfl
theorem Ju {t e:TypeId} {x i:Operand} {K:a4->Prop} (g:o.op=.indexAddr t x i) (f:b7 env i=.int k n)
  (hu:P.underlying t=some (.slice e)) (j:b7 env x=.slice a len cap) (b:P.info? e=some inf) (h:bk a len n inf.size λbw=>K (.pointer (some bw))):ml P env o K:=by
 have he:execOp (b7 env) o=(do pure (.value (<- Instr.indexAt t (b7 env x) (b7 env i)))):=by unfold execOp;rw [g]
 obtain ⟨bw,rfl,c,d,h⟩:=h;refine xO he (λw=>?_) h;simp [Instr.indexAt,f,j,asIntOf,run_underlying hu,c,d,run_sizeOf b]
theorem Jv {t e:TypeId} {x i:Operand} {bw:aU} {K:a4->Prop} (f:o.op=.indexAddr t x i) (d:b7 env i=.int k n)
  (hu:P.underlying t=some (.array len e)) (g:b7 env x=.pointer (some bw)) (a:P.info? e=some inf) (h:kT bw len n inf.size λbw=>K (.pointer (some bw))):ml P env o K:=by
 have he:execOp (b7 env) o=(do pure (.value (<- Instr.indexAt t (b7 env x) (b7 env i)))):=by unfold execOp;rw [f]
 obtain ⟨b,c,h⟩:=h;refine xO he (λw=>?_) h;simp [Instr.indexAt,d,g,asIntOf,run_underlying hu,b,c,run_sizeOf a,Instr.sureAddr]
theorem sA {d:Int} {v:Option a4} (h:ma d v=some n):(v=none/\n=d)\/∃ k,v=some (.int k n):=by
 unfold ma at h;split at h
 ·exact .inl ⟨rfl,by simpa using h.symm⟩
 ·rename_i k m;exact .inr ⟨k,by simp at h;rw [h]⟩
 ·cases h
theorem oe {y:Nat} {c:BoundsCode} (a:0<=n) (b:n<=y) (w:ak):(Instr.sliceBound (.int k n) y c).run P w=.ok n.toNat w:=by simp [Instr.sliceBound,asIntOf,a,b]
theorem ij {i b d:Option a4} {l:Int} (c:ma 0 i=some l) (f:ma len b=some h) (hm:ma cap d=some m) (a:¬ (b=none/\d≠none))
  (kO:0<=l) (b1:l<=h) (aA:h<=m) (e:m<=cap) (w:ak):(Instr.sliceBounds true len cap i b d).run P w=.ok (l.toNat,h.toNat,m.toNat) w:=by
 unfold Instr.sliceBounds;rcases sA hm with ⟨rfl,rfl⟩ | ⟨k,rfl⟩
 ·rcases sA f with ⟨rfl,rfl⟩ | ⟨j,rfl⟩
  ·rcases sA c with ⟨rfl,rfl⟩ | ⟨g,rfl⟩
   ·simp
   ·simp [oe (y:=len) kO b1]
  ·rcases sA c with ⟨rfl,rfl⟩ | ⟨g,rfl⟩
   ·simp [oe (y:=cap) b1 aA]
   ·simp [oe (y:=cap) (Int.le_trans kO b1) aA,oe (y:=h.toNat) kO (by omega:l<=((h.toNat:Nat):Int))]
 ·rcases sA f with ⟨rfl,rfl⟩ | ⟨j,rfl⟩
  ·exact absurd ⟨rfl,by simp⟩ a
  ·rcases sA c with ⟨rfl,rfl⟩ | ⟨g,rfl⟩
   ·simp [oe (y:=cap) (by omega:(0:Int)<=m) e,oe (y:=m.toNat) b1 (by omega:h<=((m.toNat:Nat):Int))]
   ·simp [oe (y:=cap) (by omega:(0:Int)<=m) e,oe (y:=m.toNat) (Int.le_trans kO b1) (by omega:h<=((m.toNat:Nat):Int)),
     oe (y:=h.toNat) kO (by omega:l<=((h.toNat:Nat):Int))]
theorem Fd {t e:TypeId} {i c d:Option Operand} {K:a4->Prop} {l:Int} (u:o.op=.slice t x i c d)
  (hu:P.underlying t=some (.slice e)) (y:b7 env x=.slice a len cap) (b:P.info? e=some inf)
  (s:ma 0 (i.map (b7 env))=some l) (r:ma len (c.map (b7 env))=some h) (hm:ma cap (d.map (b7 env))=some m) (f:¬ (c=none/\d≠none))
  (g:hM a len cap l h m inf.size λk l' c'=>K (.slice k l' c')):ml P env o K:=by
 have he:execOp (b7 env) o=(do pure (.value (<- Instr.sliceAt t (b7 env x) (i.map (b7 env)) (c.map (b7 env)) (d.map (b7 env))))):=by unfold execOp;rw [u]
 obtain ⟨kO,b1,aA,n,_,g⟩:=g;refine xO he (λw=>?_) g;have q:=ij (P:=P) s r hm (by intro j;exact f ⟨by simpa using j.1,by simpa using j.2⟩) kO b1 aA n w;have p:(m=l)↔(m.toNat=l.toNat):=by omega
 simp only [Instr.sliceAt,Sem.run_bind,run_underlying hu,Result.andThen_ok,Instr.slice,y,q,run_sizeOf b,p];rfl
theorem Lr (n:Nat) (zs:Array a4) (au:0<zs.size):(Array.range (n * zs.size)).map (zs[· % zs.size]!)=(jr n zs.toList).toArray:=by
 apply Array.ext
 ·simp [jr]
 ·intro i e k;simp only [Array.size_map,Array.size_range] at e;simp only [Array.getElem_map,Array.getElem_range,List.getElem_toArray];have key:∀ (m i:Nat) (zs:ax) (a:zs≠[]),i<m * zs.length->((List.replicate m zs).flatten)[i]?=zs[i % zs.length]?:=by
   intro m;induction m with
   |zero=>intro i zs _ h;simp at h
   |succ m p=>
    intro i zs a h;have q:0<zs.length:=u1.2 a;simp only [q',gR];by_cases g:i<zs.length
    ·rw [hP g,sU g]
    ·rw [hQ (by omega),p (i - zs.length) zs a (by rw [h5] at h;omega)];congr 1;rw [Nat.mod_eq_sub_mod (by omega:i>=zs.length)]
  have d:zs.toList≠[]:=by
   intro l;have j:zs.toList.length=0:=by rw [l];rfl
   rw [Array.length_toList] at j;omega
  have o:=key n i zs.toList d (by simpa using e);have b:i % zs.size<zs.size:=Nat.mod_lt _ au;unfold jr;have f:((List.replicate n zs.toList).flatten)[i]?=some zs[i % zs.size]:=by rw [o];simp [b]
  rw [getElem!_pos zs _ b];have c:i<((List.replicate n zs.toList).flatten).length:=by simpa [jr] using k
  rw [bF c] at f;exact (nN f).symm
theorem Jw {t e:TypeId} {l c:Operand} {q p:IntKind} {len cap:Int} {z:a4} (n:o.op=.makeSlice t l c)
  (hu:P.underlying t=some (.slice e)) (i:b7 env l=.int q len) (g:b7 env c=.int p cap) (a:P.info? e=some inf) (au:inf.zero=some z) (d:z.cells.size=inf.size) (s:0<inf.size)
  (h:qK len cap inf.bytes (.cells (jr cap.toNat z.cells.toList).toArray e) w λb w1=>K (.slice (some ⟨b,0,none⟩) len.toNat cap.toNat) w1):lQ P env o K w:=by
 have he:execOp (b7 env) o=(do pure (.value (<- Instr.makeSlice t (b7 env l) (b7 env c)))):=by unfold execOp;rw [n]
 obtain ⟨kO,b1,aA,r,h⟩:=h;have h:=h _ _ rfl rfl;refine yf he ?_ h;have wl:IntKind.i64.wrap len=len:=by simp only [IntKind.wrap,IntKind.bits,IntKind.signed];simp;omega
 have eN:IntKind.i64.wrap cap=cap:=by simp only [IntKind.wrap,IntKind.bits,IntKind.signed];simp;omega
 have t1:¬ cap<0:=by omega
 have t2:¬ ((281474976710656:Int)<(inf.bytes:Int) * cap):=by rw [Int.mul_comm];omega
 have t3:¬ len<0:=by omega
 have t4:¬ cap<len:=by omega
 have room:(askRoom (cap.toNat * inf.bytes)).run P w=.ok () w:=by
  have:¬ (cap.toNat * inf.bytes>roomBytes):=by
   have:((cap.toNat * inf.bytes:Nat):Int)=cap * inf.bytes:=by rw [Int.natCast_mul,Int.toNat_of_nonneg (by omega)]
   unfold roomBytes;omega
  simp [askRoom,this]
 have k:=Lr cap.toNat z.cells (by omega);rw [d] at k;by_cases j:cap.toNat * inf.size=0
 ·have f:cap.toNat=0:=by
   rcases Nat.mul_eq_zero.1 j with h | h
   ·exact h
   ·omega
  simp [Instr.makeSlice,run_underlying hu,i,g,asInt,asIntOf,Ad a,wl,eN,t1,t2,t3,t4,run_sizeOf a,f,jr,newRow,newObj,Sem.run];rw [show Array.map (λ_=>(default:a4)) (Array.range 0)=#[] from Array.eq_empty_of_size_eq_zero (by simp)]
 ·simp [Instr.makeSlice,run_underlying hu,i,g,asInt,asIntOf,Ad a,wl,eN,t1,t2,t3,t4,run_sizeOf a,j,zeroValue,au,d,newRow,newObj,Sem.run,<-k]
theorem Gc {t e:TypeId} (hu:P.underlying t=some (.pointer e)) (w:ak):(Op.equal t (.pointer p) (.pointer none)).run P w=.ok p.isNone w:=by
 have h:∀ d:Nat,(Op.equalIn (d+1) t (.pointer p) (.pointer none)).run P w=.ok p.isNone w:=λd=>by cases p<;>simp [Op.equalIn,run_underlying hu]
 exact h 9999
theorem Gy {t e:TypeId} {c:Nat} (hu:P.underlying t=some (.slice e)) (w:ak):(Op.equal t (.slice p l c) (.slice none l' c')).run P w=.ok p.isNone w:=by
 have h:∀ d:Nat,(Op.equalIn (d+1) t (.slice p l c) (.slice none l' c')).run P w=.ok p.isNone w:=λd=>by cases p<;>simp [Op.equalIn,run_underlying hu]
 exact h 9999
theorem nm {u:TypeId} {K:a4->Prop} (b:o.op=.binOp op t x y u) (a:∀ w,(eqGuard op t x y (b7 env x) (b7 env y)).run P w=.ok () w)
  (c:∀ w,(binOp op t (b7 env x) (b7 env y)).run P w=.ok v w) (h:K v):ml P env o K:=by
 have he:execOp (b7 env) o=(do pure (.value (<- (do eqGuard op t x y (b7 env x) (b7 env y);binOp op t (b7 env x) (b7 env y))))):=by unfold execOp;rw [b]
 refine xO he (λw=>?_) h;rw [Sem.run_bind,a];exact c w
theorem IK {g:FuncId} (l:o.op=.call c) (i:c.callee=.value f) (j:b7 env f=.func (.func g) first captured) (a:ic P g=true)
  (h:Calls P g (first++c.args.map (b7 env)++captured) w λe w'=>rY P (vH P o.type) λv=>e=.returned v/\K v w'):lQ P env o K w:=by
 refine .inr ⟨g,first++c.args.map (b7 env)++captured,?_,h.mono λe w' h=>D' h⟩;unfold ic at a;cases b:P.funcs[g]? with
 |none=>simp [b] at a
 |some fn=>
  simp only [b,eY,rh] at a;have d:fn.body≠none:=by intro d;simp [d] at a
  have k:fn.name≠ "runtime.NumGoroutine" :=by simpa using a.2
  unfold execOp;rw [l];simp only [resolve,i,j,Deferred.ofValue,pure_bind,invoke,callFunc];simp [program,Sem.run,b,k,d]
theorem Ae {b:Builtin} {k:mY} (e:o.op=.call c) (d:c.callee=.builtin b)
  (a:∀ cs,builtin b c.argTypes o.type cs (c.args.map (b7 env))=(do pure (.value (<- s))))
  (h:xq P s k K w):lQ P env o K w:=by
 obtain ⟨v,w',f,h⟩:=sP h;refine .inl ⟨.value v,w',?_,h⟩;unfold execOp;rw [e];simp only [resolve,d,pure_bind,invoke,a];rw [Sem.run_bind,f];rfl
theorem xJ {c:IntKind} {a b:Int}:(eqGuard op t x y (.int k a) (.int c b)).run P w=.ok () w:=by cases op<;>rfl
theorem Bh:(eqGuard op t x y (.pointer a) (.pointer b)).run P w=.ok () w:=by cases op<;>rfl
theorem CH {c:Nat}:(eqGuard op t x y (.slice a l c) (.slice b l' c')).run P w=.ok () w:=by cases op<;>rfl
theorem Bi {K:a4->Prop} (h:vI P env o K):ml P env o K:=by
 unfold vI at h;split at h
 ·rename_i c;split at h
  ·rename_i n;exact Jt c n h
  ·exact h.elim
 ·rename_i c;split at h
  ·rename_i a;exact Ka c a h
  ·exact h.elim
 ·rename_i c;split at h
  ·rename_i j;split at h
   ·rename_i hu;split at h
    ·rename_i a d;exact Ju c j hu a d h
    ·exact h.elim
   ·rename_i hu;split at h
    ·rename_i a d;exact Jv c j hu a d h
    ·exact h.elim
   ·exact h.elim
  ·exact h.elim
 ·rename_i c;split at h
  ·rename_i hu;split at h
   ·rename_i a d;split at h
    ·rename_i q p hm g;refine Fd c hu a d q p hm ?_ h;rintro ⟨k,l⟩;rw [k] at g;simp at g;exact l g
    ·exact h.elim
   ·exact h.elim
  ·exact qT h
 ·rename_i c;split at h
  ·rename_i a b;split at h
   ·rename_i hu;exact nm c (λw=>by rw [a,b];exact Bh) (λw=>by rw [a,b];simp [binOp,Gc hu]) h
   ·exact h.elim
  ·rename_i a b;split at h
   ·rename_i hu;exact nm c (λw=>by rw [a,b];exact Bh) (λw=>by rw [a,b];simp [binOp,Gc hu]) h
   ·exact h.elim
  ·rename_i a b;split at h
   ·rename_i hu;exact nm c (λw=>by rw [a,b];exact CH) (λw=>by rw [a,b];simp [binOp,Gy hu]) h
   ·exact h.elim
  ·rename_i a b;split at h
   ·rename_i hu;exact nm c (λw=>by rw [a,b];exact CH) (λw=>by rw [a,b];simp [binOp,Gy hu]) h
   ·exact h.elim
  ·rename_i a b;split at h
   ·exact qT h
   ·obtain ⟨rfl,e,h⟩:=h;exact nm c (λw=>by rw [a,b];exact xJ) (λw=>by rw [a,b];simp [binOp,Op.intDiv,e]) h
  ·rename_i a b;split at h
   ·exact qT h
   ·obtain ⟨rfl,e,h⟩:=h;exact nm c (λw=>by rw [a,b];exact xJ) (λw=>by rw [a,b];simp [binOp,Op.intDiv,e]) h
  ·rename_i a b;split at h
   ·exact qT h
   ·obtain ⟨e,h⟩:=h;have f:¬ _<(0:Int):=Int.not_lt.2 e;exact nm c (λw=>by rw [a,b];exact xJ) (λw=>by rw [a,b];simp only [binOp,Op.shift,f,if_false];rfl) h
  ·rename_i a b;split at h
   ·exact qT h
   ·obtain ⟨e,h⟩:=h;have f:¬ _<(0:Int):=Int.not_lt.2 e;exact nm c (λw=>by rw [a,b];exact xJ) (λw=>by rw [a,b];simp only [binOp,Op.shift,f,if_false];rfl) h
  ·rename_i a b;obtain ⟨r,i,h⟩:=h;exact nm c (λw=>by rw [a,b];exact (i w).1 _ _ _) (λw=>by rw [a,b];exact (i w).2.1) h
  ·rename_i a b;obtain ⟨r,i,h⟩:=h;exact nm c (λw=>by rw [a,b];exact (i w).1 _ _ _) (λw=>by rw [a,b];exact (i w).2.2) h
  ·exact qT h
 ·exact qT h
theorem wt (h:qR P env o K w):lQ P env o K w:=by
 unfold qR at h;split at h
 ·exact (Bi h).bc
 split at h
 ·rename_i a;exact Js a h
 ·rename_i a;exact IJ a h
 ·rename_i a;split at h
  ·rename_i hu i b;split at h
   ·rename_i d;split at h
    ·rename_i f;split at h
     ·exact h.elim
     ·rename_i c;simp only [eY] at c;exact Jw a hu i b d f (kJ c.1) (Nat.le_of_ble_eq_true c.2) h
    ·exact h.elim
   ·exact h.elim
  ·exact h.elim
 ·rename_i a;split at h
  ·rename_i b;exact Ae a b (λ_=>rfl) h
  ·rename_i b;exact Ae a b (λ_=>rfl) h
  ·rename_i b;exact Ae a b (λ_=>rfl) h
  ·rename_i b;unfold mL at h;split at h
   ·rename_i g;split at h
    ·rename_i e;exact IK a b g e h
    ·exact h.elim
   ·exact h.elim
  ·exact CG h
 ·exact CG h
theorem Me {Q:Exit->Act->aE} (h:lQ P env o K w) (a:∀ v w',K v w'->next (act (put env o.dst v)) w'):o.wp P (act env) w next Q:=by
 unfold Oper.wp;rw [sy];rcases h with ⟨n,w',b,h⟩ | ⟨f,args,b,h⟩
 ·rw [b];cases n with
  |value v=>simp only [Oper.upon,kY];exact a _ _ h
  |skip=>simp only [Oper.upon,kY];exact a _ _ h
  | _=>exact h.elim
 ·rw [b];simp only [Oper.upon];refine h.mono λe w' ⟨v,he,h⟩=>?_
  subst he;simp only [kY];exact a _ _ h
theorem uD {Q:Exit->Act->aE} (h:lQ P env o K w) (a:∀ v w',K v w'->next (act (put env o.dst v)) w'):o.wpIn Fence.wide 0 P (act env) w next Q:=by
 refine ⟨λ_ _=>trivial,?_⟩;show o.uponIn Fence.wide 0 P (act env) next Q ((execOp (act env).eval o).run P w)
 rw [sy];rcases h with ⟨n,w',b,h⟩ | ⟨f,args,b,h⟩
 ·rw [b];cases n with
  |value v=>simp only [Oper.uponIn,kY];exact a _ _ h
  |skip=>simp only [Oper.uponIn,kY];exact a _ _ h
  | _=>exact h.elim
 ·rw [b];simp only [Oper.uponIn];refine ⟨λc=>by simp [Fence.wide] at c,callsIn_wide.2 (h.mono λe w' ⟨v,he,h⟩=>?_)⟩;subst he;simp only [kY];exact a _ _ h
theorem IL {Q:Exit->Act->aE} (k:o.op=.call c) (b:c.callee=.value f) (i:b7 env f=.func (.yield l) first captured)
  (h:YieldAt Fence.wide 0 P l (first++c.args.map (b7 env)) w λe w'=>rY P (vH P o.type) λv=>e=.returned v/\K v w') (j:∀ v w',K v w'->next (act (put env o.dst v)) w'):o.wpIn Fence.wide 0 P (act env) w next Q:=by
 refine ⟨λ_ _=>trivial,?_⟩;show o.uponIn Fence.wide 0 P (act env) next Q ((execOp (act env).eval o).run P w)
 rw [sy];obtain ⟨fn,tmps,assign,body,a,g⟩:=h;have n:(execOp (b7 env) o).run P w=.ok (.round l fn tmps assign body) w:=by unfold execOp;rw [k];simp only [resolve,b,i,Deferred.ofValue,pure_bind,invoke];exact a
 rw [n];simp only [Oper.uponIn];refine ⟨λb=>by simp [Fence.wide] at b,g.mono λe w' h=>?_⟩;obtain ⟨v,he,d⟩:=D' h;subst he;simp only [kY];exact j _ _ d
theorem Kb {Q:Exit->Act->aE} (h:z2 P env o K w) (a:∀ v w',K v w'->next (act (put env o.dst v)) w'):o.wpIn Fence.wide 0 P (act env) w next Q:=by
 unfold z2 at h;split at h
 ·rename_i c d;split at h
  ·rename_i f b;unfold iS at h;split at h
   ·rename_i l first captured e
    exact IL d b e h a
   ·refine uD (wt ?_) a;cases o with
    |mk dst op type pos after guard=>
     cases c with
     |mk callee args argTypes=>simp only at d b;subst d;subst b;exact h
  ·exact uD (wt h) a
 ·exact uD (wt h) a
end
def rJ (ops:List Oper) (j:Nat):Option Tmp:=match ops[j]? with | some o=>o.dst | none=>none
def jE (P:Program) (all:List Oper):List Oper->ax->(ax->aE)->aE
 | [],env,K,w=>K env w
 |o::rest,env,K,w=>
  match o.guard with
  |none=>z2 P env o (λv w'=>jE P all rest (put env o.dst v) K w') w
  |some (j,want)=>match rJ all j with
   |none=>False
   |some d=>match env[d]? with
    |some (.bool b)=>
     bif b then (match want with
      |true=>qR P (env.set d (.bool true)) o (λv w'=>jE P all rest (put (env.set d (.bool true)) o.dst v) K w') w
      |false=>jE P all rest (put (env.set d (.bool true)) o.dst undef) K w)
     else (match want with
      |true=>jE P all rest (put (env.set d (.bool false)) o.dst undef) K w
      |false=>qR P (env.set d (.bool false)) o (λv w'=>jE P all rest (put (env.set d (.bool false)) o.dst v) K w') w)
    |some _=>jE P all rest (put env o.dst undef) K w
    |none=>False
theorem G5 {ops:Array Oper} {o:Oper} (a:o.guard=none):Region.wanted o (yielded ops (act env).tmps)=true:=by simp [Region.wanted,a]
theorem G6 {j:Nat} {d:Tmp} (h:rJ all j=some d):yielded all.toArray (act env).tmps j=match env[d]? with | some (.bool b)=>some b | _=>none:=by
 unfold yielded rJ at *;cases a:all[j]? with
 |none=>simp [a] at h
 |some o=>
  simp only [a] at h;simp only [uY,a,Option.bind_some,h,act];rcases env[d]? with _ | v
  ·rfl
  ·cases v<;>rfl
theorem ov {P:Program} {all:List Oper} {Q:Exit->Act->aE}:∀ (l:List Oper) (env:ax) (w:ak) (K:ax->aE),
  (∀ env w,K env w->Q .normal (act env) w)->jE P all l env K w->wpListIn Fence.wide 0 P all.toArray Q l (act env) w
 | [],env,w,K,e,h=>e _ _ h
 |o::rest,env,w,K,e,h=>by
  unfold jE at h;unfold wpListIn;cases c:o.guard with
  |none=>simp only [c] at h;rw [if_pos (G5 c)];exact Kb h λv w' h=>ov rest _ _ K e h
  |some p=>
   obtain ⟨j,want⟩:=p;simp only [c] at h;cases ar:rJ all j with
   |none=>simp only [ar] at h
   |some d=>
    simp only [ar] at h;have f:=G6 (env:=env) ar;cases he:env[d]? with
    |none=>simp only [he] at h
    |some v=>
     have a:env.set d v=env:=by
      apply j';intro i;rw [ik];split
      ·rename_i g;subst g;have:d<env.length:=by
        rcases oL d env.length with h | h
        ·exact h
        ·rw [lp h] at he;cases he
       rw [if_pos this,he]
      ·rfl
     cases v with
     |bool b=>
      simp only [he] at h;cases b with
      |true=>
       rw [cond_true,a] at h;cases want with
       |true=>simp only at h;rw [if_pos (by simp [Region.wanted,c,f,he])];exact uD (wt h) λv w' h=>ov rest _ _ K e h
       |false=>simp only at h;rw [if_neg (by simp [Region.wanted,c,f,he]),kY];exact ⟨λ_ _=>trivial,ov rest _ _ K e h⟩
      |false=>
       rw [cond_false,a] at h;cases want with
       |true=>simp only at h;rw [if_neg (by simp [Region.wanted,c,f,he]),kY];exact ⟨λ_ _=>trivial,ov rest _ _ K e h⟩
       |false=>simp only at h;rw [if_pos (by simp [Region.wanted,c,f,he])];exact uD (wt h) λv w' h=>ov rest _ _ K e h
     | _=>simp only [he] at h;rw [if_neg (by simp [Region.wanted,c,f,he]),kY];exact ⟨λ_ _=>trivial,ov rest _ _ K e h⟩
section
variable {P:Program} {ops:Array Oper} {Q:Exit->Act->aE} {S:aE} {nd:Nat->Bool}
def sQ (P:Program) (ops:Array Oper) (Q:Exit->Act->aE) (S:aE) (nd:Nat->Bool):Nat->Array Bool->Act->aE
 | 0,cY,a,w=>Region.ready .any ops cY=[]/\Q .normal a w
 |fuel+1,cY,a,w=>
  (Region.ready .any ops cY=[]->Q .normal a w)/\
  ∀ i ∈ Region.ready .any ops cY,wpOp P ops Q i (λb w'=>(nd i=true->S w->S w')/\sQ P ops Q S nd fuel (cY.setIfInBounds i true) b w') a w
theorem ui:∀ (fuel:Nat) (cY:Array Bool) (a:Act) (w:ak),sQ P ops Q S nd fuel cY a w->wpAny P .any ops Q fuel cY a w
 | 0,_,_,_,h=>h
 |fuel+1,_,_,_,h=>⟨h.1,λi d=>wpOp_mono (λb w' c=>ui fuel _ b w' c.2) (h.2 i d)⟩
def k2 (ops:Array Oper) (cY:Array Bool):Prop:=∀ j a,ops[j]?=some a->cY.getD j false=true->∀ e ∈ a.after,Region.binds .any e=true->cY.getD e.on false=true
theorem k2.set {cY:Array Bool} {i:Nat} (h:k2 ops cY) (g:i ∈ Region.ready .any ops cY):k2 ops (cY.setIfInBounds i true):=by
 intro j l c f e he d;by_cases b:j=i
 ·subst b;obtain ⟨_,o,k,a⟩:=mem_ready.1 g;rw [k] at c;cases c;exact getD_set_true (a e he d)
 ·rw [getD_set_ne false (Ne.symm b)] at f;exact getD_set_true (h j l c f e he d)
theorem GW {i:Nat} {L:Bool} (I:ops[i]?=some ku) (p:∀ (j:Nat) (o:Oper) cs b,ops[j]?=some o->o.op≠.select cs b)
  (dG:∀ c a w,Q (.panic c) (a.put ku.dst v) w->Q (.panic c) a w) :
  ∀ (fuel:Nat) (cY:Array Bool) (a:Act) (w:ak),k2 ops cY->
   (∀ (l2:Array Bool) j t,k2 ops l2->(∀ k,cY.getD k false=true->l2.getD k false=true)->l2.getD i true=false->j ∈ Region.ready .any ops l2->ops[j]?=some t->j≠i->cY.getD j true=false->(∀ e ∈ t.after,Region.binds .any e=true->e.on≠i)->ku.apart ops t=true/\(L=true->nd j=true))->
   i ∈ Region.ready .any ops cY->YieldsIf P ops (λw=>L=true->S w) ku v a->(L=true->S w)->
   sQ P ops Q S nd fuel (cY.setIfInBounds i true) (a.put ku.dst v) w->sQ P ops Q S nd (fuel+1) cY a w:=by
 intro fuel;induction fuel with
 |zero=>
  intro cY a w _ _ n F E H;refine ⟨λh=>(by rw [h] at n;cases n),λj x=>?_⟩;by_cases d:j=i
  ·subst d;exact F.wpOp I E ⟨λ_ h=>h,H⟩
  ·have:=ready_mono x d;rw [H.1] at this;cases this
 |succ fuel Z=>
  intro cY a w z f n F E H;refine ⟨λh=>(by rw [h] at n;cases n),λj x=>?_⟩;by_cases d:j=i
  ·subst d;exact F.wpOp I E ⟨λ_ h=>h,H⟩
  ·have r:=H.2 j (ready_mono x d);obtain ⟨l,t,s,y⟩:=mem_ready.1 x;have C:∀ e ∈ t.after,Region.binds .any e=true->e.on≠i:=λe he W heq=>by
    have r:=y e he W;have M:=(mem_ready.1 n).1;rw [heq] at r;rcases oL i cY.size with G | G
    ·simp [G] at M r;rw [M] at r;cases r
    ·simp [x1 G] at r
   have A:=f cY j t z (λ_ h=>h) (mem_ready.1 n).1 x s d l C;have R:=wpOp_putIf s A.1 (λcs b=>p i ku cs b I) (λcs b=>p j t cs b s) dG F r;have g:∀ (l2:Array Bool) k ok,k2 ops l2->(∀ q,(cY.setIfInBounds j true).getD q false=true->l2.getD q false=true)->l2.getD i true=false->k ∈ Region.ready .any ops l2->ops[k]?=some ok->k≠i->(cY.setIfInBounds j true).getD k true=false->
     (∀ e ∈ ok.after,Region.binds .any e=true->e.on≠i)->ku.apart ops ok=true/\(L=true->nd k=true):=λl2 k ok u T U V X J D K=>by
    refine f l2 k ok u (λq Y=>T q (getD_set_true Y)) U V X J ?_ K;by_cases B:j=k
    ·subst B;exact l
    ·rw [getD_set_ne true B] at D;exact D
   refine wpOp_mono (λO w' u=>⟨u.2.1,Z (cY.setIfInBounds j true) O w' (z.set x) g (ready_mono n (Ne.symm d)) u.1 (λN=>u.2.1 (A.2 N) (E N)) ?_⟩) R;rw [Array.setIfInBounds_comm _ _ d];exact u.2.2
end
def ks:Op->Bool
 | .load ..=>true
 | _=>false
def y' (ops:List Oper) (j i:Nat):Bool:=match ops[j]? with
 |some o=>o.after.any λe=>Region.binds .any e && e.on == i
 |none=>false
def qN (ops:List Oper) (j:Nat):Bool:=(List.range ops.length).any λi=>i != j && (match ops[i]? with | some o=>ks o.op | none=>false) && !y' ops j i
def sR (m:cQ) (o:Oper):cQ:=m++[o.after.toList.foldl (λx e=>match Region.binds .any e with | true=>x ||| (1 <<< e.on) ||| m.getD e.on 0 | false=>x) 0]
def Ej (ops:List Oper):cQ:=ops.foldl sR []
def sS (ops:List Oper) (j i:Nat):Bool:=((Ej ops).getD j 0).testBit i
def z1 (ops:List Oper) (j:Nat):Bool:=(List.range ops.length).any λi=>i != j && (match ops[i]? with | some o=>ks o.op | none=>false) && !sS ops j i && !sS ops i j
def NN:Op->Bool
 | .call ..=>true
 | _=>false
def Ok:Op->Bool
 | .indexAddr ..=>true
 | _=>false
def yF (ops:List Oper):Bool:=ops.any λo=>ks o.op && o.after.any λe=>match ops[e.on]? with
 |some p=>Ok p.op && p.after.any λa=>match ops[a.on]? with
  |some q=>NN q.op
  |none=>false
 |none=>false
def vJ (ops:List Oper):Bool->Nat->Bool
 |true=>z1 ops
 |false=>qN ops
def rK (nd:Nat->Bool) (ops:List Oper) (cY:Array Bool) (i:Nat):Bool:=
 nd i || (List.range ops.length).any λk=>!cY.getD k true && k != i && (match ops[k]? with | some o=>!vx o.op | none=>false) && nd k
def Mf (ops:List Oper):Bool:=ops.any λo=>ks o.op
def Ek (P:Program) (S:aE) (t:TypeId) (x:a4) (K:a4->Prop):Prop:=
 match x with
 | .pointer (some bw)=>
  match P.info? t with
  |none=>False
  |some inf=>
   match gI P t with
   |true=>match Nat.beq (qI P 8 t).length inf.size with
    |true=>qC (qI P 8 t) λvs=>(∀ w,S w->b6 w bw 0 vs)/\K (.agg vs.toArray)
    |false=>False
   |false=>match P.underlying t with
    |none=>False
    |some d=>ph (xa (some d)) λv=>(∀ w,S w->w.cell? bw=some v)/\K v
 | _=>False
def yV (P:Program) (S:aE) (env:ax) (o:Oper) (K:a4->Prop):Prop:=
 match o.op with
 | .load t x=>Ek P S t (b7 env x) K
 | _=>vI P env o K
def vy (all:List Oper) (env:ax) (g:Option (Nat×Bool)) (run skip:ax->Prop):Prop:=
 match g with
 |none=>run env
 |some (j,want)=>match rJ all j with
  |none=>False
  |some d=>match env[d]? with
   |some (.bool b)=>
    bif b then (match want with | true=>run (env.set d (.bool true)) | false=>skip (env.set d (.bool true)))
    else (match want with | true=>skip (env.set d (.bool false)) | false=>run (env.set d (.bool false)))
   |some _=>skip env
   |none=>False
def zz:List Prop->Prop
 | []=>True
 | [p]=>p
 |p::b_=>p/\zz b_
theorem CI:∀ {b_:List Prop} {p:Prop},zz b_->p ∈ b_->p
 | [q],p,h,hm=>by simp only [nR] at hm;subst hm;exact h
 |q::r::rs,p,h,hm=>by
  rcases e9.1 hm with rfl | hm
  ·exact h.1
  ·exact CI h.2 hm
def RE:Bool->Bool->Prop->Prop->Prop
 |true,true,s,p=>s/\p
 |true,false,_,p=>p
 |false,false,_,p=>p
 |false,true,_,_=>False
def zv:Bool->Prop->Prop
 |true,_=>False
 |false,p=>p
def oI (P:Program) (ops:List Oper) (nd:Nat->Bool) (S:aE) (K:ax->aE):Nat->Array Bool->Bool->ax->aE
 | 0,cY,_,env,w=>zv (!(Region.ready .any ops.toArray cY).isEmpty) (K env w)
 |fuel+1,cY,a,env,w=>
  match (Region.ready .any ops.toArray cY).find? (λi=>match ops[i]? with | some o=>(vx o.op || (ks o.op && a)) && Region.free .any ops.toArray cY i | none=>false) with
  |some i=>match ops[i]? with
   |none=>False
   |some o=>vy ops env o.guard (λenv=>yV P S env o λv=>oI P ops nd S K fuel (cY.setIfInBounds i true) a (put env o.dst v) w)
     (λenv=>oI P ops nd S K fuel (cY.setIfInBounds i true) a (put env o.dst undef) w)
  |none=>match (Region.ready .any ops.toArray cY) with
   | []=>K env w
   |rs=>zz (rs.map λi=>match ops[i]? with
    |none=>False
    |some o=>vy ops env o.guard (λenv=>qR P env o (λv w'=>RE a (rK nd ops cY i) (S w') (oI P ops nd S K fuel (cY.setIfInBounds i true) (a && rK nd ops cY i) (put env o.dst v) w')) w)
     (λenv=>oI P ops nd S K fuel (cY.setIfInBounds i true) a (put env o.dst undef) w))
theorem IM {S:aE} {o:Oper} (h:yV P S env o K):∃ v,(∀ w,(ks o.op=true->S w)->(execOp (b7 env) o).run P w=.ok (.value v) w)/\K v:=by
 unfold yV at h;split at h
 ·rename_i t x g;have he:execOp (b7 env) o=(do pure (.value (<- Instr.loadAt t (b7 env x)))):=by unfold execOp;rw [g]
  have f:ks o.op=true:=by rw [g];rfl
  unfold Ek at h;split at h
  ·rename_i bw i;split at h
   ·exact h.elim
   ·rename_i inf b;split at h
    ·rename_i a;split at h
     ·rename_i hlen;obtain ⟨vs,e,j,h⟩:=tf h;obtain ⟨d,ar⟩:=zV a;refine ⟨_,λw c=>?_,h⟩;have k:vs.length=inf.size:=by rw [e];exact kJ hlen
      rw [he,Sem.run_bind];simp only [Instr.loadAt,i,Instr.sureAddr,pure_bind,loadVar,Sem.run_bind,pt ar,Result.andThen_ok,a,if_true,run_sizeOf b];have:=run_loadCellsFrom (P:=P) (acc:=#[]) (j w (c f));rw [k] at this;simp [loadCells,this]
     ·exact h.elim
    ·rename_i a;split at h
     ·exact h.elim
     ·rename_i d ar;obtain ⟨v,an,h⟩:=sP h;refine ⟨_,λw c=>?_,h⟩;rw [he,Sem.run_bind];simp only [Instr.loadAt,i,Instr.sureAddr,pure_bind,loadVar,Sem.run_bind,pt ar,Result.andThen_ok,a];simp [an w (c f)]
  ·exact h.elim
 ·obtain ⟨v,l,h⟩:=Bi h;exact ⟨v,λw _=>l w,h⟩
theorem G7 {o:Oper} {run skip:ax->Prop} (h:vy all env o.guard run skip) :
  (Region.wanted o (yielded all.toArray (act env).tmps)=true/\run env)\/(Region.wanted o (yielded all.toArray (act env).tmps)=false/\skip env):=by
 unfold vy at h;cases c:o.guard with
 |none=>simp only [c] at h;exact .inl ⟨G5 c,h⟩
 |some p=>
  obtain ⟨j,want⟩:=p;simp only [c] at h;cases ar:rJ all j with
  |none=>simp only [ar] at h
  |some d=>
   simp only [ar] at h;have e:=G6 (env:=env) ar;cases he:env[d]? with
   |none=>simp only [he] at h
   |some v=>
    have a:env.set d v=env:=by
     apply j';intro i;rw [ik];split
     ·rename_i f;subst f;have:d<env.length:=by
       rcases oL d env.length with h | h
       ·exact h
       ·rw [lp h] at he;cases he
      rw [if_pos this,he]
     ·rfl
    cases v with
    |bool b=>
     simp only [he] at h;cases b with
     |true=>
      rw [cond_true,a] at h;cases want with
      |true=>exact .inl ⟨by simp [Region.wanted,c,e,he],h⟩
      |false=>exact .inr ⟨by simp [Region.wanted,c,e,he],h⟩
     |false=>
      rw [cond_false,a] at h;cases want with
      |true=>exact .inr ⟨by simp [Region.wanted,c,e,he],h⟩
      |false=>exact .inl ⟨by simp [Region.wanted,c,e,he],h⟩
    | _=>simp only [he] at h;exact .inr ⟨by simp [Region.wanted,c,e,he],h⟩
theorem Ol {i j:Nat} {g:Oper} (b:ops[i]?=some ku) (k:ops[j]?=some g) (l:ks ku.op=true) (d:j≠i) (f:∀ e ∈ g.after,Region.binds .any e=true->e.on≠i):qN ops j=true:=by
 unfold qN;rw [p2];have c:i<ops.length:=by
  rcases oL i ops.length with h | h
  ·exact h
  ·rw [lp h] at b;cases b
 refine ⟨i,fE.2 c,?_⟩;have hw:y' ops j i=false:=by unfold y';simp only [k];rw [Array.any_eq_false'];intro e he a;simp only [eY,beq_iff_eq] at a;exact f e he a.1 a.2
 simp [b,l,hw,Ne.symm d]
def vX (ops:List Oper) (nd:Nat->Bool):Prop:=∀ (cY l2:Array Bool) (i j:Nat) (ku a:Oper),ops[i]?=some ku->ops[j]?=some a->ks ku.op=true->k2 ops.toArray cY->k2 ops.toArray l2->
 (∀ k,cY.getD k false=true->l2.getD k false=true)->i ∈ Region.ready .any ops.toArray cY->l2.getD i true=false->j ∈ Region.ready .any ops.toArray l2->j≠i->(∀ e ∈ a.after,Region.binds .any e=true->e.on≠i)->nd j=true
theorem yG (ops:List Oper):vX ops (qN ops):=λ_ _ i j ku f c d e _ _ _ _ _ _ a b=>Ol c d e a b
inductive lA (ops:List Oper):Nat->a5
 |one {j o e}:ops[j]?=some o->e ∈ o.after->Region.binds .any e=true->lA ops j e.on
 |more {j o e i}:ops[j]?=some o->e ∈ o.after->Region.binds .any e=true->lA ops e.on i->lA ops j i
theorem lA.cY {l:Array Bool} (d:k2 ops.toArray l) {j i:Nat} (h:lA ops j i):l.getD j false=true->l.getD i false=true:=by
 induction h with
 |one c he a=>exact λb=>d _ _ (by simpa using c) b _ he a
 |more c he a _ e=>exact λb=>e (d _ _ (by simpa using c) b _ he a)
theorem lA.ready {l:Array Bool} (f:k2 ops.toArray l) {j i:Nat} (h:lA ops j i) (g:j ∈ Region.ready .any ops.toArray l):l.getD i false=true:=by
 obtain ⟨_,o,c,b⟩:=mem_ready.1 g;cases h with
 |one a he d=>simp only [uY] at c;rw [c] at a;cases a;exact b _ he d
 |more a he d e=>simp only [uY] at c;rw [c] at a;cases a;exact e.cY f (b _ he d)
theorem G8 {ops:List Oper} {m:cQ} {k:Nat} {o:Oper} (f:ops[k]?=some o) (hm:∀ j i,(m.getD j 0).testBit i=true->lA ops j i):∀ (es:List Edge) (x:Nat),(∀ e ∈ es,e ∈ o.after)->(∀ i,x.testBit i=true->lA ops k i)->
  ∀ i,(es.foldl (λx e=>match Region.binds .any e with | true=>x ||| (1 <<< e.on) ||| m.getD e.on 0 | false=>x) x).testBit i=true->lA ops k i
 | [],x,_,d,i,h=>d i h
 |e::es,x,he,d,i,h=>by
  rw [uX] at h;refine G8 f hm es _ (λg l=>he g (fD _ l)) (λi a=>?_) i h;have c:=he e (e_ ..);cases b:Region.binds .any e with
  |false=>rw [b] at a;exact d i a
  |true=>
   rw [b] at a;simp only [Nat.testBit_or,u2] at a;rcases a with (a | a) | a
   ·exact d i a
   ·rw [Nat.one_shiftLeft,Nat.testBit_two_pow] at a;have:e.on=i:=by simpa using a
    rw [<-this];exact .one f c b
   ·exact .more f c b (hm _ _ a)
theorem CJ (ops:List Oper):∀ j i,((Ej ops).getD j 0).testBit i=true->lA ops j i:=by
 have main:∀ n,n<=ops.length->((ops.take n).foldl sR []).length=n/\∀ j i,(((ops.take n).foldl sR []).getD j 0).testBit i=true->lA ops j i:=by
  intro n;induction n with
  |zero=>intro _;refine ⟨rfl,λj i h=>?_⟩;simp at h
  |succ n g=>
   intro k;obtain ⟨a,b⟩:=g (by omega);obtain ⟨o,c⟩:∃ o,ops[n]?=some o:=⟨_,bF (by omega)⟩;rw [e7,c,Option.toList_some,x'];generalize (ops.take n).foldl sR []=M at a b ⊢;simp only [uX,List.foldl_nil];refine ⟨by unfold sR;rw [dH,a];rfl,λj i h=>?_⟩;unfold sR at h;rw [dD,p3] at h;split at h
   ·exact b j i (by rw [dD];exact h)
   ·rename_i f;by_cases d:j=n
    ·subst d;rw [a,mU] at h;exact G8 c b _ 0 (λe he=>by simpa using he) (λi h=>by simp at h) i h
    ·rw [lp (by simp;omega)] at h;simp at h
 have:=main ops.length (cO _);rw [hv] at this;exact this.2
theorem Ea {l:Array Bool} {k:Nat} (h:l.getD k true=false):¬ l.getD k false=true:=by
 intro a;rcases oL k l.size with b | b
 ·simp [b] at h a;rw [h] at a;cases a
 ·simp [x1 b] at a
theorem NO (ops:List Oper):vX ops (z1 ops):=by
 intro cY l2 i j ku r h q o n c b f g a e p;unfold z1;rw [p2];have d:i<ops.length:=(lq.1 h).1;refine ⟨i,fE.2 d,?_⟩;have k:sS ops j i=false:=by
  cases hw:sS ops j i with
  |false=>rfl
  |true=>exact absurd ((CJ ops j i hw).ready c a) (Ea g)
 have l:sS ops i j=false:=by
  cases hw:sS ops i j with
  |false=>rfl
  |true=>exact absurd (b _ ((CJ ops i j hw).ready n f)) (Ea (mem_ready.1 a).1)
 simp [h,o,k,l,Ne.symm e]
theorem CK (ops:List Oper):∀ b,vX ops (vJ ops b)
 |true=>NO ops
 |false=>yG ops
theorem m9 {P:Program} {ops:List Oper} {nd:Nat->Bool} (l:vX ops nd) {S:aE} {K:ax->aE} {Q:Exit->Act->aE} (C:Region.noSelect ops.toArray=true)
  (B:∀ env w,K env w->Q .normal (act env) w) (dG:∀ c a w,¬ Q (.panic c) a w) :
  ∀ (fuel:Nat) (cY:Array Bool) (d:Bool) (env:ax) (w:ak),k2 ops.toArray cY->(d=true->S w)->oI P ops nd S K fuel cY d env w->sQ P ops.toArray Q S nd fuel cY (act env) w
 | 0,cY,d,env,w,g,A,h=>by
  unfold oI at h;unfold sQ;cases y:Region.ready .any ops.toArray cY with
  |nil=>simp [y,zv] at h;exact ⟨rfl,B _ _ h⟩
  |cons x xs=>simp [y,zv] at h
 |fuel+1,cY,d,env,w,g,A,h=>by
  unfold oI at h;split at h
  ·rename_i i q;have f:=List.mem_of_find?_eq_some q;have J:=List.find?_some q;cases z:ops[i]? with
   |none=>simp only [z] at h
   |some o=>
    simp only [z] at h;simp only [z,eY,u2] at J;have s:ops.toArray[i]?=some o:=by simpa using z
    have t:ks o.op=true->d=true:=by
     intro F;rcases J.1 with G | G
     ·revert G F;cases o.op<;>simp [vx,ks]
     ·exact G.2
    have r:∀ (l2:Array Bool) j H,k2 ops.toArray l2->(∀ k,cY.getD k false=true->l2.getD k false=true)->l2.getD i true=false->j ∈ Region.ready .any ops.toArray l2->ops.toArray[j]?=some H->j≠i->cY.getD j true=false->(∀ e ∈ H.after,Region.binds .any e=true->e.on≠i)->o.apart ops.toArray H=true/\(ks o.op=true->nd j=true):=
     λl2 j H R T U V O I M u=>⟨Region.free_spec s J.2 j H O I M u,λF=>l cY l2 i j o H z (by simpa using O) F g R T f U V I u⟩
    rcases G7 h with ⟨hw,h⟩ | ⟨hw,h⟩
    ·obtain ⟨v,y,h⟩:=IM h;refine GW (L:=ks o.op) (v:=v) s (Region.noSelect_spec C) (λc a w h=>(dG _ _ _ h).elim) fuel cY (act env) w g r f ?_ (λF=>A (t F)) ?_
     ·exact .inl ⟨hw,λw A=>by rw [sy];exact y w A⟩
     ·rw [kY];exact m9 l C B dG fuel _ d _ w (g.set f) A h
    ·refine GW (L:=ks o.op) (v:=undef) s (Region.noSelect_spec C) (λc a w h=>(dG _ _ _ h).elim) fuel cY (act env) w g r f (.inr ⟨hw,rfl⟩) (λF=>A (t F)) ?_;rw [kY];exact m9 l C B dG fuel _ d _ w (g.set f) A h
  ·cases y:Region.ready .any ops.toArray cY with
   |nil=>simp only [y] at h;exact ⟨λ_=>B _ _ h,by rw [y];simp⟩
   |cons x xs=>
    simp only [y] at h;refine ⟨λN=>(by rw [y] at N;cases N),λi E=>?_⟩;have n:=g.set E;rw [y] at E;have s:=CI h (cW.2 ⟨i,E,rfl⟩);cases z:ops[i]? with
    |none=>simp only [z] at s
    |some o=>
     simp only [z] at s;unfold wpOp;simp only [uY,z];rcases G7 s with ⟨hw,s⟩ | ⟨hw,s⟩
     ·rw [if_pos hw];refine .inl (Me (wt s) λv w' h=>?_);have u:rK nd ops cY i=false->¬ nd i=true:=by intro W X;simp [rK,X] at W
      cases p:d with
      |true=>
       cases b:rK nd ops cY i with
       |true=>rw [p,b] at h;exact ⟨λ_ _=>h.1,m9 l C B dG fuel _ _ _ w' n (λ_=>h.1) h.2⟩
       |false=>rw [p,b] at h;exact ⟨λD=>absurd D (u b),m9 l C B dG fuel _ _ _ w' n (λD=>by simp at D) h⟩
      |false=>
       cases b:rK nd ops cY i with
       |true=>rw [p,b] at h;exact h.elim
       |false=>rw [p,b] at h;exact ⟨λD=>absurd D (u b),m9 l C B dG fuel _ _ _ w' n (λD=>by simp at D) h⟩
     ·rw [if_neg (by simp [hw]),kY];exact ⟨λ_ h=>h,m9 l C B dG fuel _ d _ w n A s⟩
def tt (P:Program) (ops:List Oper) (env:ax) (K:ax->aE) (w:ak):Prop:=
 match Mf ops with
 |true=>∀ w1,w1=w.drew->∃ S:aE,S w1/\oI P ops (vJ ops (yF ops)) S K ops.length (Array.replicate ops.length false) true env w1
 |false=>∀ w1,w1=w.drew->oI P ops (qN ops) (λ_=>True) K ops.length (Array.replicate ops.length false) true env w1
theorem xh (ops:Array Oper) (n:Nat):k2 ops (Array.replicate n false):=by
 intro j b _ a;exfalso;rcases oL j n with h | h
 ·simp [h] at a
 ·simp [h] at a
theorem Ib (hm:P.follows .mixedOrders=true) {id:Nat} {K:ax->aE} {Q:Exit->Act->aE} (d:Region.noSelect ops.toArray=true)
  (b:∀ env w,K env w->Q .normal (act env) w) (dG:∀ c a w,¬ Q (.panic c) a w) (h:tt P ops env K w):(Code.region id ops.toArray true).wp P Q (act env) w:=by
 unfold tt at h;split at h
 ·obtain ⟨S,e,h⟩:=h _ rfl;refine wp_region_any hm (ui (S:=S) (nd:=vJ ops (yF ops)) _ _ _ _ ?_);have:=m9 (CK ops _) d b dG _ _ _ _ _ (xh _ _) (λ_=>e) h;simpa using this
 ·refine wp_region_any hm (ui (S:=λ_=>True) (nd:=qN ops) _ _ _ _ ?_);have:=m9 (yG ops) d b dG _ _ _ _ _ (xh _ _) (λ_=>trivial) (h _ rfl);simpa using this
def qc (Q:Exit->ax->aE):Exit->Act->aE
 | .panic _,_,_=>False
 | .outgrown,_,_=>False
 |e,a,w=>a.defers=[]/\Q e a.tmps.toList w
theorem jh {e:Exit} (h:Q e env w) (he:(∀ c,e≠.panic c)/\e≠.outgrown):qc Q e (act env) w:=by
 cases e with
 |panic c=>exact absurd rfl (he.1 c)
 |outgrown=>exact absurd rfl he.2
 | _=>exact ⟨rfl,by simpa [act] using h⟩
theorem qL {e:Exit} {a:Act} (h:qc Q e a w):((∀ c,e≠.panic c)/\e≠.outgrown)/\∃ env,a=act env/\Q e env w:=by
 have mk:∀ (a:Act),a.defers=[]->a=act a.tmps.toList:=λa b=>by
  cases a with
  |mk t d=>simp only at b;subst b;simp [act]
 cases e with
 |panic c=>exact h.elim
 |outgrown=>exact h.elim
 |normal=>exact ⟨⟨λ_=>by simp,by simp⟩,_,mk a h.1,h.2⟩
 |exit i=>exact ⟨⟨λ_=>by simp,by simp⟩,_,mk a h.1,h.2⟩
 |goto i=>exact ⟨⟨λ_=>by simp,by simp⟩,_,mk a h.1,h.2⟩
 |ret=>exact ⟨⟨λ_=>by simp,by simp⟩,_,mk a h.1,h.2⟩
def cu (P:Program) (c:Code) (env:ax) (Q:Exit->ax->aE) (w:ak):Prop:=c.wp P (qc Q) (act env) w
def aV (next:ax->aE) (Q:Exit->ax->aE):Exit->ax->aE
 | .normal,env,w=>next env w
 |e,env,w=>Q e env w
def aO (id:Nat) (Q:Exit->ax->aE):Exit->ax->aE
 | .exit i,env,w=>match Nat.beq i id with
  |true=>Q .normal env w
  |false=>Q (.exit i) env w
 |e,env,w=>Q e env w
def W (P:Program):Code->ax->(Exit->ax->aE)->aE
 | .skip,env,Q,w=>Q .normal env w
 | .region _ ops draw,env,Q,w=>match draw with
  |false=>jE P ops.toList ops.toList env (Q .normal) w
  |true=>match Region.noSelect ops with
   |true=>tt P ops.toList env (Q .normal) w
   |false=>False
 | .seq a b,env,Q,w=>W P a env (aV (λenv w=>W P b env Q w) Q) w
 | .cond c x y,env,Q,w=>match b7 env c with
  | .bool b=>bif b then W P x env Q w else W P y env Q w
  | _=>False
 | .block id c,env,Q,w=>W P c env (aO id Q) w
 | .exit id,env,Q,w=>Q (.exit id) env w
 | .ret,env,Q,w=>Q .ret env w
 |c,env,Q,w=>cu P c env Q w
theorem pL {P:Program} (hm:P.follows .mixedOrders=true):∀ (c:Code) (env:ax) (Q:Exit->ax->aE) (w:ak),W P c env Q w->cu P c env Q w
 | .skip,env,Q,w,h=>wp_skip (jh h ⟨λ_=>by simp,by simp⟩)
 | .region id ops draw,env,Q,w,h=>by
  unfold W at h;cases draw with
  |false=>simp only at h;exact wpIn_wide.1 (wpIn_region_list (n:=0) (ov (all:=ops.toList) ops.toList env w (Q .normal) (λenv w o=>jh o ⟨λ_=>by simp,by simp⟩) h))
  |true=>
   simp only at h;split at h
   ·rename_i q;have:=Ib (id:=id) hm (Q:=qc Q) (by simpa using q) (λenv w o=>jh o ⟨λ_=>by simp,by simp⟩) (λc a w h=>h.elim) h;unfold cu;simpa using this
   ·exact h.elim
 | .seq a b,env,Q,w,h=>by
  have k:=pL hm a env _ w h;refine wp_seq (wp_mono k λe p w' f=>?_);obtain ⟨he,g,l,d⟩:=qL f;subst l;clear f;cases e with
  |normal=>exact pL hm b g Q w' d
  |panic c=>exact absurd rfl (he.1 c)
  |outgrown=>exact absurd rfl he.2
  |exit i=>exact jh d he
  |goto i=>exact jh d he
  |ret=>exact jh d he
 | .cond c x y,env,Q,w,h=>by
  unfold W at h;split at h
  ·rename_i b j;refine wp_cond (t:=b) (by rw [sy];exact j) ?_;cases b with
   |true=>exact pL hm x env Q w h
   |false=>exact pL hm y env Q w h
  ·exact h.elim
 | .block id c,env,Q,w,h=>by
  have k:=pL hm c env _ w h;refine wp_block (wp_mono k λe p w' f=>?_);obtain ⟨he,g,l,d⟩:=qL f;subst l;clear f;cases e with
  |exit i=>
   simp only [aO] at d;simp only [Exit.inBlock];cases j:Nat.beq i id with
   |true=>rw [j] at d;rw [if_pos (kJ j)];exact jh d ⟨λ_=>by simp,by simp⟩
   |false=>rw [j] at d;rw [if_neg (AQ j)];exact jh d he
  |panic c=>exact absurd rfl (he.1 c)
  |outgrown=>exact absurd rfl he.2
  |normal=>exact jh d he
  |goto i=>exact jh d he
  |ret=>exact jh d he
 | .exit id,env,Q,w,h=>wp_exit (jh h ⟨λ_=>by simp,by simp⟩)
 | .ret,env,Q,w,h=>wp_ret (jh h ⟨λ_=>by simp,by simp⟩)
 | .loop _,_,_,_,h=>h
 | .rangeFunc ..,_,_,_,h=>h
 | .scope _,_,_,_,h=>h
 | .label _,_,_,_,h=>h
 | .goto _,_,_,_,h=>h
 | .refuse _,_,_,_,h=>h
theorem Jx {Q:Exit->Act->aE} {a:Act} {c:Code} (aW:Nat->Act->aE) (z:Nat) (u:aW z a w)
  (round:∀ n a w,aW n a w->c.wp P (Exit.then (λh w'=>∃ m,m<n/\aW m h w') Q) a w):(Code.loop c).wp P Q a w:=by
 intro b k cs;have key:∀ n a w,aW n a w->
   ∃ e h w',Q e h w'/\Arrives P (lone (b.at a (.code c::.inLoop c::k)) cs w) b k cs e h w':=by
  intro n;induction n using Nat.strongRecOn with
  | _ n y=>
   intro a w t;obtain ⟨e,i,j,f,d⟩:=round n a w t b (.inLoop c::k) cs;cases e with
   |normal=>obtain ⟨m,p,o⟩:=f;obtain ⟨s,r,A,q,g⟩:=y m p i j o;exact ⟨s,r,A,q,.of_steps (Steps.trans d (.one step_inLoop)) g⟩
   |exit id=>exact ⟨_,i,j,f,.pass (x:=.inLoop c) rfl (λ_ _=>.inl (by simp)) d⟩
   |goto l=>exact ⟨_,i,j,f,.pass (x:=.inLoop c) rfl (λ_ _=>.inl (by simp)) d⟩
   |ret=>exact ⟨_,i,j,f,.pass (x:=.inLoop c) rfl (λ_ _=>.inl (by simp)) d⟩
   |panic B=>exact ⟨_,i,j,f,.pass (x:=.inLoop c) rfl (λ_ _=>.inl (by simp)) d⟩
   |outgrown=>exact ⟨_,i,j,f,.pass (x:=.inLoop c) rfl (λ_ _=>.inl (by simp)) d⟩
 obtain ⟨e,h,w',f,d⟩:=key _ a w u;exact ⟨e,h,w',f,.of_steps (.one step_loop) d⟩
theorem c2 (hm:P.follows .mixedOrders=true) {c:Code}
  (aW:Nat->ax->aE) (h:Nat) (j:aW h env w)
  (o:∀ n env w,aW n env w->W P c env (aV (λb w'=>∃ m,m<n/\aW m b w') Q) w):cu P (.loop c) env Q w:=by
 refine Jx (λn a w=>∃ env,a=act env/\aW n env w) h ⟨env,rfl,j⟩ ?_;rintro n a w ⟨env,rfl,k⟩;refine wp_mono (pL hm c env _ w (o n env w k)) λe p w' d=>?_
 obtain ⟨he,b,l,f⟩:=qL d;subst l;clear d;cases e with
 |normal=>obtain ⟨m,hm,g⟩:=f;exact ⟨m,hm,b,rfl,g⟩
 |panic c=>exact absurd rfl (he.1 c)
 |outgrown=>exact absurd rfl he.2
 |exit i=>exact jh f he
 |goto i=>exact jh f he
 |ret=>exact jh f he
def sub:Code->cQ->Code
 |c,[]=>c
 | .seq a b,n::p=>match n with | 0=>sub a p | _=>sub b p
 | .cond _ a b,n::p=>match n with | 0=>sub a p | _=>sub b p
 | .block _ c,_::p=>sub c p
 | .loop c,_::p=>sub c p
 | .scope c,_::p=>sub c p
 | .rangeFunc _ _ a b,n::p=>match n with | 0=>sub a p | _=>sub b p
 |c,_=>c
def bo (fn:Func):Code:=match fn.body with | some c=>c | none=>.skip
def nv (P:Program):List ResultVar->ax->(ax->Prop)->aE
 | [],_,K,_=>K []
 | .tmp t::rs,env,K,w=>nv P rs env (λvs=>K (env.getD t undef::vs)) w
 | .cell a t::rs,env,K,w=>nT P t (env.getD a undef) (λv w'=>w'=w/\nv P rs env (λvs=>K (v::vs)) w) w
def sr:ax->a4
 | [v]=>v
 |vs=>.tuple vs.toArray
def dB (P:Program) (fn:Func) (R:cA):Exit->ax->aE
 | .normal,env,w=>nv P fn.results.toList env (λvs=>R (sr vs) w) w
 | .ret,env,w=>nv P fn.results.toList env (λvs=>R (sr vs) w) w
 | _,_,_=>False
theorem Tz {x:a4} {K:cA} (h:nT P t x K w):∃ v,(do loadVar t (<- asAddr x):Sem a4).run P w=.ok v w/\K v w:=by
 unfold nT at h;split at h
 ·rename_i bw;split at h
  ·exact h.elim
  ·rename_i inf b;split at h
   ·rename_i a;split at h
    ·rename_i hlen;obtain ⟨vs,e,c,h⟩:=tf h;obtain ⟨d,ar⟩:=zV a;refine ⟨_,?_,h⟩;have f:vs.length=inf.size:=by rw [e];exact kJ hlen
     simp only [asAddr,pure_bind,loadVar,Sem.run_bind,pt ar,Result.andThen_ok,a,if_true,run_sizeOf b];have:=run_loadCellsFrom (P:=P) (acc:=#[]) c;rw [f] at this;simp [loadCells,this]
    ·exact h.elim
   ·rename_i a;split at h
    ·exact h.elim
    ·rename_i d ar;obtain ⟨v,an,h⟩:=sP h;refine ⟨_,?_,h⟩;simp only [asAddr,pure_bind,loadVar,Sem.run_bind,pt ar,Result.andThen_ok,a];simp [an]
 ·exact h.elim
theorem xP {P:Program} {env:ax} {w:ak}:∀ (rs:List ResultVar) (K:ax->Prop),nv P rs env K w->
  ∃ vs,(rs.mapM fun | .tmp t=>pure (env.toArray.getD t undef) | .cell a t=>do loadVar t (<- asAddr (env.toArray.getD a undef)):Sem ax).run P w=.ok vs w/\K vs
 | [],K,h=>⟨[],rfl,h⟩
 | .tmp t::rs,K,h=>by obtain ⟨vs,b,h⟩:=xP rs _ h;refine ⟨_,?_,h⟩;rw [List.mapM_cons];simp only [pure_bind,Sem.run_bind,b,Result.andThen_ok,Sem.run_pure];simp [dD]
 | .cell a t::rs,K,h=>by
  obtain ⟨v,an,hw,h⟩:=Tz h;obtain ⟨vs,b,h⟩:=xP rs _ h;refine ⟨_,?_,h⟩;rw [List.mapM_cons];have e:env.toArray.getD a undef=env.getD a undef:=by simp [dD]
  simp only [e] at b ⊢;rw [Sem.run_bind,an];simp only [Result.andThen_ok,Sem.run_bind,b,Sem.run_pure]
theorem xi (h:nv P fn.results.toList env (λvs=>K (sr vs)) w):∃ v,(results fn env.toArray).run P w=.ok v w/\K v:=by
 obtain ⟨vs,b,h⟩:=xP _ _ h;refine ⟨_,?_,h⟩;unfold results;rw [Array.mapM_eq_mapM_toList];simp only [Sem.run_bind,Sem.run_map,Sem.run_pure];refine Eq.trans (congrArg (λr:Result ax=>(r.andThen λa w'=>Result.ok a.toArray w').andThen λa w'=>Result.ok (if h:a.size=1 then a[0] else Value.tuple a) w') b) ?_;simp only [Result.andThen_ok];congr 1
 match vs with
 | []=>rfl
 | [v]=>rfl
 |v::u::r=>simp [sr]
def bf (P:Program) (fn:Func) (args:ax) (R:cA) (w:ak):Prop:=
 match fn.body with
 |some c=>W P c (args++List.replicate (fn.ntmps - args.length) undef) (dB P fn R) w
 |none=>False
theorem Kc (hm:P.follows .mixedOrders=true) {f:FuncId} {args:ax} (o:P.funcs[f]?=some fn)
  (h:bf P fn args R w):Calls P f args.toArray w λe w'=>∃ v,e=.returned v/\R v w':=by
 unfold bf at h;split at h
 ·rename_i c n;refine calls_of_wp o n ?_;have j:=pL hm c _ _ w h;have k:cu P c (args++List.replicate (fn.ntmps - args.length) undef) (dB P fn R) w=c.wp P (qc (dB P fn R)) { tmps:=args.toArray++Array.replicate (fn.ntmps - args.toArray.size) undef,defers:=[] } w:=by unfold cu act;congr 2;simp
  rw [k] at j;refine wp_mono j λe p w' b=>?_
  obtain ⟨he,a,l,d⟩:=qL b;subst l;clear b;cases e with
  |normal=>obtain ⟨v,an,g⟩:=xi (P:=P) (fn:=fn) (env:=a) (w:=w') (K:=λv=>R v w') d;exact ⟨rfl,v,an,v,rfl,g⟩
  |ret=>obtain ⟨v,an,g⟩:=xi (P:=P) (fn:=fn) (env:=a) (w:=w') (K:=λv=>R v w') d;exact ⟨rfl,v,an,v,rfl,g⟩
  |panic c=>exact absurd rfl (he.1 c)
  |outgrown=>exact absurd rfl he.2
  |exit i=>exact d.elim
  |goto i=>exact d.elim
 ·exact h.elim
def bG (P:Program) (fn:Func) (R:cA) (Q:Exit->ax->aE):Exit->ax->aE
 | .ret,env,w=>dB P fn R .ret env w
 |e,env,w=>Q e env w
theorem Om (h:∀ env w,Q .ret env w=dB P fn R .ret env w):bG P fn R Q=Q:=by funext e env w;cases e<;>first | rfl | exact (h env w).symm
theorem zt {c:Code} (h:∀ env w,Q .ret env w=dB P fn R .ret env w):W P c env (bG P fn R Q) w=W P c env Q w:=by rw [Om h]
theorem eS (h:N env w):aV N Q .normal env w:=h
theorem pU {k:Nat} (h:Q (.exit k) env w):aV N Q (.exit k) env w:=h
theorem py {k:Nat} (h:Q .normal env w):aO k Q .normal env w:=h
theorem pz {k:Nat} (h:Q .normal env w):aO k Q (.exit k) env w:=by
 show match Nat.beq k k with
  |true=>Q .normal env w
  |false=>Q (.exit k) env w
 rw [Nat.beq_refl k];exact h
noncomputable def EV (n:Nat):(bb->Prop)->Prop:=@Nat.rec (λ_=>(bb->Prop)->Prop) (λK=>K []) (λ_ a K=>∃ x:Int,a λl=>K (x::l)) n
theorem DJ:∀ (n:Nat) (l:bb),l.length=n->∀ {K:bb->Prop},K l->EV n K
 | 0,l,h,K,a=>by have:l=[]:=fB h;subst this;exact a
 |n+1,[],h,_,_=>by cases h
 |n+1,x::l,h,K,a=>⟨x,DJ n l (by simpa using h) a⟩
attribute [irreducible] bf W sub bo
end Go.br
