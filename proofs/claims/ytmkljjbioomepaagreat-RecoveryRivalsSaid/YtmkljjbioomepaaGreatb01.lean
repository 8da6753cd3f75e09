import Derived.OrdersHeld
import Derived.KernelRfl
import Derived.Tactics
import Derived.Laws.World
import Derived.TacticsIn
import Derived.RangeFuncSeq
set_option linter.all false
namespace Go
abbrev ak:=World
abbrev a2:=Value
abbrev aS:=Addr
abbrev an:=Option Addr
abbrev ax:=List Value
abbrev cP:=List Nat
abbrev bd:=List Int
abbrev aE:=World->Prop
abbrev cB:=Value->World->Prop
abbrev a3:=Nat->Prop
abbrev yl:=@Array.getElem?_eq_none
abbrev u9:=@Array.getElem?_eq_some_iff
abbrev yu:=@Array.getElem?_modify
abbrev e1:=@Bool.and_eq_true
abbrev rn:=@Bool.false_eq_true
abbrev tf:=@Bool.not_eq_false
abbrev rq:=@Bool.not_eq_true'
abbrev vk:=@Bool.or_eq_true
abbrev vl:=@Bool.true_and
abbrev vn:=@Int.emod_lt_of_pos
abbrev u_:=@Int.emod_nonneg
abbrev p3:=@Int.eq_ofNat_of_zero_le
abbrev va:=@Int.fdiv_eq_ediv_of_nonneg
abbrev yp:=@Int.tdiv_eq_ediv_of_nonneg
abbrev yq:=@Int.tmod_eq_emod_of_nonneg
abbrev fU:=@Int.toNat_natCast
abbrev yr:=@List.all_eq_false
abbrev gU:=@List.all_eq_true
abbrev yt:=@List.any_eq_false
abbrev p6:=@List.any_eq_true
abbrev lr:=@List.append_assoc
abbrev i':=@List.append_nil
abbrev Bf:=@List.contains_iff_mem
abbrev ve:=@List.drop_drop
abbrev oU:=@List.drop_eq_getElem_cons
abbrev Bg:=@List.drop_eq_nil_of_le
abbrev rl:=@List.drop_length
abbrev td:=@List.drop_zero
abbrev fI:=@List.eq_nil_of_length_eq_zero
abbrev rm:=@List.exists_cons_of_ne_nil
abbrev kj:=@List.ext_getElem?
abbrev Bh:=@List.filter_append
abbrev Bi:=@List.flatten_append
abbrev gV:=@List.flatten_cons
abbrev yv:=@List.foldl_append
abbrev vf:=@List.foldl_cons
abbrev dF:=@List.getD_eq_getElem?_getD
abbrev p7:=@List.getElem?_append
abbrev hU:=@List.getElem?_append_left
abbrev hV:=@List.getElem?_append_right
abbrev nY:=@List.getElem?_cons_succ
abbrev rp:=@List.getElem?_cons_zero
abbrev lu:=@List.getElem?_drop
abbrev bD:=@List.getElem?_eq_getElem
abbrev lv:=@List.getElem?_eq_none
abbrev lx:=@List.getElem?_eq_some_iff
abbrev yw:=@List.getElem?_inj
abbrev dR:=@List.getElem?_map
abbrev te:=@List.getElem?_modify
abbrev kk:=@List.getElem?_range
abbrev Bj:=@List.getElem?_replicate
abbrev iu:=@List.getElem?_set
abbrev hW:=@List.getElem?_set_ne
abbrev jy:=@List.getElem?_set_self
abbrev oV:=@List.getElem?_take
abbrev tg:=@List.getElem?_take_of_lt
abbrev vg:=@List.getElem?_toArray
abbrev Bk:=@List.getElem?_zip_eq_some
abbrev jS:=@List.getElem_mem
abbrev yx:=@List.getElem_of_mem
abbrev dI:=@List.length_append
abbrev g7:=@List.length_cons
abbrev l1:=@List.length_drop
abbrev vh:=@List.length_eq_one_iff
abbrev nZ:=@List.length_eq_zero_iff
abbrev vi:=@List.length_filter_le
abbrev ft:=@List.length_map
abbrev p8:=@List.length_nil
abbrev vj:=@List.length_pos_iff
abbrev ly:=@List.length_range
abbrev yy:=@List.length_replicate
abbrev p9:=@List.length_set
abbrev th:=@List.length_singleton
abbrev rr:=@List.length_tail
abbrev iM:=@List.length_take
abbrev ja:=@List.map_append
abbrev ti:=@List.map_congr_left
abbrev f9:=@List.map_cons
abbrev ru:=@List.map_map
abbrev tj:=@List.map_nil
abbrev iv:=@List.map_set
abbrev jT:=@List.mem_append
abbrev vm:=@List.mem_append_left
abbrev e6:=@List.mem_cons
abbrev fu:=@List.mem_cons_of_mem
abbrev e2:=@List.mem_cons_self
abbrev tk:=@List.mem_filter
abbrev oW:=@List.mem_flatten
abbrev eh:=@List.mem_iff_getElem?
abbrev cT:=@List.mem_map
abbrev b7:=@List.mem_of_getElem?
abbrev oX:=@List.mem_of_mem_drop
abbrev yz:=@List.mem_of_mem_eraseIdx
abbrev tm:=@List.mem_of_mem_tail
abbrev tn:=@List.mem_of_mem_take
abbrev n0:=@List.mem_or_eq_of_mem_set
abbrev fJ:=@List.mem_range
abbrev Bl:=@List.mem_replicate
abbrev n1:=@List.mem_singleton
abbrev mX:=@List.nil_append
abbrev lp:=@List.not_mem_nil
abbrev Ba:=@List.pairwise_cons
abbrev Bb:=@List.pairwise_iff_getElem
abbrev ki:=@List.range_succ
abbrev s':=@List.range_succ_eq_map
abbrev rj:=@List.replicate_succ
abbrev Bc:=@List.set_append_right
abbrev Bd:=@List.set_cons_succ
abbrev ym:=@List.set_cons_zero
abbrev jR:=@List.sum_cons
abbrev fc:=@List.take_add_one
abbrev hx:=@List.take_length
abbrev hS:=@List.take_of_length_le
abbrev Hy:=@List.take_succ_eq_append_getElem
abbrev u':=@Nat.add_assoc
abbrev rk:=@Nat.add_mul
abbrev l0:=@Nat.add_zero
abbrev kO:=@Nat.eq_of_beq_eq_true
abbrev yn:=@Nat.eq_zero_or_pos
abbrev yo:=@Nat.le_of_not_lt
abbrev cQ:=@Nat.le_refl
abbrev lq:=@Nat.le_trans
abbrev f8:=@Nat.lt_of_lt_of_le
abbrev oT:=@Nat.lt_or_ge
abbrev p4:=@Nat.lt_succ_iff_lt_or_eq
abbrev ta:=@Nat.mod_eq_of_lt
abbrev vb:=@Nat.mul_comm
abbrev p5:=@Nat.mul_le_mul
abbrev tc:=@Nat.mul_le_mul_right
abbrev Be:=@Nat.ne_of_beq_eq_false
abbrev mV:=@Nat.sub_self
abbrev hT:=@Nat.succ_mul
abbrev g6:=@Nat.zero_add
abbrev vc:=@Nat.zero_le
abbrev vd:=@Nat.zero_mul
abbrev kP:=@Option.map_eq_some_iff
abbrev mW:=@Option.map_some
abbrev nX:=@Option.some.inj
abbrev fe:=@Option.some.injEq
end Go
namespace Go.bu
variable {K:a2->Prop} {N:ax->aE} {P:Program} {Q:Exit->ax->aE} {R:cB} {a b p:an} {all ops:List Oper} {c:Call} {c' cap l l' len:Nat} {captured first:Array a2} {env:ax} {f x y:Operand} {fn:Func} {h m n:Int} {inf:TypeInfo} {k:IntKind} {next:Act->aE} {kz:Oper} {op:BinOp} {q:aS} {s:Sem a2} {t:TypeId} {v:a2} {w w':ak}
def b9 (env:ax):Operand->a2
 | .tmp t=>env.getD t undef
 | .const v=>v
 | .global g=>.pointer (some ⟨g,0,none⟩)
 | .func f=>.func (.func f) #[] #[]
def ag (j:ax):Nat->Nat->ax->ax
 | _,0,r=>r
 |a,n+1,r=>j.getD a undef::ag j (a+1) n r
def bb:Nat->ax->ax
 | 0,r=>r
 |n+1,r=>undef::bb n r
def put (env:ax):Option Tmp->a2->ax
 |some d,v=>env.set d v
 |none,_=>env
def act (env:ax):Act:={ tmps:=env.toArray,defers:=[] }
theorem sW (env:ax):(act env).eval=b9 env:=by
 funext x;cases x with
 |tmp t=>simp only [Act.eval,act,b9,Array.getD_eq_getD_getElem?,vg,dF]
 |const v=>rfl
 |global g=>rfl
 |func f=>rfl
theorem k2 (env:ax) (d:Option Tmp) (v:a2):(act env).put d v=act (put env d v):=by
 cases d with
 |none=>rfl
 |some d=>simp [Act.put,act,put]
def single:a2->Bool
 | .agg _=>false
 | .tuple _=>false
 | _=>true
def oL {α:Type} (P:Program):Sem α->(α->aE)->aE
 | .pure a,K,w=>K a w
 | .load _ a k,K,w=>∃ v,w.cell? a=some v/\oL P (k v) K w
 | .store _ a v k,K,w=>(∃ u,w.cell? a=some u)/\w.frozen? a=false/\single v=true/\∀ w1,w1=w.setCell a v->oL P k K w1
 | .new o k,K,w=>∀ b w1,b=w.heap.size->w1=w.alloc o->oL P (k b) K w1
 | .shape r k,K,w=>oL P (k (w.shape? r)) K w
 | .frozen a k,K,w=>oL P (k (w.frozen? a)) K w
 | .program k,K,w=>oL P (k P) K w
 | .mark _ k,K,w=>oL P k K w
 | _,_,_=>False
theorem BG {α:Type} {m:Mode} {a:aS} {k:Sem α} (b:∃ u,w.cell? a=some u) (c:w.frozen? a=false) (al:single v=true) :
  (Sem.store m a v k).run P w=k.run P (w.setCell a v):=by
 obtain ⟨u,hu⟩:=b;cases v<;>simp [single] at al<;>simp [Sem.run,hu,c]
theorem KB {α:Type} (s:Sem α):∀ {K:α->aE} {w:ak},oL P s K w->∃ a w',s.run P w=.ok a w'/\K a w':=by
 induction s with
 |pure a=>intro K w h;exact ⟨a,w,rfl,h⟩
 |load m a k b=>intro K w h;obtain ⟨v,al,h⟩:=h;obtain ⟨x,w',d,c⟩:=b v h;exact ⟨x,w',by simp only [Sem.run,al];exact d,c⟩
 |store m a v k b=>intro K w h;obtain ⟨e,f,g,h⟩:=h;obtain ⟨x,w',d,c⟩:=b (h _ rfl);exact ⟨x,w',by rw [BG e f g];exact d,c⟩
 |new o k b=>intro K w h;obtain ⟨x,w',d,c⟩:=b _ (h _ _ rfl rfl);exact ⟨x,w',d,c⟩
 |shape r k b=>intro K w h;exact b _ h
 |frozen a k b=>intro K w h;exact b _ h
 |program k b=>intro K w h;exact b _ h
 |mark m k b=>intro K w h;exact b h
 | _=>intro K w h;exact h.elim
def fx (k:IntKind) (x y:Int):Int:=k.wrap (BitVec.ofInt k.bits x &&& BitVec.ofInt k.bits y).toNat
def jg (k:IntKind) (x y:Int):Int:=k.wrap (BitVec.ofInt k.bits x ||| BitVec.ofInt k.bits y).toNat
def hZ (k:IntKind) (x y:Int):Int:=k.wrap (BitVec.ofInt k.bits x ^^^ BitVec.ofInt k.bits y).toNat
def tH (k:IntKind) (x y:Int):Int:=k.wrap (BitVec.ofInt k.bits x &&& ~~~ BitVec.ofInt k.bits y).toNat
def ie (k:IntKind) (x n:Int):Int:=k.wrap (x * 2 ^ min n.toNat k.bits)
def db (k:IntKind) (x n:Int):Int:=x.fdiv (2 ^ min n.toNat k.bits)
inductive m6 where
 |i (k:IntKind) | b | p | s | v
def xt:Option TypeDesc->m6
 |some (.int k)=>.i k
 |some .bool=>.b
 |some (.pointer _)=>.p
 |some (.slice _)=>.s
 | _=>.v
def po:m6->(a2->Prop)->Prop
 | .i k,K=>∃ x:Int,K (.int k x)
 | .b,K=>∃ x:Bool,K (.bool x)
 | .p,K=>∃ x:an,K (.pointer x)
 | .s,K=>∃ (x:an) (l c:Nat),K (.slice x l c)
 | .v,K=>∃ v:a2,K v
theorem rH {k:m6} (h:po k K):∃ v,K v:=by
 cases k with
 |i k=>obtain ⟨x,h⟩:=h;exact ⟨_,h⟩
 |b=>obtain ⟨x,h⟩:=h;exact ⟨_,h⟩
 |p=>obtain ⟨x,h⟩:=h;exact ⟨_,h⟩
 |s=>obtain ⟨x,l,c,h⟩:=h;exact ⟨_,h⟩
 |v=>exact h
theorem C5 {k:m6} {d:a2->Prop} (a:∀ v,K v->d v) (h:po k K):po k d:=by
 cases k with
 |i k=>obtain ⟨x,h⟩:=h;exact ⟨_,a _ h⟩
 |b=>obtain ⟨x,h⟩:=h;exact ⟨_,a _ h⟩
 |p=>obtain ⟨x,h⟩:=h;exact ⟨_,a _ h⟩
 |s=>obtain ⟨x,l,c,h⟩:=h;exact ⟨_,_,_,a _ h⟩
 |v=>obtain ⟨x,h⟩:=h;exact ⟨_,a _ h⟩
def qJ:List m6->(ax->Prop)->Prop
 | [],K=>K []
 |k::a,K=>po k λv=>qJ a λvs=>K (v::vs)
theorem tt:∀ {a:List m6} {K:ax->Prop},qJ a K->∃ vs,vs.length=a.length/\K vs
 | [],_,h=>⟨[],rfl,h⟩
 |k::a,K,h=>by obtain ⟨v,h⟩:=rH h;obtain ⟨vs,b,h⟩:=tt h;exact ⟨v::vs,by simp [b],h⟩
theorem C6:∀ {c:List m6} {K b:ax->Prop},(∀ vs,K vs->b vs)->qJ c K->qJ c b
 | [],_,_,a,h=>a _ h
 | _::_,_,_,a,h=>C5 (λv h=>C6 (λvs h=>a (v::vs) h) h) h
def qP (P:Program):Nat->TypeId->List m6
 | 0,_=>[]
 |n+1,t=>match P.underlying t with
  |some (.struct a)=>a.toList.flatMap λf=>qP P n f.type
  |some (.array len e)=>(List.replicate len (qP P n e)).flatten
  |d=>[xt d]
def gJ (P:Program) (t:TypeId):Bool:=
 match P.underlying t with
 |some (.struct _)=>true
 |some (.array _ _)=>true
 | _=>false
def qh (P:Program) (t:TypeId):Nat:=match P.info? t with | some i=>i.size | none=>0
def wY (P:Program) (t:TypeId) (K:a2->Prop):Prop:=
 match gJ P t with
 |true=>qJ (qP P 8 t) λvs=>K (.agg vs.toArray)
 |false=>po (xt (P.underlying t)) K
theorem D8 (h:wY P t K):∃ v,K v:=by
 unfold wY at h;split at h
 ·obtain ⟨vs,_,h⟩:=tt h;exact ⟨_,h⟩
 ·exact rH h
def z0 (P:Program):List TypeId->(ax->Prop)->Prop
 | [],K=>K []
 |t::ts,K=>wY P t λv=>z0 P ts λvs=>K (v::vs)
theorem D9 {P:Program}:∀ {ts:List TypeId} {K:ax->Prop},z0 P ts K->∃ vs,K vs
 | [],_,h=>⟨[],h⟩
 |t::ts,K,h=>by obtain ⟨v,h⟩:=D8 h;obtain ⟨vs,h⟩:=D9 h;exact ⟨v::vs,h⟩
def sg (P:Program):List TypeId->(a2->Prop)->Prop
 | [t],K=>wY P t K
 |ts,K=>z0 P ts λvs=>K (.tuple vs.toArray)
theorem D_ {ts:List TypeId} (h:sg P ts K):∃ v,K v:=by
 unfold sg at h;split at h
 ·exact D8 h
 ·obtain ⟨vs,h⟩:=D9 h;exact ⟨_,h⟩
def b6 (w:ak) (bx:aS):Nat->ax->Prop
 | _,[]=>True
 |i,v::vs=>w.cell? (bx.add i)=some v/\b6 w bx (i+1) vs
def ec (w:ak) (bx:aS):Nat->ax->Prop
 | _,[]=>True
 |i,v::vs=>(∃ u,w.cell? (bx.add i)=some u)/\w.frozen? (bx.add i)=false/\single v=true/\ec w bx (i+1) vs
def cr (w:ak) (bx:aS):Nat->ax->ak
 | _,[]=>w
 |i,v::vs=>cr (w.setCell (bx.add i) v) bx (i+1) vs
theorem UZ {p:aS} (h:∃ u,w.cell? q=some u):∃ u,(w.setCell p v).cell? q=some u:=by
 obtain ⟨u,hu⟩:=h;unfold World.cell? World.setCell at *;simp only [yu];cases f:w.heap[q.block]? with
 |none=>rw [f] at hu;cases hu
 |some o=>
  rw [f] at hu;cases o with
  |cells c e i=>
   simp only at hu;by_cases b:q.spot.isSome=true
   ·simp [b] at hu
   ·simp only [b,rn,if_false] at hu;by_cases a:p.block=q.block
    ·simp only [a,if_true,mW,b,rn,if_false];by_cases g:p.spot.isSome=true
     ·simp only [g,if_true];exact ⟨u,hu⟩
     ·simp only [g,rn,if_false];rw [Array.getElem?_setIfInBounds];split
      ·rename_i he;have d:p.off<c.size:=by
        rcases oT p.off c.size with h | h
        ·exact h
        ·rw [yl (by omega)] at hu;cases hu
       rw [if_pos d];exact ⟨_,rfl⟩
      ·exact ⟨u,hu⟩
    ·simp only [a,if_false,b,rn];exact ⟨u,hu⟩
  | _=>cases hu
theorem VD {p:aS}:(w.setCell p v).frozen? q=w.frozen? q:=by
 unfold World.frozen? World.setCell;simp only [yu];cases b:w.heap[q.block]? with
 |none=>simp
 |some o=>
  by_cases a:p.block=q.block
  ·simp only [a,if_true,mW];cases o<;>rfl
  ·simp only [a,if_false]
theorem Hi {w:ak} {bx p:aS} {u:a2}:∀ {vs:ax} {i:Nat},ec w bx i vs->ec (w.setCell p u) bx i vs
 | [],_,_=>trivial
 | _::_,_,h=>⟨UZ h.1,by rw [VD];exact h.2.1,h.2.2.1,Hi h.2.2.2⟩
theorem sM {P:Program} {bx:aS}:∀ {vs:ax} {i:Nat} {w:ak},ec w bx i vs->
  (storeCells bx vs i).run P w=.ok () (cr w bx i vs)
 | [],_,_,_=>rfl
 |v::vs,i,w,h=>by unfold storeCells;show ((store (bx.add i) v).bind λ_=>storeCells bx vs (i+1)).run P w=_;show (Sem.store .plain (bx.add i) v (storeCells bx vs (i+1))).run P w=_;rw [BG h.1 h.2.1 h.2.2.1];exact sM (Hi h.2.2.2)
theorem run_loadCellsFrom {P:Program} {bx:aS} {w:ak}:∀ {vs:ax} {i:Nat} {acc:Array a2},b6 w bx i vs->
  (loadCellsFrom bx i vs.length acc).run P w=.ok (acc++vs.toArray) w
 | [],_,acc,_=>by simp [loadCellsFrom]
 |v::vs,i,acc,h=>by show (Sem.load .plain (bx.add i) λv=>loadCellsFrom bx (i+1) vs.length (acc.push v)).run P w=_;simp only [Sem.run,h.1];rw [run_loadCellsFrom (acc:=acc.push v) h.2];simp
def n2 (P:Program) (t:TypeId) (x:a2) (K:cB) (w:ak):Prop:=
 match x with
 | .pointer (some bx)=>
  match P.info? t with
  |none=>False
  |some inf=>
   match gJ P t with
   |true=>match Nat.beq (qP P 8 t).length inf.size with
    |true=>qJ (qP P 8 t) λvs=>b6 w bx 0 vs/\K (.agg vs.toArray) w
    |false=>False
   |false=>match P.underlying t with
    |none=>False
    |some d=>po (xt (some d)) λv=>w.cell? bx=some v/\K v w
 | _=>False
def zc (P:Program) (t:TypeId) (x v:a2) (K:aE) (w:ak):Prop:=
 match x with
 | .pointer (some bx)=>
  match P.info? t with
  |none=>False
  |some inf=>
   match gJ P t with
   |true=>match Nat.beq v.cells.size inf.size with
    |true=>ec w bx 0 v.cells.toList/\∀ w1,w1=cr w bx 0 v.cells.toList->K w1
    |false=>False
   |false=>match single v,Nat.beq inf.size 1 with
    |true,true=>(∃ u,w.cell? bx=some u)/\w.frozen? bx=false/\∀ w1,w1=w.setCell bx v->K w1
    | _,_=>False
 | _=>False
def fk:an->(aS->Prop)->Prop
 |some bx,K=>K bx
 |none,_=>False
def bm (a:an) (len:Nat) (n:Int) (sz:Nat) (K:aS->Prop):Prop:=
 ∃ bx,a=some bx/\0<=n/\n<len/\K (bx.add (n.toNat * sz))
def kZ (bx:aS) (len:Nat) (n:Int) (sz:Nat) (K:aS->Prop):Prop:=
 0<=n/\n<len/\K (bx.add (n.toNat * sz))
def hP (a:an) (len cap:Nat) (b d c:Int) (sz:Nat) (K:an->Nat->a3):Prop:=
 0<=b/\b<=d/\d<=c/\c<=cap/\len<=cap/\K (if c=b then a else a.map (·.add (b.toNat * sz))) (d.toNat - b.toNat) (c.toNat - b.toNat)
def jt (n:Nat) (zs:ax):ax:=(List.replicate n zs).flatten
def qR (len cap:Int) (bytes:Nat) (o:Obj) (w:ak) (K:Nat->aE):Prop:=0<=len/\len<=cap/\cap * bytes<=140737488355328/\cap<=140737488355328/\∀ b w1,b=w.heap.size->w1=w.alloc o->K b w1
def ij (P:Program) (f:FuncId):Bool:=
 match P.funcs[f]? with
 |some fn=>fn.body.isSome && !(fn.name == "runtime.NumGoroutine")
 |none=>false
def mT (P:Program) (f:a2) (args:Array a2) (w:ak) (R:Ending->aE):Prop:=
 match f with
 | .func (.func g) first captured=>match ij P g with
  |true=>Calls P g (first++args++captured) w R
  |false=>False
 | _=>False
def v3 (P:Program) (t:TypeId):List TypeId:=
 match P.underlying t with
 |some (.tuple ts)=>ts.toList
 | _=>[t]
def xO (P:Program) (s:Sem a2) (k:m6) (K:cB) (w:ak):Prop:=
 po k λv=>∃ w',s.run P w=.ok v w'/\K v w'
def VU:a2->Option Int
 | .int _ n=>some n
 | _=>none
def EE (K:cB):Next->aE
 | .value v,w=>K v w
 | .skip,w=>K undef w
 | _,_=>False
def z_ (P:Program) (env:ax) (o:Oper) (K:cB) (w:ak):Prop:=
 oL P (execOp (b9 env) o) (EE K) w
def vr:Operand->Bool
 | .const _=>true
 | _=>false
def mc (d:Int):Option a2->Option Int
 |none=>some d
 |some (.int _ n)=>some n
 |some _=>none
def vt {α:Type} (P:Program):Sem α->Option α
 | .pure a=>some a
 | .program k=>vt P (k P)
 | _=>none
theorem IC {α:Type} (s:Sem α):∀ {a:α},vt P s=some a->∀ w,s.run P w=.ok a w:=by
 induction s with
 |pure a=>intro b h w;simp [vt] at h;subst h;rfl
 |program k c=>intro b h w;exact c P h w
 | _=>intro b h;cases h
def oy (P:Program) (env:ax) (o:Oper) (K:a2->Prop):Prop:=
 match vt P (execOp (b9 env) o) with
 |some (.value v)=>K v
 | _=>False
def IL (P:Program) (t:TypeId) (x y:a2) (r:Bool) (w:ak):Prop:=
 (∀ op a b,(eqGuard op t a b x y).run P w=.ok () w)/\(binOp .eql t x y).run P w=.ok (.bool r) w/\(binOp .neq t x y).run P w=.ok (.bool (!r)) w
def rU (P:Program) (t:TypeId) (x y:a2) (K:Bool->Prop):Prop:=∃ r:Bool,(∀ w,IL P t x y r w)/\K r
def v5 (P:Program) (env:ax) (o:Oper) (K:a2->Prop):Prop:=
 match o.op with
 | .pick c a b=>match b9 env c with
  | .bool t=>bif t then K (b9 env a) else K (b9 env b)
  | _=>False
 | .nilCheck x=>match b9 env x with
  | .pointer p=>fk p λbx=>K (.pointer (some bx))
  | _=>False
 | .indexAddr t x i=>match b9 env i with
  | .int _ n=>match P.underlying t with
   |some (.slice e)=>match b9 env x,P.info? e with
    | .slice a len _,some inf=>bm a len n inf.size λbx=>K (.pointer (some bx))
    | _,_=>False
   |some (.array len e)=>match b9 env x,P.info? e with
    | .pointer (some bx),some inf=>kZ bx len n inf.size λbx=>K (.pointer (some bx))
    | _,_=>False
   | _=>False
  | _=>False
 | .slice t x q f g=>match P.underlying t with
  |some (.slice e)=>match b9 env x,P.info? e with
   | .slice a len cap,some inf=>
    match mc 0 (q.map (b9 env)),mc len (f.map (b9 env)),mc cap (g.map (b9 env)),f.isNone && g.isSome with
    |some l,some h,some m,false=>hP a len cap l h m inf.size λj l' c'=>K (.slice j l' c')
    | _,_,_,_=>False
   | _,_=>False
  | _=>oy P env o K
 | .binOp op t x y _=>match op,b9 env x,b9 env y with
  | .eql,.pointer p,.pointer none=>match P.underlying t with
   |some (.pointer _)=>K (.bool p.isNone)
   | _=>False
  | .neq,.pointer p,.pointer none=>match P.underlying t with
   |some (.pointer _)=>K (.bool (!p.isNone))
   | _=>False
  | .eql,.slice a _ _,.slice none _ _=>match P.underlying t with
   |some (.slice _)=>K (.bool a.isNone)
   | _=>False
  | .neq,.slice a _ _,.slice none _ _=>match P.underlying t with
   |some (.slice _)=>K (.bool (!a.isNone))
   | _=>False
  | .quo,.int k a,.int d b=>match vr y with
   |true=>oy P env o K
   |false=>k=d/\b≠0/\K (.int k (k.wrap (a.tdiv b)))
  | .rem,.int k a,.int d b=>match vr y with
   |true=>oy P env o K
   |false=>k=d/\b≠0/\K (.int k (a.tmod b))
  | .shl,.int k a,.int _ b=>match vr y with
   |true=>oy P env o K
   |false=>0<=b/\K (.int k (k.wrap (a * 2 ^ min b.toNat k.bits)))
  | .shr,.int k a,.int _ b=>match vr y with
   |true=>oy P env o K
   |false=>0<=b/\K (.int k (a.fdiv (2 ^ min b.toNat k.bits)))
  | .eql,.agg a,.agg b=>rU P t (.agg a) (.agg b) λr=>K (.bool r)
  | .neq,.agg a,.agg b=>rU P t (.agg a) (.agg b) λr=>K (.bool (!r))
  | _,_,_=>oy P env o K
 | _=>oy P env o K
def vU:Op->Bool
 | .move _ | .assign _ | .pick .. | .build .. | .nilCheck _ | .binOp .. | .unOp .. | .convert .. | .makeFunc .. | .slice .. | .fieldAddr .. | .field .. | .indexAddr .. | .index .. | .extract ..=>true
 | .call { callee:=.builtin .len,.. } | .call { callee:=.builtin .cap,.. } | .call { callee:=.builtin .min,.. } | .call { callee:=.builtin .max,.. }=>true
 | _=>false
def qZ (P:Program) (env:ax) (o:Oper) (K:cB) (w:ak):Prop:=
 match vU o.op with
 |true=>v5 P env o λv=>K v w
 |false=>match o.op with
  | .load t x=>n2 P t (b9 env x) K w
  | .store t x v=>zc P t (b9 env x) (b9 env v) (K undef) w
  | .makeSlice t l c=>match P.underlying t,b9 env l,b9 env c with
   |some (.slice e),.int _ len,.int _ cap=>match P.info? e with
    |some inf=>match inf.zero with
     |some z=>match Nat.beq z.cells.size inf.size && Nat.ble 1 inf.size with
      |false=>False
      |true=>qR len cap inf.bytes (.cells (jt cap.toNat z.cells.toList).toArray e) w λb w1=>K (.slice (some ⟨b,0,none⟩) len.toNat cap.toNat) w1
     |none=>False
    |none=>False
   | _,_,_=>False
  | .call c=>match c.callee with
   | .builtin .append=>xO P (Builtin.append_ c.argTypes o.type (c.args.map (b9 env))) .s K w
   | .builtin .copy=>xO P (Builtin.copy_ c.argTypes o.type (c.args.map (b9 env))) (.i .i64) K w
   | .builtin .clear=>xO P (Builtin.clear_ c.argTypes o.type (c.args.map (b9 env))) .v K w
   | .value f=>mT P (b9 env f) (c.args.map (b9 env)) w λe w'=>sg P (v3 P o.type) λv=>e=.returned v/\K v w'
   | _=>z_ P env o K w
  | _=>z_ P env o K w
def iX (P:Program) (f:a2) (args:Array a2) (w:ak) (R:Ending->aE):Prop:=
 match f with
 | .func (.yield l) first _=>YieldAt Fence.wide 0 P l (first++args) w R
 |f=>mT P f args w R
def An (P:Program) (env:ax) (o:Oper) (K:cB) (w:ak):Prop:=
 match o.op with
 | .call c=>match c.callee with
  | .value f=>iX P (b9 env f) (c.args.map (b9 env)) w λe w'=>sg P (v3 P o.type) λv=>e=.returned v/\K v w'
  | _=>qZ P env o K w
 | _=>qZ P env o K w
section
variable {P:Program} {env:ax} {o:Oper} {K:cB} {w:ak}
def lT (P:Program) (env:ax) (o:Oper) (K:cB) (w:ak):Prop:=
 (∃ n w',(execOp (b9 env) o).run P w=.ok n w'/\EE K n w')\/
 (∃ f args,(execOp (b9 env) o).run P w=.ok (.enter f args) w/\Calls P f args w λe w'=>∃ v,e=.returned v/\K v w')
theorem C7 (h:z_ P env o K w):lT P env o K w:=.inl (KB _ h)
theorem yA (he:execOp (b9 env) o=(do pure (.value (<- s)))) (a:s.run P w=.ok v w') (h:K v w'):lT P env o K w:=by refine .inl ⟨.value v,w',?_,h⟩;rw [he,Sem.run_bind,a];rfl
theorem BH {s:Sem Unit} (he:execOp (b9 env) o=(do s;pure .skip)) (a:s.run P w=.ok () w') (h:K undef w'):lT P env o K w:=by refine .inl ⟨.skip,w',?_,h⟩;rw [he,Sem.run_bind,a];rfl
theorem AE {i:TypeInfo} (h:P.info? t=some i) (w:ak):(typeInfo t).run P w=.ok i w:=by simp [typeInfo,h,program,Sem.run]
theorem run_sizeOf {i:TypeInfo} (h:P.info? t=some i) (w:ak):(sizeOf t).run P w=.ok i.size w:=by simp [sizeOf,AE h]
theorem pw {d:TypeDesc} (h:P.underlying t=some d) (w:ak):(Go.isAgg t).run P w=.ok (gJ P t) w:=by simp only [Go.isAgg,Sem.run_bind,run_underlying h,Result.andThen_ok,gJ,h];cases d<;>rfl
theorem Ah (h:gJ P t=true):∃ d,P.underlying t=some d:=by
 unfold gJ at h;cases hu:P.underlying t with
 |none=>simp [hu] at h
 |some d=>exact ⟨d,rfl⟩
def mn (P:Program) (env:ax) (o:Oper) (K:a2->Prop):Prop:=
 ∃ v,(∀ w,(execOp (b9 env) o).run P w=.ok (.value v) w)/\K v
theorem mn.bc (h:mn P env o λv=>K v w):lT P env o K w:=
 let ⟨v,a,h⟩:=h
 .inl ⟨.value v,w,a w,h⟩
theorem x' {K:a2->Prop} (he:execOp (b9 env) o=(do pure (.value (<- s)))) (a:∀ w,s.run P w=.ok v w) (h:K v):mn P env o K:=by
 refine ⟨v,λw=>?_,h⟩
 rw [he,Sem.run_bind,a];rfl
theorem q1 {K:a2->Prop} (h:oy P env o K):mn P env o K:=by
 unfold oy at h;split at h
 ·rename_i v al;exact ⟨v,IC _ al,h⟩
 ·exact h.elim
theorem Jp (i:o.op=.load t x) (h:n2 P t (b9 env x) K w):lT P env o K w:=by
 have he:execOp (b9 env) o=(do pure (.value (<- Instr.loadAt t (b9 env x)))):=by unfold execOp;rw [i]
 unfold n2 at h;split at h
 ·rename_i bx c;split at h
  ·exact h.elim
  ·rename_i inf b;split at h
   ·rename_i a;split at h
    ·rename_i hlen;obtain ⟨vs,f,e,h⟩:=tt h;obtain ⟨d,ar⟩:=Ah a;refine yA he ?_ h;have g:vs.length=inf.size:=by rw [f];exact kO hlen
     simp only [Instr.loadAt,c,Instr.sureAddr,pure_bind,loadVar,Sem.run_bind,pw ar,Result.andThen_ok,a,if_true,run_sizeOf b];have:=run_loadCellsFrom (P:=P) (acc:=#[]) e;rw [g] at this;simp [loadCells,this]
    ·exact h.elim
   ·rename_i a;split at h
    ·exact h.elim
    ·rename_i d ar;obtain ⟨v,al,h⟩:=rH h;refine yA he ?_ h;simp only [Instr.loadAt,c,Instr.sureAddr,pure_bind,loadVar,Sem.run_bind,pw ar,Result.andThen_ok,a];simp [al]
 ·exact h.elim
theorem I' {v:Operand} (j:o.op=.store t x v) (h:zc P t (b9 env x) (b9 env v) (K undef) w):lT P env o K w:=by
 have he:execOp (b9 env) o=(do Instr.storeAt t (b9 env x) (b9 env v);pure .skip):=by unfold execOp;rw [j]
 unfold zc at h;split at h
 ·rename_i bx f;split at h
  ·exact h.elim
  ·rename_i inf b;split at h
   ·split at h
    ·rename_i hlen;obtain ⟨hw,h⟩:=h;have h:=h _ rfl;refine BH he ?_ h;have c:=kO hlen;simp only [Instr.storeAt,f,Instr.sureAddr,pure_bind,storeVar,Sem.run_bind,run_sizeOf b,Result.andThen_ok,c];simp [sM hw]
    ·exact h.elim
   ·split at h
    ·rename_i e c;obtain ⟨g,i,h⟩:=h;have h:=h _ rfl;refine BH he ?_ h;have c:=kO c;have a:(b9 env v).cells=#[b9 env v]:=by revert e;cases b9 env v<;>simp [single,Value.cells]
     have d:bx.add 0=bx:=by simp [Addr.add]
     have hw:ec w bx 0 [b9 env v]:=⟨by rw [d];exact g,by rw [d];exact i,e,trivial⟩;simp only [Instr.storeAt,f,Instr.sureAddr,pure_bind,storeVar,Sem.run_bind,run_sizeOf b,Result.andThen_ok,c,a];simp [sM hw,cr,d]
    ·exact h.elim
 ·exact h.elim
theorem Kj {K:a2->Prop} (a:o.op=.nilCheck x) (b:b9 env x=.pointer p) (h:fk p λbx=>K (.pointer (some bx))):mn P env o K:=by
 cases p with
 |none=>exact h.elim
 |some bx=>
  refine ⟨.pointer (some bx),λw=>?_,h⟩
  unfold execOp;rw [a];simp only [b];rfl
theorem Jq {c a b:Operand} {t:Bool} {K:a2->Prop} (e:o.op=.pick c a b) (d:b9 env c=.bool t) (h:bif t then K (b9 env a) else K (b9 env b)):mn P env o K:=by refine ⟨bif t then b9 env a else b9 env b,λw=>?_,by cases t<;>exact h⟩;unfold execOp;rw [e];simp only [d,asBool,pure_bind];cases t<;>rfl
theorem Jr {t e:TypeId} {x i:Operand} {K:a2->Prop} (g:o.op=.indexAddr t x i) (f:b9 env i=.int k n)
  (hu:P.underlying t=some (.slice e)) (j:b9 env x=.slice a len cap) (b:P.info? e=some inf) (h:bm a len n inf.size λbx=>K (.pointer (some bx))):mn P env o K:=by
 have he:execOp (b9 env) o=(do pure (.value (<- Instr.indexAt t (b9 env x) (b9 env i)))):=by unfold execOp;rw [g]
 obtain ⟨bx,rfl,c,d,h⟩:=h;refine x' he (λw=>?_) h;simp [Instr.indexAt,f,j,asIntOf,run_underlying hu,c,d,run_sizeOf b]
theorem Js {t e:TypeId} {x i:Operand} {bx:aS} {K:a2->Prop} (f:o.op=.indexAddr t x i) (d:b9 env i=.int k n)
  (hu:P.underlying t=some (.array len e)) (g:b9 env x=.pointer (some bx)) (a:P.info? e=some inf) (h:kZ bx len n inf.size λbx=>K (.pointer (some bx))):mn P env o K:=by
 have he:execOp (b9 env) o=(do pure (.value (<- Instr.indexAt t (b9 env x) (b9 env i)))):=by unfold execOp;rw [f]
 obtain ⟨b,c,h⟩:=h;refine x' he (λw=>?_) h;simp [Instr.indexAt,d,g,asIntOf,run_underlying hu,b,c,run_sizeOf a,Instr.sureAddr]
theorem sX {d:Int} {v:Option a2} (h:mc d v=some n):(v=none/\n=d)\/∃ k,v=some (.int k n):=by
 unfold mc at h;split at h
 ·exact .inl ⟨rfl,by simpa using h.symm⟩
 ·rename_i k m;exact .inr ⟨k,by simp at h;rw [h]⟩
 ·cases h
theorem ov {y:Nat} {c:BoundsCode} (a:0<=n) (b:n<=y) (w:ak):(Instr.sliceBound (.int k n) y c).run P w=.ok n.toNat w:=by simp [Instr.sliceBound,asIntOf,a,b]
theorem VB {i b d:Option a2} {l:Int} (c:mc 0 i=some l) (f:mc len b=some h) (hm:mc cap d=some m) (a:¬ (b=none/\d≠none))
  (kU:0<=l) (b1:l<=h) (aA:h<=m) (e:m<=cap) (w:ak):(Instr.sliceBounds true len cap i b d).run P w=.ok (l.toNat,h.toNat,m.toNat) w:=by
 unfold Instr.sliceBounds;rcases sX hm with ⟨rfl,rfl⟩ | ⟨k,rfl⟩
 ·rcases sX f with ⟨rfl,rfl⟩ | ⟨j,rfl⟩
  ·rcases sX c with ⟨rfl,rfl⟩ | ⟨g,rfl⟩
   ·simp
   ·simp [ov (y:=len) kU b1]
  ·rcases sX c with ⟨rfl,rfl⟩ | ⟨g,rfl⟩
   ·simp [ov (y:=cap) b1 aA]
   ·simp [ov (y:=cap) (Int.le_trans kU b1) aA,ov (y:=h.toNat) kU (by omega:l<=((h.toNat:Nat):Int))]
 ·rcases sX f with ⟨rfl,rfl⟩ | ⟨j,rfl⟩
  ·exact absurd ⟨rfl,by simp⟩ a
  ·rcases sX c with ⟨rfl,rfl⟩ | ⟨g,rfl⟩
   ·simp [ov (y:=cap) (by omega:(0:Int)<=m) e,ov (y:=m.toNat) b1 (by omega:h<=((m.toNat:Nat):Int))]
   ·simp [ov (y:=cap) (by omega:(0:Int)<=m) e,ov (y:=m.toNat) (Int.le_trans kU b1) (by omega:h<=((m.toNat:Nat):Int)),
     ov (y:=h.toNat) kU (by omega:l<=((h.toNat:Nat):Int))]
theorem Ja {t e:TypeId} {i c d:Option Operand} {K:a2->Prop} {l:Int} (u:o.op=.slice t x i c d)
  (hu:P.underlying t=some (.slice e)) (y:b9 env x=.slice a len cap) (b:P.info? e=some inf)
  (s:mc 0 (i.map (b9 env))=some l) (r:mc len (c.map (b9 env))=some h) (hm:mc cap (d.map (b9 env))=some m) (f:¬ (c=none/\d≠none))
  (g:hP a len cap l h m inf.size λk l' c'=>K (.slice k l' c')):mn P env o K:=by
 have he:execOp (b9 env) o=(do pure (.value (<- Instr.sliceAt t (b9 env x) (i.map (b9 env)) (c.map (b9 env)) (d.map (b9 env))))):=by unfold execOp;rw [u]
 obtain ⟨kU,b1,aA,n,_,g⟩:=g;refine x' he (λw=>?_) g;have q:=VB (P:=P) s r hm (by intro j;exact f ⟨by simpa using j.1,by simpa using j.2⟩) kU b1 aA n w;have p:(m=l)↔(m.toNat=l.toNat):=by omega
 simp only [Instr.sliceAt,Sem.run_bind,run_underlying hu,Result.andThen_ok,Instr.slice,y,q,run_sizeOf b,p];rfl
theorem MG (n:Nat) (zs:Array a2) (au:0<zs.size):(Array.range (n * zs.size)).map (zs[· % zs.size]!)=(jt n zs.toList).toArray:=by
 apply Array.ext
 ·simp [jt]
 ·intro i e k;simp only [Array.size_map,Array.size_range] at e;simp only [Array.getElem_map,Array.getElem_range,List.getElem_toArray];have key:∀ (m i:Nat) (zs:ax) (a:zs≠[]),i<m * zs.length->((List.replicate m zs).flatten)[i]?=zs[i % zs.length]?:=by
   intro m;induction m with
   |zero=>intro i zs _ h;simp at h
   |succ m p=>
    intro i zs a h;have q:0<zs.length:=vj.2 a;simp only [rj,gV];by_cases g:i<zs.length
    ·rw [hU g,ta g]
    ·rw [hV (by omega),p (i - zs.length) zs a (by rw [hT] at h;omega)];congr 1;rw [Nat.mod_eq_sub_mod (by omega:i>=zs.length)]
  have d:zs.toList≠[]:=by
   intro l;have j:zs.toList.length=0:=by rw [l];rfl
   rw [Array.length_toList] at j;omega
  have o:=key n i zs.toList d (by simpa using e);have b:i % zs.size<zs.size:=Nat.mod_lt _ au;unfold jt;have f:((List.replicate n zs.toList).flatten)[i]?=some zs[i % zs.size]:=by rw [o];simp [b]
  rw [getElem!_pos zs _ b];have c:i<((List.replicate n zs.toList).flatten).length:=by simpa [jt] using k
  rw [bD c] at f;exact (nX f).symm
theorem Jt {t e:TypeId} {l c:Operand} {q p:IntKind} {len cap:Int} {z:a2} (n:o.op=.makeSlice t l c)
  (hu:P.underlying t=some (.slice e)) (i:b9 env l=.int q len) (g:b9 env c=.int p cap) (a:P.info? e=some inf) (au:inf.zero=some z) (d:z.cells.size=inf.size) (s:0<inf.size)
  (h:qR len cap inf.bytes (.cells (jt cap.toNat z.cells.toList).toArray e) w λb w1=>K (.slice (some ⟨b,0,none⟩) len.toNat cap.toNat) w1):lT P env o K w:=by
 have he:execOp (b9 env) o=(do pure (.value (<- Instr.makeSlice t (b9 env l) (b9 env c)))):=by unfold execOp;rw [n]
 obtain ⟨kU,b1,aA,r,h⟩:=h;have h:=h _ _ rfl rfl;refine yA he ?_ h;have wl:IntKind.i64.wrap len=len:=by simp only [IntKind.wrap,IntKind.bits,IntKind.signed];simp;omega
 have eN:IntKind.i64.wrap cap=cap:=by simp only [IntKind.wrap,IntKind.bits,IntKind.signed];simp;omega
 have t1:¬ cap<0:=by omega
 have t2:¬ ((281474976710656:Int)<(inf.bytes:Int) * cap):=by rw [Int.mul_comm];omega
 have t3:¬ len<0:=by omega
 have t4:¬ cap<len:=by omega
 have room:(askRoom (cap.toNat * inf.bytes)).run P w=.ok () w:=by
  have:¬ (cap.toNat * inf.bytes>roomBytes):=by
   have:((cap.toNat * inf.bytes:Nat):Int)=cap * inf.bytes:=by rw [Int.natCast_mul,Int.toNat_of_nonneg (by omega)]
   unfold roomBytes;omega
  simp [askRoom,this]
 have k:=MG cap.toNat z.cells (by omega);rw [d] at k;by_cases j:cap.toNat * inf.size=0
 ·have f:cap.toNat=0:=by
   rcases Nat.mul_eq_zero.1 j with h | h
   ·exact h
   ·omega
  simp [Instr.makeSlice,run_underlying hu,i,g,asInt,asIntOf,AE a,wl,eN,t1,t2,t3,t4,run_sizeOf a,f,jt,newRow,newObj,Sem.run];rw [show Array.map (λ_=>(default:a2)) (Array.range 0)=#[] from Array.eq_empty_of_size_eq_zero (by simp)]
 ·simp [Instr.makeSlice,run_underlying hu,i,g,asInt,asIntOf,AE a,wl,eN,t1,t2,t3,t4,run_sizeOf a,j,zeroValue,au,d,newRow,newObj,Sem.run,<-k]
theorem GR {t e:TypeId} (hu:P.underlying t=some (.pointer e)) (w:ak):(Op.equal t (.pointer p) (.pointer none)).run P w=.ok p.isNone w:=by
 have h:∀ d:Nat,(Op.equalIn (d+1) t (.pointer p) (.pointer none)).run P w=.ok p.isNone w:=λd=>by cases p<;>simp [Op.equalIn,run_underlying hu]
 exact h 9999
theorem ul {t e:TypeId} {c:Nat} (hu:P.underlying t=some (.slice e)) (w:ak):(Op.equal t (.slice p l c) (.slice none l' c')).run P w=.ok p.isNone w:=by
 have h:∀ d:Nat,(Op.equalIn (d+1) t (.slice p l c) (.slice none l' c')).run P w=.ok p.isNone w:=λd=>by cases p<;>simp [Op.equalIn,run_underlying hu]
 exact h 9999
theorem ny {u:TypeId} {K:a2->Prop} (b:o.op=.binOp op t x y u) (a:∀ w,(eqGuard op t x y (b9 env x) (b9 env y)).run P w=.ok () w)
  (c:∀ w,(binOp op t (b9 env x) (b9 env y)).run P w=.ok v w) (h:K v):mn P env o K:=by
 have he:execOp (b9 env) o=(do pure (.value (<- (do eqGuard op t x y (b9 env x) (b9 env y);binOp op t (b9 env x) (b9 env y))))):=by unfold execOp;rw [b]
 refine x' he (λw=>?_) h;rw [Sem.run_bind,a];exact c w
theorem Jb {g:FuncId} (l:o.op=.call c) (i:c.callee=.value f) (j:b9 env f=.func (.func g) first captured) (a:ij P g=true)
  (h:Calls P g (first++c.args.map (b9 env)++captured) w λe w'=>sg P (v3 P o.type) λv=>e=.returned v/\K v w'):lT P env o K w:=by
 refine .inr ⟨g,first++c.args.map (b9 env)++captured,?_,h.mono λe w' h=>D_ h⟩;unfold ij at a;cases b:P.funcs[g]? with
 |none=>simp [b] at a
 |some fn=>
  simp only [b,e1,rq] at a;have d:fn.body≠none:=by intro d;simp [d] at a
  have k:fn.name≠ "runtime.NumGoroutine" :=by simpa using a.2
  unfold execOp;rw [l];simp only [resolve,i,j,Deferred.ofValue,pure_bind,invoke,callFunc];simp [program,Sem.run,b,k,d]
theorem AF {b:Builtin} {k:m6} (e:o.op=.call c) (d:c.callee=.builtin b)
  (a:∀ cs,builtin b c.argTypes o.type cs (c.args.map (b9 env))=(do pure (.value (<- s))))
  (h:xO P s k K w):lT P env o K w:=by
 obtain ⟨v,w',f,h⟩:=rH h;refine .inl ⟨.value v,w',?_,h⟩;unfold execOp;rw [e];simp only [resolve,d,pure_bind,invoke,a];rw [Sem.run_bind,f];rfl
theorem x3 {c:IntKind} {a b:Int}:(eqGuard op t x y (.int k a) (.int c b)).run P w=.ok () w:=by cases op<;>rfl
theorem BI:(eqGuard op t x y (.pointer a) (.pointer b)).run P w=.ok () w:=by cases op<;>rfl
theorem C8 {c:Nat}:(eqGuard op t x y (.slice a l c) (.slice b l' c')).run P w=.ok () w:=by cases op<;>rfl
theorem BJ {K:a2->Prop} (h:v5 P env o K):mn P env o K:=by
 unfold v5 at h;split at h
 ·rename_i c;split at h
  ·rename_i n;exact Jq c n h
  ·exact h.elim
 ·rename_i c;split at h
  ·rename_i a;exact Kj c a h
  ·exact h.elim
 ·rename_i c;split at h
  ·rename_i j;split at h
   ·rename_i hu;split at h
    ·rename_i a d;exact Jr c j hu a d h
    ·exact h.elim
   ·rename_i hu;split at h
    ·rename_i a d;exact Js c j hu a d h
    ·exact h.elim
   ·exact h.elim
  ·exact h.elim
 ·rename_i c;split at h
  ·rename_i hu;split at h
   ·rename_i a d;split at h
    ·rename_i q p hm g;refine Ja c hu a d q p hm ?_ h;rintro ⟨k,l⟩;rw [k] at g;simp at g;exact l g
    ·exact h.elim
   ·exact h.elim
  ·exact q1 h
 ·rename_i c;split at h
  ·rename_i a b;split at h
   ·rename_i hu;exact ny c (λw=>by rw [a,b];exact BI) (λw=>by rw [a,b];simp [binOp,GR hu]) h
   ·exact h.elim
  ·rename_i a b;split at h
   ·rename_i hu;exact ny c (λw=>by rw [a,b];exact BI) (λw=>by rw [a,b];simp [binOp,GR hu]) h
   ·exact h.elim
  ·rename_i a b;split at h
   ·rename_i hu;exact ny c (λw=>by rw [a,b];exact C8) (λw=>by rw [a,b];simp [binOp,ul hu]) h
   ·exact h.elim
  ·rename_i a b;split at h
   ·rename_i hu;exact ny c (λw=>by rw [a,b];exact C8) (λw=>by rw [a,b];simp [binOp,ul hu]) h
   ·exact h.elim
  ·rename_i a b;split at h
   ·exact q1 h
   ·obtain ⟨rfl,e,h⟩:=h;exact ny c (λw=>by rw [a,b];exact x3) (λw=>by rw [a,b];simp [binOp,Op.intDiv,e]) h
  ·rename_i a b;split at h
   ·exact q1 h
   ·obtain ⟨rfl,e,h⟩:=h;exact ny c (λw=>by rw [a,b];exact x3) (λw=>by rw [a,b];simp [binOp,Op.intDiv,e]) h
  ·rename_i a b;split at h
   ·exact q1 h
   ·obtain ⟨e,h⟩:=h;have f:¬ _<(0:Int):=Int.not_lt.2 e;exact ny c (λw=>by rw [a,b];exact x3) (λw=>by rw [a,b];simp only [binOp,Op.shift,f,if_false];rfl) h
  ·rename_i a b;split at h
   ·exact q1 h
   ·obtain ⟨e,h⟩:=h;have f:¬ _<(0:Int):=Int.not_lt.2 e;exact ny c (λw=>by rw [a,b];exact x3) (λw=>by rw [a,b];simp only [binOp,Op.shift,f,if_false];rfl) h
  ·rename_i a b;obtain ⟨r,i,h⟩:=h;exact ny c (λw=>by rw [a,b];exact (i w).1 _ _ _) (λw=>by rw [a,b];exact (i w).2.1) h
  ·rename_i a b;obtain ⟨r,i,h⟩:=h;exact ny c (λw=>by rw [a,b];exact (i w).1 _ _ _) (λw=>by rw [a,b];exact (i w).2.2) h
  ·exact q1 h
 ·exact q1 h
theorem sZ (h:qZ P env o K w):lT P env o K w:=by
 unfold qZ at h;split at h
 ·exact (BJ h).bc
 split at h
 ·rename_i a;exact Jp a h
 ·rename_i a;exact I' a h
 ·rename_i a;split at h
  ·rename_i hu i b;split at h
   ·rename_i d;split at h
    ·rename_i f;split at h
     ·exact h.elim
     ·rename_i c;simp only [e1] at c;exact Jt a hu i b d f (kO c.1) (Nat.le_of_ble_eq_true c.2) h
    ·exact h.elim
   ·exact h.elim
  ·exact h.elim
 ·rename_i a;split at h
  ·rename_i b;exact AF a b (λ_=>rfl) h
  ·rename_i b;exact AF a b (λ_=>rfl) h
  ·rename_i b;exact AF a b (λ_=>rfl) h
  ·rename_i b;unfold mT at h;split at h
   ·rename_i g;split at h
    ·rename_i e;exact Jb a b g e h
    ·exact h.elim
   ·exact h.elim
  ·exact C7 h
 ·exact C7 h
theorem MH {Q:Exit->Act->aE} (h:lT P env o K w) (a:∀ v w',K v w'->next (act (put env o.dst v)) w'):o.wp P (act env) w next Q:=by
 unfold Oper.wp;rw [sW];rcases h with ⟨n,w',b,h⟩ | ⟨f,args,b,h⟩
 ·rw [b];cases n with
  |value v=>simp only [Oper.upon,k2];exact a _ _ h
  |skip=>simp only [Oper.upon,k2];exact a _ _ h
  | _=>exact h.elim
 ·rw [b];simp only [Oper.upon];refine h.mono λe w' ⟨v,he,h⟩=>?_
  subst he;simp only [k2];exact a _ _ h
theorem uV {Q:Exit->Act->aE} (h:lT P env o K w) (a:∀ v w',K v w'->next (act (put env o.dst v)) w'):o.wpIn Fence.wide 0 P (act env) w next Q:=by
 refine ⟨λ_ _=>trivial,?_⟩;show o.uponIn Fence.wide 0 P (act env) next Q ((execOp (act env).eval o).run P w)
 rw [sW];rcases h with ⟨n,w',b,h⟩ | ⟨f,args,b,h⟩
 ·rw [b];cases n with
  |value v=>simp only [Oper.uponIn,k2];exact a _ _ h
  |skip=>simp only [Oper.uponIn,k2];exact a _ _ h
  | _=>exact h.elim
 ·rw [b];simp only [Oper.uponIn];refine ⟨λc=>by simp [Fence.wide] at c,callsIn_wide.2 (h.mono λe w' ⟨v,he,h⟩=>?_)⟩;subst he;simp only [k2];exact a _ _ h
theorem Jc {Q:Exit->Act->aE} (k:o.op=.call c) (b:c.callee=.value f) (i:b9 env f=.func (.yield l) first captured)
  (h:YieldAt Fence.wide 0 P l (first++c.args.map (b9 env)) w λe w'=>sg P (v3 P o.type) λv=>e=.returned v/\K v w') (j:∀ v w',K v w'->next (act (put env o.dst v)) w'):o.wpIn Fence.wide 0 P (act env) w next Q:=by
 refine ⟨λ_ _=>trivial,?_⟩;show o.uponIn Fence.wide 0 P (act env) next Q ((execOp (act env).eval o).run P w)
 rw [sW];obtain ⟨fn,tmps,assign,body,a,g⟩:=h;have n:(execOp (b9 env) o).run P w=.ok (.round l fn tmps assign body) w:=by unfold execOp;rw [k];simp only [resolve,b,i,Deferred.ofValue,pure_bind,invoke];exact a
 rw [n];simp only [Oper.uponIn];refine ⟨λb=>by simp [Fence.wide] at b,g.mono λe w' h=>?_⟩;obtain ⟨v,he,d⟩:=D_ h;subst he;simp only [k2];exact j _ _ d
theorem Kk {Q:Exit->Act->aE} (h:An P env o K w) (a:∀ v w',K v w'->next (act (put env o.dst v)) w'):o.wpIn Fence.wide 0 P (act env) w next Q:=by
 unfold An at h;split at h
 ·rename_i c d;split at h
  ·rename_i f b;unfold iX at h;split at h
   ·rename_i l first captured e
    exact Jc d b e h a
   ·refine uV (sZ ?_) a;cases o with
    |mk dst op type pos after guard=>
     cases c with
     |mk callee args argTypes=>simp only at d b;subst d;subst b;exact h
  ·exact uV (sZ h) a
 ·exact uV (sZ h) a
end
def rV (ops:List Oper) (j:Nat):Option Tmp:=match ops[j]? with | some o=>o.dst | none=>none
def jL (P:Program) (all:List Oper):List Oper->ax->(ax->aE)->aE
 | [],env,K,w=>K env w
 |o::rest,env,K,w=>
  match o.guard with
  |none=>An P env o (λv w'=>jL P all rest (put env o.dst v) K w') w
  |some (j,want)=>match rV all j with
   |none=>False
   |some d=>match env[d]? with
    |some (.bool b)=>
     bif b then (match want with
      |true=>qZ P (env.set d (.bool true)) o (λv w'=>jL P all rest (put (env.set d (.bool true)) o.dst v) K w') w
      |false=>jL P all rest (put (env.set d (.bool true)) o.dst undef) K w)
     else (match want with
      |true=>jL P all rest (put (env.set d (.bool false)) o.dst undef) K w
      |false=>qZ P (env.set d (.bool false)) o (λv w'=>jL P all rest (put (env.set d (.bool false)) o.dst v) K w') w)
    |some _=>jL P all rest (put env o.dst undef) K w
    |none=>False
theorem Hq {ops:Array Oper} {o:Oper} (a:o.guard=none):Region.wanted o (yielded ops (act env).tmps)=true:=by simp [Region.wanted,a]
theorem Hr {j:Nat} {d:Tmp} (h:rV all j=some d):yielded all.toArray (act env).tmps j=match env[d]? with | some (.bool b)=>some b | _=>none:=by
 unfold yielded rV at *;cases a:all[j]? with
 |none=>simp [a] at h
 |some o=>
  simp only [a] at h;simp only [vg,a,Option.bind_some,h,act];rcases env[d]? with _ | v
  ·rfl
  ·cases v<;>rfl
theorem oE {P:Program} {all:List Oper} {Q:Exit->Act->aE}:∀ (l:List Oper) (env:ax) (w:ak) (K:ax->aE),
  (∀ env w,K env w->Q .normal (act env) w)->jL P all l env K w->wpListIn Fence.wide 0 P all.toArray Q l (act env) w
 | [],env,w,K,e,h=>e _ _ h
 |o::rest,env,w,K,e,h=>by
  unfold jL at h;unfold wpListIn;cases c:o.guard with
  |none=>simp only [c] at h;rw [if_pos (Hq c)];exact Kk h λv w' h=>oE rest _ _ K e h
  |some p=>
   obtain ⟨j,want⟩:=p;simp only [c] at h;cases ar:rV all j with
   |none=>simp only [ar] at h
   |some d=>
    simp only [ar] at h;have f:=Hr (env:=env) ar;cases he:env[d]? with
    |none=>simp only [he] at h
    |some v=>
     have a:env.set d v=env:=by
      apply kj;intro i;rw [iu];split
      ·rename_i g;subst g;have:d<env.length:=by
        rcases oT d env.length with h | h
        ·exact h
        ·rw [lv h] at he;cases he
       rw [if_pos this,he]
      ·rfl
     cases v with
     |bool b=>
      simp only [he] at h;cases b with
      |true=>
       rw [cond_true,a] at h;cases want with
       |true=>simp only at h;rw [if_pos (by simp [Region.wanted,c,f,he])];exact uV (sZ h) λv w' h=>oE rest _ _ K e h
       |false=>simp only at h;rw [if_neg (by simp [Region.wanted,c,f,he]),k2];exact ⟨λ_ _=>trivial,oE rest _ _ K e h⟩
      |false=>
       rw [cond_false,a] at h;cases want with
       |true=>simp only at h;rw [if_neg (by simp [Region.wanted,c,f,he]),k2];exact ⟨λ_ _=>trivial,oE rest _ _ K e h⟩
       |false=>simp only at h;rw [if_pos (by simp [Region.wanted,c,f,he])];exact uV (sZ h) λv w' h=>oE rest _ _ K e h
     | _=>simp only [he] at h;rw [if_neg (by simp [Region.wanted,c,f,he]),k2];exact ⟨λ_ _=>trivial,oE rest _ _ K e h⟩
section
variable {P:Program} {ops:Array Oper} {Q:Exit->Act->aE} {S:aE} {nd:Nat->Bool}
def rI (P:Program) (ops:Array Oper) (Q:Exit->Act->aE) (S:aE) (nd:Nat->Bool):Nat->Array Bool->Act->aE
 | 0,c1,a,w=>Region.ready .any ops c1=[]/\Q .normal a w
 |fuel+1,c1,a,w=>
  (Region.ready .any ops c1=[]->Q .normal a w)/\
  ∀ i ∈ Region.ready .any ops c1,wpOp P ops Q i (λb w'=>(nd i=true->S w->S w')/\rI P ops Q S nd fuel (c1.setIfInBounds i true) b w') a w
theorem uG:∀ (fuel:Nat) (c1:Array Bool) (a:Act) (w:ak),rI P ops Q S nd fuel c1 a w->wpAny P .any ops Q fuel c1 a w
 | 0,_,_,_,h=>h
 |fuel+1,_,_,_,h=>⟨h.1,λi d=>wpOp_mono (λb w' c=>uG fuel _ b w' c.2) (h.2 i d)⟩
def k6 (ops:Array Oper) (c1:Array Bool):Prop:=∀ j a,ops[j]?=some a->c1.getD j false=true->∀ e ∈ a.after,Region.binds .any e=true->c1.getD e.on false=true
theorem k6.set {c1:Array Bool} {i:Nat} (h:k6 ops c1) (g:i ∈ Region.ready .any ops c1):k6 ops (c1.setIfInBounds i true):=by
 intro j l c f e he d;by_cases b:j=i
 ·subst b;obtain ⟨_,o,k,a⟩:=mem_ready.1 g;rw [k] at c;cases c;exact getD_set_true (a e he d)
 ·rw [getD_set_ne false (Ne.symm b)] at f;exact getD_set_true (h j l c f e he d)
theorem Hj {i:Nat} {L:Bool} (I:ops[i]?=some kz) (p:∀ (j:Nat) (o:Oper) cs b,ops[j]?=some o->o.op≠.select cs b)
  (dH:∀ c a w,Q (.panic c) (a.put kz.dst v) w->Q (.panic c) a w) :
  ∀ (fuel:Nat) (c1:Array Bool) (a:Act) (w:ak),k6 ops c1->
   (∀ (l2:Array Bool) j t,k6 ops l2->(∀ k,c1.getD k false=true->l2.getD k false=true)->l2.getD i true=false->j ∈ Region.ready .any ops l2->ops[j]?=some t->j≠i->c1.getD j true=false->(∀ e ∈ t.after,Region.binds .any e=true->e.on≠i)->kz.apart ops t=true/\(L=true->nd j=true))->
   i ∈ Region.ready .any ops c1->YieldsIf P ops (λw=>L=true->S w) kz v a->(L=true->S w)->
   rI P ops Q S nd fuel (c1.setIfInBounds i true) (a.put kz.dst v) w->rI P ops Q S nd (fuel+1) c1 a w:=by
 intro fuel;induction fuel with
 |zero=>
  intro c1 a w _ _ n F E H;refine ⟨λh=>(by rw [h] at n;cases n),λj x=>?_⟩;by_cases d:j=i
  ·subst d;exact F.wpOp I E ⟨λ_ h=>h,H⟩
  ·have:=ready_mono x d;rw [H.1] at this;cases this
 |succ fuel Z=>
  intro c1 a w z f n F E H;refine ⟨λh=>(by rw [h] at n;cases n),λj x=>?_⟩;by_cases d:j=i
  ·subst d;exact F.wpOp I E ⟨λ_ h=>h,H⟩
  ·have r:=H.2 j (ready_mono x d);obtain ⟨l,t,s,y⟩:=mem_ready.1 x;have C:∀ e ∈ t.after,Region.binds .any e=true->e.on≠i:=λe he W heq=>by
    have r:=y e he W;have M:=(mem_ready.1 n).1;rw [heq] at r;rcases oT i c1.size with G | G
    ·simp [G] at M r;rw [M] at r;cases r
    ·simp [yl G] at r
   have A:=f c1 j t z (λ_ h=>h) (mem_ready.1 n).1 x s d l C;have R:=wpOp_putIf s A.1 (λcs b=>p i kz cs b I) (λcs b=>p j t cs b s) dH F r;have g:∀ (l2:Array Bool) k ok,k6 ops l2->(∀ q,(c1.setIfInBounds j true).getD q false=true->l2.getD q false=true)->l2.getD i true=false->k ∈ Region.ready .any ops l2->ops[k]?=some ok->k≠i->(c1.setIfInBounds j true).getD k true=false->
     (∀ e ∈ ok.after,Region.binds .any e=true->e.on≠i)->kz.apart ops ok=true/\(L=true->nd k=true):=λl2 k ok u T U V X J D K=>by
    refine f l2 k ok u (λq Y=>T q (getD_set_true Y)) U V X J ?_ K;by_cases B:j=k
    ·subst B;exact l
    ·rw [getD_set_ne true B] at D;exact D
   refine wpOp_mono (λO w' u=>⟨u.2.1,Z (c1.setIfInBounds j true) O w' (z.set x) g (ready_mono n (Ne.symm d)) u.1 (λN=>u.2.1 (A.2 N) (E N)) ?_⟩) R;rw [Array.setIfInBounds_comm _ _ d];exact u.2.2
end
def ky:Op->Bool
 | .load ..=>true
 | _=>false
def zw (ops:List Oper) (j i:Nat):Bool:=match ops[j]? with
 |some o=>o.after.any λe=>Region.binds .any e && e.on == i
 |none=>false
def qV (ops:List Oper) (j:Nat):Bool:=(List.range ops.length).any λi=>i != j && (match ops[i]? with | some o=>ky o.op | none=>false) && !zw ops j i
def rJ (m:cP) (o:Oper):cP:=m++[o.after.toList.foldl (λx e=>match Region.binds .any e with | true=>x ||| (1 <<< e.on) ||| m.getD e.on 0 | false=>x) 0]
def NE (ops:List Oper):cP:=ops.foldl rJ []
def rK (ops:List Oper) (j i:Nat):Bool:=((NE ops).getD j 0).testBit i
def Am (ops:List Oper) (j:Nat):Bool:=(List.range ops.length).any λi=>i != j && (match ops[i]? with | some o=>ky o.op | none=>false) && !rK ops j i && !rK ops i j
def Nz:Op->Bool
 | .call ..=>true
 | _=>false
def Pi:Op->Bool
 | .indexAddr ..=>true
 | _=>false
def y0 (ops:List Oper):Bool:=ops.any λo=>ky o.op && o.after.any λe=>match ops[e.on]? with
 |some p=>Pi p.op && p.after.any λa=>match ops[a.on]? with
  |some q=>Nz q.op
  |none=>false
 |none=>false
def vZ (ops:List Oper):Bool->Nat->Bool
 |true=>Am ops
 |false=>qV ops
def rW (nd:Nat->Bool) (ops:List Oper) (c1:Array Bool) (i:Nat):Bool:=
 nd i || (List.range ops.length).any λk=>!c1.getD k true && k != i && (match ops[k]? with | some o=>!vU o.op | none=>false) && nd k
def MI (ops:List Oper):Bool:=ops.any λo=>ky o.op
def EF (P:Program) (S:aE) (t:TypeId) (x:a2) (K:a2->Prop):Prop:=
 match x with
 | .pointer (some bx)=>
  match P.info? t with
  |none=>False
  |some inf=>
   match gJ P t with
   |true=>match Nat.beq (qP P 8 t).length inf.size with
    |true=>qJ (qP P 8 t) λvs=>(∀ w,S w->b6 w bx 0 vs)/\K (.agg vs.toArray)
    |false=>False
   |false=>match P.underlying t with
    |none=>False
    |some d=>po (xt (some d)) λv=>(∀ w,S w->w.cell? bx=some v)/\K v
 | _=>False
def zd (P:Program) (S:aE) (env:ax) (o:Oper) (K:a2->Prop):Prop:=
 match o.op with
 | .load t x=>EF P S t (b9 env x) K
 | _=>v5 P env o K
def vV (all:List Oper) (env:ax) (g:Option (Nat×Bool)) (run skip:ax->Prop):Prop:=
 match g with
 |none=>run env
 |some (j,want)=>match rV all j with
  |none=>False
  |some d=>match env[d]? with
   |some (.bool b)=>
    bif b then (match want with | true=>run (env.set d (.bool true)) | false=>skip (env.set d (.bool true)))
    else (match want with | true=>skip (env.set d (.bool false)) | false=>run (env.set d (.bool false)))
   |some _=>skip env
   |none=>False
def zW:List Prop->Prop
 | []=>True
 | [p]=>p
 |p::ch=>p/\zW ch
theorem CL:∀ {ch:List Prop} {p:Prop},zW ch->p ∈ ch->p
 | [q],p,h,hm=>by simp only [n1] at hm;subst hm;exact h
 |q::r::rs,p,h,hm=>by
  rcases e6.1 hm with rfl | hm
  ·exact h.1
  ·exact CL h.2 hm
def R9:Bool->Bool->Prop->Prop->Prop
 |true,true,s,p=>s/\p
 |true,false,_,p=>p
 |false,false,_,p=>p
 |false,true,_,_=>False
def zS:Bool->Prop->Prop
 |true,_=>False
 |false,p=>p
def oO (P:Program) (ops:List Oper) (nd:Nat->Bool) (S:aE) (K:ax->aE):Nat->Array Bool->Bool->ax->aE
 | 0,c1,_,env,w=>zS (!(Region.ready .any ops.toArray c1).isEmpty) (K env w)
 |fuel+1,c1,a,env,w=>
  match (Region.ready .any ops.toArray c1).find? (λi=>match ops[i]? with | some o=>(vU o.op || (ky o.op && a)) && Region.free .any ops.toArray c1 i | none=>false) with
  |some i=>match ops[i]? with
   |none=>False
   |some o=>vV ops env o.guard (λenv=>zd P S env o λv=>oO P ops nd S K fuel (c1.setIfInBounds i true) a (put env o.dst v) w)
     (λenv=>oO P ops nd S K fuel (c1.setIfInBounds i true) a (put env o.dst undef) w)
  |none=>match (Region.ready .any ops.toArray c1) with
   | []=>K env w
   |rs=>zW (rs.map λi=>match ops[i]? with
    |none=>False
    |some o=>vV ops env o.guard (λenv=>qZ P env o (λv w'=>R9 a (rW nd ops c1 i) (S w') (oO P ops nd S K fuel (c1.setIfInBounds i true) (a && rW nd ops c1 i) (put env o.dst v) w')) w)
     (λenv=>oO P ops nd S K fuel (c1.setIfInBounds i true) a (put env o.dst undef) w))
theorem Jd {S:aE} {o:Oper} (h:zd P S env o K):∃ v,(∀ w,(ky o.op=true->S w)->(execOp (b9 env) o).run P w=.ok (.value v) w)/\K v:=by
 unfold zd at h;split at h
 ·rename_i t x g;have he:execOp (b9 env) o=(do pure (.value (<- Instr.loadAt t (b9 env x)))):=by unfold execOp;rw [g]
  have f:ky o.op=true:=by rw [g];rfl
  unfold EF at h;split at h
  ·rename_i bx i;split at h
   ·exact h.elim
   ·rename_i inf b;split at h
    ·rename_i a;split at h
     ·rename_i hlen;obtain ⟨vs,e,j,h⟩:=tt h;obtain ⟨d,ar⟩:=Ah a;refine ⟨_,λw c=>?_,h⟩;have k:vs.length=inf.size:=by rw [e];exact kO hlen
      rw [he,Sem.run_bind];simp only [Instr.loadAt,i,Instr.sureAddr,pure_bind,loadVar,Sem.run_bind,pw ar,Result.andThen_ok,a,if_true,run_sizeOf b];have:=run_loadCellsFrom (P:=P) (acc:=#[]) (j w (c f));rw [k] at this;simp [loadCells,this]
     ·exact h.elim
    ·rename_i a;split at h
     ·exact h.elim
     ·rename_i d ar;obtain ⟨v,al,h⟩:=rH h;refine ⟨_,λw c=>?_,h⟩;rw [he,Sem.run_bind];simp only [Instr.loadAt,i,Instr.sureAddr,pure_bind,loadVar,Sem.run_bind,pw ar,Result.andThen_ok,a];simp [al w (c f)]
  ·exact h.elim
 ·obtain ⟨v,l,h⟩:=BJ h;exact ⟨v,λw _=>l w,h⟩
theorem Hs {o:Oper} {run skip:ax->Prop} (h:vV all env o.guard run skip) :
  (Region.wanted o (yielded all.toArray (act env).tmps)=true/\run env)\/(Region.wanted o (yielded all.toArray (act env).tmps)=false/\skip env):=by
 unfold vV at h;cases c:o.guard with
 |none=>simp only [c] at h;exact .inl ⟨Hq c,h⟩
 |some p=>
  obtain ⟨j,want⟩:=p;simp only [c] at h;cases ar:rV all j with
  |none=>simp only [ar] at h
  |some d=>
   simp only [ar] at h;have e:=Hr (env:=env) ar;cases he:env[d]? with
   |none=>simp only [he] at h
   |some v=>
    have a:env.set d v=env:=by
     apply kj;intro i;rw [iu];split
     ·rename_i f;subst f;have:d<env.length:=by
       rcases oT d env.length with h | h
       ·exact h
       ·rw [lv h] at he;cases he
      rw [if_pos this,he]
     ·rfl
    cases v with
    |bool b=>
     simp only [he] at h;cases b with
     |true=>
      rw [cond_true,a] at h;cases want with
      |true=>exact .inl ⟨by simp [Region.wanted,c,e,he],h⟩
      |false=>exact .inr ⟨by simp [Region.wanted,c,e,he],h⟩
     |false=>
      rw [cond_false,a] at h;cases want with
      |true=>exact .inr ⟨by simp [Region.wanted,c,e,he],h⟩
      |false=>exact .inl ⟨by simp [Region.wanted,c,e,he],h⟩
    | _=>simp only [he] at h;exact .inr ⟨by simp [Region.wanted,c,e,he],h⟩
theorem Pv {i j:Nat} {g:Oper} (b:ops[i]?=some kz) (k:ops[j]?=some g) (l:ky kz.op=true) (d:j≠i) (f:∀ e ∈ g.after,Region.binds .any e=true->e.on≠i):qV ops j=true:=by
 unfold qV;rw [p6];have c:i<ops.length:=by
  rcases oT i ops.length with h | h
  ·exact h
  ·rw [lv h] at b;cases b
 refine ⟨i,fJ.2 c,?_⟩;have hw:zw ops j i=false:=by unfold zw;simp only [k];rw [Array.any_eq_false'];intro e he a;simp only [e1,beq_iff_eq] at a;exact f e he a.1 a.2
 simp [b,l,hw,Ne.symm d]
def wo (ops:List Oper) (nd:Nat->Bool):Prop:=∀ (c1 l2:Array Bool) (i j:Nat) (kz a:Oper),ops[i]?=some kz->ops[j]?=some a->ky kz.op=true->k6 ops.toArray c1->k6 ops.toArray l2->
 (∀ k,c1.getD k false=true->l2.getD k false=true)->i ∈ Region.ready .any ops.toArray c1->l2.getD i true=false->j ∈ Region.ready .any ops.toArray l2->j≠i->(∀ e ∈ a.after,Region.binds .any e=true->e.on≠i)->nd j=true
theorem y1 (ops:List Oper):wo ops (qV ops):=λ_ _ i j kz f c d e _ _ _ _ _ _ a b=>Pv c d e a b
inductive lF (ops:List Oper):Nat->a3
 |one {j o e}:ops[j]?=some o->e ∈ o.after->Region.binds .any e=true->lF ops j e.on
 |more {j o e i}:ops[j]?=some o->e ∈ o.after->Region.binds .any e=true->lF ops e.on i->lF ops j i
theorem lF.c1 {l:Array Bool} (d:k6 ops.toArray l) {j i:Nat} (h:lF ops j i):l.getD j false=true->l.getD i false=true:=by
 induction h with
 |one c he a=>exact λb=>d _ _ (by simpa using c) b _ he a
 |more c he a _ e=>exact λb=>e (d _ _ (by simpa using c) b _ he a)
theorem lF.ready {l:Array Bool} (f:k6 ops.toArray l) {j i:Nat} (h:lF ops j i) (g:j ∈ Region.ready .any ops.toArray l):l.getD i false=true:=by
 obtain ⟨_,o,c,b⟩:=mem_ready.1 g;cases h with
 |one a he d=>simp only [vg] at c;rw [c] at a;cases a;exact b _ he d
 |more a he d e=>simp only [vg] at c;rw [c] at a;cases a;exact e.c1 f (b _ he d)
theorem Ht {ops:List Oper} {m:cP} {k:Nat} {o:Oper} (f:ops[k]?=some o) (hm:∀ j i,(m.getD j 0).testBit i=true->lF ops j i):∀ (es:List Edge) (x:Nat),(∀ e ∈ es,e ∈ o.after)->(∀ i,x.testBit i=true->lF ops k i)->
  ∀ i,(es.foldl (λx e=>match Region.binds .any e with | true=>x ||| (1 <<< e.on) ||| m.getD e.on 0 | false=>x) x).testBit i=true->lF ops k i
 | [],x,_,d,i,h=>d i h
 |e::es,x,he,d,i,h=>by
  rw [vf] at h;refine Ht f hm es _ (λg l=>he g (fu _ l)) (λi a=>?_) i h;have c:=he e (e2 ..);cases b:Region.binds .any e with
  |false=>rw [b] at a;exact d i a
  |true=>
   rw [b] at a;simp only [Nat.testBit_or,vk] at a;rcases a with (a | a) | a
   ·exact d i a
   ·rw [Nat.one_shiftLeft,Nat.testBit_two_pow] at a;have:e.on=i:=by simpa using a
    rw [<-this];exact .one f c b
   ·exact .more f c b (hm _ _ a)
theorem CM (ops:List Oper):∀ j i,((NE ops).getD j 0).testBit i=true->lF ops j i:=by
 have main:∀ n,n<=ops.length->((ops.take n).foldl rJ []).length=n/\∀ j i,(((ops.take n).foldl rJ []).getD j 0).testBit i=true->lF ops j i:=by
  intro n;induction n with
  |zero=>intro _;refine ⟨rfl,λj i h=>?_⟩;simp at h
  |succ n g=>
   intro k;obtain ⟨a,b⟩:=g (by omega);obtain ⟨o,c⟩:∃ o,ops[n]?=some o:=⟨_,bD (by omega)⟩;rw [fc,c,Option.toList_some,yv];generalize (ops.take n).foldl rJ []=M at a b ⊢;simp only [vf,List.foldl_nil];refine ⟨by unfold rJ;rw [dI,a];rfl,λj i h=>?_⟩;unfold rJ at h;rw [dF,p7] at h;split at h
   ·exact b j i (by rw [dF];exact h)
   ·rename_i f;by_cases d:j=n
    ·subst d;rw [a,mV] at h;exact Ht c b _ 0 (λe he=>by simpa using he) (λi h=>by simp at h) i h
    ·rw [lv (by simp;omega)] at h;simp at h
 have:=main ops.length (cQ _);rw [hx] at this;exact this.2
theorem D' {l:Array Bool} {k:Nat} (h:l.getD k true=false):¬ l.getD k false=true:=by
 intro a;rcases oT k l.size with b | b
 ·simp [b] at h a;rw [h] at a;cases a
 ·simp [yl b] at a
theorem NA (ops:List Oper):wo ops (Am ops):=by
 intro c1 l2 i j kz r h q o n c b f g a e p;unfold Am;rw [p6];have d:i<ops.length:=(lx.1 h).1;refine ⟨i,fJ.2 d,?_⟩;have k:rK ops j i=false:=by
  cases hw:rK ops j i with
  |false=>rfl
  |true=>exact absurd ((CM ops j i hw).ready c a) (D' g)
 have l:rK ops i j=false:=by
  cases hw:rK ops i j with
  |false=>rfl
  |true=>exact absurd (b _ ((CM ops i j hw).ready n f)) (D' (mem_ready.1 a).1)
 simp [h,o,k,l,Ne.symm e]
theorem CN (ops:List Oper):∀ b,wo ops (vZ ops b)
 |true=>NA ops
 |false=>y1 ops
theorem np {P:Program} {ops:List Oper} {nd:Nat->Bool} (l:wo ops nd) {S:aE} {K:ax->aE} {Q:Exit->Act->aE} (C:Region.noSelect ops.toArray=true)
  (B:∀ env w,K env w->Q .normal (act env) w) (dH:∀ c a w,¬ Q (.panic c) a w) :
  ∀ (fuel:Nat) (c1:Array Bool) (d:Bool) (env:ax) (w:ak),k6 ops.toArray c1->(d=true->S w)->oO P ops nd S K fuel c1 d env w->rI P ops.toArray Q S nd fuel c1 (act env) w
 | 0,c1,d,env,w,g,A,h=>by
  unfold oO at h;unfold rI;cases y:Region.ready .any ops.toArray c1 with
  |nil=>simp [y,zS] at h;exact ⟨rfl,B _ _ h⟩
  |cons x xs=>simp [y,zS] at h
 |fuel+1,c1,d,env,w,g,A,h=>by
  unfold oO at h;split at h
  ·rename_i i q;have f:=List.mem_of_find?_eq_some q;have J:=List.find?_some q;cases z:ops[i]? with
   |none=>simp only [z] at h
   |some o=>
    simp only [z] at h;simp only [z,e1,vk] at J;have s:ops.toArray[i]?=some o:=by simpa using z
    have t:ky o.op=true->d=true:=by
     intro F;rcases J.1 with G | G
     ·revert G F;cases o.op<;>simp [vU,ky]
     ·exact G.2
    have r:∀ (l2:Array Bool) j H,k6 ops.toArray l2->(∀ k,c1.getD k false=true->l2.getD k false=true)->l2.getD i true=false->j ∈ Region.ready .any ops.toArray l2->ops.toArray[j]?=some H->j≠i->c1.getD j true=false->(∀ e ∈ H.after,Region.binds .any e=true->e.on≠i)->o.apart ops.toArray H=true/\(ky o.op=true->nd j=true):=
     λl2 j H R T U V O I M u=>⟨Region.free_spec s J.2 j H O I M u,λF=>l c1 l2 i j o H z (by simpa using O) F g R T f U V I u⟩
    rcases Hs h with ⟨hw,h⟩ | ⟨hw,h⟩
    ·obtain ⟨v,y,h⟩:=Jd h;refine Hj (L:=ky o.op) (v:=v) s (Region.noSelect_spec C) (λc a w h=>(dH _ _ _ h).elim) fuel c1 (act env) w g r f ?_ (λF=>A (t F)) ?_
     ·exact .inl ⟨hw,λw A=>by rw [sW];exact y w A⟩
     ·rw [k2];exact np l C B dH fuel _ d _ w (g.set f) A h
    ·refine Hj (L:=ky o.op) (v:=undef) s (Region.noSelect_spec C) (λc a w h=>(dH _ _ _ h).elim) fuel c1 (act env) w g r f (.inr ⟨hw,rfl⟩) (λF=>A (t F)) ?_;rw [k2];exact np l C B dH fuel _ d _ w (g.set f) A h
  ·cases y:Region.ready .any ops.toArray c1 with
   |nil=>simp only [y] at h;exact ⟨λ_=>B _ _ h,by rw [y];simp⟩
   |cons x xs=>
    simp only [y] at h;refine ⟨λN=>(by rw [y] at N;cases N),λi E=>?_⟩;have n:=g.set E;rw [y] at E;have s:=CL h (cT.2 ⟨i,E,rfl⟩);cases z:ops[i]? with
    |none=>simp only [z] at s
    |some o=>
     simp only [z] at s;unfold wpOp;simp only [vg,z];rcases Hs s with ⟨hw,s⟩ | ⟨hw,s⟩
     ·rw [if_pos hw];refine .inl (MH (sZ s) λv w' h=>?_);have u:rW nd ops c1 i=false->¬ nd i=true:=by intro W X;simp [rW,X] at W
      cases p:d with
      |true=>
       cases b:rW nd ops c1 i with
       |true=>rw [p,b] at h;exact ⟨λ_ _=>h.1,np l C B dH fuel _ _ _ w' n (λ_=>h.1) h.2⟩
       |false=>rw [p,b] at h;exact ⟨λD=>absurd D (u b),np l C B dH fuel _ _ _ w' n (λD=>by simp at D) h⟩
      |false=>
       cases b:rW nd ops c1 i with
       |true=>rw [p,b] at h;exact h.elim
       |false=>rw [p,b] at h;exact ⟨λD=>absurd D (u b),np l C B dH fuel _ _ _ w' n (λD=>by simp at D) h⟩
     ·rw [if_neg (by simp [hw]),k2];exact ⟨λ_ h=>h,np l C B dH fuel _ d _ w n A s⟩
def GT (P:Program) (ops:List Oper) (env:ax) (K:ax->aE) (w:ak):Prop:=
 match MI ops with
 |true=>∀ w1,w1=w.drew->∃ S:aE,S w1/\oO P ops (vZ ops (y0 ops)) S K ops.length (Array.replicate ops.length false) true env w1
 |false=>∀ w1,w1=w.drew->oO P ops (qV ops) (λ_=>True) K ops.length (Array.replicate ops.length false) true env w1
theorem xE (ops:Array Oper) (n:Nat):k6 ops (Array.replicate n false):=by
 intro j b _ a;exfalso;rcases oT j n with h | h
 ·simp [h] at a
 ·simp [h] at a
theorem ID (hm:P.follows .mixedOrders=true) {id:Nat} {K:ax->aE} {Q:Exit->Act->aE} (d:Region.noSelect ops.toArray=true)
  (b:∀ env w,K env w->Q .normal (act env) w) (dH:∀ c a w,¬ Q (.panic c) a w) (h:GT P ops env K w):(Code.region id ops.toArray true).wp P Q (act env) w:=by
 unfold GT at h;split at h
 ·obtain ⟨S,e,h⟩:=h _ rfl;refine wp_region_any hm (uG (S:=S) (nd:=vZ ops (y0 ops)) _ _ _ _ ?_);have:=np (CN ops _) d b dH _ _ _ _ _ (xE _ _) (λ_=>e) h;simpa using this
 ·refine wp_region_any hm (uG (S:=λ_=>True) (nd:=qV ops) _ _ _ _ ?_);have:=np (y1 ops) d b dH _ _ _ _ _ (xE _ _) (λ_=>trivial) (h _ rfl);simpa using this
def qe (Q:Exit->ax->aE):Exit->Act->aE
 | .panic _,_,_=>False
 | .outgrown,_,_=>False
 |e,a,w=>a.defers=[]/\Q e a.tmps.toList w
theorem ji {e:Exit} (h:Q e env w) (he:(∀ c,e≠.panic c)/\e≠.outgrown):qe Q e (act env) w:=by
 cases e with
 |panic c=>exact absurd rfl (he.1 c)
 |outgrown=>exact absurd rfl he.2
 | _=>exact ⟨rfl,by simpa [act] using h⟩
theorem qU {e:Exit} {a:Act} (h:qe Q e a w):((∀ c,e≠.panic c)/\e≠.outgrown)/\∃ env,a=act env/\Q e env w:=by
 have mk:∀ (a:Act),a.defers=[]->a=act a.tmps.toList:=λa b=>by
  cases a with
  |mk t d=>simp only at b;subst b;simp [act]
 cases e with
 |panic c=>exact h.elim
 |outgrown=>exact h.elim
 |normal=>exact ⟨⟨λ_=>by simp,by simp⟩,_,mk a h.1,h.2⟩
 |exit i=>exact ⟨⟨λ_=>by simp,by simp⟩,_,mk a h.1,h.2⟩
 |goto i=>exact ⟨⟨λ_=>by simp,by simp⟩,_,mk a h.1,h.2⟩
 |ret=>exact ⟨⟨λ_=>by simp,by simp⟩,_,mk a h.1,h.2⟩
def cv (P:Program) (c:Code) (env:ax) (Q:Exit->ax->aE) (w:ak):Prop:=c.wp P (qe Q) (act env) w
def aU (next:ax->aE) (Q:Exit->ax->aE):Exit->ax->aE
 | .normal,env,w=>next env w
 |e,env,w=>Q e env w
def aM (id:Nat) (Q:Exit->ax->aE):Exit->ax->aE
 | .exit i,env,w=>match Nat.beq i id with
  |true=>Q .normal env w
  |false=>Q (.exit i) env w
 |e,env,w=>Q e env w
def W (P:Program):Code->ax->(Exit->ax->aE)->aE
 | .skip,env,Q,w=>Q .normal env w
 | .region _ ops draw,env,Q,w=>match draw with
  |false=>jL P ops.toList ops.toList env (Q .normal) w
  |true=>match Region.noSelect ops with
   |true=>GT P ops.toList env (Q .normal) w
   |false=>False
 | .seq a b,env,Q,w=>W P a env (aU (λenv w=>W P b env Q w) Q) w
 | .cond c x y,env,Q,w=>match b9 env c with
  | .bool b=>bif b then W P x env Q w else W P y env Q w
  | _=>False
 | .block id c,env,Q,w=>W P c env (aM id Q) w
 | .exit id,env,Q,w=>Q (.exit id) env w
 | .ret,env,Q,w=>Q .ret env w
 |c,env,Q,w=>cv P c env Q w
theorem pO {P:Program} (hm:P.follows .mixedOrders=true):∀ (c:Code) (env:ax) (Q:Exit->ax->aE) (w:ak),W P c env Q w->cv P c env Q w
 | .skip,env,Q,w,h=>wp_skip (ji h ⟨λ_=>by simp,by simp⟩)
 | .region id ops draw,env,Q,w,h=>by
  unfold W at h;cases draw with
  |false=>simp only at h;exact wpIn_wide.1 (wpIn_region_list (n:=0) (oE (all:=ops.toList) ops.toList env w (Q .normal) (λenv w o=>ji o ⟨λ_=>by simp,by simp⟩) h))
  |true=>
   simp only at h;split at h
   ·rename_i q;have:=ID (id:=id) hm (Q:=qe Q) (by simpa using q) (λenv w o=>ji o ⟨λ_=>by simp,by simp⟩) (λc a w h=>h.elim) h;unfold cv;simpa using this
   ·exact h.elim
 | .seq a b,env,Q,w,h=>by
  have k:=pO hm a env _ w h;refine wp_seq (wp_mono k λe p w' f=>?_);obtain ⟨he,g,l,d⟩:=qU f;subst l;clear f;cases e with
  |normal=>exact pO hm b g Q w' d
  |panic c=>exact absurd rfl (he.1 c)
  |outgrown=>exact absurd rfl he.2
  |exit i=>exact ji d he
  |goto i=>exact ji d he
  |ret=>exact ji d he
 | .cond c x y,env,Q,w,h=>by
  unfold W at h;split at h
  ·rename_i b j;refine wp_cond (t:=b) (by rw [sW];exact j) ?_;cases b with
   |true=>exact pO hm x env Q w h
   |false=>exact pO hm y env Q w h
  ·exact h.elim
 | .block id c,env,Q,w,h=>by
  have k:=pO hm c env _ w h;refine wp_block (wp_mono k λe p w' f=>?_);obtain ⟨he,g,l,d⟩:=qU f;subst l;clear f;cases e with
  |exit i=>
   simp only [aM] at d;simp only [Exit.inBlock];cases j:Nat.beq i id with
   |true=>rw [j] at d;rw [if_pos (kO j)];exact ji d ⟨λ_=>by simp,by simp⟩
   |false=>rw [j] at d;rw [if_neg (Be j)];exact ji d he
  |panic c=>exact absurd rfl (he.1 c)
  |outgrown=>exact absurd rfl he.2
  |normal=>exact ji d he
  |goto i=>exact ji d he
  |ret=>exact ji d he
 | .exit id,env,Q,w,h=>wp_exit (ji h ⟨λ_=>by simp,by simp⟩)
 | .ret,env,Q,w,h=>wp_ret (ji h ⟨λ_=>by simp,by simp⟩)
 | .loop _,_,_,_,h=>h
 | .rangeFunc ..,_,_,_,h=>h
 | .scope _,_,_,_,h=>h
 | .label _,_,_,_,h=>h
 | .goto _,_,_,_,h=>h
 | .refuse _,_,_,_,h=>h
theorem Ju {Q:Exit->Act->aE} {a:Act} {c:Code} (a7:Nat->Act->aE) (z:Nat) (u:a7 z a w)
  (round:∀ n a w,a7 n a w->c.wp P (Exit.then (λh w'=>∃ m,m<n/\a7 m h w') Q) a w):(Code.loop c).wp P Q a w:=by
 intro b k cs;have key:∀ n a w,a7 n a w->
   ∃ e h w',Q e h w'/\Arrives P (lone (b.at a (.code c::.inLoop c::k)) cs w) b k cs e h w':=by
  intro n;induction n using Nat.strongRecOn with
  | _ n y=>
   intro a w t;obtain ⟨e,i,j,f,d⟩:=round n a w t b (.inLoop c::k) cs;cases e with
   |normal=>obtain ⟨m,p,o⟩:=f;obtain ⟨s,r,A,q,g⟩:=y m p i j o;exact ⟨s,r,A,q,.of_steps (Steps.trans d (.one step_inLoop)) g⟩
   |exit id=>exact ⟨_,i,j,f,.pass (x:=.inLoop c) rfl (λ_ _=>.inl (by simp)) d⟩
   |goto l=>exact ⟨_,i,j,f,.pass (x:=.inLoop c) rfl (λ_ _=>.inl (by simp)) d⟩
   |ret=>exact ⟨_,i,j,f,.pass (x:=.inLoop c) rfl (λ_ _=>.inl (by simp)) d⟩
   |panic B=>exact ⟨_,i,j,f,.pass (x:=.inLoop c) rfl (λ_ _=>.inl (by simp)) d⟩
   |outgrown=>exact ⟨_,i,j,f,.pass (x:=.inLoop c) rfl (λ_ _=>.inl (by simp)) d⟩
 obtain ⟨e,h,w',f,d⟩:=key _ a w u;exact ⟨e,h,w',f,.of_steps (.one step_loop) d⟩
theorem c2 (hm:P.follows .mixedOrders=true) {c:Code}
  (a7:Nat->ax->aE) (h:Nat) (j:a7 h env w)
  (o:∀ n env w,a7 n env w->W P c env (aU (λb w'=>∃ m,m<n/\a7 m b w') Q) w):cv P (.loop c) env Q w:=by
 refine Ju (λn a w=>∃ env,a=act env/\a7 n env w) h ⟨env,rfl,j⟩ ?_;rintro n a w ⟨env,rfl,k⟩;refine wp_mono (pO hm c env _ w (o n env w k)) λe p w' d=>?_
 obtain ⟨he,b,l,f⟩:=qU d;subst l;clear d;cases e with
 |normal=>obtain ⟨m,hm,g⟩:=f;exact ⟨m,hm,b,rfl,g⟩
 |panic c=>exact absurd rfl (he.1 c)
 |outgrown=>exact absurd rfl he.2
 |exit i=>exact ji f he
 |goto i=>exact ji f he
 |ret=>exact ji f he
def sub:Code->cP->Code
 |c,[]=>c
 | .seq a b,n::p=>match n with | 0=>sub a p | _=>sub b p
 | .cond _ a b,n::p=>match n with | 0=>sub a p | _=>sub b p
 | .block _ c,_::p=>sub c p
 | .loop c,_::p=>sub c p
 | .scope c,_::p=>sub c p
 | .rangeFunc _ _ a b,n::p=>match n with | 0=>sub a p | _=>sub b p
 |c,_=>c
def bp (fn:Func):Code:=match fn.body with | some c=>c | none=>.skip
def nE (P:Program):List ResultVar->ax->(ax->Prop)->aE
 | [],_,K,_=>K []
 | .tmp t::rs,env,K,w=>nE P rs env (λvs=>K (env.getD t undef::vs)) w
 | .cell a t::rs,env,K,w=>n2 P t (env.getD a undef) (λv w'=>w'=w/\nE P rs env (λvs=>K (v::vs)) w) w
def sK:ax->a2
 | [v]=>v
 |vs=>.tuple vs.toArray
def dD (P:Program) (fn:Func) (R:cB):Exit->ax->aE
 | .normal,env,w=>nE P fn.results.toList env (λvs=>R (sK vs) w) w
 | .ret,env,w=>nE P fn.results.toList env (λvs=>R (sK vs) w) w
 | _,_,_=>False
theorem Uc {x:a2} {K:cB} (h:n2 P t x K w):∃ v,(do loadVar t (<- asAddr x):Sem a2).run P w=.ok v w/\K v w:=by
 unfold n2 at h;split at h
 ·rename_i bx;split at h
  ·exact h.elim
  ·rename_i inf b;split at h
   ·rename_i a;split at h
    ·rename_i hlen;obtain ⟨vs,e,c,h⟩:=tt h;obtain ⟨d,ar⟩:=Ah a;refine ⟨_,?_,h⟩;have f:vs.length=inf.size:=by rw [e];exact kO hlen
     simp only [asAddr,pure_bind,loadVar,Sem.run_bind,pw ar,Result.andThen_ok,a,if_true,run_sizeOf b];have:=run_loadCellsFrom (P:=P) (acc:=#[]) c;rw [f] at this;simp [loadCells,this]
    ·exact h.elim
   ·rename_i a;split at h
    ·exact h.elim
    ·rename_i d ar;obtain ⟨v,al,h⟩:=rH h;refine ⟨_,?_,h⟩;simp only [asAddr,pure_bind,loadVar,Sem.run_bind,pw ar,Result.andThen_ok,a];simp [al]
 ·exact h.elim
theorem ya {P:Program} {env:ax} {w:ak}:∀ (rs:List ResultVar) (K:ax->Prop),nE P rs env K w->
  ∃ vs,(rs.mapM fun | .tmp t=>pure (env.toArray.getD t undef) | .cell a t=>do loadVar t (<- asAddr (env.toArray.getD a undef)):Sem ax).run P w=.ok vs w/\K vs
 | [],K,h=>⟨[],rfl,h⟩
 | .tmp t::rs,K,h=>by obtain ⟨vs,b,h⟩:=ya rs _ h;refine ⟨_,?_,h⟩;rw [List.mapM_cons];simp only [pure_bind,Sem.run_bind,b,Result.andThen_ok,Sem.run_pure];simp [dF]
 | .cell a t::rs,K,h=>by
  obtain ⟨v,al,hw,h⟩:=Uc h;obtain ⟨vs,b,h⟩:=ya rs _ h;refine ⟨_,?_,h⟩;rw [List.mapM_cons];have e:env.toArray.getD a undef=env.getD a undef:=by simp [dF]
  simp only [e] at b ⊢;rw [Sem.run_bind,al];simp only [Result.andThen_ok,Sem.run_bind,b,Sem.run_pure]
theorem xF (h:nE P fn.results.toList env (λvs=>K (sK vs)) w):∃ v,(results fn env.toArray).run P w=.ok v w/\K v:=by
 obtain ⟨vs,b,h⟩:=ya _ _ h;refine ⟨_,?_,h⟩;unfold results;rw [Array.mapM_eq_mapM_toList];simp only [Sem.run_bind,Sem.run_map,Sem.run_pure];refine Eq.trans (congrArg (λr:Result ax=>(r.andThen λa w'=>Result.ok a.toArray w').andThen λa w'=>Result.ok (if h:a.size=1 then a[0] else Value.tuple a) w') b) ?_;simp only [Result.andThen_ok];congr 1
 match vs with
 | []=>rfl
 | [v]=>rfl
 |v::u::r=>simp [sK]
def bf (P:Program) (fn:Func) (args:ax) (R:cB) (w:ak):Prop:=
 match fn.body with
 |some c=>W P c (args++List.replicate (fn.ntmps - args.length) undef) (dD P fn R) w
 |none=>False
theorem Kl (hm:P.follows .mixedOrders=true) {f:FuncId} {args:ax} (o:P.funcs[f]?=some fn)
  (h:bf P fn args R w):Calls P f args.toArray w λe w'=>∃ v,e=.returned v/\R v w':=by
 unfold bf at h;split at h
 ·rename_i c n;refine calls_of_wp o n ?_;have j:=pO hm c _ _ w h;have k:cv P c (args++List.replicate (fn.ntmps - args.length) undef) (dD P fn R) w=c.wp P (qe (dD P fn R)) { tmps:=args.toArray++Array.replicate (fn.ntmps - args.toArray.size) undef,defers:=[] } w:=by unfold cv act;congr 2;simp
  rw [k] at j;refine wp_mono j λe p w' b=>?_
  obtain ⟨he,a,l,d⟩:=qU b;subst l;clear b;cases e with
  |normal=>obtain ⟨v,al,g⟩:=xF (P:=P) (fn:=fn) (env:=a) (w:=w') (K:=λv=>R v w') d;exact ⟨rfl,v,al,v,rfl,g⟩
  |ret=>obtain ⟨v,al,g⟩:=xF (P:=P) (fn:=fn) (env:=a) (w:=w') (K:=λv=>R v w') d;exact ⟨rfl,v,al,v,rfl,g⟩
  |panic c=>exact absurd rfl (he.1 c)
  |outgrown=>exact absurd rfl he.2
  |exit i=>exact d.elim
  |goto i=>exact d.elim
 ·exact h.elim
def bG (P:Program) (fn:Func) (R:cB) (Q:Exit->ax->aE):Exit->ax->aE
 | .ret,env,w=>dD P fn R .ret env w
 |e,env,w=>Q e env w
theorem Pw (h:∀ env w,Q .ret env w=dD P fn R .ret env w):bG P fn R Q=Q:=by funext e env w;cases e<;>first | rfl | exact (h env w).symm
theorem zR {c:Code} (h:∀ env w,Q .ret env w=dD P fn R .ret env w):W P c env (bG P fn R Q) w=W P c env Q w:=by rw [Pw h]
theorem eU (h:N env w):aU N Q .normal env w:=h
theorem p1 {k:Nat} (h:Q (.exit k) env w):aU N Q (.exit k) env w:=h
theorem pD {k:Nat} (h:Q .normal env w):aM k Q .normal env w:=h
theorem pE {k:Nat} (h:Q .normal env w):aM k Q (.exit k) env w:=by
 show match Nat.beq k k with
  |true=>Q .normal env w
  |false=>Q (.exit k) env w
 rw [Nat.beq_refl k];exact h
noncomputable def Fi (n:Nat):(bd->Prop)->Prop:=@Nat.rec (λ_=>(bd->Prop)->Prop) (λK=>K []) (λ_ a K=>∃ x:Int,a λl=>K (x::l)) n
theorem Ea:∀ (n:Nat) (l:bd),l.length=n->∀ {K:bd->Prop},K l->Fi n K
 | 0,l,h,K,a=>by have:l=[]:=fI h;subst this;exact a
 |n+1,[],h,_,_=>by cases h
 |n+1,x::l,h,K,a=>⟨x,Ea n l (by simpa using h) a⟩
attribute [irreducible] bf W sub bp
end Go.bu
