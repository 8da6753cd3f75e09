import Derived.Test.YtmkljjbioomepaaGreatProg
import Derived.OrdersHeld
import Derived.KernelRfl
import Derived.Tactics
import Derived.Laws.World
import Derived.TacticsIn
import Derived.RangeFuncSeq
set_option linter.all false
namespace Go
abbrev an:=World
abbrev bf:=Value
abbrev aU:=Addr
abbrev ak:=Option Addr
abbrev ax:=List Value
abbrev c6:=List Nat
abbrev a7:=List Int
abbrev aJ:=World->Prop
abbrev cM:=Value->World->Prop
abbrev a4:=Nat->Prop
abbrev oK:=IntKind
abbrev bY:=TypeId
abbrev df:=Program
abbrev gK:=List Oper
abbrev ep:=Array bf
abbrev eE:=List a7
abbrev Cn:=@Array.getElem?_eq_some_iff
abbrev zn:=@Array.getElem?_modify
abbrev J_:=@Array.length_toList
abbrev gL:=@Bool.and_eq_true
abbrev wy:=@Bool.not_eq_false
abbrev zv:=@Bool.not_eq_true'
abbrev zw:=@Bool.true_and
abbrev uu:=@Int.emod_lt_of_pos
abbrev uv:=@Int.emod_nonneg
abbrev oN:=@Int.eq_ofNat_of_zero_le
abbrev zo:=@Int.tdiv_eq_ediv_of_nonneg
abbrev zq:=@Int.tmod_eq_emod_of_nonneg
abbrev hD:=@Int.toNat_natCast
abbrev jt:=@List.all_eq_true
abbrev J9:=@List.any_eq_false
abbrev Cp:=@List.any_eq_true
abbrev ke:=@List.append_assoc
abbrev Cq:=@List.append_eq_nil_iff
abbrev kV:=@List.append_nil
abbrev wu:=@List.drop_drop
abbrev wv:=@List.drop_eq_getElem_cons
abbrev J':=@List.drop_length
abbrev hN:=@List.eq_nil_of_length_eq_zero
abbrev um:=@List.exists_cons_of_ne_nil
abbrev i_:=@List.ext_getElem?
abbrev Ka:=@List.flatten_append
abbrev lD:=@List.flatten_cons
abbrev sf:=@List.foldl_cons
abbrev hO:=@List.getD_eq_getElem?_getD
abbrev sg:=@List.getElem?_append
abbrev zr:=@List.getElem?_append_left
abbrev wx:=@List.getElem?_append_right
abbrev zt:=@List.getElem?_cons_succ
abbrev uo:=@List.getElem?_drop
abbrev b2:=@List.getElem?_eq_getElem
abbrev uq:=@List.getElem?_eq_none
abbrev Zv:=@List.getElem?_eq_none_iff
abbrev sh:=@List.getElem?_eq_some_iff
abbrev Kb:=@List.getElem?_inj
abbrev fQ:=@List.getElem?_map
abbrev Cr:=@List.getElem?_modify
abbrev si:=@List.getElem?_range
abbrev kW:=@List.getElem?_set
abbrev jN:=@List.getElem?_set_ne
abbrev kX:=@List.getElem?_set_self
abbrev Cs:=@List.getElem?_take
abbrev Zw:=@List.getElem?_take_of_lt
abbrev zu:=@List.getElem?_toArray
abbrev Ct:=@List.getElem?_zip_eq_some
abbrev sj:=@List.getElem_mem
abbrev Kc:=@List.getElem_of_mem
abbrev fF:=@List.length_append
abbrev h3:=@List.length_cons
abbrev pM:=@List.length_drop
abbrev Cu:=@List.length_eq_one_iff
abbrev oL:=@List.length_eq_zero_iff
abbrev ZN:=@List.length_filter_le
abbrev gR:=@List.length_map
abbrev Kd:=@List.length_nil
abbrev wz:=@List.length_pos_iff
abbrev nO:=@List.length_range
abbrev Ke:=@List.length_replicate
abbrev pN:=@List.length_set
abbrev zx:=@List.length_tail
abbrev lE:=@List.length_take
abbrev kY:=@List.map_append
abbrev sk:=@List.map_congr_left
abbrev iI:=@List.map_cons
abbrev oM:=@List.map_map
abbrev ur:=@List.map_nil
abbrev mM:=@List.map_set
abbrev i':=@List.mem_append
abbrev Cv:=@List.mem_append_left
abbrev f0:=@List.mem_cons
abbrev fG:=@List.mem_cons_of_mem
abbrev fR:=@List.mem_cons_self
abbrev qL:=@List.mem_flatten
abbrev ez:=@List.mem_iff_getElem?
abbrev cW:=@List.mem_map
abbrev Cw:=@List.mem_map_of_mem
abbrev b9:=@List.mem_of_getElem?
abbrev qM:=@List.mem_of_mem_drop
abbrev zy:=@List.mem_of_mem_eraseIdx
abbrev uw:=@List.mem_of_mem_tail
abbrev qN:=@List.mem_of_mem_take
abbrev nP:=@List.mem_or_eq_of_mem_set
abbrev gS:=@List.mem_range
abbrev sl:=@List.mem_singleton
abbrev qO:=@List.nil_append
abbrev lF:=@List.not_mem_nil
abbrev Zx:=@List.pairwise_cons
abbrev Zy:=@List.pairwise_iff_getElem
abbrev qP:=@List.range_succ
abbrev zz:=@List.range_succ_eq_map
abbrev ux:=@List.replicate_succ
abbrev Zz:=@List.set_comm
abbrev zA:=@List.set_set
abbrev pO:=@List.sum_cons
abbrev zB:=@List.take_add_one
abbrev ja:=@List.take_length
abbrev r':=@List.take_of_length_le
abbrev Zu:=@List.take_succ_eq_append_getElem
abbrev zp:=@Nat.add_assoc
abbrev uh:=@Nat.add_mul
abbrev mJ:=@Nat.add_zero
abbrev pL:=@Nat.eq_of_beq_eq_true
abbrev J8:=@Nat.eq_zero_or_pos
abbrev sd:=@Nat.le_of_not_lt
abbrev db:=@Nat.le_refl
abbrev mK:=@Nat.le_trans
abbrev fE:=@Nat.lt_of_lt_of_le
abbrev ZL:=@Nat.lt_succ_iff_lt_or_eq
abbrev ZM:=@Nat.mod_eq_of_lt
abbrev wm:=@Nat.mul_le_mul
abbrev ui:=@Nat.mul_le_mul_right
abbrev wo:=@Nat.mul_one
abbrev Co:=@Nat.ne_of_beq_eq_false
abbrev uj:=@Nat.sub_self
abbrev uk:=@Nat.succ_mul
abbrev iZ:=@Nat.zero_add
abbrev lC:=@Option.map_eq_some_iff
abbrev se:=@Option.map_some
abbrev hM:=@Option.some.injEq
abbrev aQ:=@if_neg
abbrev bh:=@if_pos
abbrev cp:=@absurd
abbrev ey:=@congrArg
abbrev wq:=@decide_eq_true
abbrev mL:=@decide_eq_true_eq
abbrev qK:=@of_decide_eq_true
end Go
namespace Go.bJ
variable {K:bf->Prop}{N:ax->aJ}{P:df}{Q:Exit->ax->aJ}{R:cM}{a b p:ak}{all ops:gK}{c:Call}{c' cap l l' len:Nat}{captured first:ep}{env:ax}{f x y:Operand}{fn:Func}{h m n:Int}{inf:TypeInfo}{k:oK}{next:Act->aJ}{lh:Oper}{op:BinOp}{q:aU}{s:Sem bf}{t:bY}{v:bf}{w w':an}
def cf (env:ax):Operand->bf
 |.tmp t=>env.getD t undef
 |.const v=>v
 |.global g=>.pointer (some ⟨g,0,none⟩)
 |.func f=>.func (.func f) #[] #[]
def ag (j:ax):Nat->Nat->ax->ax
 | _,0,r=>r
 |a,n+1,r=>j.getD a undef::ag j (a+1) n r
def bm:Nat->ax->ax
 | 0,r=>r
 |n+1,r=>undef::bm n r
def put (env:ax):Option Tmp->bf->ax
 |some d,v=>env.set d v
 |none,_=>env
def act (env:ax):Act:={tmps:=env.toArray,defers:=[]}
theorem tR (env:ax):(act env).eval=cf env:=by
 funext x;cases x with
 |tmp t=>simp only[Act.eval,act,cf,Array.getD_eq_getD_getElem?,zu,hO]
 |const v=>rfl
 |global g=>rfl
 |func f=>rfl
theorem lQ (env:ax)(d:Option Tmp)(v:bf):(act env).put d v=act (put env d v):=by
 cases d with
 |none=>rfl
 |some d=>simp[Act.put,act,put]
def single:bf->Bool
 |.agg _=>false
 |.tuple _=>false
 | _=>true
def pB {α:Type}(P:df):Sem α->(α->aJ)->aJ
 |.pure a,K,w=>K a w
 |.load _ a k,K,w=>∃ v,w.cell? a=some v/\pB P (k v) K w
 |.store _ a v k,K,w=>(∃ u,w.cell? a=some u)/\w.frozen? a=false/\single v=true/\∀ w1,w1=w.setCell a v->pB P k K w1
 |.new o k,K,w=>∀ b w1,b=w.heap.size->w1=w.alloc o->pB P (k b) K w1
 |.shape r k,K,w=>pB P (k (w.shape? r)) K w
 |.frozen a k,K,w=>pB P (k (w.frozen? a)) K w
 |.program k,K,w=>pB P (k P) K w
 |.mark _ k,K,w=>pB P k K w
 | _,_,_=>False
theorem Dd {α:Type}{m:Mode}{a:aU}{k:Sem α}(b:∃ u,w.cell? a=some u)(c:w.frozen? a=false)(al:single v=true) :
  (Sem.store m a v k).run P w=k.run P (w.setCell a v):=by
 obtain⟨u,hu⟩:=b;cases v<;>simp[single]at al<;>simp[Sem.run,hu,c]
theorem OU {α:Type}(s:Sem α):∀ {K:α->aJ} {w:an},pB P s K w->∃ a w',s.run P w=.ok a w'/\K a w':=by
 induction s with
 |pure a=>intro K w h;exact⟨a,w,rfl,h⟩
 |load m a k b=>intro K w h;obtain⟨v,al,h⟩:=h;obtain⟨x,w',d,c⟩:=b v h;exact⟨x,w',by simp only[Sem.run,al];exact d,c⟩
 |store m a v k b=>intro K w h;obtain⟨e,f,g,h⟩:=h;obtain⟨x,w',d,c⟩:=b (h _ rfl);exact⟨x,w',by rw[Dd e f g];exact d,c⟩
 |new o k b=>intro K w h;obtain⟨x,w',d,c⟩:=b _ (h _ _ rfl rfl);exact⟨x,w',d,c⟩
 |shape r k b=>intro K w h;exact b _ h
 |frozen a k b=>intro K w h;exact b _ h
 |program k b=>intro K w h;exact b _ h
 |mark m k b=>intro K w h;exact b h
 | _=>intro K w h;exact h.elim
def hE (k:oK)(x y:Int):Int:=k.wrap (BitVec.ofInt k.bits x &&& BitVec.ofInt k.bits y).toNat
def jV (k:oK)(x y:Int):Int:=k.wrap (BitVec.ofInt k.bits x ||| BitVec.ofInt k.bits y).toNat
def jb (k:oK)(x y:Int):Int:=k.wrap (BitVec.ofInt k.bits x ^^^ BitVec.ofInt k.bits y).toNat
def uX (k:oK)(x y:Int):Int:=k.wrap (BitVec.ofInt k.bits x &&& ~~~ BitVec.ofInt k.bits y).toNat
def iQ (k:oK)(x n:Int):Int:=k.wrap (x*2 ^ min n.toNat k.bits)
def c3 (k:oK)(x n:Int):Int:=x.fdiv (2 ^ min n.toNat k.bits)
inductive mc where
 |i (k:oK) | b | p | s | v | t
def vG:Option TypeDesc->mc
 |some (.int k)=>.i k
 |some .bool=>.b
 |some (.pointer _)=>.p
 |some (.slice _)=>.s
 | _=>.v
def qb:mc->(bf->Prop)->Prop
 |.i k,K=>∃ x:Int,K (.int k x)
 |.b,K=>∃ x:Bool,K (.bool x)
 |.p,K=>∃ x:ak,K (.pointer x)
 |.s,K=>∃ (x:ak) (l c:Nat),K (.slice x l c)
 |.v,K=>∃ v:bf,K v
 |.t,K=>∃ x:ByteArray,K (.string x)
theorem qZ {k:mc}(h:qb k K):∃ v,K v:=by
 cases k with
 |i k=>obtain⟨x,h⟩:=h;grind
 |b=>obtain⟨x,h⟩:=h;grind
 |p=>obtain⟨x,h⟩:=h;grind
 |s=>obtain⟨x,l,c,h⟩:=h;grind
 |v=>exact h
 |t=>obtain⟨x,h⟩:=h;exact⟨_,h⟩
theorem Eh {k:mc}{d:bf->Prop}(a:∀ v,K v->d v)(h:qb k K):qb k d:=by
 cases k with
 |i k=>obtain⟨x,h⟩:=h;exact⟨_,a _ h⟩
 |b=>obtain⟨x,h⟩:=h;exact⟨_,a _ h⟩
 |p=>obtain⟨x,h⟩:=h;exact⟨_,a _ h⟩
 |s=>obtain⟨x,l,c,h⟩:=h;exact⟨_,_,_,a _ h⟩
 |v=>obtain⟨x,h⟩:=h;exact⟨_,a _ h⟩
 |t=>obtain⟨x,h⟩:=h;exact⟨_,a _ h⟩
def ry:List mc->(ax->Prop)->Prop
 | [],K=>K []
 |k::a,K=>qb k λv=>ry a λvs=>K (v::vs)
theorem uJ:∀ {a:List mc} {K:ax->Prop},ry a K->∃ vs,vs.length=a.length/\K vs
 | [],_,h=>⟨[],rfl,h⟩
 |k::a,K,h=>by
  obtain⟨v,h⟩:=qZ h;obtain⟨vs,b,h⟩:=uJ h
  grind
theorem Ei:∀ {c:List mc} {K b:ax->Prop},(∀ vs,K vs->b vs)->ry c K->ry c b
 | [],_,_,a,h=>a _ h
 | _::_,_,_,a,h=>Eh (λv h=>Ei (λvs h=>a (v::vs) h) h) h
def rH (P:df):Nat->bY->List mc
 | 0,_=>[]
 |n+1,t=>match P.underlying t with
  |some (.struct a)=>a.toList.flatMap λf=>rH P n f.type
  |some (.array len e)=>(List.replicate len (rH P n e)).flatten
  |d=>[vG d]
def ht (P:df)(t:bY):Bool:=
 match P.underlying t with
 |some (.struct _)=>true
 |some (.array _ _)=>true
 | _=>false
def q9 (P:df)(t:bY):Nat:=match P.info? t with | some i=>i.size | none=>0
def x7 (P:df)(t:bY)(K:bf->Prop):Prop:=
 match ht P t with
 |true=>ry (rH P 8 t) λvs=>K (.agg vs.toArray)
 |false=>qb (vG (P.underlying t)) K
theorem GK (h:x7 P t K):∃ v,K v:=by
 unfold x7 at h;split at h
 ·obtain⟨vs,_,h⟩:=uJ h;grind
 ·exact qZ h
def Bs (P:df):List bY->(ax->Prop)->Prop
 | [],K=>K []
 |t::ts,K=>x7 P t λv=>Bs P ts λvs=>K (v::vs)
theorem GL {P:df}:∀ {ts:List bY} {K:ax->Prop},Bs P ts K->∃ vs,K vs
 | [],_,h=>⟨[],h⟩
 |t::ts,K,h=>by
  obtain⟨v,h⟩:=GK h;obtain⟨vs,h⟩:=GL h
  grind
def tf (P:df):List bY->(bf->Prop)->Prop
 | [t],K=>x7 P t K
 |ts,K=>Bs P ts λvs=>K (.tuple vs.toArray)
theorem GM {ts:List bY}(h:tf P ts K):∃ v,K v:=by
 unfold tf at h;split at h
 ·exact GK h
 ·obtain⟨vs,h⟩:=GL h;grind
def cn (w:an)(bF:aU):Nat->ax->Prop
 | _,[]=>True
 |i,v::vs=>w.cell? (bF.add i)=some v/\cn w bF (i+1) vs
def ej (w:an)(bF:aU):Nat->ax->Prop
 | _,[]=>True
 |i,v::vs=>(∃ u,w.cell? (bF.add i)=some u)/\w.frozen? (bF.add i)=false/\single v=true/\ej w bF (i+1) vs
def cI (w:an)(bF:aU):Nat->ax->an
 | _,[]=>w
 |i,v::vs=>cI (w.setCell (bF.add i) v) bF (i+1) vs
theorem Y4 {p:aU}(h:∃ u,w.cell? q=some u):∃ u,(w.setCell p v).cell? q=some u:=by
 obtain⟨u,hu⟩:=h;unfold World.cell? World.setCell at *
 grind
theorem KB {p:aU}:(w.setCell p v).frozen? q=w.frozen? q:=by
 simp_all
theorem Kf {w:an}{bF p:aU}{u:bf}:∀ {vs:ax} {i:Nat},ej w bF i vs->ej (w.setCell p u) bF i vs
 | [],_,_=>trivial
 | _::_,_,h=>⟨Y4 h.1,by rw[KB];exact h.2.1,h.2.2.1,Kf h.2.2.2⟩
theorem tI {P:df}{bF:aU}:∀ {vs:ax} {i:Nat} {w:an},ej w bF i vs->
  (storeCells bF vs i).run P w=.ok () (cI w bF i vs)
 | [],_,_,_=>rfl
 |v::vs,i,w,h=>by unfold storeCells;show((store (bF.add i) v).bind λ_=>storeCells bF vs (i+1)).run P w=_;show(Sem.store .plain (bF.add i) v (storeCells bF vs (i+1))).run P w=_;rw[Dd h.1 h.2.1 h.2.2.1];exact tI (Kf h.2.2.2)
theorem run_loadCellsFrom {P:df}{bF:aU}{w:an}:∀ {vs:ax} {i:Nat} {acc:ep},cn w bF i vs->
  (loadCellsFrom bF i vs.length acc).run P w=.ok (acc++vs.toArray) w
 | [],_,acc,_=>by simp[loadCellsFrom]
 |v::vs,i,acc,h=>by show(Sem.load .plain (bF.add i) λv=>loadCellsFrom bF (i+1) vs.length (acc.push v)).run P w=_;simp only[Sem.run,h.1];rw[run_loadCellsFrom (acc:=acc.push v) h.2];simp
def oO (P:df)(t:bY)(x:bf)(K:cM)(w:an):Prop:=
 match x with
 |.pointer (some bF)=>
  match P.info? t with
  |none=>False
  |some inf=>
   match ht P t with
   |true=>match Nat.beq (rH P 8 t).length inf.size with
    |true=>ry (rH P 8 t) λvs=>cn w bF 0 vs/\K (.agg vs.toArray) w
    |false=>False
   |false=>match P.underlying t with
    |none=>False
    |some d=>qb (vG (some d)) λv=>w.cell? bF=some v/\K v w
 | _=>False
def AD (P:df)(t:bY)(x v:bf)(K:aJ)(w:an):Prop:=
 match x with
 |.pointer (some bF)=>
  match P.info? t with
  |none=>False
  |some inf=>
   match ht P t with
   |true=>match Nat.beq v.cells.size inf.size with
    |true=>ej w bF 0 v.cells.toList/\∀ w1,w1=cI w bF 0 v.cells.toList->K w1
    |false=>False
   |false=>match single v,Nat.beq inf.size 1 with
    |true,true=>(∃ u,w.cell? bF=some u)/\w.frozen? bF=false/\∀ w1,w1=w.setCell bF v->K w1
    | _,_=>False
 | _=>False
def fO:ak->(aU->Prop)->Prop
 |some bF,K=>K bF
 |none,_=>False
def bx (a:ak)(len:Nat)(n:Int)(sz:Nat)(K:aU->Prop):Prop:=
 ∃ bF,a=some bF/\0<=n/\n<len/\K (bF.add (n.toNat*sz))
def qd (bF:aU)(len:Nat)(n:Int)(sz:Nat)(K:aU->Prop):Prop:=
 0<=n/\n<len/\K (bF.add (n.toNat*sz))
def ij (a:ak)(len cap:Nat)(b d c:Int)(sz:Nat)(K:ak->Nat->a4):Prop:=
 0<=b/\b<=d/\d<=c/\c<=cap/\len<=cap/\K (if c=b then a else a.map (·.add (b.toNat*sz))) (d.toNat-b.toNat) (c.toNat-b.toNat)
def ko (n:Nat)(zs:ax):ax:=(List.replicate n zs).flatten
def rJ (len cap:Int)(bytes:Nat)(o:Obj)(w:an)(K:Nat->aJ):Prop:=0<=len/\len<=cap/\cap*bytes<=140737488355328/\cap<=140737488355328/\∀ b w1,b=w.heap.size->w1=w.alloc o->K b w1
def iV (P:df)(f:FuncId):Bool:=
 match P.funcs[f]? with
 |some fn=>fn.body.isSome && !(fn.name == "runtime.NumGoroutine")
 |none=>false
def mQ (P:df)(f:bf)(args:ep)(w:an)(R:Ending->aJ):Prop:=
 match f with
 |.func (.func g) first captured=>match iV P g with
  |true=>Calls P g (first++args++captured) w R
  |false=>False
 | _=>False
def xn (P:df)(t:bY):List bY:=
 match P.underlying t with
 |some (.tuple ts)=>ts.toList
 | _=>[t]
def qz (P:df)(s:Sem bf)(k:mc)(K:cM)(w:an):Prop:=
 qb k λv=>∃ w',s.run P w=.ok v w'/\K v w'
def ZD:bf->Option Int
 |.int _ n=>some n
 | _=>none
def Hd (K:cM):Next->aJ
 |.value v,w=>K v w
 |.skip,w=>K undef w
 | _,_=>False
def BA (P:df)(env:ax)(o:Oper)(K:cM)(w:an):Prop:=
 pB P (execOp (cf env) o) (Hd K) w
def wK:Operand->Bool
 |.const _=>true
 | _=>false
def m9 (d:Int):Option bf->Option Int
 |none=>some d
 |some (.int _ n)=>some n
 |some _=>none
def wL {α:Type}(P:df):Sem α->Option α
 |.pure a=>some a
 |.program k=>wL P (k P)
 | _=>none
theorem LM {α:Type}(s:Sem α):∀ {a:α},wL P s=some a->∀ w,s.run P w=.ok a w:=by
 induction s with
 |pure a=>intro b h w;simp[wL]at h;simp_all
 |program k c=>intro b h w;exact c P h w
 | _=>intro b h;cases h
def pg (P:df)(env:ax)(o:Oper)(K:bf->Prop):Prop:=
 match wL P (execOp (cf env) o)with
 |some (.value v)=>K v
 | _=>False
def Lt (P:df)(t:bY)(x y:bf)(r:Bool)(w:an):Prop:=
 (∀ op a b,(eqGuard op t a b x y).run P w=.ok () w)/\(binOp .eql t x y).run P w=.ok (.bool r) w/\(binOp .neq t x y).run P w=.ok (.bool (!r)) w
def xo (P:df)(t:bY)(x y:bf)(K:Bool->Prop):Prop:=∃ r:Bool,(∀ w,Lt P t x y r w)/\K r
def xp (P:df)(env:ax)(o:Oper)(K:bf->Prop):Prop:=
 match o.op with
 |.pick c a b=>match cf env c with
  |.bool t=>bif t then K (cf env a)else K (cf env b)
  | _=>False
 |.nilCheck x=>match cf env x with
  |.pointer p=>fO p λbF=>K (.pointer (some bF))
  | _=>False
 |.indexAddr t x i=>match cf env i with
  |.int _ n=>match P.underlying t with
   |some (.slice e)=>match cf env x,P.info? e with
    |.slice a len _,some inf=>bx a len n inf.size λbF=>K (.pointer (some bF))
    | _,_=>False
   |some (.array len e)=>match cf env x,P.info? e with
    |.pointer (some bF),some inf=>qd bF len n inf.size λbF=>K (.pointer (some bF))
    | _,_=>False
   | _=>False
  | _=>False
 |.slice t x q f g=>match P.underlying t with
  |some (.slice e)=>match cf env x,P.info? e with
   |.slice a len cap,some inf=>
    match m9 0 (q.map (cf env)),m9 len (f.map (cf env)),m9 cap (g.map (cf env)),f.isNone && g.isSome with
    |some l,some h,some m,false=>ij a len cap l h m inf.size λj l' c'=>K (.slice j l' c')
    | _,_,_,_=>False
   | _,_=>False
  | _=>pg P env o K
 |.binOp op t x y _=>match op,cf env x,cf env y with
  |.eql,.pointer p,.pointer none=>match P.underlying t with
   |some (.pointer _)=>K (.bool p.isNone)
   | _=>False
  |.neq,.pointer p,.pointer none=>match P.underlying t with
   |some (.pointer _)=>K (.bool (!p.isNone))
   | _=>False
  |.eql,.slice a _ _,.slice none _ _=>match P.underlying t with
   |some (.slice _)=>K (.bool a.isNone)
   | _=>False
  |.neq,.slice a _ _,.slice none _ _=>match P.underlying t with
   |some (.slice _)=>K (.bool (!a.isNone))
   | _=>False
  |.quo,.int k a,.int d b=>match wK y with
   |true=>pg P env o K
   |false=>k=d/\b≠0/\K (.int k (k.wrap (a.tdiv b)))
  |.rem,.int k a,.int d b=>match wK y with
   |true=>pg P env o K
   |false=>k=d/\b≠0/\K (.int k (a.tmod b))
  |.shl,.int k a,.int _ b=>match wK y with
   |true=>pg P env o K
   |false=>0<=b/\K (.int k (k.wrap (a*2 ^ min b.toNat k.bits)))
  |.shr,.int k a,.int _ b=>match wK y with
   |true=>pg P env o K
   |false=>0<=b/\K (.int k (a.fdiv (2 ^ min b.toNat k.bits)))
  |.eql,.agg a,.agg b=>xo P t (.agg a) (.agg b) λr=>K (.bool r)
  |.neq,.agg a,.agg b=>xo P t (.agg a) (.agg b) λr=>K (.bool (!r))
  | _,_,_=>pg P env o K
 | _=>pg P env o K
def w_:Op->Bool
 |.move _ |.assign _ |.pick .. |.build .. |.nilCheck _ |.binOp .. |.unOp .. |.convert .. |.makeFunc .. |.slice .. |.fieldAddr .. |.field .. |.indexAddr .. |.index .. |.extract ..=>true
 |.call {callee:=.builtin .len,..} |.call {callee:=.builtin .cap,..} |.call {callee:=.builtin .min,..} |.call {callee:=.builtin .max,..}=>true
 | _=>false
def Jv (P:df):Op->Option mc
 |.convert s d _=>match P.underlying s,P.underlying d with
  |some (.slice _),some (.slice _)=>some .s
  |some (.slice _),some .string=>some .t
  | _,_=>none
 | _=>none
def Jw (env:ax):Op->Sem bf
 |.convert s d x=>convert s d (cf env x)
 | _=>.pure undef
def rO (P:df)(env:ax)(o:Oper)(K:cM)(w:an):Prop:=
 match Jv P o.op with
 |some k=>qz P (Jw env o.op) k K w
 |none=>match w_ o.op with
 |true=>xp P env o λv=>K v w
 |false=>match o.op with
  |.makeMap t r=>qz P (Instr.makeMap t (r.map (cf env))) .v K w
  |.lookup t x i ok=>qz P (Instr.lookup t (cf env x) (cf env i) ok) (vG (P.underlying o.type)) K w
  |.mapUpdate t m k x=>∃ w',(Instr.mapUpdate t (cf env m) (cf env k) (cf env x)).run P w=.ok () w'/\K undef w'
  |.load t x=>oO P t (cf env x) K w
  |.store t x v=>AD P t (cf env x) (cf env v) (K undef) w
  |.makeSlice t l c=>match P.underlying t,cf env l,cf env c with
   |some (.slice e),.int _ len,.int _ cap=>match P.info? e with
    |some inf=>match inf.zero with
     |some z=>match Nat.beq z.cells.size inf.size && Nat.ble 1 inf.size with
      |false=>False
      |true=>rJ len cap inf.bytes (.cells (ko cap.toNat z.cells.toList).toArray e) w λb w1=>K (.slice (some ⟨b,0,none⟩) len.toNat cap.toNat) w1
     |none=>False
    |none=>False
   | _,_,_=>False
  |.call c=>match c.callee with
   |.builtin .append=>qz P (Builtin.append_ c.argTypes o.type (c.args.map (cf env))) .s K w
   |.builtin .copy=>qz P (Builtin.copy_ c.argTypes o.type (c.args.map (cf env))) (.i .i64) K w
   |.builtin .clear=>qz P (Builtin.clear_ c.argTypes o.type (c.args.map (cf env))) .v K w
   |.value f=>mQ P (cf env f) (c.args.map (cf env)) w λe w'=>tf P (xn P o.type) λv=>e=.returned v/\K v w'
   | _=>BA P env o K w
  | _=>BA P env o K w
def jK (P:df)(f:bf)(args:ep)(w:an)(R:Ending->aJ):Prop:=
 match f with
 |.func (.yield l) first _=>YieldAt Fence.wide 0 P l (first++args) w R
 |f=>mQ P f args w R
def BO (P:df)(env:ax)(o:Oper)(K:cM)(w:an):Prop:=
 match o.op with
 |.call c=>match c.callee with
  |.value f=>jK P (cf env f) (c.args.map (cf env)) w λe w'=>tf P (xn P o.type) λv=>e=.returned v/\K v w'
  | _=>rO P env o K w
 | _=>rO P env o K w
section
variable {P:df}{env:ax}{o:Oper}{K:cM}{w:an}
def lT (P:df)(env:ax)(o:Oper)(K:cM)(w:an):Prop:=
 (∃ n w',(execOp (cf env) o).run P w=.ok n w'/\Hd K n w')\/
 (∃ f args,(execOp (cf env) o).run P w=.ok (.enter f args) w/\Calls P f args w λe w'=>∃ v,e=.returned v/\K v w')
theorem GT (h:BA P env o K w):lT P env o K w:=.inl (OU _ h)
theorem zg (he:execOp (cf env) o=(do pure (.value (<- s))))(a:s.run P w=.ok v w')(h:K v w'):lT P env o K w:=by
 refine .inl ⟨.value v,w',?_,h⟩
 simp_all
theorem zK {s:Sem Unit}(he:execOp (cf env) o=(do s;pure .skip))(a:s.run P w=.ok () w')(h:K undef w'):lT P env o K w:=by
 refine .inl ⟨.skip,w',?_,h⟩
 simp_all
theorem B6 {i:TypeInfo}(h:P.info? t=some i)(w:an):(typeInfo t).run P w=.ok i w:=by simp[typeInfo,h,program,Sem.run]
theorem run_sizeOf {i:TypeInfo}(h:P.info? t=some i)(w:an):(sizeOf t).run P w=.ok i.size w:=by simp[sizeOf,B6 h]
theorem qk {d:TypeDesc}(h:P.underlying t=some d)(w:an):(Go.isAgg t).run P w=.ok (ht P t) w:=by simp only[Go.isAgg,Sem.run_bind,run_underlying h,Result.andThen_ok,ht,h];cases d<;>rfl
theorem BM (h:ht P t=true):∃ d,P.underlying t=some d:=by
 unfold ht at h
 grind
def nq (P:df)(env:ax)(o:Oper)(K:bf->Prop):Prop:=
 ∃ v,(∀ w,(execOp (cf env) o).run P w=.ok (.value v) w)/\K v
theorem nq.ba (h:nq P env o λv=>K v w):lT P env o K w:=
 let ⟨v,a,h⟩:=h
 .inl ⟨.value v,w,a w,h⟩
theorem zh {K:bf->Prop}(he:execOp (cf env) o=(do pure (.value (<- s))))(a:∀ w,s.run P w=.ok v w)(h:K v):nq P env o K:=by
 refine⟨v,λw=>?_,h⟩
 simp_all
theorem rX {K:bf->Prop}(h:pg P env o K):nq P env o K:=by
 unfold pg at h;split at h
 ·rename_i v al;exact⟨v,LM _ al,h⟩
 grind
theorem Np (g:o.op=.load t x)(h:oO P t (cf env x) K w):lT P env o K w:=by
 have he:execOp (cf env) o=(do pure (.value (<- Instr.loadAt t (cf env x)))):=by unfold execOp;rw[g]
 unfold oO at h;split at h
 ·rename_i bF c;split at h
  ·grind
  ·rename_i inf b;split at h
   ·rename_i a;split at h
    ·rename_i hlen;obtain⟨vs,i,e,h⟩:=uJ h;obtain⟨d,dR⟩:=BM a;refine zg he ?_ h;have f:vs.length=inf.size:=by simp_all
     simp only[Instr.loadAt,c,Instr.sureAddr,pure_bind,loadVar,Sem.run_bind,qk dR,Result.andThen_ok,a,if_true,run_sizeOf b];have:=run_loadCellsFrom (P:=P) (acc:=#[]) e;rw[f]at this;simp[loadCells,this]
    grind
   ·rename_i a;split at h
    ·grind
    ·rename_i d dR;obtain⟨v,al,h⟩:=qZ h;refine zg he ?_ h;simp only[Instr.loadAt,c,Instr.sureAddr,pure_bind,loadVar,Sem.run_bind,qk dR,Result.andThen_ok,a];simp[al]
 grind
theorem L7 {v:Operand}(g:o.op=.store t x v)(h:AD P t (cf env x) (cf env v) (K undef) w):lT P env o K w:=by
 have he:execOp (cf env) o=(do Instr.storeAt t (cf env x) (cf env v);pure .skip):=by unfold execOp;rw[g]
 unfold AD at h;split at h
 ·rename_i bF e;split at h
  ·grind
  ·rename_i inf b;split at h
   ·split at h
    ·rename_i hlen;obtain⟨hw,h⟩:=h;have h:=h _ rfl;refine zK he ?_ h;have c:=pL hlen;simp only[Instr.storeAt,e,Instr.sureAddr,pure_bind,storeVar,Sem.run_bind,run_sizeOf b,Result.andThen_ok,c];simp[tI hw]
    grind
   ·split at h
    ·rename_i d c;obtain⟨i,j,h⟩:=h;have h:=h _ rfl;refine zK he ?_ h;have c:=pL c;have a:(cf env v).cells=#[cf env v]:=by revert d;cases cf env v<;>simp[single,Value.cells]
     have f:bF.add 0=bF:=by simp[Addr.add]
     have hw:ej w bF 0 [cf env v]:=⟨by grind,by grind,d,trivial⟩;simp only[Instr.storeAt,e,Instr.sureAddr,pure_bind,storeVar,Sem.run_bind,run_sizeOf b,Result.andThen_ok,c,a];simp[tI hw,cI,f]
    grind
 grind
theorem OV {K:bf->Prop}(a:o.op=.nilCheck x)(b:cf env x=.pointer p)(h:fO p λbF=>K (.pointer (some bF))):nq P env o K:=by
 cases p with
 |none=>exact h.elim
 |some bF=>
  refine⟨.pointer (some bF),λw=>?_,h⟩
  unfold execOp
  simp_all
theorem Nq {c a b:Operand}{t:Bool}{K:bf->Prop}(e:o.op=.pick c a b)(d:cf env c=.bool t)(h:bif t then K (cf env a)else K (cf env b)):nq P env o K:=by
 refine⟨bif t then cf env a else cf env b,λw=>?_,by grind⟩;unfold execOp;rw[e];simp only[d,asBool,pure_bind]
 simp_all
theorem Nr {t e:bY}{x i:Operand}{K:bf->Prop}(g:o.op=.indexAddr t x i)(f:cf env i=.int k n)
  (hu:P.underlying t=some (.slice e)) (j:cf env x=.slice a len cap) (b:P.info? e=some inf) (h:bx a len n inf.size λbF=>K (.pointer (some bF))):nq P env o K:=by
 have he:execOp (cf env) o=(do pure (.value (<- Instr.indexAt t (cf env x) (cf env i)))):=by unfold execOp;rw[g]
 obtain⟨bF,rfl,c,d,h⟩:=h;refine zh he (λw=>?_) h;simp[Instr.indexAt,f,j,asIntOf,run_underlying hu,c,d,run_sizeOf b]
theorem Ns {t e:bY}{x i:Operand}{bF:aU}{K:bf->Prop}(f:o.op=.indexAddr t x i)(d:cf env i=.int k n)
  (hu:P.underlying t=some (.array len e)) (g:cf env x=.pointer (some bF)) (a:P.info? e=some inf) (h:qd bF len n inf.size λbF=>K (.pointer (some bF))):nq P env o K:=by
 have he:execOp (cf env) o=(do pure (.value (<- Instr.indexAt t (cf env x) (cf env i)))):=by unfold execOp;rw[f]
 obtain⟨b,c,h⟩:=h;refine zh he (λw=>?_) h;simp[Instr.indexAt,d,g,asIntOf,run_underlying hu,b,c,run_sizeOf a,Instr.sureAddr]
theorem tS {d:Int}{v:Option bf}(h:m9 d v=some n):(v=none/\n=d)\/∃ k,v=some (.int k n):=by
 unfold m9 at h
 grind
theorem pf {y:Nat}{c:BoundsCode}(a:0<=n)(b:n<=y)(w:an):(Instr.sliceBound (.int k n) y c).run P w=.ok n.toNat w:=by simp[Instr.sliceBound,asIntOf,a,b]
theorem Kw {i a c:Option bf}{l:Int}(b:m9 0 i=some l)(f:m9 len a=some h)(hm:m9 cap c=some m)(j:¬ (a=none/\c≠none))
  (lM:0<=l) (b1:l<=h) (d:h<=m) (e:m<=cap) (w:an):(Instr.sliceBounds true len cap i a c).run P w=.ok (l.toNat,h.toNat,m.toNat) w:=by
 unfold Instr.sliceBounds;rcases tS hm with⟨rfl,rfl⟩ | ⟨n,rfl⟩
 ·rcases tS f with⟨rfl,rfl⟩ | ⟨k,rfl⟩
  ·rcases tS b with⟨rfl,rfl⟩ | ⟨g,rfl⟩
   ·simp
   ·simp[pf (y:=len) lM b1]
  ·rcases tS b with⟨rfl,rfl⟩ | ⟨g,rfl⟩
   ·simp[pf (y:=cap) b1 d]
   ·simp[pf (y:=cap) (Int.le_trans lM b1) d,pf (y:=h.toNat) lM (by omega:l<=((h.toNat:Nat):Int))]
 ·rcases tS f with⟨rfl,rfl⟩ | ⟨k,rfl⟩
  ·grind
  ·rcases tS b with⟨rfl,rfl⟩ | ⟨g,rfl⟩
   ·simp[pf (y:=cap) (by omega:(0:Int)<=m) e,pf (y:=m.toNat) b1 (by omega:h<=((m.toNat:Nat):Int))]
   ·simp [pf (y:=cap) (by omega:(0:Int)<=m) e,pf (y:=m.toNat) (Int.le_trans lM b1) (by omega:h<=((m.toNat:Nat):Int)),
     pf (y:=h.toNat) lM (by omega:l<=((h.toNat:Nat):Int))]
theorem L8 {t e:bY}{g c d:Option Operand}{K:bf->Prop}{l:Int}(u:o.op=.slice t x g c d)
  (hu:P.underlying t=some (.slice e)) (y:cf env x=.slice a len cap) (b:P.info? e=some inf)
  (s:m9 0 (g.map (cf env))=some l) (q:m9 len (c.map (cf env))=some h) (hm:m9 cap (d.map (cf env))=some m) (r:¬ (c=none/\d≠none))
  (f:ij a len cap l h m inf.size λi l' c'=>K (.slice i l' c')):nq P env o K:=by
 have he:execOp (cf env) o=(do pure (.value (<- Instr.sliceAt t (cf env x) (g.map (cf env)) (c.map (cf env)) (d.map (cf env))))):=by unfold execOp;rw[u]
 obtain⟨lM,b1,j,k,_,f⟩:=f;refine zh he (λw=>?_) f;have p:=Kw (P:=P) s q hm (by simp_all) lM b1 j k w;have n:(m=l)↔(m.toNat=l.toNat):=by omega
 simp only[Instr.sliceAt,Sem.run_bind,run_underlying hu,Result.andThen_ok,Instr.slice,y,p,run_sizeOf b,n];rfl
theorem Qv (n:Nat)(zs:ep)(aq:0<zs.size):(Array.range (n*zs.size)).map (zs[· % zs.size]!)=(ko n zs.toList).toArray:=by
 apply Array.ext
 ·simp[ko]
 ·intro i c e;simp only [Array.size_map,Array.size_range] at c;simp only [Array.getElem_map,Array.getElem_range,List.getElem_toArray];have key:∀ (m i:Nat) (zs:ax) (a:zs≠[]),i<m * zs.length->((List.replicate m zs).flatten)[i]?=zs[i % zs.length]?:=by
   intro m;induction m with
   |zero=>grind
   |succ m k=>
    intro i zs a h;have j:0<zs.length:=wz.2 a;simp only[ux,lD];by_cases f:i<zs.length
    ·grind[List.getElem?_append_left,Nat.mod_eq_of_lt]
    grind[List.getElem?_append_right,Nat.succ_mul,Nat.mod_eq_sub_mod]
  have b:zs.toList≠[]:=by
   grind[Array.length_toList]
  have g:=key n i zs.toList b (by grind);have d:i % zs.size<zs.size:=Nat.mod_lt _ aq;unfold ko
  grind
theorem Nt {t e:bY}{l c:Operand}{q p:oK}{len cap:Int}{z:bf}(n:o.op=.makeSlice t l c)
  (hu:P.underlying t=some (.slice e)) (i:cf env l=.int q len) (g:cf env c=.int p cap) (a:P.info? e=some inf) (aq:inf.zero=some z) (d:z.cells.size=inf.size) (u:0<inf.size)
  (h:rJ len cap inf.bytes (.cells (ko cap.toNat z.cells.toList).toArray e) w λb w1=>K (.slice (some ⟨b,0,none⟩) len.toNat cap.toNat) w1):lT P env o K w:=by
 have he:execOp (cf env) o=(do pure (.value (<- Instr.makeSlice t (cf env l) (cf env c)))):=by unfold execOp;rw[n]
 obtain⟨lM,b1,r,s,h⟩:=h;have h:=h _ _ rfl rfl;refine zg he ?_ h;have wl:IntKind.i64.wrap len=len:=by simp only[IntKind.wrap,IntKind.bits,IntKind.signed];grind
 have pE:IntKind.i64.wrap cap=cap:=by simp only[IntKind.wrap,IntKind.bits,IntKind.signed];grind
 have t1:¬ cap<0:=by omega
 have t2:¬ ((281474976710656:Int)<(inf.bytes:Int)*cap):=by
  grind
 have t3:¬ len<0:=by omega
 have t4:¬ cap<len:=by omega
 have room:(askRoom (cap.toNat*inf.bytes)).run P w=.ok () w:=by
  simp_all
 have j:=Qv cap.toNat z.cells (by omega);rw[d]at j;by_cases k:cap.toNat*inf.size=0
 ·have f:cap.toNat=0:=by
   grind[Nat.mul_eq_zero]
  simp[Instr.makeSlice,run_underlying hu,i,g,asInt,asIntOf,B6 a,wl,pE,t1,t2,t3,t4,run_sizeOf a,f,ko,newRow,newObj,Sem.run]
  grind
 ·simp[Instr.makeSlice,run_underlying hu,i,g,asInt,asIntOf,B6 a,wl,pE,t1,t2,t3,t4,run_sizeOf a,k,zeroValue,aq,d,newRow,newObj,Sem.run,<-j]
theorem JH {t e:bY}(hu:P.underlying t=some (.pointer e))(w:an):(Op.equal t (.pointer p) (.pointer none)).run P w=.ok p.isNone w:=by
 have h:∀ d:Nat,(Op.equalIn (d+1) t (.pointer p) (.pointer none)).run P w=.ok p.isNone w:=λd=>by cases p<;>simp[Op.equalIn,run_underlying hu]
 exact h 9999
theorem JK {t e:bY}{c:Nat}(hu:P.underlying t=some (.slice e))(w:an):(Op.equal t (.slice p l c) (.slice none l' c')).run P w=.ok p.isNone w:=by
 have h:∀ d:Nat,(Op.equalIn (d+1) t (.slice p l c) (.slice none l' c')).run P w=.ok p.isNone w:=λd=>by cases p<;>simp[Op.equalIn,run_underlying hu]
 exact h 9999
theorem oo {u:bY}{K:bf->Prop}(a:o.op=.binOp op t x y u)(b:∀ w,(eqGuard op t x y (cf env x) (cf env y)).run P w=.ok () w)
  (c:∀ w,(binOp op t (cf env x) (cf env y)).run P w=.ok v w) (h:K v):nq P env o K:=by
 have he:execOp (cf env) o=(do pure (.value (<- (do eqGuard op t x y (cf env x) (cf env y);binOp op t (cf env x) (cf env y))))):=by unfold execOp;rw[a]
 refine zh he (λw=>?_) h
 simp_all
theorem L9 {g:FuncId}(j:o.op=.call c)(d:c.callee=.value f)(i:cf env f=.func (.func g) first captured)(a:iV P g=true)
  (h:Calls P g (first++c.args.map (cf env)++captured) w λe w'=>tf P (xn P o.type) λv=>e=.returned v/\K v w'):lT P env o K w:=by
 refine .inr ⟨g,first++c.args.map (cf env)++captured,?_,h.mono λe w' h=>GM h⟩;unfold iV at a;cases b:P.funcs[g]? with
 |none=>grind
 |some fn=>
  simp only[b,gL,zv]at a;have k:fn.body≠none:=by
   grind
  have l:fn.name≠ "runtime.NumGoroutine" :=by grind
  unfold execOp;rw[j];simp only[resolve,d,i,Deferred.ofValue,pure_bind,invoke,callFunc]
  simp_all
theorem B7 {b:Builtin}{k:mc}(e:o.op=.call c)(d:c.callee=.builtin b)
  (a:∀ cs,builtin b c.argTypes o.type cs (c.args.map (cf env))=(do pure (.value (<- s))))
  (h:qz P s k K w):lT P env o K w:=by
 obtain⟨v,w',f,h⟩:=qZ h;refine .inl ⟨.value v,w',?_,h⟩;unfold execOp;rw[e];simp only[resolve,d,pure_bind,invoke,a]
 simp_all
theorem y7 {c:oK}{a b:Int}:(eqGuard op t x y (.int k a) (.int c b)).run P w=.ok () w:=by cases op<;>rfl
theorem De:(eqGuard op t x y (.pointer a) (.pointer b)).run P w=.ok () w:=by cases op<;>rfl
theorem Ej {c:Nat}:(eqGuard op t x y (.slice a l c) (.slice b l' c')).run P w=.ok () w:=by cases op<;>rfl
theorem Df {K:bf->Prop}(h:xp P env o K):nq P env o K:=by
 unfold xp at h;split at h
 ·rename_i c;split at h
  ·rename_i j;exact Nq c j h
  grind
 ·rename_i c;split at h
  ·rename_i a;exact OV c a h
  grind
 ·rename_i c;split at h
  ·rename_i i;split at h
   ·rename_i hu;split at h
    ·rename_i a d;exact Nr c i hu a d h
    grind
   ·rename_i hu;split at h
    ·rename_i a d;exact Ns c i hu a d h
    grind
   grind
  grind
 ·rename_i c;split at h
  ·rename_i hu;split at h
   ·rename_i a d;split at h
    ·rename_i l k hm n;refine L8 c hu a d l k hm ?_ h
     simp_all
    grind
   grind
  ·exact rX h
 ·rename_i c;split at h
  ·rename_i a b;split at h
   ·rename_i hu;exact oo c (λw=>by rw[a,b];exact De) (λw=>by rw[a,b];simp[binOp,JH hu]) h
   grind
  ·rename_i a b;split at h
   ·rename_i hu;exact oo c (λw=>by rw[a,b];exact De) (λw=>by rw[a,b];simp[binOp,JH hu]) h
   grind
  ·rename_i a b;split at h
   ·rename_i hu;exact oo c (λw=>by rw[a,b];exact Ej) (λw=>by rw[a,b];simp[binOp,JK hu]) h
   grind
  ·rename_i a b;split at h
   ·rename_i hu;exact oo c (λw=>by rw[a,b];exact Ej) (λw=>by rw[a,b];simp[binOp,JK hu]) h
   grind
  ·rename_i a b;split at h
   ·exact rX h
   ·obtain⟨rfl,e,h⟩:=h;exact oo c (λw=>by rw[a,b];exact y7) (λw=>by rw[a,b];simp[binOp,Op.intDiv,e]) h
  ·rename_i a b;split at h
   ·exact rX h
   ·obtain⟨rfl,e,h⟩:=h;exact oo c (λw=>by rw[a,b];exact y7) (λw=>by rw[a,b];simp[binOp,Op.intDiv,e]) h
  ·rename_i a b;split at h
   ·exact rX h
   ·obtain⟨e,h⟩:=h;have f:¬ _<(0:Int):=Int.not_lt.2 e;exact oo c (λw=>by rw[a,b];exact y7) (λw=>by rw[a,b];simp only[binOp,Op.shift,f,if_false];rfl) h
  ·rename_i a b;split at h
   ·exact rX h
   ·obtain⟨e,h⟩:=h;have f:¬ _<(0:Int):=Int.not_lt.2 e;exact oo c (λw=>by rw[a,b];exact y7) (λw=>by rw[a,b];simp only[binOp,Op.shift,f,if_false];rfl) h
  ·rename_i a b;obtain⟨r,g,h⟩:=h;exact oo c (λw=>by rw[a,b];exact(g w).1 _ _ _) (λw=>by rw[a,b];exact(g w).2.1) h
  ·rename_i a b;obtain⟨r,g,h⟩:=h;exact oo c (λw=>by rw[a,b];exact(g w).1 _ _ _) (λw=>by rw[a,b];exact(g w).2.2) h
  ·exact rX h
 ·exact rX h
theorem zT {k:mc}(he:execOp (cf env) o=(do pure (.value (<- s))))(h:qz P s k K w):lT P env o K w:=by obtain⟨v,w',a,h⟩:=qZ h;exact zg he a h
theorem ud (h:rO P env o K w):lT P env o K w:=by
 unfold rO at h;split at h
 ·rename_i e;refine zT (s:=Jw env o.op) ?_ h;unfold Jv at e;split at e
  ·rename_i a;unfold execOp;rw[a];rfl
  ·cases e
 split at h
 ·exact(Df h).ba
 split at h
 ·rename_i a;exact zT (by unfold execOp;rw[a]) h
 ·rename_i a;exact zT (by unfold execOp;rw[a]) h
 ·rename_i a;obtain⟨w',k,h⟩:=h;exact zK (by unfold execOp;rw[a]) k h
 ·rename_i a;exact Np a h
 ·rename_i a;exact L7 a h
 ·rename_i a;split at h
  ·rename_i hu j b;split at h
   ·rename_i d;split at h
    ·rename_i g;split at h
     ·grind
     ·rename_i c;simp only[gL]at c;exact Nt a hu j b d g (pL c.1) (Nat.le_of_ble_eq_true c.2) h
    grind
   grind
  grind
 ·rename_i a;split at h
  ·rename_i b;exact B7 a b (λ_=>rfl) h
  ·rename_i b;exact B7 a b (λ_=>rfl) h
  ·rename_i b;exact B7 a b (λ_=>rfl) h
  ·rename_i b;unfold mQ at h;split at h
   ·rename_i i;split at h
    ·rename_i f;exact L9 a b i f h
    grind
   grind
  ·exact GT h
 ·exact GT h
theorem Qw {Q:Exit->Act->aJ}(h:lT P env o K w)(b:∀ v w',K v w'->next (act (put env o.dst v)) w'):o.wp P (act env) w next Q:=by
 unfold Oper.wp;rw[tR];rcases h with⟨n,w',a,h⟩ | ⟨f,args,a,h⟩
 ·rw[a];cases n with
  |value v=>simp only[Oper.upon,lQ];exact b _ _ h
  |skip=>simp only[Oper.upon,lQ];exact b _ _ h
  | _=>exact h.elim
 ·rw[a];simp only[Oper.upon];refine h.mono λe w' ⟨v,he,h⟩=>?_
  subst he;simp only[lQ]
  grind
theorem v9 {Q:Exit->Act->aJ}(h:lT P env o K w)(b:∀ v w',K v w'->next (act (put env o.dst v)) w'):o.wpIn Fence.wide 0 P (act env) w next Q:=by
 refine⟨λ_ _=>trivial,?_⟩;show o.uponIn Fence.wide 0 P (act env) next Q ((execOp (act env).eval o).run P w)
 rw[tR];rcases h with⟨n,w',a,h⟩ | ⟨f,args,a,h⟩
 ·rw[a];cases n with
  |value v=>simp only[Oper.uponIn,lQ];exact b _ _ h
  |skip=>simp only[Oper.uponIn,lQ];exact b _ _ h
  | _=>exact h.elim
 ·rw[a];simp only[Oper.uponIn];refine⟨λc=>by simp[Fence.wide]at c,callsIn_wide.2 (h.mono λe w' ⟨v,he,h⟩=>?_)⟩;subst he;simp only[lQ]
  grind
theorem L_ {Q:Exit->Act->aJ}(j:o.op=.call c)(a:c.callee=.value f)(g:cf env f=.func (.yield l) first captured)
  (h:YieldAt Fence.wide 0 P l (first++c.args.map (cf env)) w λe w'=>tf P (xn P o.type) λv=>e=.returned v/\K v w') (n:∀ v w',K v w'->next (act (put env o.dst v)) w'):o.wpIn Fence.wide 0 P (act env) w next Q:=by
 refine⟨λ_ _=>trivial,?_⟩;show o.uponIn Fence.wide 0 P (act env) next Q ((execOp (act env).eval o).run P w)
 rw[tR];obtain⟨fn,tmps,assign,body,b,d⟩:=h;have k:(execOp (cf env) o).run P w=.ok (.round l fn tmps assign body) w:=by
  unfold execOp;rw[j];simp only[resolve,a,g,Deferred.ofValue,pure_bind,invoke]
  grind
 rw[k];simp only[Oper.uponIn];refine⟨λa=>by simp[Fence.wide]at a,d.mono λe w' h=>?_⟩;obtain⟨v,he,i⟩:=GM h;subst he;simp only[lQ]
 grind
theorem OW {Q:Exit->Act->aJ}(h:BO P env o K w)(a:∀ v w',K v w'->next (act (put env o.dst v)) w'):o.wpIn Fence.wide 0 P (act env) w next Q:=by
 unfold BO at h;split at h
 ·rename_i c d;split at h
  ·rename_i f b;unfold jK at h;split at h
   ·rename_i l first captured e
    exact L_ d b e h a
   ·refine v9 (ud ?_) a;cases o with
    |mk dst op type pos after guard=>
     cases c with
     |mk callee args argTypes=>simp only at d b;subst d;subst b;exact h
  ·exact v9 (ud h) a
 ·exact v9 (ud h) a
end
def sT (ops:gK)(j:Nat):Option Tmp:=match ops[j]? with | some o=>o.dst | none=>none
def km (P:df)(all:gK):gK->ax->(ax->aJ)->aJ
 | [],env,K,w=>K env w
 |o::rest,env,K,w=>
  match o.guard with
  |none=>BO P env o (λv w'=>km P all rest (put env o.dst v) K w') w
  |some (j,want)=>match sT all j with
   |none=>False
   |some d=>match env[d]? with
    |some (.bool b)=>
     bif b then(match want with
      |true=>rO P (env.set d (.bool true)) o (λv w'=>km P all rest (put (env.set d (.bool true)) o.dst v) K w') w
      |false=>km P all rest (put (env.set d (.bool true)) o.dst undef) K w)
     else(match want with
      |true=>km P all rest (put (env.set d (.bool false)) o.dst undef) K w
      |false=>rO P (env.set d (.bool false)) o (λv w'=>km P all rest (put (env.set d (.bool false)) o.dst v) K w') w)
    |some _=>km P all rest (put env o.dst undef) K w
    |none=>False
theorem CA {ops:Array Oper}{o:Oper}(a:o.guard=none):Region.wanted o (yielded ops (act env).tmps)=true:=by simp[Region.wanted,a]
theorem CB {j:Nat}{d:Tmp}(h:sT all j=some d):yielded all.toArray (act env).tmps j=match env[d]? with | some (.bool b)=>some b | _=>none:=by
 unfold yielded sT at *;cases a:all[j]? with
 |none=>grind
 |some o=>
  simp only[a]at h;simp only[zu,a,Option.bind_some,h,act]
  grind
theorem pz {P:df}{all:gK}{Q:Exit->Act->aJ}:∀ (l:gK) (env:ax) (w:an) (K:ax->aJ),
  (∀ env w,K env w->Q .normal (act env) w)->km P all l env K w->wpListIn Fence.wide 0 P all.toArray Q l (act env) w
 | [],env,w,K,e,h=>e _ _ h
 |o::rest,env,w,K,e,h=>by
  unfold km at h;unfold wpListIn;cases c:o.guard with
  |none=>simp only[c]at h;rw[bh (CA c)];exact OW h λv w' h=>pz rest _ _ K e h
  |some p=>
   obtain⟨j,want⟩:=p;simp only[c]at h;cases dR:sT all j with
   |none=>grind
   |some d=>
    simp only[dR]at h;have f:=CB (env:=env) dR;cases he:env[d]? with
    |none=>grind
    |some v=>
     have a:env.set d v=env:=by
      apply i_
      grind
     cases v with
     |bool b=>
      simp only[he]at h;cases b with
      |true=>
       rw[cond_true,a]at h;cases want with
       |true=>simp only at h;rw[bh (by simp[Region.wanted,c,f,he])];exact v9 (ud h) λv w' h=>pz rest _ _ K e h
       |false=>simp only at h;rw[aQ (by simp[Region.wanted,c,f,he]),lQ];exact⟨λ_ _=>trivial,pz rest _ _ K e h⟩
      |false=>
       rw[cond_false,a]at h;cases want with
       |true=>simp only at h;rw[aQ (by simp[Region.wanted,c,f,he]),lQ];exact⟨λ_ _=>trivial,pz rest _ _ K e h⟩
       |false=>simp only at h;rw[bh (by simp[Region.wanted,c,f,he])];exact v9 (ud h) λv w' h=>pz rest _ _ K e h
     | _=>simp only[he]at h;rw[aQ (by simp[Region.wanted,c,f,he]),lQ];exact⟨λ_ _=>trivial,pz rest _ _ K e h⟩
section
variable {P:df}{ops:Array Oper}{Q:Exit->Act->aJ}{S:aJ}{nd:Nat->Bool}
def sm (P:df)(ops:Array Oper)(Q:Exit->Act->aJ)(S:aJ)(nd:Nat->Bool):Nat->Array Bool->Act->aJ
 | 0,dn,a,w=>Region.ready .any ops dn=[]/\Q .normal a w
 |fuel+1,dn,a,w=>
  (Region.ready .any ops dn=[]->Q .normal a w)/\
  ∀ i ∈ Region.ready .any ops dn,wpOp P ops Q i (λb w'=>(nd i=true->S w->S w')/\sm P ops Q S nd fuel (dn.setIfInBounds i true) b w') a w
theorem vW:∀ (fuel:Nat) (dn:Array Bool) (a:Act) (w:an),sm P ops Q S nd fuel dn a w->wpAny P .any ops Q fuel dn a w
 | 0,_,_,_,h=>h
 |fuel+1,_,_,_,h=>⟨h.1,λi d=>wpOp_mono (λb w' c=>vW fuel _ b w' c.2) (h.2 i d)⟩
def lU (ops:Array Oper)(dn:Array Bool):Prop:=∀ j a,ops[j]?=some a->dn.getD j false=true->∀ e ∈ a.after,Region.binds .any e=true->dn.getD e.on false=true
theorem lU.set {dn:Array Bool}{i:Nat}(h:lU ops dn)(g:i ∈ Region.ready .any ops dn):lU ops (dn.setIfInBounds i true):=by
 intro j l c f e he d;by_cases b:j=i
 ·subst b;obtain⟨_,o,k,a⟩:=mem_ready.1 g;rw[k]at c;cases c;exact getD_set_true (a e he d)
 ·rw[getD_set_ne false (Ne.symm b)]at f;exact getD_set_true (h j l c f e he d)
theorem Kg {i:Nat}{L:Bool}(D:ops[i]?=some lh)(l:∀ (j:Nat) (o:Oper) cs b,ops[j]?=some o->o.op≠.select cs b)
  (dQ:∀ c a w,Q (.panic c) (a.put lh.dst v) w->Q (.panic c) a w) :
  ∀ (fuel:Nat) (dn:Array Bool) (a:Act) (w:an),lU ops dn->
   (∀ (l2:Array Bool) j p,lU ops l2->(∀ k,dn.getD k false=true->l2.getD k false=true)->l2.getD i true=false->j ∈ Region.ready .any ops l2->ops[j]?=some p->j≠i->dn.getD j true=false->(∀ e ∈ p.after,Region.binds .any e=true->e.on≠i)->lh.apart ops p=true/\(L=true->nd j=true))->
   i ∈ Region.ready .any ops dn->YieldsIf P ops (λw=>L=true->S w) lh v a->(L=true->S w)->
   sm P ops Q S nd fuel (dn.setIfInBounds i true) (a.put lh.dst v) w->sm P ops Q S nd (fuel+1) dn a w:=by
 intro fuel;induction fuel with
 |zero=>
  intro dn a w _ _ B C A H;refine⟨λh=>(by grind),λj r=>?_⟩;by_cases d:j=i
  ·subst d;exact C.wpOp D A ⟨λ_ h=>h,H⟩
  ·have:=ready_mono r d;rw[H.1]at this
   grind
 |succ fuel X=>
  intro dn a w u f B C A H;refine⟨λh=>(by grind),λj r=>?_⟩;by_cases d:j=i
  ·subst d;exact C.wpOp D A ⟨λ_ h=>h,H⟩
  ·have G:=H.2 j (ready_mono r d);obtain ⟨y,p,n,t⟩:=mem_ready.1 r;have z:∀ e ∈ p.after,Region.binds .any e=true->e.on≠i:=λe he R heq=>by
    have G:=t e he R;have Y:=(mem_ready.1 B).1
    grind
   have x:=f dn j p u (λ_ h=>h) (mem_ready.1 B).1 r n d y z;have K:=wpOp_putIf n x.1 (λcs b=>l i lh cs b D) (λcs b=>l j p cs b n) dQ C G;have g:∀ (l2:Array Bool) k ok,lU ops l2->(∀ q,(dn.setIfInBounds j true).getD q false=true->l2.getD q false=true)->l2.getD i true=false->k ∈ Region.ready .any ops l2->ops[k]?=some ok->k≠i->(dn.setIfInBounds j true).getD k true=false->
     (∀ e ∈ ok.after,Region.binds .any e=true->e.on≠i)->lh.apart ops ok=true/\(L=true->nd k=true):=λl2 k ok s M N O U E W F=>by
    refine f l2 k ok s (λq V=>M q (getD_set_true V)) N O U E ?_ F;by_cases T:j=k
    ·grind
    simp_all
   refine wpOp_mono (λJ w' s=>⟨s.2.1,X (dn.setIfInBounds j true) J w' (u.set r) g (ready_mono B (Ne.symm d)) s.1 (λI=>s.2.1 (x.2 I) (A I)) ?_⟩) K
   grind[Array.setIfInBounds_comm]
end
def lk:Op->Bool
 |.load ..=>true
 | _=>false
def sU (ops:gK)(j i:Nat):Bool:=match ops[j]? with
 |some o=>o.after.any λe=>Region.binds .any e && e.on == i
 |none=>false
def rK (ops:gK)(j:Nat):Bool:=(List.range ops.length).any λi=>i != j && (match ops[i]? with | some o=>lk o.op | none=>false) && !sU ops j i
def sn (m:c6)(o:Oper):c6:=m++[o.after.toList.foldl (λx e=>match Region.binds .any e with | true=>x ||| (1 <<< e.on) ||| m.getD e.on 0 | false=>x) 0]
def He (ops:gK):c6:=ops.foldl sn []
def sA (ops:gK)(j i:Nat):Bool:=((He ops).getD j 0).testBit i
def BL (ops:gK)(j:Nat):Bool:=(List.range ops.length).any λi=>i != j && (match ops[i]? with | some o=>lk o.op | none=>false) && !sA ops j i && !sA ops i j
def R2:Op->Bool
 |.call ..=>true
 | _=>false
def R6:Op->Bool
 |.indexAddr ..=>true
 | _=>false
def Af (ops:gK):Bool:=ops.any λo=>lk o.op && o.after.any λe=>match ops[e.on]? with
 |some p=>R6 p.op && p.after.any λa=>match ops[a.on]? with
  |some q=>R2 q.op
  |none=>false
 |none=>false
def xq (ops:gK):Bool->Nat->Bool
 |true=>BL ops
 |false=>rK ops
def sV (nd:Nat->Bool)(ops:gK)(dn:Array Bool)(i:Nat):Bool:=
 nd i || (List.range ops.length).any λk=>!dn.getD k true && k != i && (match ops[k]? with | some o=>!w_ o.op | none=>false) && nd k
def Qx (ops:gK):Bool:=ops.any λo=>lk o.op
def Hf (P:df)(S:aJ)(t:bY)(x:bf)(K:bf->Prop):Prop:=
 match x with
 |.pointer (some bF)=>
  match P.info? t with
  |none=>False
  |some inf=>
   match ht P t with
   |true=>match Nat.beq (rH P 8 t).length inf.size with
    |true=>ry (rH P 8 t) λvs=>(∀ w,S w->cn w bF 0 vs)/\K (.agg vs.toArray)
    |false=>False
   |false=>match P.underlying t with
    |none=>False
    |some d=>qb (vG (some d)) λv=>(∀ w,S w->w.cell? bF=some v)/\K v
 | _=>False
def AE (P:df)(S:aJ)(env:ax)(o:Oper)(K:bf->Prop):Prop:=
 match o.op with
 |.load t x=>Hf P S t (cf env x) K
 | _=>xp P env o K
def xa (all:gK)(env:ax)(g:Option (Nat×Bool))(run skip:ax->Prop):Prop:=
 match g with
 |none=>run env
 |some (j,want)=>match sT all j with
  |none=>False
  |some d=>match env[d]? with
   |some (.bool b)=>
    bif b then(match want with | true=>run (env.set d (.bool true)) | false=>skip (env.set d (.bool true)))
    else(match want with | true=>skip (env.set d (.bool false)) | false=>run (env.set d (.bool false)))
   |some _=>skip env
   |none=>False
def Bq:List Prop->Prop
 | []=>True
 | [p]=>p
 |p::cx=>p/\Bq cx
theorem Ek:∀ {cx:List Prop} {p:Prop},Bq cx->p ∈ cx->p
 | [q],p,h,hm=>by simp only[sl]at hm;subst hm;exact h
 |q::r::rs,p,h,hm=>by
  rcases f0.1 hm with rfl | hm
  ·exact h.1
  ·exact Ek h.2 hm
def Vz:Bool->Bool->Prop->Prop->Prop
 |true,true,s,p=>s/\p
 |true,false,_,p=>p
 |false,false,_,p=>p
 |false,true,_,_=>False
def Bl:Bool->Prop->Prop
 |true,_=>False
 |false,p=>p
def pG (P:df)(ops:gK)(nd:Nat->Bool)(S:aJ)(K:ax->aJ):Nat->Array Bool->Bool->ax->aJ
 | 0,dn,_,env,w=>Bl (!(Region.ready .any ops.toArray dn).isEmpty) (K env w)
 |fuel+1,dn,a,env,w=>
  match (Region.ready .any ops.toArray dn).find? (λi=>match ops[i]? with | some o=>(w_ o.op || (lk o.op && a)) && Region.free .any ops.toArray dn i | none=>false)with
  |some i=>match ops[i]? with
   |none=>False
   |some o=>xa ops env o.guard (λenv=>AE P S env o λv=>pG P ops nd S K fuel (dn.setIfInBounds i true) a (put env o.dst v) w)
     (λenv=>pG P ops nd S K fuel (dn.setIfInBounds i true) a (put env o.dst undef) w)
  |none=>match (Region.ready .any ops.toArray dn)with
   | []=>K env w
   |rs=>Bq (rs.map λi=>match ops[i]? with
    |none=>False
    |some o=>xa ops env o.guard (λenv=>rO P env o (λv w'=>Vz a (sV nd ops dn i) (S w') (pG P ops nd S K fuel (dn.setIfInBounds i true) (a && sV nd ops dn i) (put env o.dst v) w')) w)
     (λenv=>pG P ops nd S K fuel (dn.setIfInBounds i true) a (put env o.dst undef) w))
theorem My {S:aJ}{o:Oper}(h:AE P S env o K):∃ v,(∀ w,(lk o.op=true->S w)->(execOp (cf env) o).run P w=.ok (.value v) w)/\K v:=by
 unfold AE at h;split at h
 ·rename_i t x e;have he:execOp (cf env) o=(do pure (.value (<- Instr.loadAt t (cf env x)))):=by unfold execOp;rw[e]
  have i:lk o.op=true:=by rw[e];rfl
  unfold Hf at h;split at h
  ·rename_i bF f;split at h
   ·grind
   ·rename_i inf b;split at h
    ·rename_i a;split at h
     ·rename_i hlen;obtain⟨vs,j,g,h⟩:=uJ h;obtain⟨d,dR⟩:=BM a;refine⟨_,λw c=>?_,h⟩;have k:vs.length=inf.size:=by simp_all
      rw[he,Sem.run_bind];simp only[Instr.loadAt,f,Instr.sureAddr,pure_bind,loadVar,Sem.run_bind,qk dR,Result.andThen_ok,a,if_true,run_sizeOf b];have:=run_loadCellsFrom (P:=P) (acc:=#[]) (g w (c i));rw[k]at this;simp[loadCells,this]
     grind
    ·rename_i a;split at h
     ·grind
     ·rename_i d dR;obtain⟨v,al,h⟩:=qZ h;refine⟨_,λw c=>?_,h⟩;rw[he,Sem.run_bind];simp only[Instr.loadAt,f,Instr.sureAddr,pure_bind,loadVar,Sem.run_bind,qk dR,Result.andThen_ok,a]
      simp_all
  grind
 ·obtain⟨v,l,h⟩:=Df h
  grind
theorem CC {o:Oper}{run skip:ax->Prop}(h:xa all env o.guard run skip) :
  (Region.wanted o (yielded all.toArray (act env).tmps)=true/\run env)\/(Region.wanted o (yielded all.toArray (act env).tmps)=false/\skip env):=by
 unfold xa at h;cases c:o.guard with
 |none=>simp only[c]at h;exact .inl ⟨CA c,h⟩
 |some p=>
  obtain⟨j,want⟩:=p;simp only[c]at h;cases dR:sT all j with
  |none=>grind
  |some d=>
   simp only[dR]at h;have e:=CB (env:=env) dR;cases he:env[d]? with
   |none=>grind
   |some v=>
    have a:env.set d v=env:=by
     apply i_
     grind
    cases v with
    |bool b=>
     simp only[he]at h;cases b with
     |true=>
      rw[cond_true,a]at h;cases want with
      |true=>exact .inl ⟨by simp[Region.wanted,c,e,he],h⟩
      |false=>exact .inr ⟨by simp[Region.wanted,c,e,he],h⟩
     |false=>
      rw[cond_false,a]at h;cases want with
      |true=>exact .inr ⟨by simp[Region.wanted,c,e,he],h⟩
      |false=>exact .inl ⟨by simp[Region.wanted,c,e,he],h⟩
    | _=>simp only[he]at h;exact .inr ⟨by simp[Region.wanted,c,e,he],h⟩
theorem R7 {i j:Nat}{b:Oper}(f:ops[i]?=some lh)(g:ops[j]?=some b)(h:lk lh.op=true)(c:j≠i)(d:∀ e ∈ b.after,Region.binds .any e=true->e.on≠i):rK ops j=true:=by
 unfold rK;rw[Cp];have a:i<ops.length:=by
  grind
 refine⟨i,gS.2 a,?_⟩;have hw:sU ops j i=false:=by
  unfold sU
  grind
 grind
def xB (ops:gK)(nd:Nat->Bool):Prop:=∀ (dn l2:Array Bool) (i j:Nat) (lh a:Oper),ops[i]?=some lh->ops[j]?=some a->lk lh.op=true->lU ops.toArray dn->lU ops.toArray l2->
 (∀ k,dn.getD k false=true->l2.getD k false=true)->i ∈ Region.ready .any ops.toArray dn->l2.getD i true=false->j ∈ Region.ready .any ops.toArray l2->j≠i->(∀ e ∈ a.after,Region.binds .any e=true->e.on≠i)->nd j=true
theorem Ag (ops:gK):xB ops (rK ops):=λ_ _ i j lh f c d e _ _ _ _ _ _ a b=>R7 c d e a b
inductive mh (ops:gK):Nat->a4
 |one {j o e}:ops[j]?=some o->e ∈ o.after->Region.binds .any e=true->mh ops j e.on
 |more {j o e i}:ops[j]?=some o->e ∈ o.after->Region.binds .any e=true->mh ops e.on i->mh ops j i
theorem mh.dn {l:Array Bool}(c:lU ops.toArray l){j i:Nat}(h:mh ops j i):l.getD j false=true->l.getD i false=true:=by
 induction h with
 |one d he a=>exactλb=>c _ _ (by grind) b _ he a
 |more d he a _ e=>exactλb=>e (c _ _ (by grind) b _ he a)
theorem mh.ready {l:Array Bool}(f:lU ops.toArray l){j i:Nat}(h:mh ops j i)(g:j ∈ Region.ready .any ops.toArray l):l.getD i false=true:=by
 obtain⟨_,o,d,b⟩:=mem_ready.1 g;cases h with
 |one a he c=>
  grind
 |more a he c e=>simp only[zu]at d;rw[d]at a;cases a;exact e.dn f (b _ he c)
theorem CD {ops:gK}{m:c6}{k:Nat}{o:Oper}(d:ops[k]?=some o)(hm:∀ j i,(m.getD j 0).testBit i=true->mh ops j i):∀ (es:List Edge) (x:Nat),(∀ e ∈ es,e ∈ o.after)->(∀ i,x.testBit i=true->mh ops k i)->
  ∀ i,(es.foldl (λx e=>match Region.binds .any e with | true=>x ||| (1 <<< e.on) ||| m.getD e.on 0 | false=>x) x).testBit i=true->mh ops k i
 | [],x,_,f,i,h=>f i h
 |e::es,x,he,f,i,h=>by
  rw[sf]at h;refine CD d hm es _ (λg l=>he g (fG _ l)) (λi a=>?_) i h;have c:=he e (fR ..);cases b:Region.binds .any e with
  |false=>grind
  |true=>
   rw[b]at a;simp only[Nat.testBit_or,Bool.or_eq_true]at a;rcases a with(a | a) | a
   ·grind
   ·rw[Nat.one_shiftLeft,Nat.testBit_two_pow]at a;have:e.on=i:=by grind
    rw[<-this];exact .one d c b
   ·exact .more d c b (hm _ _ a)
theorem El (ops:gK):∀ j i,((He ops).getD j 0).testBit i=true->mh ops j i:=by
 have main:∀ n,n<=ops.length->((ops.take n).foldl sn []).length=n/\∀ j i,(((ops.take n).foldl sn []).getD j 0).testBit i=true->mh ops j i:=by
  intro n;induction n with
  |zero=>grind
  |succ n g=>
   intro k;obtain⟨a,b⟩:=g (by omega);obtain⟨o,c⟩:∃ o,ops[n]?=some o:=⟨_,b2 (by omega)⟩;rw[zB,c,Option.toList_some,List.foldl_append];generalize (ops.take n).foldl sn []=M at a b ⊢;simp only[sf,List.foldl_nil];refine⟨by unfold sn;grind,λj i h=>?_⟩;unfold sn at h;rw[hO,sg]at h;split at h
   ·grind
   ·rename_i f;by_cases d:j=n
    ·subst d;rw[a,uj]at h;exact CD c b _ 0 (λe he=>by grind) (λi h=>by grind) i h
    grind
 have:=main ops.length (db _);rw[ja]at this;exact this.2
theorem GN {l:Array Bool}{k:Nat}(h:l.getD k true=false):¬ l.getD k false=true:=by
 grind
theorem R3 (ops:gK):xB ops (BL ops):=by
 intro dn l2 i j lh r h p q g c b e f a k l;unfold BL;rw[Cp];have d:i<ops.length:=(sh.1 h).1;refine⟨i,gS.2 d,?_⟩;have n:sA ops j i=false:=by
  cases hw:sA ops j i with
  |false=>rfl
  |true=>exact cp ((El ops j i hw).ready c a) (GN f)
 have o:sA ops i j=false:=by
  cases hw:sA ops i j with
  |false=>rfl
  |true=>exact cp (b _ ((El ops i j hw).ready g e)) (GN (mem_ready.1 a).1)
 grind
theorem Em (ops:gK):∀ b,xB ops (xq ops b)
 |true=>R3 ops
 |false=>Ag ops
theorem og {P:df}{ops:gK}{nd:Nat->Bool}(l:xB ops nd){S:aJ}{K:ax->aJ}{Q:Exit->Act->aJ}(y:Region.noSelect ops.toArray=true)
  (B:∀ env w,K env w->Q .normal (act env) w) (dQ:∀ c a w,¬ Q (.panic c) a w) :
  ∀ (fuel:Nat) (dn:Array Bool) (d:Bool) (env:ax) (w:an),lU ops.toArray dn->(d=true->S w)->pG P ops nd S K fuel dn d env w->sm P ops.toArray Q S nd fuel dn (act env) w
 | 0,dn,d,env,w,g,z,h=>by
  unfold pG at h;unfold sm;cases D:Region.ready .any ops.toArray dn with
  |nil=>simp[D,Bl]at h;grind
  |cons x xs=>simp[D,Bl]at h
 |fuel+1,dn,d,env,w,g,z,h=>by
  unfold pG at h;split at h
  ·rename_i i q;have f:=List.mem_of_find?_eq_some q;have J:=List.find?_some q;cases E:ops[i]? with
   |none=>grind
   |some o=>
    simp only[E]at h;simp only[E,gL,Bool.or_eq_true]at J;have u:ops.toArray[i]?=some o:=by grind
    have s:lk o.op=true->d=true:=by
     intro C;rcases J.1 with I | I
     ·revert I C;cases o.op<;>simp[w_,lk]
     grind
    have r:∀ (l2:Array Bool) j F,lU ops.toArray l2->(∀ k,dn.getD k false=true->l2.getD k false=true)->l2.getD i true=false->j ∈ Region.ready .any ops.toArray l2->ops.toArray[j]?=some F->j≠i->dn.getD j true=false->(∀ e ∈ F.after,Region.binds .any e=true->e.on≠i)->o.apart ops.toArray F=true/\(lk o.op=true->nd j=true):=
     λl2 j F N O R T V H M t=>⟨Region.free_spec u J.2 j F V H M t,λC=>l dn l2 i j o F E (by grind) C g N O f R T H t⟩
    rcases CC h with⟨hw,h⟩ | ⟨hw,h⟩
    ·obtain⟨v,D,h⟩:=My h;refine Kg (L:=lk o.op) (v:=v) u (Region.noSelect_spec y) (λc a w h=>(dQ _ _ _ h).elim) fuel dn (act env) w g r f ?_ (λC=>z (s C)) ?_
     ·exact .inl ⟨hw,λw z=>by rw[tR];grind⟩
     ·rw[lQ];exact og l y B dQ fuel _ d _ w (g.set f) z h
    ·refine Kg (L:=lk o.op) (v:=undef) u (Region.noSelect_spec y) (λc a w h=>(dQ _ _ _ h).elim) fuel dn (act env) w g r f (.inr ⟨hw,rfl⟩) (λC=>z (s C)) ?_;rw[lQ];exact og l y B dQ fuel _ d _ w (g.set f) z h
  ·cases D:Region.ready .any ops.toArray dn with
   |nil=>simp only[D]at h;exact⟨λ_=>B _ _ h,by grind⟩
   |cons x xs=>
    simp only[D]at h;refine⟨λX=>(by grind),λi A=>?_⟩;have n:=g.set A;rw[D]at A;have u:=Ek h (cW.2 ⟨i,A,rfl⟩);cases E:ops[i]? with
    |none=>grind
    |some o=>
     simp only[E]at u;unfold wpOp;simp only[zu,E];rcases CC u with⟨hw,u⟩ | ⟨hw,u⟩
     ·rw[bh hw];refine .inl (Qw (ud u) λv w' h=>?_);have t:sV nd ops dn i=false->¬ nd i=true:=by intro U W;simp[sV,W]at U
      cases p:d with
      |true=>
       cases b:sV nd ops dn i with
       |true=>rw[p,b]at h;exact⟨λ_ _=>h.1,og l y B dQ fuel _ _ _ w' n (λ_=>h.1) h.2⟩
       |false=>rw[p,b]at h;exact⟨λG=>cp G (t b),og l y B dQ fuel _ _ _ w' n (λG=>by grind) h⟩
      |false=>
       cases b:sV nd ops dn i with
       |true=>rw[p,b]at h;exact h.elim
       |false=>rw[p,b]at h;exact⟨λG=>cp G (t b),og l y B dQ fuel _ _ _ w' n (λG=>by grind) h⟩
     ·rw[aQ (by grind),lQ];exact⟨λ_ h=>h,og l y B dQ fuel _ d _ w n z u⟩
def uY (P:df)(ops:gK)(env:ax)(K:ax->aJ)(w:an):Prop:=
 match Qx ops with
 |true=>∀ w1,w1=w.drew->∃ S:aJ,S w1/\pG P ops (xq ops (Af ops)) S K ops.length (Array.replicate ops.length false) true env w1
 |false=>∀ w1,w1=w.drew->pG P ops (rK ops) (λ_=>True) K ops.length (Array.replicate ops.length false) true env w1
theorem yR (ops:Array Oper)(n:Nat):lU ops (Array.replicate n false):=by
 intro j b _ a;exfalso;rcases Nat.lt_or_ge j n with h | h
 ·simp_all
 grind
theorem LN (hm:P.follows .mixedOrders=true){id:Nat}{K:ax->aJ}{Q:Exit->Act->aJ}(d:Region.noSelect ops.toArray=true)
  (b:∀ env w,K env w->Q .normal (act env) w) (dQ:∀ c a w,¬ Q (.panic c) a w) (h:uY P ops env K w):(Code.region id ops.toArray true).wp P Q (act env) w:=by
 unfold uY at h;split at h
 ·obtain⟨S,e,h⟩:=h _ rfl;refine wp_region_any hm (vW (S:=S) (nd:=xq ops (Af ops)) _ _ _ _ ?_);have:=og (Em ops _) d b dQ _ _ _ _ _ (yR _ _) (λ_=>e) h
  simp_all
 ·refine wp_region_any hm (vW (S:=λ_=>True) (nd:=rK ops) _ _ _ _ ?_);have:=og (Ag ops) d b dQ _ _ _ _ _ (yR _ _) (λ_=>trivial) (h _ rfl)
  simp_all
def q6 (Q:Exit->ax->aJ):Exit->Act->aJ
 |.panic _,_,_=>False
 |.outgrown,_,_=>False
 |e,a,w=>a.defers=[]/\Q e a.tmps.toList w
theorem jW {e:Exit}(h:Q e env w)(he:(∀ c,e≠.panic c)/\e≠.outgrown):q6 Q e (act env) w:=by
 cases e with
 |panic c=>grind
 |outgrown=>grind
 | _=>exact⟨rfl,by simpa[act]using h⟩
theorem rP {e:Exit}{a:Act}(h:q6 Q e a w):((∀ c,e≠.panic c)/\e≠.outgrown)/\∃ env,a=act env/\Q e env w:=by
 have mk:∀ (a:Act),a.defers=[]->a=act a.tmps.toList:=λa b=>by
  cases a with
  |mk t d=>simp only at b;subst b;simp[act]
 cases e with
 |panic c=>exact h.elim
 |outgrown=>exact h.elim
 |normal=>exact⟨⟨λ_=>by simp,by simp⟩,_,mk a h.1,h.2⟩
 |exit i=>exact⟨⟨λ_=>by simp,by simp⟩,_,mk a h.1,h.2⟩
 |goto i=>exact⟨⟨λ_=>by simp,by simp⟩,_,mk a h.1,h.2⟩
 |ret=>exact⟨⟨λ_=>by simp,by simp⟩,_,mk a h.1,h.2⟩
def cz (P:df)(c:Code)(env:ax)(Q:Exit->ax->aJ)(w:an):Prop:=c.wp P (q6 Q) (act env) w
def aZ (next:ax->aJ)(Q:Exit->ax->aJ):Exit->ax->aJ
 |.normal,env,w=>next env w
 |e,env,w=>Q e env w
def aO (id:Nat)(Q:Exit->ax->aJ):Exit->ax->aJ
 |.exit i,env,w=>match Nat.beq i id with
  |true=>Q .normal env w
  |false=>Q (.exit i) env w
 |e,env,w=>Q e env w
def W (P:df):Code->ax->(Exit->ax->aJ)->aJ
 |.skip,env,Q,w=>Q .normal env w
 |.region _ ops draw,env,Q,w=>match draw with
  |false=>km P ops.toList ops.toList env (Q .normal) w
  |true=>match Region.noSelect ops with
   |true=>uY P ops.toList env (Q .normal) w
   |false=>False
 |.seq a b,env,Q,w=>W P a env (aZ (λenv w=>W P b env Q w) Q) w
 |.cond c x y,env,Q,w=>match cf env c with
  |.bool b=>bif b then W P x env Q w else W P y env Q w
  | _=>False
 |.block id c,env,Q,w=>W P c env (aO id Q) w
 |.exit id,env,Q,w=>Q (.exit id) env w
 |.ret,env,Q,w=>Q .ret env w
 |c,env,Q,w=>cz P c env Q w
theorem qF {P:df}(hm:P.follows .mixedOrders=true):∀ (c:Code) (env:ax) (Q:Exit->ax->aJ) (w:an),W P c env Q w->cz P c env Q w
 |.skip,env,Q,w,h=>wp_skip (jW h ⟨λ_=>by simp,by simp⟩)
 |.region id ops draw,env,Q,w,h=>by
  unfold W at h;cases draw with
  |false=>simp only at h;exact wpIn_wide.1 (wpIn_region_list (n:=0) (pz (all:=ops.toList) ops.toList env w (Q .normal) (λenv w o=>jW o ⟨λ_=>by simp,by simp⟩) h))
  |true=>
   simp only at h;split at h
   ·rename_i q;have:=LN (id:=id) hm (Q:=q6 Q) (by simp_all) (λenv w o=>jW o ⟨λ_=>by simp,by simp⟩) (λc a w h=>h.elim) h;unfold cz
    simp_all
   grind
 |.seq a b,env,Q,w,h=>by
  have k:=qF hm a env _ w h;refine wp_seq (wp_mono k λe p w' f=>?_);obtain⟨he,g,l,d⟩:=rP f;subst l;clear f;cases e with
  |normal=>exact qF hm b g Q w' d
  |panic c=>grind
  |outgrown=>grind
  |exit i=>exact jW d he
  |goto i=>exact jW d he
  |ret=>exact jW d he
 |.cond c x y,env,Q,w,h=>by
  unfold W at h;split at h
  ·rename_i b j;refine wp_cond (t:=b) (by rw[tR];exact j) ?_;cases b with
   |true=>exact qF hm x env Q w h
   |false=>exact qF hm y env Q w h
  grind
 |.block id c,env,Q,w,h=>by
  have k:=qF hm c env _ w h;refine wp_block (wp_mono k λe p w' f=>?_);obtain⟨he,g,l,d⟩:=rP f;subst l;clear f;cases e with
  |exit i=>
   simp only[aO]at d;simp only[Exit.inBlock];cases j:Nat.beq i id with
   |true=>rw[j]at d;rw[bh (pL j)];exact jW d ⟨λ_=>by simp,by simp⟩
   |false=>rw[j]at d;rw[aQ (Co j)];exact jW d he
  |panic c=>grind
  |outgrown=>grind
  |normal=>exact jW d he
  |goto i=>exact jW d he
  |ret=>exact jW d he
 |.exit id,env,Q,w,h=>wp_exit (jW h ⟨λ_=>by simp,by simp⟩)
 |.ret,env,Q,w,h=>wp_ret (jW h ⟨λ_=>by simp,by simp⟩)
 |.loop _,_,_,_,h=>h
 |.rangeFunc ..,_,_,_,h=>h
 |.scope _,_,_,_,h=>h
 |.label _,_,_,_,h=>h
 |.goto _,_,_,_,h=>h
 |.refuse _,_,_,_,h=>h
theorem MX {Q:Exit->Act->aJ}{a:Act}{c:Code}(a6:Nat->Act->aJ)(z:Nat)(u:a6 z a w)
  (round:∀ n a w,a6 n a w->c.wp P (Exit.then (λh w'=>∃ m,m<n/\a6 m h w') Q) a w):(Code.loop c).wp P Q a w:=by
 intro b k cs;have key:∀ n a w,a6 n a w->
   ∃ e h w',Q e h w'/\Arrives P (lone (b.at a (.code c::.inLoop c::k)) cs w) b k cs e h w':=by
  intro n;induction n using Nat.strongRecOn with
  | _ n y=>
   intro a w t;obtain⟨e,i,j,f,d⟩:=round n a w t b (.inLoop c::k) cs;cases e with
   |normal=>obtain⟨m,p,o⟩:=f;obtain⟨s,r,A,q,g⟩:=y m p i j o;exact⟨s,r,A,q,.of_steps (Steps.trans d (.one step_inLoop)) g⟩
   |exit id=>exact⟨_,i,j,f,.pass (x:=.inLoop c) rfl (λ_ _=>.inl (by simp)) d⟩
   |goto l=>exact⟨_,i,j,f,.pass (x:=.inLoop c) rfl (λ_ _=>.inl (by simp)) d⟩
   |ret=>exact⟨_,i,j,f,.pass (x:=.inLoop c) rfl (λ_ _=>.inl (by simp)) d⟩
   |panic B=>exact⟨_,i,j,f,.pass (x:=.inLoop c) rfl (λ_ _=>.inl (by simp)) d⟩
   |outgrown=>exact⟨_,i,j,f,.pass (x:=.inLoop c) rfl (λ_ _=>.inl (by simp)) d⟩
 obtain⟨e,h,w',f,d⟩:=key _ a w u;exact⟨e,h,w',f,.of_steps (.one step_loop) d⟩
theorem cZ (hm:P.follows .mixedOrders=true){c:Code}
  (a6:Nat->ax->aJ) (h:Nat) (j:a6 h env w)
  (o:∀ n env w,a6 n env w->W P c env (aZ (λb w'=>∃ m,m<n/\a6 m b w') Q) w):cz P (.loop c) env Q w:=by
 refine MX (λn a w=>∃ env,a=act env/\a6 n env w) h ⟨env,rfl,j⟩ ?_;rintro n a w ⟨env,rfl,k⟩;refine wp_mono (qF hm c env _ w (o n env w k)) λe p w' d=>?_
 obtain⟨he,b,l,f⟩:=rP d;subst l;clear d;cases e with
 |normal=>obtain⟨m,hm,g⟩:=f;exact⟨m,hm,b,rfl,g⟩
 |panic c=>grind
 |outgrown=>grind
 |exit i=>exact jW f he
 |goto i=>exact jW f he
 |ret=>exact jW f he
def sub:Code->c6->Code
 |c,[]=>c
 |.seq a b,n::p=>match n with | 0=>sub a p | _=>sub b p
 |.cond _ a b,n::p=>match n with | 0=>sub a p | _=>sub b p
 |.block _ c,_::p=>sub c p
 |.loop c,_::p=>sub c p
 |.scope c,_::p=>sub c p
 |.rangeFunc _ _ a b,n::p=>match n with | 0=>sub a p | _=>sub b p
 |c,_=>c
def bu (fn:Func):Code:=match fn.body with | some c=>c | none=>.skip
def ox (P:df):List ResultVar->ax->(ax->Prop)->aJ
 | [],_,K,_=>K []
 |.tmp t::rs,env,K,w=>ox P rs env (λvs=>K (env.getD t undef::vs)) w
 |.cell a t::rs,env,K,w=>oO P t (env.getD a undef) (λv w'=>w'=w/\ox P rs env (λvs=>K (v::vs)) w) w
def tG:ax->bf
 | [v]=>v
 |vs=>.tuple vs.toArray
def dE (P:df)(fn:Func)(R:cM):Exit->ax->aJ
 |.normal,env,w=>ox P fn.results.toList env (λvs=>R (tG vs) w) w
 |.ret,env,w=>ox P fn.results.toList env (λvs=>R (tG vs) w) w
 | _,_,_=>False
theorem Ya {x:bf}{K:cM}(h:oO P t x K w):∃ v,(do loadVar t (<- asAddr x):Sem bf).run P w=.ok v w/\K v w:=by
 unfold oO at h;split at h
 ·rename_i bF;split at h
  ·grind
  ·rename_i inf b;split at h
   ·rename_i a;split at h
    ·rename_i hlen;obtain⟨vs,f,c,h⟩:=uJ h;obtain⟨d,dR⟩:=BM a;refine⟨_,?_,h⟩;have e:vs.length=inf.size:=by simp_all
     simp only[asAddr,pure_bind,loadVar,Sem.run_bind,qk dR,Result.andThen_ok,a,if_true,run_sizeOf b];have:=run_loadCellsFrom (P:=P) (acc:=#[]) c;rw[e]at this;simp[loadCells,this]
    grind
   ·rename_i a;split at h
    ·grind
    ·rename_i d dR;obtain⟨v,al,h⟩:=qZ h;refine⟨_,?_,h⟩;simp only[asAddr,pure_bind,loadVar,Sem.run_bind,qk dR,Result.andThen_ok,a];simp[al]
 grind
theorem zi {P:df}{env:ax}{w:an}:∀ (rs:List ResultVar) (K:ax->Prop),ox P rs env K w->
  ∃ vs,(rs.mapM fun |.tmp t=>pure (env.toArray.getD t undef) |.cell a t=>do loadVar t (<- asAddr (env.toArray.getD a undef)):Sem ax).run P w=.ok vs w/\K vs
 | [],K,h=>⟨[],rfl,h⟩
 |.tmp t::rs,K,h=>by
  obtain⟨vs,b,h⟩:=zi rs _ h
  simp_all
 |.cell a t::rs,K,h=>by
  obtain⟨v,al,hw,h⟩:=Ya h;obtain⟨vs,b,h⟩:=zi rs _ h;refine⟨_,?_,h⟩;rw[List.mapM_cons];have e:env.toArray.getD a undef=env.getD a undef:=by simp_all
  simp only[e]at b ⊢;rw[Sem.run_bind,al]
  simp_all
theorem yS (h:ox P fn.results.toList env (λvs=>K (tG vs)) w):∃ v,(results fn env.toArray).run P w=.ok v w/\K v:=by
 obtain⟨vs,b,h⟩:=zi _ _ h;refine⟨_,?_,h⟩;unfold results;rw[Array.mapM_eq_mapM_toList];simp only[Sem.run_bind,Sem.run_map,Sem.run_pure];refine Eq.trans (ey (λr:Result ax=>(r.andThen λa w'=>Result.ok a.toArray w').andThen λa w'=>Result.ok (if h:a.size=1 then a[0]else Value.tuple a) w') b) ?_;simp only[Result.andThen_ok];congr 1
 match vs with
 | []=>rfl
 | [v]=>rfl
 |v::u::r=>simp[tG]
def bd (P:df)(fn:Func)(args:ax)(R:cM)(w:an):Prop:=
 match fn.body with
 |some c=>W P c (args++List.replicate (fn.ntmps-args.length) undef) (dE P fn R) w
 |none=>False
theorem OX (hm:P.follows .mixedOrders=true){f:FuncId}{args:ax}(o:P.funcs[f]?=some fn)
  (h:bd P fn args R w):Calls P f args.toArray w λe w'=>∃ v,e=.returned v/\R v w':=by
 unfold bd at h;split at h
 ·rename_i c n;refine calls_of_wp o n ?_;have j:=qF hm c _ _ w h;have k:cz P c (args++List.replicate (fn.ntmps-args.length) undef) (dE P fn R) w=c.wp P (q6 (dE P fn R)) {tmps:=args.toArray++Array.replicate (fn.ntmps-args.toArray.size) undef,defers:=[]} w:=by unfold cz act;congr 2;simp
  rw[k]at j;refine wp_mono j λe p w' b=>?_
  obtain⟨he,a,l,d⟩:=rP b;subst l;clear b;cases e with
  |normal=>obtain⟨v,al,g⟩:=yS (P:=P) (fn:=fn) (env:=a) (w:=w') (K:=λv=>R v w') d;exact⟨rfl,v,al,v,rfl,g⟩
  |ret=>obtain⟨v,al,g⟩:=yS (P:=P) (fn:=fn) (env:=a) (w:=w') (K:=λv=>R v w') d;exact⟨rfl,v,al,v,rfl,g⟩
  |panic c=>grind
  |outgrown=>grind
  |exit i=>exact d.elim
  |goto i=>exact d.elim
 grind
def bO (P:df)(fn:Func)(R:cM)(Q:Exit->ax->aJ):Exit->ax->aJ
 |.ret,env,w=>dE P fn R .ret env w
 |e,env,w=>Q e env w
theorem R8 (h:∀ env w,Q .ret env w=dE P fn R .ret env w):bO P fn R Q=Q:=by funext e env w;cases e<;>first | rfl | exact(h env w).symm
theorem Bj {c:Code}(h:∀ env w,Q .ret env w=dE P fn R .ret env w):W P c env (bO P fn R Q) w=W P c env Q w:=by rw[R8 h]
theorem fa (h:N env w):aZ N Q .normal env w:=h
theorem qQ {k:Nat}(h:Q (.exit k) env w):aZ N Q (.exit k) env w:=h
theorem rY {k:Nat}(h:Q .normal env w):aO k Q .normal env w:=h
theorem qq {k:Nat}(h:Q .normal env w):aO k Q (.exit k) env w:=by
 show match Nat.beq k k with
  |true=>Q .normal env w
  |false=>Q (.exit k) env w
 simp_all
noncomputable def fK (n:Nat):(a7->Prop)->Prop:=@Nat.rec (λ_=>(a7->Prop)->Prop) (λK=>K []) (λ_ a K=>∃ x:Int,a λl=>K (x::l)) n
theorem GO:∀ (n:Nat) (l:a7),l.length=n->∀ {K:a7->Prop},K l->fK n K
 | 0,l,h,K,a=>by have:l=[]:=hN h;subst this;exact a
 |n+1,[],h,_,_=>by cases h
 |n+1,x::l,h,K,a=>⟨x,GO n l (by grind) a⟩
attribute [irreducible] bd W sub bu
end Go.bJ
