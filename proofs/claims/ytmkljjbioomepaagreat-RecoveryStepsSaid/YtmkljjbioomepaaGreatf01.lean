import Derived.Test.YtmkljjbioomepaaGreatProg
import Derived.OrdersHeld
import Derived.KernelRfl
import Derived.Tactics
import Derived.Laws.World
import Derived.TacticsIn
import Derived.RangeFuncSeq
set_option linter.all false
namespace Go
abbrev aj:=World
abbrev bl:=Value
abbrev aw:=Addr
abbrev an:=Option Addr
abbrev au:=List Value
abbrev cV:=List Nat
abbrev ba:=List Int
abbrev aK:=World->Prop
abbrev bg:=Value->World->Prop
abbrev a6:=Nat->Prop
abbrev n4:=IntKind
abbrev bU:=TypeId
abbrev c7:=Program
abbrev e9:=List Oper
abbrev en:=Array bl
abbrev fO:=List ba
abbrev Ci:=@Array.getElem?_eq_some_iff
abbrev fP:=@Bool.and_eq_true
abbrev Cl:=@Bool.false_eq_true
abbrev vT:=@Bool.not_eq_false
abbrev vV:=@Bool.not_eq_true'
abbrev zr:=@Bool.or_eq_true
abbrev vY:=@Bool.true_and
abbrev zx:=@Int.emod_lt_of_pos
abbrev zz:=@Int.emod_nonneg
abbrev qd:=@Int.eq_ofNat_of_zero_le
abbrev zi:=@Int.tdiv_eq_ediv_of_nonneg
abbrev zj:=@Int.tmod_eq_emod_of_nonneg
abbrev g9:=@Int.toNat_natCast
abbrev iz:=@List.all_eq_true
abbrev Jm:=@List.any_eq_false
abbrev Ck:=@List.any_eq_true
abbrev vP:=@List.append_assoc
abbrev lE:=@List.append_nil
abbrev vQ:=@List.drop_drop
abbrev vR:=@List.drop_eq_getElem_cons
abbrev Jn:=@List.drop_length
abbrev hh:=@List.eq_nil_of_length_eq_zero
abbrev rE:=@List.exists_cons_of_ne_nil
abbrev jb:=@List.ext_getElem?
abbrev zk:=@List.filter_append
abbrev Jo:=@List.flatten_append
abbrev kR:=@List.flatten_cons
abbrev vS:=@List.foldl_cons
abbrev lF:=@List.getD_eq_getElem?_getD
abbrev rF:=@List.getElem?_append
abbrev zl:=@List.getElem?_append_left
abbrev zm:=@List.getElem?_append_right
abbrev zn:=@List.getElem?_cons_succ
abbrev Jp:=@List.getElem?_cons_zero
abbrev vU:=@List.getElem?_drop
abbrev bW:=@List.getElem?_eq_getElem
abbrev Z':=@List.getElem?_eq_none
abbrev rG:=@List.getElem?_eq_some_iff
abbrev Jq:=@List.getElem?_inj
abbrev hS:=@List.getElem?_map
abbrev Cm:=@List.getElem?_modify
abbrev zo:=@List.getElem?_range
abbrev kg:=@List.getElem?_set
abbrev m3:=@List.getElem?_set_ne
abbrev vW:=@List.getElem?_set_self
abbrev zp:=@List.getElem?_take_of_lt
abbrev zq:=@List.getElem?_toArray
abbrev Cn:=@List.getElem?_zip_eq_some
abbrev vX:=@List.getElem_mem
abbrev Jr:=@List.getElem_of_mem
abbrev hi:=@List.length_append
abbrev jB:=@List.length_cons
abbrev zt:=@List.length_drop
abbrev Js:=@List.length_eq_one_iff
abbrev tG:=@List.length_eq_zero_iff
abbrev Jt:=@List.length_filter_le
abbrev jc:=@List.length_map
abbrev aaa:=@List.length_nil
abbrev zu:=@List.length_pos_iff
abbrev rH:=@List.length_range
abbrev Ju:=@List.length_replicate
abbrev tH:=@List.length_set
abbrev aab:=@List.length_singleton
abbrev zv:=@List.length_tail
abbrev zw:=@List.length_take
abbrev lG:=@List.map_append
abbrev tI:=@List.map_congr_left
abbrev jT:=@List.map_cons
abbrev rI:=@List.map_map
abbrev m4:=@List.map_set
abbrev kh:=@List.mem_append
abbrev Co:=@List.mem_append_left
abbrev gw:=@List.mem_cons
abbrev gm:=@List.mem_cons_of_mem
abbrev g_:=@List.mem_cons_self
abbrev vZ:=@List.mem_filter
abbrev rJ:=@List.mem_flatten
abbrev eP:=@List.mem_iff_getElem?
abbrev dD:=@List.mem_map
abbrev zy:=@List.mem_map_of_mem
abbrev cu:=@List.mem_of_getElem?
abbrev qb:=@List.mem_of_mem_drop
abbrev zA:=@List.mem_of_mem_eraseIdx
abbrev tJ:=@List.mem_of_mem_tail
abbrev v3:=@List.mem_of_mem_take
abbrev m5:=@List.mem_or_eq_of_mem_set
abbrev jd:=@List.mem_range
abbrev rK:=@List.mem_singleton
abbrev Cp:=@List.mem_singleton_self
abbrev qc:=@List.nil_append
abbrev kS:=@List.not_mem_nil
abbrev aac:=@List.pairwise_cons
abbrev aad:=@List.pairwise_iff_getElem
abbrev o1:=@List.range_succ
abbrev zB:=@List.range_succ_eq_map
abbrev rL:=@List.replicate_succ
abbrev qe:=@List.sum_cons
abbrev tK:=@List.take_add_one
abbrev jC:=@List.take_length
abbrev rM:=@List.take_of_length_le
abbrev Z_:=@List.take_succ_eq_append_getElem
abbrev tD:=@Nat.add_mul
abbrev m1:=@Nat.add_zero
abbrev o0:=@Nat.eq_of_beq_eq_true
abbrev dr:=@Nat.le_refl
abbrev m2:=@Nat.le_trans
abbrev fQ:=@Nat.lt_of_lt_of_le
abbrev aap:=@Nat.lt_succ_iff_lt_or_eq
abbrev aaq:=@Nat.mod_eq_of_lt
abbrev vO:=@Nat.mul_le_mul
abbrev rB:=@Nat.mul_le_mul_right
abbrev Cj:=@Nat.ne_of_beq_eq_false
abbrev rC:=@Nat.sub_self
abbrev tE:=@Nat.succ_mul
abbrev h_:=@Nat.zero_add
abbrev kQ:=@Option.map_eq_some_iff
abbrev rD:=@Option.map_some
abbrev hA:=@Option.some.injEq
abbrev aW:=@if_neg
abbrev bm:=@if_pos
abbrev b_:=@absurd
abbrev eh:=@congrArg
abbrev tF:=@decide_eq_true
abbrev jA:=@decide_eq_true_eq
abbrev qa:=@of_decide_eq_true
end Go
namespace Go.bd
variable {K:bl->Prop}{N:au->aK}{P:c7}{Q:Exit->au->aK}{R:bg}{a b p:an}{all ops:e9}{c:Call}{c' cap l l' len:Nat}{captured first:en}{env:au}{f x y:Operand}{fn:Func}{h m n:Int}{inf:TypeInfo}{k:n4}{next:Act->aK}{kB:Oper}{op:BinOp}{q:aw}{s:Sem bl}{t:bU}{v:bl}{w w':aj}
def cg (env:au):Operand->bl
 |.tmp t=>env.getD t undef
 |.const v=>v
 |.global g=>.pointer (some ⟨g,0,none⟩)
 |.func f=>.func (.func f) #[] #[]
def ae (j:au):Nat->Nat->au->au
 | _,0,r=>r
 |a,n+1,r=>j.getD a undef::ae j (a+1) n r
def a1:Nat->au->au
 | 0,r=>r
 |n+1,r=>undef::a1 n r
def put (env:au):Option Tmp->bl->au
 |some d,v=>env.set d v
 |none,_=>env
def act (env:au):Act:={tmps:=env.toArray,defers:=[]}
theorem tu (env:au):(act env).eval=cg env:=by
 funext x;cases x with
 |tmp t=>simp only[Act.eval,act,cg,Array.getD_eq_getD_getElem?,zq,lF]
 |const v=>rfl
 |global g=>rfl
 |func f=>rfl
theorem lf (env:au)(d:Option Tmp)(v:bl):(act env).put d v=act (put env d v):=by
 cases d with
 |none=>rfl
 |some d=>simp[Act.put,act,put]
def single:bl->Bool
 |.agg _=>false
 |.tuple _=>false
 | _=>true
def oS {α:Type}(P:c7):Sem α->(α->aK)->aK
 |.pure a,K,w=>K a w
 |.load _ a k,K,w=>∃ v,w.cell? a=some v/\oS P (k v) K w
 |.store _ a v k,K,w=>(∃ u,w.cell? a=some u)/\w.frozen? a=false/\single v=true/\∀ w1,w1=w.setCell a v->oS P k K w1
 |.new o k,K,w=>∀ b w1,b=w.heap.size->w1=w.alloc o->oS P (k b) K w1
 |.shape r k,K,w=>oS P (k (w.shape? r)) K w
 |.frozen a k,K,w=>oS P (k (w.frozen? a)) K w
 |.program k,K,w=>oS P (k P) K w
 |.mark _ k,K,w=>oS P k K w
 | _,_,_=>False
theorem Da {α:Type}{m:Mode}{a:aw}{k:Sem α}(b:∃ u,w.cell? a=some u)(c:w.frozen? a=false)(ar:single v=true) :
  (Sem.store m a v k).run P w=k.run P (w.setCell a v):=by
 obtain⟨u,hu⟩:=b;cases v<;>simp[single]at ar<;>simp[Sem.run,hu,c]
theorem NP {α:Type}(s:Sem α):∀ {K:α->aK} {w:aj},oS P s K w->∃ a w',s.run P w=.ok a w'/\K a w':=by
 induction s with
 |pure a=>intro K w h;exact⟨a,w,rfl,h⟩
 |load m a k b=>intro K w h;obtain⟨v,ar,h⟩:=h;obtain⟨x,w',d,c⟩:=b v h;exact⟨x,w',by simp only[Sem.run,ar];exact d,c⟩
 |store m a v k b=>intro K w h;obtain⟨e,f,g,h⟩:=h;obtain⟨x,w',d,c⟩:=b (h _ rfl);exact⟨x,w',by rw[Da e f g];exact d,c⟩
 |new o k b=>intro K w h;obtain⟨x,w',d,c⟩:=b _ (h _ _ rfl rfl);exact⟨x,w',d,c⟩
 |shape r k b=>intro K w h;exact b _ h
 |frozen a k b=>intro K w h;exact b _ h
 |program k b=>intro K w h;exact b _ h
 |mark m k b=>intro K w h;exact b h
 | _=>intro K w h;exact h.elim
def ee (k:n4)(x y:Int):Int:=k.wrap (BitVec.ofInt k.bits x &&& BitVec.ofInt k.bits y).toNat
def iA (k:n4)(x y:Int):Int:=k.wrap (BitVec.ofInt k.bits x ||| BitVec.ofInt k.bits y).toNat
def fc (k:n4)(x y:Int):Int:=k.wrap (BitVec.ofInt k.bits x ^^^ BitVec.ofInt k.bits y).toNat
def uv (k:n4)(x y:Int):Int:=k.wrap (BitVec.ofInt k.bits x &&& ~~~ BitVec.ofInt k.bits y).toNat
def hk (k:n4)(x n:Int):Int:=k.wrap (x*2 ^ min n.toNat k.bits)
def cD (k:n4)(x n:Int):Int:=x.fdiv (2 ^ min n.toNat k.bits)
inductive nj where
 |i (k:n4) | b | p | s | v
def yG:Option TypeDesc->nj
 |some (.int k)=>.i k
 |some .bool=>.b
 |some (.pointer _)=>.p
 |some (.slice _)=>.s
 | _=>.v
def pF:nj->(bl->Prop)->Prop
 |.i k,K=>∃ x:Int,K (.int k x)
 |.b,K=>∃ x:Bool,K (.bool x)
 |.p,K=>∃ x:an,K (.pointer x)
 |.s,K=>∃ (x:an) (l c:Nat),K (.slice x l c)
 |.v,K=>∃ v:bl,K v
theorem rX {k:nj}(h:pF k K):∃ v,K v:=by
 cases k with
 |i k=>obtain⟨x,h⟩:=h;grind
 |b=>obtain⟨x,h⟩:=h;grind
 |p=>obtain⟨x,h⟩:=h;grind
 |s=>obtain⟨x,l,c,h⟩:=h;grind
 |v=>exact h
theorem D_ {k:nj}{d:bl->Prop}(a:∀ v,K v->d v)(h:pF k K):pF k d:=by
 cases k with
 |i k=>obtain⟨x,h⟩:=h;exact⟨_,a _ h⟩
 |b=>obtain⟨x,h⟩:=h;exact⟨_,a _ h⟩
 |p=>obtain⟨x,h⟩:=h;exact⟨_,a _ h⟩
 |s=>obtain⟨x,l,c,h⟩:=h;exact⟨_,_,_,a _ h⟩
 |v=>obtain⟨x,h⟩:=h;exact⟨_,a _ h⟩
def qW:List nj->(au->Prop)->Prop
 | [],K=>K []
 |k::a,K=>pF k λv=>qW a λvs=>K (v::vs)
theorem ud:∀ {a:List nj}{K:au->Prop},qW a K->∃ vs,vs.length=a.length/\K vs
 | [],_,h=>⟨[],rfl,h⟩
 |k::a,K,h=>by
  obtain⟨v,h⟩:=rX h;obtain⟨vs,b,h⟩:=ud h
  grind
theorem D':∀ {c:List nj}{K b:au->Prop},(∀ vs,K vs->b vs)->qW c K->qW c b
 | [],_,_,a,h=>a _ h
 | _::_,_,_,a,h=>D_ (λv h=>D' (λvs h=>a (v::vs) h) h) h
def q4 (P:c7):Nat->bU->List nj
 | 0,_=>[]
 |n+1,t=>match P.underlying t with
  |some (.struct a)=>a.toList.flatMap λf=>q4 P n f.type
  |some (.array len e)=>(List.replicate len (q4 P n e)).flatten
  |d=>[yG d]
def gD (P:c7)(t:bU):Bool:=
 match P.underlying t with
 |some (.struct _)=>true
 |some (.array _ _)=>true
 | _=>false
def qq (P:c7)(t:bU):Nat:=match P.info? t with | some i=>i.size | none=>0
def xQ (P:c7)(t:bU)(K:bl->Prop):Prop:=
 match gD P t with
 |true=>qW (q4 P 8 t) λvs=>K (.agg vs.toArray)
 |false=>pF (yG (P.underlying t)) K
theorem FZ (h:xQ P t K):∃ v,K v:=by
 unfold xQ at h;split at h
 ·obtain⟨vs,_,h⟩:=ud h;grind
 ·exact rX h
def Bv (P:c7):List bU->(au->Prop)->Prop
 | [],K=>K []
 |t::ts,K=>xQ P t λv=>Bv P ts λvs=>K (v::vs)
theorem F0 {P:c7}:∀ {ts:List bU} {K:au->Prop},Bv P ts K->∃ vs,K vs
 | [],_,h=>⟨[],h⟩
 |t::ts,K,h=>by
  obtain⟨v,h⟩:=FZ h;obtain⟨vs,h⟩:=F0 h
  grind
def sL (P:c7):List bU->(bl->Prop)->Prop
 | [t],K=>xQ P t K
 |ts,K=>Bv P ts λvs=>K (.tuple vs.toArray)
theorem F1 {ts:List bU}(h:sL P ts K):∃ v,K v:=by
 unfold sL at h;split at h
 ·exact FZ h
 ·obtain⟨vs,h⟩:=F0 h;grind
def b6 (w:aj)(a:aw):Nat->au->Prop
 | _,[]=>True
 |i,v::vs=>w.cell? (a.add i)=some v/\b6 w a (i+1) vs
def dT (w:aj)(a:aw):Nat->au->Prop
 | _,[]=>True
 |i,v::vs=>(∃ u,w.cell? (a.add i)=some u)/\w.frozen? (a.add i)=false/\single v=true/\dT w a (i+1) vs
def cv (w:aj)(a:aw):Nat->au->aj
 | _,[]=>w
 |i,v::vs=>cv (w.setCell (a.add i) v) a (i+1) vs
theorem Jy {p:aw}(h:∃ u,w.cell? q=some u):∃ u,(w.setCell p v).cell? q=some u:=by
 obtain⟨u,hu⟩:=h;unfold World.cell? World.setCell at *
 grind
theorem Kn {p:aw}:(w.setCell p v).frozen? q=w.frozen? q:=by
 simp_all
theorem Cy {w:aj}{a p:aw}{u:bl}:∀ {vs:au} {i:Nat},dT w a i vs->dT (w.setCell p u) a i vs
 | [],_,_=>trivial
 | _::_,_,h=>⟨Jy h.1,by rw[Kn];exact h.2.1,h.2.2.1,Cy h.2.2.2⟩
theorem td {P:c7}{a:aw}:∀ {vs:au} {i:Nat} {w:aj},dT w a i vs->
  (storeCells a vs i).run P w=.ok () (cv w a i vs)
 | [],_,_,_=>rfl
 |v::vs,i,w,h=>by unfold storeCells;show((store (a.add i) v).bind λ_=>storeCells a vs (i+1)).run P w=_;show(Sem.store .plain (a.add i) v (storeCells a vs (i+1))).run P w=_;rw[Da h.1 h.2.1 h.2.2.1];exact td (Cy h.2.2.2)
theorem run_loadCellsFrom {P:c7}{a:aw}{w:aj}:∀ {vs:au} {i:Nat} {acc:en},b6 w a i vs->
  (loadCellsFrom a i vs.length acc).run P w=.ok (acc++vs.toArray) w
 | [],_,acc,_=>by simp[loadCellsFrom]
 |v::vs,i,acc,h=>by show(Sem.load .plain (a.add i) λv=>loadCellsFrom a (i+1) vs.length (acc.push v)).run P w=_;simp only[Sem.run,h.1];rw[run_loadCellsFrom (acc:=acc.push v) h.2];simp
def oc (P:c7)(t:bU)(x:bl)(K:bg)(w:aj):Prop:=
 match x with
 |.pointer (some a)=>
  match P.info? t with
  |none=>False
  |some inf=>
   match gD P t with
   |true=>match Nat.beq (q4 P 8 t).length inf.size with
    |true=>qW (q4 P 8 t) λvs=>b6 w a 0 vs/\K (.agg vs.toArray) w
    |false=>False
   |false=>match P.underlying t with
    |none=>False
    |some d=>pF (yG (some d)) λv=>w.cell? a=some v/\K v w
 | _=>False
def AJ (P:c7)(t:bU)(x v:bl)(K:aK)(w:aj):Prop:=
 match x with
 |.pointer (some a)=>
  match P.info? t with
  |none=>False
  |some inf=>
   match gD P t with
   |true=>match Nat.beq v.cells.size inf.size with
    |true=>dT w a 0 v.cells.toList/\∀ w1,w1=cv w a 0 v.cells.toList->K w1
    |false=>False
   |false=>match single v,Nat.beq inf.size 1 with
    |true,true=>(∃ u,w.cell? a=some u)/\w.frozen? a=false/\∀ w1,w1=w.setCell a v->K w1
    | _,_=>False
 | _=>False
def fo:an->(aw->Prop)->Prop
 |some a,K=>K a
 |none,_=>False
def bk (a:an)(len:Nat)(n:Int)(sz:Nat)(K:aw->Prop):Prop:=
 ∃ b,a=some b/\0<=n/\n<len/\K (b.add (n.toNat*sz))
def gC (a:aw)(len:Nat)(n:Int)(sz:Nat)(K:aw->Prop):Prop:=
 0<=n/\n<len/\K (a.add (n.toNat*sz))
def g7 (a:an)(len cap:Nat)(b d c:Int)(sz:Nat)(K:an->Nat->a6):Prop:=
 0<=b/\b<=d/\d<=c/\c<=cap/\len<=cap/\K (if c=b then a else a.map (·.add (b.toNat*sz))) (d.toNat-b.toNat) (c.toNat-b.toNat)
def ju (n:Nat)(zs:au):au:=(List.replicate n zs).flatten
def pM (len cap:Int)(bytes:Nat)(o:Obj)(w:aj)(K:Nat->aK):Prop:=0<=len/\len<=cap/\cap*bytes<=140737488355328/\cap<=140737488355328/\∀ b w1,b=w.heap.size->w1=w.alloc o->K b w1
def iv (P:c7)(f:FuncId):Bool:=
 match P.funcs[f]? with
 |some fn=>fn.body.isSome && !(fn.name == "runtime.NumGoroutine")
 |none=>false
def l5 (P:c7)(f:bl)(args:en)(w:aj)(R:Ending->aK):Prop:=
 match f with
 |.func (.func g) first captured=>match iv P g with
  |true=>Calls P g (first++args++captured) w R
  |false=>False
 | _=>False
def w_ (P:c7)(t:bU):List bU:=
 match P.underlying t with
 |some (.tuple ts)=>ts.toList
 | _=>[t]
def yW (P:c7)(s:Sem bl)(k:nj)(K:bg)(w:aj):Prop:=
 pF k λv=>∃ w',s.run P w=.ok v w'/\K v w'
def aai:bl->Option Int
 |.int _ n=>some n
 | _=>none
def Gn (K:bg):Next->aK
 |.value v,w=>K v w
 |.skip,w=>K undef w
 | _,_=>False
def BC (P:c7)(env:au)(o:Oper)(K:bg)(w:aj):Prop:=
 oS P (execOp (cg env) o) (Gn K) w
def wM:Operand->Bool
 |.const _=>true
 | _=>false
def mx (d:Int):Option bl->Option Int
 |none=>some d
 |some (.int _ n)=>some n
 |some _=>none
def wN {α:Type}(P:c7):Sem α->Option α
 |.pure a=>some a
 |.program k=>wN P (k P)
 | _=>none
theorem Lb {α:Type}(s:Sem α):∀ {a:α},wN P s=some a->∀ w,s.run P w=.ok a w:=by
 induction s with
 |pure a=>intro b h w;simp[wN]at h;simp_all
 |program k c=>intro b h w;exact c P h w
 | _=>intro b h;cases h
def oE (P:c7)(env:au)(o:Oper)(K:bl->Prop):Prop:=
 match wN P (execOp (cg env) o)with
 |some (.value v)=>K v
 | _=>False
def KK (P:c7)(t:bU)(x y:bl)(r:Bool)(w:aj):Prop:=
 (∀ op a b,(eqGuard op t a b x y).run P w=.ok () w)/\(binOp .eql t x y).run P w=.ok (.bool r) w/\(binOp .neq t x y).run P w=.ok (.bool (!r)) w
def od (P:c7)(t:bU)(x y:bl)(K:Bool->Prop):Prop:=∃ r:Bool,(∀ w,KK P t x y r w)/\K r
def xa (P:c7)(env:au)(o:Oper)(K:bl->Prop):Prop:=
 match o.op with
 |.pick c a b=>match cg env c with
  |.bool t=>bif t then K (cg env a)else K (cg env b)
  | _=>False
 |.nilCheck x=>match cg env x with
  |.pointer p=>fo p λd=>K (.pointer (some d))
  | _=>False
 |.indexAddr t x i=>match cg env i with
  |.int _ n=>match P.underlying t with
   |some (.slice e)=>match cg env x,P.info? e with
    |.slice a len _,some inf=>bk a len n inf.size λd=>K (.pointer (some d))
    | _,_=>False
   |some (.array len e)=>match cg env x,P.info? e with
    |.pointer (some d),some inf=>gC d len n inf.size λd=>K (.pointer (some d))
    | _,_=>False
   | _=>False
  | _=>False
 |.slice t x q g j=>match P.underlying t with
  |some (.slice e)=>match cg env x,P.info? e with
   |.slice a len cap,some inf=>
    match mx 0 (q.map (cg env)),mx len (g.map (cg env)),mx cap (j.map (cg env)),g.isNone && j.isSome with
    |some l,some h,some m,false=>g7 a len cap l h m inf.size λbS l' c'=>K (.slice bS l' c')
    | _,_,_,_=>False
   | _,_=>False
  | _=>oE P env o K
 |.binOp op t x y _=>match op,cg env x,cg env y with
  |.eql,.pointer p,.pointer none=>match P.underlying t with
   |some (.pointer _)=>K (.bool p.isNone)
   | _=>False
  |.neq,.pointer p,.pointer none=>match P.underlying t with
   |some (.pointer _)=>K (.bool (!p.isNone))
   | _=>False
  |.eql,.slice a _ _,.slice none _ _=>match P.underlying t with
   |some (.slice _)=>K (.bool a.isNone)
   | _=>False
  |.neq,.slice a _ _,.slice none _ _=>match P.underlying t with
   |some (.slice _)=>K (.bool (!a.isNone))
   | _=>False
  |.quo,.int k a,.int f b=>match wM y with
   |true=>oE P env o K
   |false=>k=f/\b≠0/\K (.int k (k.wrap (a.tdiv b)))
  |.rem,.int k a,.int f b=>match wM y with
   |true=>oE P env o K
   |false=>k=f/\b≠0/\K (.int k (a.tmod b))
  |.shl,.int k a,.int _ b=>match wM y with
   |true=>oE P env o K
   |false=>0<=b/\K (.int k (k.wrap (a*2 ^ min b.toNat k.bits)))
  |.shr,.int k a,.int _ b=>match wM y with
   |true=>oE P env o K
   |false=>0<=b/\K (.int k (a.fdiv (2 ^ min b.toNat k.bits)))
  |.eql,.agg a,.agg b=>od P t (.agg a) (.agg b) λr=>K (.bool r)
  |.neq,.agg a,.agg b=>od P t (.agg a) (.agg b) λr=>K (.bool (!r))
  | _,_,_=>oE P env o K
 | _=>oE P env o K
def wT:Op->Bool
 |.move _ |.assign _ |.pick .. |.build .. |.nilCheck _ |.binOp .. |.unOp .. |.convert .. |.makeFunc .. |.slice .. |.fieldAddr .. |.field .. |.indexAddr .. |.index .. |.extract ..=>true
 |.call {callee:=.builtin .len,..} |.call {callee:=.builtin .cap,..} |.call {callee:=.builtin .min,..} |.call {callee:=.builtin .max,..}=>true
 | _=>false
def q_ (P:c7)(env:au)(o:Oper)(K:bg)(w:aj):Prop:=
 match wT o.op with
 |true=>xa P env o λv=>K v w
 |false=>match o.op with
  |.load t x=>oc P t (cg env x) K w
  |.store t x v=>AJ P t (cg env x) (cg env v) (K undef) w
  |.makeSlice t l c=>match P.underlying t,cg env l,cg env c with
   |some (.slice e),.int _ len,.int _ cap=>match P.info? e with
    |some inf=>match inf.zero with
     |some z=>match Nat.beq z.cells.size inf.size && Nat.ble 1 inf.size with
      |false=>False
      |true=>pM len cap inf.bytes (.cells (ju cap.toNat z.cells.toList).toArray e) w λb w1=>K (.slice (some ⟨b,0,none⟩) len.toNat cap.toNat) w1
     |none=>False
    |none=>False
   | _,_,_=>False
  |.call c=>match c.callee with
   |.builtin .append=>yW P (Builtin.append_ c.argTypes o.type (c.args.map (cg env))) .s K w
   |.builtin .copy=>yW P (Builtin.copy_ c.argTypes o.type (c.args.map (cg env))) (.i .i64) K w
   |.builtin .clear=>yW P (Builtin.clear_ c.argTypes o.type (c.args.map (cg env))) .v K w
   |.value f=>l5 P (cg env f) (c.args.map (cg env)) w λe w'=>sL P (w_ P o.type) λv=>e=.returned v/\K v w'
   | _=>BC P env o K w
  | _=>BC P env o K w
def i_ (P:c7)(f:bl)(args:en)(w:aj)(R:Ending->aK):Prop:=
 match f with
 |.func (.yield l) first _=>YieldAt Fence.wide 0 P l (first++args) w R
 |f=>l5 P f args w R
def BX (P:c7)(env:au)(o:Oper)(K:bg)(w:aj):Prop:=
 match o.op with
 |.call c=>match c.callee with
  |.value f=>i_ P (cg env f) (c.args.map (cg env)) w λe w'=>sL P (w_ P o.type) λv=>e=.returned v/\K v w'
  | _=>q_ P env o K w
 | _=>q_ P env o K w
section
variable {P:c7}{env:au}{o:Oper}{K:bg}{w:aj}
def l4 (P:c7)(env:au)(o:Oper)(K:bg)(w:aj):Prop:=
 (∃ n w',(execOp (cg env) o).run P w=.ok n w'/\Gn K n w')\/
 (∃ f args,(execOp (cg env) o).run P w=.ok (.enter f args) w/\Calls P f args w λe w'=>∃ v,e=.returned v/\K v w')
theorem Ea (h:BC P env o K w):l4 P env o K w:=.inl (NP _ h)
theorem Aa (he:execOp (cg env) o=(do pure (.value (<- s))))(a:s.run P w=.ok v w')(h:K v w'):l4 P env o K w:=by
 refine .inl ⟨.value v,w',?_,h⟩
 simp_all
theorem Dw {s:Sem Unit}(he:execOp (cg env) o=(do s;pure .skip))(a:s.run P w=.ok () w')(h:K undef w'):l4 P env o K w:=by
 refine .inl ⟨.skip,w',?_,h⟩
 simp_all
theorem Ce {i:TypeInfo}(h:P.info? t=some i)(w:aj):(typeInfo t).run P w=.ok i w:=by simp[typeInfo,h,program,Sem.run]
theorem run_sizeOf {i:TypeInfo}(h:P.info? t=some i)(w:aj):(sizeOf t).run P w=.ok i.size w:=by simp[sizeOf,Ce h]
theorem pQ {d:TypeDesc}(h:P.underlying t=some d)(w:aj):(Go.isAgg t).run P w=.ok (gD P t) w:=by simp only[Go.isAgg,Sem.run_bind,run_underlying h,Result.andThen_ok,gD,h];cases d<;>rfl
theorem BU (h:gD P t=true):∃ d,P.underlying t=some d:=by
 unfold gD at h
 grind
def mE (P:c7)(env:au)(o:Oper)(K:bl->Prop):Prop:=
 ∃ v,(∀ w,(execOp (cg env) o).run P w=.ok (.value v) w)/\K v
theorem mE.a' (h:mE P env o λv=>K v w):l4 P env o K w:=
 let ⟨v,a,h⟩:=h
 .inl ⟨.value v,w,a w,h⟩
theorem wb {K:bl->Prop}(he:execOp (cg env) o=(do pure (.value (<- s))))(a:∀ w,s.run P w=.ok v w)(h:K v):mE P env o K:=by
 refine⟨v,λw=>?_,h⟩
 simp_all
theorem ry {K:bl->Prop}(h:oE P env o K):mE P env o K:=by
 unfold oE at h;split at h
 ·rename_i v ar;exact⟨v,Lb _ ar,h⟩
 grind
theorem MV (g:o.op=.load t x)(h:oc P t (cg env x) K w):l4 P env o K w:=by
 have he:execOp (cg env) o=(do pure (.value (<- Instr.loadAt t (cg env x)))):=by unfold execOp;rw[g]
 unfold oc at h;split at h
 ·rename_i i c;split at h
  ·grind
  ·rename_i inf b;split at h
   ·rename_i a;split at h
    ·rename_i hlen;obtain⟨vs,j,e,h⟩:=ud h;obtain⟨d,dR⟩:=BU a;refine Aa he ?_ h;have f:vs.length=inf.size:=by simp_all
     simp only[Instr.loadAt,c,Instr.sureAddr,pure_bind,loadVar,Sem.run_bind,pQ dR,Result.andThen_ok,a,if_true,run_sizeOf b];have:=run_loadCellsFrom (P:=P) (acc:=#[]) e;rw[f]at this;simp[loadCells,this]
    grind
   ·rename_i a;split at h
    ·grind
    ·rename_i d dR;obtain⟨v,ar,h⟩:=rX h;refine Aa he ?_ h;simp only[Instr.loadAt,c,Instr.sureAddr,pure_bind,loadVar,Sem.run_bind,pQ dR,Result.andThen_ok,a];simp[ar]
 grind
theorem LF {v:Operand}(i:o.op=.store t x v)(h:AJ P t (cg env x) (cg env v) (K undef) w):l4 P env o K w:=by
 have he:execOp (cg env) o=(do Instr.storeAt t (cg env x) (cg env v);pure .skip):=by unfold execOp;rw[i]
 unfold AJ at h;split at h
 ·rename_i d f;split at h
  ·grind
  ·rename_i inf b;split at h
   ·split at h
    ·rename_i hlen;obtain⟨hw,h⟩:=h;have h:=h _ rfl;refine Dw he ?_ h;have c:=o0 hlen;simp only[Instr.storeAt,f,Instr.sureAddr,pure_bind,storeVar,Sem.run_bind,run_sizeOf b,Result.andThen_ok,c];simp[td hw]
    grind
   ·split at h
    ·rename_i e c;obtain⟨j,k,h⟩:=h;have h:=h _ rfl;refine Dw he ?_ h;have c:=o0 c;have a:(cg env v).cells=#[cg env v]:=by revert e;cases cg env v<;>simp[single,Value.cells]
     have g:d.add 0=d:=by simp[Addr.add]
     have hw:dT w d 0 [cg env v]:=⟨by grind,by grind,e,trivial⟩;simp only[Instr.storeAt,f,Instr.sureAddr,pure_bind,storeVar,Sem.run_bind,run_sizeOf b,Result.andThen_ok,c,a];simp[td hw,cv,g]
    grind
 grind
theorem Nt {K:bl->Prop}(b:o.op=.nilCheck x)(c:cg env x=.pointer p)(h:fo p λa=>K (.pointer (some a))):mE P env o K:=by
 cases p with
 |none=>exact h.elim
 |some a=>
  refine⟨.pointer (some a),λw=>?_,h⟩
  unfold execOp
  simp_all
theorem MW {c a b:Operand}{t:Bool}{K:bl->Prop}(e:o.op=.pick c a b)(d:cg env c=.bool t)(h:bif t then K (cg env a)else K (cg env b)):mE P env o K:=by
 refine⟨bif t then cg env a else cg env b,λw=>?_,by grind⟩;unfold execOp;rw[e];simp only[d,asBool,pure_bind]
 simp_all
theorem MX {t e:bU}{x i:Operand}{K:bl->Prop}(j:o.op=.indexAddr t x i)(g:cg env i=.int k n)
  (hu:P.underlying t=some (.slice e)) (l:cg env x=.slice a len cap) (b:P.info? e=some inf) (h:bk a len n inf.size λc=>K (.pointer (some c))):mE P env o K:=by
 have he:execOp (cg env) o=(do pure (.value (<- Instr.indexAt t (cg env x) (cg env i)))):=by unfold execOp;rw[j]
 obtain⟨c,rfl,d,f,h⟩:=h;refine wb he (λw=>?_) h;simp[Instr.indexAt,g,l,asIntOf,run_underlying hu,d,f,run_sizeOf b]
theorem MY {t e:bU}{x i:Operand}{b:aw}{K:bl->Prop}(g:o.op=.indexAddr t x i)(f:cg env i=.int k n)
  (hu:P.underlying t=some (.array len e)) (j:cg env x=.pointer (some b)) (a:P.info? e=some inf) (h:gC b len n inf.size λb=>K (.pointer (some b))):mE P env o K:=by
 have he:execOp (cg env) o=(do pure (.value (<- Instr.indexAt t (cg env x) (cg env i)))):=by unfold execOp;rw[g]
 obtain⟨c,d,h⟩:=h;refine wb he (λw=>?_) h;simp[Instr.indexAt,f,j,asIntOf,run_underlying hu,c,d,run_sizeOf a,Instr.sureAddr]
theorem tv {d:Int}{v:Option bl}(h:mx d v=some n):(v=none/\n=d)\/∃ k,v=some (.int k n):=by
 unfold mx at h
 grind
theorem oD {y:Nat}{c:BoundsCode}(a:0<=n)(b:n<=y)(w:aj):(Instr.sliceBound (.int k n) y c).run P w=.ok n.toNat w:=by simp[Instr.sliceBound,asIntOf,a,b]
theorem JT {g a c:Option bl}{l:Int}(b:mx 0 g=some l)(e:mx len a=some h)(hm:mx cap c=some m)(i:¬ (a=none/\c≠none))
  (g':0<=l) (b1:l<=h) (az:h<=m) (d:m<=cap) (w:aj):(Instr.sliceBounds true len cap g a c).run P w=.ok (l.toNat,h.toNat,m.toNat) w:=by
 unfold Instr.sliceBounds;rcases tv hm with⟨rfl,rfl⟩ | ⟨k,rfl⟩
 ·rcases tv e with⟨rfl,rfl⟩ | ⟨j,rfl⟩
  ·rcases tv b with⟨rfl,rfl⟩ | ⟨f,rfl⟩
   ·simp
   ·simp[oD (y:=len) g' b1]
  ·rcases tv b with⟨rfl,rfl⟩ | ⟨f,rfl⟩
   ·simp[oD (y:=cap) b1 az]
   ·simp[oD (y:=cap) (Int.le_trans g' b1) az,oD (y:=h.toNat) g' (by omega:l<=((h.toNat:Nat):Int))]
 ·rcases tv e with⟨rfl,rfl⟩ | ⟨j,rfl⟩
  ·grind
  ·rcases tv b with⟨rfl,rfl⟩ | ⟨f,rfl⟩
   ·simp[oD (y:=cap) (by omega:(0:Int)<=m) d,oD (y:=m.toNat) b1 (by omega:h<=((m.toNat:Nat):Int))]
   ·simp [oD (y:=cap) (by omega:(0:Int)<=m) d,oD (y:=m.toNat) (Int.le_trans g' b1) (by omega:h<=((m.toNat:Nat):Int)),
     oD (y:=h.toNat) g' (by omega:l<=((h.toNat:Nat):Int))]
theorem LG {t e:bU}{g c d:Option Operand}{K:bl->Prop}{l:Int}(r:o.op=.slice t x g c d)
  (hu:P.underlying t=some (.slice e)) (s:cg env x=.slice a len cap) (b:P.info? e=some inf)
  (q:mx 0 (g.map (cg env))=some l) (n:mx len (c.map (cg env))=some h) (hm:mx cap (d.map (cg env))=some m) (p:¬ (c=none/\d≠none))
  (f:g7 a len cap l h m inf.size λbS l' c'=>K (.slice bS l' c')):mE P env o K:=by
 have he:execOp (cg env) o=(do pure (.value (<- Instr.sliceAt t (cg env x) (g.map (cg env)) (c.map (cg env)) (d.map (cg env))))):=by unfold execOp;rw[r]
 obtain⟨g',b1,az,i,_,f⟩:=f;refine wb he (λw=>?_) f;have k:=JT (P:=P) q n hm (by simp_all) g' b1 az i w;have j:(m=l)↔(m.toNat=l.toNat):=by omega
 simp only[Instr.sliceAt,Sem.run_bind,run_underlying hu,Result.andThen_ok,Instr.slice,s,k,run_sizeOf b,j];rfl
theorem PL (n:Nat)(zs:en)(ax:0<zs.size):(Array.range (n*zs.size)).map (zs[· % zs.size]!)=(ju n zs.toList).toArray:=by
 apply Array.ext
 ·simp[ju]
 ·intro i c e;simp only [Array.size_map,Array.size_range] at c;simp only [Array.getElem_map,Array.getElem_range,List.getElem_toArray];have key:∀ (m i:Nat) (zs:au) (a:zs≠[]),i<m * zs.length->((List.replicate m zs).flatten)[i]?=zs[i % zs.length]?:=by
   intro m;induction m with
   |zero=>grind
   |succ m k=>
    intro i zs a h;have j:0<zs.length:=zu.2 a;simp only[rL,kR];by_cases f:i<zs.length
    ·grind[List.getElem?_append_left,Nat.mod_eq_of_lt]
    grind[List.getElem?_append_right,Nat.succ_mul,Nat.mod_eq_sub_mod]
  have b:zs.toList≠[]:=by
   grind[Array.length_toList]
  have g:=key n i zs.toList b (by grind);have d:i % zs.size<zs.size:=Nat.mod_lt _ ax;unfold ju
  grind
theorem MZ {t e:bU}{l c:Operand}{q p:n4}{len cap:Int}{z:bl}(n:o.op=.makeSlice t l c)
  (hu:P.underlying t=some (.slice e)) (i:cg env l=.int q len) (g:cg env c=.int p cap) (a:P.info? e=some inf) (ax:inf.zero=some z) (d:z.cells.size=inf.size) (s:0<inf.size)
  (h:pM len cap inf.bytes (.cells (ju cap.toNat z.cells.toList).toArray e) w λb w1=>K (.slice (some ⟨b,0,none⟩) len.toNat cap.toNat) w1):l4 P env o K w:=by
 have he:execOp (cg env) o=(do pure (.value (<- Instr.makeSlice t (cg env l) (cg env c)))):=by unfold execOp;rw[n]
 obtain⟨g',b1,az,r,h⟩:=h;have h:=h _ _ rfl rfl;refine Aa he ?_ h;have wl:IntKind.i64.wrap len=len:=by simp only[IntKind.wrap,IntKind.bits,IntKind.signed];grind
 have oX:IntKind.i64.wrap cap=cap:=by simp only[IntKind.wrap,IntKind.bits,IntKind.signed];grind
 have t1:¬ cap<0:=by omega
 have t2:¬ ((281474976710656:Int)<(inf.bytes:Int)*cap):=by
  grind
 have t3:¬ len<0:=by omega
 have t4:¬ cap<len:=by omega
 have room:(askRoom (cap.toNat*inf.bytes)).run P w=.ok () w:=by
  simp_all
 have j:=PL cap.toNat z.cells (by omega);rw[d]at j;by_cases k:cap.toNat*inf.size=0
 ·have f:cap.toNat=0:=by
   grind[Nat.mul_eq_zero]
  simp[Instr.makeSlice,run_underlying hu,i,g,asInt,asIntOf,Ce a,wl,oX,t1,t2,t3,t4,run_sizeOf a,f,ju,newRow,newObj,Sem.run]
  grind
 ·simp[Instr.makeSlice,run_underlying hu,i,g,asInt,asIntOf,Ce a,wl,oX,t1,t2,t3,t4,run_sizeOf a,k,zeroValue,ax,d,newRow,newObj,Sem.run,<-j]
theorem I8 {t e:bU}(hu:P.underlying t=some (.pointer e))(w:aj):(Op.equal t (.pointer p) (.pointer none)).run P w=.ok p.isNone w:=by
 have h:∀ d:Nat,(Op.equalIn (d+1) t (.pointer p) (.pointer none)).run P w=.ok p.isNone w:=λd=>by cases p<;>simp[Op.equalIn,run_underlying hu]
 exact h 9999
theorem Jh {t e:bU}{c:Nat}(hu:P.underlying t=some (.slice e))(w:aj):(Op.equal t (.slice p l c) (.slice none l' c')).run P w=.ok p.isNone w:=by
 have h:∀ d:Nat,(Op.equalIn (d+1) t (.slice p l c) (.slice none l' c')).run P w=.ok p.isNone w:=λd=>by cases p<;>simp[Op.equalIn,run_underlying hu]
 exact h 9999
theorem nL {u:bU}{K:bl->Prop}(a:o.op=.binOp op t x y u)(b:∀ w,(eqGuard op t x y (cg env x) (cg env y)).run P w=.ok () w)
  (c:∀ w,(binOp op t (cg env x) (cg env y)).run P w=.ok v w) (h:K v):mE P env o K:=by
 have he:execOp (cg env) o=(do pure (.value (<- (do eqGuard op t x y (cg env x) (cg env y);binOp op t (cg env x) (cg env y))))):=by unfold execOp;rw[a]
 refine wb he (λw=>?_) h
 simp_all
theorem LH {g:FuncId}(j:o.op=.call c)(d:c.callee=.value f)(i:cg env f=.func (.func g) first captured)(a:iv P g=true)
  (h:Calls P g (first++c.args.map (cg env)++captured) w λe w'=>sL P (w_ P o.type) λv=>e=.returned v/\K v w'):l4 P env o K w:=by
 refine .inr ⟨g,first++c.args.map (cg env)++captured,?_,h.mono λe w' h=>F1 h⟩;unfold iv at a;cases b:P.funcs[g]? with
 |none=>grind
 |some fn=>
  simp only[b,fP,vV]at a;have k:fn.body≠none:=by
   grind
  have l:fn.name≠ "runtime.NumGoroutine" :=by grind
  unfold execOp;rw[j];simp only[resolve,d,i,Deferred.ofValue,pure_bind,invoke,callFunc]
  simp_all
theorem Ca {b:Builtin}{k:nj}(e:o.op=.call c)(d:c.callee=.builtin b)
  (a:∀ cs,builtin b c.argTypes o.type cs (c.args.map (cg env))=(do pure (.value (<- s))))
  (h:yW P s k K w):l4 P env o K w:=by
 obtain⟨v,w',f,h⟩:=rX h;refine .inl ⟨.value v,w',?_,h⟩;unfold execOp;rw[e];simp only[resolve,d,pure_bind,invoke,a]
 simp_all
theorem zC {c:n4}{a b:Int}:(eqGuard op t x y (.int k a) (.int c b)).run P w=.ok () w:=by cases op<;>rfl
theorem Dx:(eqGuard op t x y (.pointer a) (.pointer b)).run P w=.ok () w:=by cases op<;>rfl
theorem Eb {c:Nat}:(eqGuard op t x y (.slice a l c) (.slice b l' c')).run P w=.ok () w:=by cases op<;>rfl
theorem Fd {K:bl->Prop}(h:xa P env o K):mE P env o K:=by
 unfold xa at h;split at h
 ·rename_i c;split at h
  ·rename_i j;exact MW c j h
  grind
 ·rename_i c;split at h
  ·rename_i a;exact Nt c a h
  grind
 ·rename_i c;split at h
  ·rename_i i;split at h
   ·rename_i hu;split at h
    ·rename_i a d;exact MX c i hu a d h
    grind
   ·rename_i hu;split at h
    ·rename_i a d;exact MY c i hu a d h
    grind
   grind
  grind
 ·rename_i c;split at h
  ·rename_i hu;split at h
   ·rename_i a d;split at h
    ·rename_i l k hm n;refine LG c hu a d l k hm ?_ h
     simp_all
    grind
   grind
  ·exact ry h
 ·rename_i c;split at h
  ·rename_i a b;split at h
   ·rename_i hu;exact nL c (λw=>by rw[a,b];exact Dx) (λw=>by rw[a,b];simp[binOp,I8 hu]) h
   grind
  ·rename_i a b;split at h
   ·rename_i hu;exact nL c (λw=>by rw[a,b];exact Dx) (λw=>by rw[a,b];simp[binOp,I8 hu]) h
   grind
  ·rename_i a b;split at h
   ·rename_i hu;exact nL c (λw=>by rw[a,b];exact Eb) (λw=>by rw[a,b];simp[binOp,Jh hu]) h
   grind
  ·rename_i a b;split at h
   ·rename_i hu;exact nL c (λw=>by rw[a,b];exact Eb) (λw=>by rw[a,b];simp[binOp,Jh hu]) h
   grind
  ·rename_i a b;split at h
   ·exact ry h
   ·obtain⟨rfl,e,h⟩:=h;exact nL c (λw=>by rw[a,b];exact zC) (λw=>by rw[a,b];simp[binOp,Op.intDiv,e]) h
  ·rename_i a b;split at h
   ·exact ry h
   ·obtain⟨rfl,e,h⟩:=h;exact nL c (λw=>by rw[a,b];exact zC) (λw=>by rw[a,b];simp[binOp,Op.intDiv,e]) h
  ·rename_i a b;split at h
   ·exact ry h
   ·obtain⟨e,h⟩:=h;have f:¬ _<(0:Int):=Int.not_lt.2 e;exact nL c (λw=>by rw[a,b];exact zC) (λw=>by rw[a,b];simp only[binOp,Op.shift,f,if_false];rfl) h
  ·rename_i a b;split at h
   ·exact ry h
   ·obtain⟨e,h⟩:=h;have f:¬ _<(0:Int):=Int.not_lt.2 e;exact nL c (λw=>by rw[a,b];exact zC) (λw=>by rw[a,b];simp only[binOp,Op.shift,f,if_false];rfl) h
  ·rename_i a b;obtain⟨r,g,h⟩:=h;exact nL c (λw=>by rw[a,b];exact(g w).1 _ _ _) (λw=>by rw[a,b];exact(g w).2.1) h
  ·rename_i a b;obtain⟨r,g,h⟩:=h;exact nL c (λw=>by rw[a,b];exact(g w).1 _ _ _) (λw=>by rw[a,b];exact(g w).2.2) h
  ·exact ry h
 ·exact ry h
theorem AC (h:q_ P env o K w):l4 P env o K w:=by
 unfold q_ at h;split at h
 ·exact(Fd h).a'
 split at h
 ·rename_i a;exact MV a h
 ·rename_i a;exact LF a h
 ·rename_i a;split at h
  ·rename_i hu i b;split at h
   ·rename_i d;split at h
    ·rename_i f;split at h
     ·grind
     ·rename_i c;simp only[fP]at c;exact MZ a hu i b d f (o0 c.1) (Nat.le_of_ble_eq_true c.2) h
    grind
   grind
  grind
 ·rename_i a;split at h
  ·rename_i b;exact Ca a b (λ_=>rfl) h
  ·rename_i b;exact Ca a b (λ_=>rfl) h
  ·rename_i b;exact Ca a b (λ_=>rfl) h
  ·rename_i b;unfold l5 at h;split at h
   ·rename_i g;split at h
    ·rename_i e;exact LH a b g e h
    grind
   grind
  ·exact Ea h
 ·exact Ea h
theorem PM {Q:Exit->Act->aK}(h:l4 P env o K w)(b:∀ v w',K v w'->next (act (put env o.dst v)) w'):o.wp P (act env) w next Q:=by
 unfold Oper.wp;rw[tu];rcases h with⟨n,w',a,h⟩ | ⟨f,args,a,h⟩
 ·rw[a];cases n with
  |value v=>simp only[Oper.upon,lf];exact b _ _ h
  |skip=>simp only[Oper.upon,lf];exact b _ _ h
  | _=>exact h.elim
 ·rw[a];simp only[Oper.upon];refine h.mono λe w' ⟨v,he,h⟩=>?_
  subst he;simp only[lf]
  grind
theorem vG {Q:Exit->Act->aK}(h:l4 P env o K w)(b:∀ v w',K v w'->next (act (put env o.dst v)) w'):o.wpIn Fence.wide 0 P (act env) w next Q:=by
 refine⟨λ_ _=>trivial,?_⟩;show o.uponIn Fence.wide 0 P (act env) next Q ((execOp (act env).eval o).run P w)
 rw[tu];rcases h with⟨n,w',a,h⟩ | ⟨f,args,a,h⟩
 ·rw[a];cases n with
  |value v=>simp only[Oper.uponIn,lf];exact b _ _ h
  |skip=>simp only[Oper.uponIn,lf];exact b _ _ h
  | _=>exact h.elim
 ·rw[a];simp only[Oper.uponIn];refine⟨λc=>by simp[Fence.wide]at c,callsIn_wide.2 (h.mono λe w' ⟨v,he,h⟩=>?_)⟩;subst he;simp only[lf]
  grind
theorem L6 {Q:Exit->Act->aK}(j:o.op=.call c)(a:c.callee=.value f)(g:cg env f=.func (.yield l) first captured)
  (h:YieldAt Fence.wide 0 P l (first++c.args.map (cg env)) w λe w'=>sL P (w_ P o.type) λv=>e=.returned v/\K v w') (n:∀ v w',K v w'->next (act (put env o.dst v)) w'):o.wpIn Fence.wide 0 P (act env) w next Q:=by
 refine⟨λ_ _=>trivial,?_⟩;show o.uponIn Fence.wide 0 P (act env) next Q ((execOp (act env).eval o).run P w)
 rw[tu];obtain⟨fn,tmps,assign,body,b,d⟩:=h;have k:(execOp (cg env) o).run P w=.ok (.round l fn tmps assign body) w:=by
  unfold execOp;rw[j];simp only[resolve,a,g,Deferred.ofValue,pure_bind,invoke]
  grind
 rw[k];simp only[Oper.uponIn];refine⟨λa=>by simp[Fence.wide]at a,d.mono λe w' h=>?_⟩;obtain⟨v,he,i⟩:=F1 h;subst he;simp only[lf]
 grind
theorem M2 {Q:Exit->Act->aK}(h:BX P env o K w)(a:∀ v w',K v w'->next (act (put env o.dst v)) w'):o.wpIn Fence.wide 0 P (act env) w next Q:=by
 unfold BX at h;split at h
 ·rename_i c d;split at h
  ·rename_i f b;unfold i_ at h;split at h
   ·rename_i l first captured e
    exact L6 d b e h a
   ·refine vG (AC ?_) a;cases o with
    |mk dst op type pos after guard=>
     cases c with
     |mk callee args argTypes=>simp only at d b;subst d;subst b;exact h
  ·exact vG (AC h) a
 ·exact vG (AC h) a
end
def sl (ops:e9)(j:Nat):Option Tmp:=match ops[j]? with | some o=>o.dst | none=>none
def dh (P:c7)(all:e9):e9->au->(au->aK)->aK
 | [],env,K,w=>K env w
 |o::rest,env,K,w=>
  match o.guard with
  |none=>BX P env o (λv w'=>dh P all rest (put env o.dst v) K w') w
  |some (j,want)=>match sl all j with
   |none=>False
   |some d=>match env[d]? with
    |some (.bool b)=>
     bif b then(match want with
      |true=>q_ P (env.set d (.bool true)) o (λv w'=>dh P all rest (put (env.set d (.bool true)) o.dst v) K w') w
      |false=>dh P all rest (put (env.set d (.bool true)) o.dst undef) K w)
     else(match want with
      |true=>dh P all rest (put (env.set d (.bool false)) o.dst undef) K w
      |false=>q_ P (env.set d (.bool false)) o (λv w'=>dh P all rest (put (env.set d (.bool false)) o.dst v) K w') w)
    |some _=>dh P all rest (put env o.dst undef) K w
    |none=>False
theorem Cu {ops:Array Oper}{o:Oper}(a:o.guard=none):Region.wanted o (yielded ops (act env).tmps)=true:=by simp[Region.wanted,a]
theorem Cv {j:Nat}{d:Tmp}(h:sl all j=some d):yielded all.toArray (act env).tmps j=match env[d]? with | some (.bool b)=>some b | _=>none:=by
 unfold yielded sl at *;cases a:all[j]? with
 |none=>grind
 |some o=>
  simp only[a]at h;simp only[zq,a,Option.bind_some,h,act]
  grind
theorem oU {P:c7}{all:e9}{Q:Exit->Act->aK}:∀ (l:e9) (env:au) (w:aj) (K:au->aK),
  (∀ env w,K env w->Q .normal (act env) w)->dh P all l env K w->wpListIn Fence.wide 0 P all.toArray Q l (act env) w
 | [],env,w,K,e,h=>e _ _ h
 |o::rest,env,w,K,e,h=>by
  unfold dh at h;unfold wpListIn;cases c:o.guard with
  |none=>simp only[c]at h;rw[bm (Cu c)];exact M2 h λv w' h=>oU rest _ _ K e h
  |some p=>
   obtain⟨j,want⟩:=p;simp only[c]at h;cases dR:sl all j with
   |none=>grind
   |some d=>
    simp only[dR]at h;have f:=Cv (env:=env) dR;cases he:env[d]? with
    |none=>grind
    |some v=>
     have a:env.set d v=env:=by
      apply jb
      grind
     cases v with
     |bool b=>
      simp only[he]at h;cases b with
      |true=>
       rw[cond_true,a]at h;cases want with
       |true=>simp only at h;rw[bm (by simp[Region.wanted,c,f,he])];exact vG (AC h) λv w' h=>oU rest _ _ K e h
       |false=>simp only at h;rw[aW (by simp[Region.wanted,c,f,he]),lf];exact⟨λ_ _=>trivial,oU rest _ _ K e h⟩
      |false=>
       rw[cond_false,a]at h;cases want with
       |true=>simp only at h;rw[aW (by simp[Region.wanted,c,f,he]),lf];exact⟨λ_ _=>trivial,oU rest _ _ K e h⟩
       |false=>simp only at h;rw[bm (by simp[Region.wanted,c,f,he])];exact vG (AC h) λv w' h=>oU rest _ _ K e h
     | _=>simp only[he]at h;rw[aW (by simp[Region.wanted,c,f,he]),lf];exact⟨λ_ _=>trivial,oU rest _ _ K e h⟩
section
variable {P:c7}{ops:Array Oper}{Q:Exit->Act->aK}{S:aK}{nd:Nat->Bool}
def rY (P:c7)(ops:Array Oper)(Q:Exit->Act->aK)(S:aK)(nd:Nat->Bool):Nat->Array Bool->Act->aK
 | 0,dn,a,w=>Region.ready .any ops dn=[]/\Q .normal a w
 |fuel+1,dn,a,w=>
  (Region.ready .any ops dn=[]->Q .normal a w)/\
  ∀ i ∈ Region.ready .any ops dn,wpOp P ops Q i (λbS w'=>(nd i=true->S w->S w')/\rY P ops Q S nd fuel (dn.setIfInBounds i true) bS w') a w
theorem vE:∀ (fuel:Nat)(dn:Array Bool)(a:Act)(w:aj),rY P ops Q S nd fuel dn a w->wpAny P .any ops Q fuel dn a w
 | 0,_,_,_,h=>h
 |fuel+1,_,_,_,h=>⟨h.1,λi c=>wpOp_mono (λbS w' b=>vE fuel _ bS w' b.2) (h.2 i c)⟩
def lp (ops:Array Oper)(dn:Array Bool):Prop:=∀ j a,ops[j]?=some a->dn.getD j false=true->∀ e ∈ a.after,Region.binds .any e=true->dn.getD e.on false=true
theorem lp.set {dn:Array Bool}{i:Nat}(h:lp ops dn)(g:i ∈ Region.ready .any ops dn):lp ops (dn.setIfInBounds i true):=by
 intro j l c f e he d;by_cases b:j=i
 ·subst b;obtain⟨_,o,k,a⟩:=mem_ready.1 g;rw[k]at c;cases c;exact getD_set_true (a e he d)
 ·rw[getD_set_ne false (Ne.symm b)]at f;exact getD_set_true (h j l c f e he d)
theorem Cz {i:Nat}{L:Bool}(D:ops[i]?=some kB)(l:∀ (j:Nat) (o:Oper) cs b,ops[j]?=some o->o.op≠.select cs b)
  (c4:∀ c a w,Q (.panic c) (a.put kB.dst v) w->Q (.panic c) a w) :
  ∀ (fuel:Nat) (dn:Array Bool) (a:Act) (w:aj),lp ops dn->
   (∀ (l2:Array Bool) j p,lp ops l2->(∀ k,dn.getD k false=true->l2.getD k false=true)->l2.getD i true=false->j ∈ Region.ready .any ops l2->ops[j]?=some p->j≠i->dn.getD j true=false->(∀ e ∈ p.after,Region.binds .any e=true->e.on≠i)->kB.apart ops p=true/\(L=true->nd j=true))->
   i ∈ Region.ready .any ops dn->YieldsIf P ops (λw=>L=true->S w) kB v a->(L=true->S w)->
   rY P ops Q S nd fuel (dn.setIfInBounds i true) (a.put kB.dst v) w->rY P ops Q S nd (fuel+1) dn a w:=by
 intro fuel;induction fuel with
 |zero=>
  intro dn a w _ _ B C A H;refine⟨λh=>(by grind),λj r=>?_⟩;by_cases d:j=i
  ·subst d;exact C.wpOp D A ⟨λ_ h=>h,H⟩
  ·have:=ready_mono r d;rw[H.1]at this
   grind
 |succ fuel W=>
  intro dn a w u f B C A H;refine⟨λh=>(by grind),λj r=>?_⟩;by_cases d:j=i
  ·subst d;exact C.wpOp D A ⟨λ_ h=>h,H⟩
  ·have G:=H.2 j (ready_mono r d);obtain ⟨y,p,n,t⟩:=mem_ready.1 r;have z:∀ e ∈ p.after,Region.binds .any e=true->e.on≠i:=λe he O heq=>by
    have G:=t e he O;have X:=(mem_ready.1 B).1
    grind
   have x:=f dn j p u (λ_ h=>h) (mem_ready.1 B).1 r n d y z;have J:=wpOp_putIf n x.1 (λcs b=>l i kB cs b D) (λcs b=>l j p cs b n) c4 C G;have g:∀ (l2:Array Bool) k ok,lp ops l2->(∀ q,(dn.setIfInBounds j true).getD q false=true->l2.getD q false=true)->l2.getD i true=false->k ∈ Region.ready .any ops l2->ops[k]?=some ok->k≠i->(dn.setIfInBounds j true).getD k true=false->
     (∀ e ∈ ok.after,Region.binds .any e=true->e.on≠i)->kB.apart ops ok=true/\(L=true->nd k=true):=λl2 k ok s K M N T E V F=>by
    refine f l2 k ok s (λq U=>K q (getD_set_true U)) M N T E ?_ F;by_cases R:j=k
    ·grind
    simp_all
   refine wpOp_mono (λbS w' s=>⟨s.2.1,W (dn.setIfInBounds j true) bS w' (u.set r) g (ready_mono B (Ne.symm d)) s.1 (λI=>s.2.1 (x.2 I) (A I)) ?_⟩) J
   grind[Array.setIfInBounds_comm]
end
def kH:Op->Bool
 |.load ..=>true
 | _=>false
def AZ (ops:e9)(j i:Nat):Bool:=match ops[j]? with
 |some o=>o.after.any λe=>Region.binds .any e && e.on == i
 |none=>false
def q7 (ops:e9)(j:Nat):Bool:=(List.range ops.length).any λi=>i != j && (match ops[i]? with | some o=>kH o.op | none=>false) && !AZ ops j i
def rZ (m:cV)(o:Oper):cV:=m++[o.after.toList.foldl (λx e=>match Region.binds .any e with | true=>x ||| (1 <<< e.on) ||| m.getD e.on 0 | false=>x) 0]
def Gy (ops:e9):cV:=ops.foldl rZ []
def r0 (ops:e9)(j i:Nat):Bool:=((Gy ops).getD j 0).testBit i
def BV (ops:e9)(j:Nat):Bool:=(List.range ops.length).any λi=>i != j && (match ops[i]? with | some o=>kH o.op | none=>false) && !r0 ops j i && !r0 ops i j
def RO:Op->Bool
 |.call ..=>true
 | _=>false
def S':Op->Bool
 |.indexAddr ..=>true
 | _=>false
def Ad (ops:e9):Bool:=ops.any λo=>kH o.op && o.after.any λe=>match ops[e.on]? with
 |some p=>S' p.op && p.after.any λa=>match ops[a.on]? with
  |some q=>RO q.op
  |none=>false
 |none=>false
def w9 (ops:e9):Bool->Nat->Bool
 |true=>BV ops
 |false=>q7 ops
def sm (nd:Nat->Bool)(ops:e9)(dn:Array Bool)(i:Nat):Bool:=
 nd i || (List.range ops.length).any λk=>!dn.getD k true && k != i && (match ops[k]? with | some o=>!wT o.op | none=>false) && nd k
def PN (ops:e9):Bool:=ops.any λo=>kH o.op
def Gz (P:c7)(S:aK)(t:bU)(x:bl)(K:bl->Prop):Prop:=
 match x with
 |.pointer (some a)=>
  match P.info? t with
  |none=>False
  |some inf=>
   match gD P t with
   |true=>match Nat.beq (q4 P 8 t).length inf.size with
    |true=>qW (q4 P 8 t) λvs=>(∀ w,S w->b6 w a 0 vs)/\K (.agg vs.toArray)
    |false=>False
   |false=>match P.underlying t with
    |none=>False
    |some d=>pF (yG (some d)) λv=>(∀ w,S w->w.cell? a=some v)/\K v
 | _=>False
def AK (P:c7)(S:aK)(env:au)(o:Oper)(K:bl->Prop):Prop:=
 match o.op with
 |.load t x=>Gz P S t (cg env x) K
 | _=>xa P env o K
def wU (all:e9)(env:au)(g:Option (Nat×Bool))(run skip:au->Prop):Prop:=
 match g with
 |none=>run env
 |some (j,want)=>match sl all j with
  |none=>False
  |some d=>match env[d]? with
   |some (.bool b)=>
    bif b then(match want with | true=>run (env.set d (.bool true)) | false=>skip (env.set d (.bool true)))
    else(match want with | true=>skip (env.set d (.bool false)) | false=>run (env.set d (.bool false)))
   |some _=>skip env
   |none=>False
def Bt:List Prop->Prop
 | []=>True
 | [p]=>p
 |p::cp=>p/\Bt cp
theorem EB:∀ {cp:List Prop}{p:Prop},Bt cp->p ∈ cp->p
 | [q],p,h,hm=>by simp only[rK]at hm;subst hm;exact h
 |q::r::rs,p,h,hm=>by
  rcases gw.1 hm with rfl | hm
  ·exact h.1
  ·exact EB h.2 hm
def Vc:Bool->Bool->Prop->Prop->Prop
 |true,true,s,p=>s/\p
 |true,false,_,p=>p
 |false,false,_,p=>p
 |false,true,_,_=>False
def Bo:Bool->Prop->Prop
 |true,_=>False
 |false,p=>p
def o2 (P:c7)(ops:e9)(nd:Nat->Bool)(S:aK)(K:au->aK):Nat->Array Bool->Bool->au->aK
 | 0,dn,_,env,w=>Bo (!(Region.ready .any ops.toArray dn).isEmpty) (K env w)
 |fuel+1,dn,a,env,w=>
  match (Region.ready .any ops.toArray dn).find? (λi=>match ops[i]? with | some o=>(wT o.op || (kH o.op && a)) && Region.free .any ops.toArray dn i | none=>false)with
  |some i=>match ops[i]? with
   |none=>False
   |some o=>wU ops env o.guard (λenv=>AK P S env o λv=>o2 P ops nd S K fuel (dn.setIfInBounds i true) a (put env o.dst v) w)
     (λenv=>o2 P ops nd S K fuel (dn.setIfInBounds i true) a (put env o.dst undef) w)
  |none=>match (Region.ready .any ops.toArray dn)with
   | []=>K env w
   |rs=>Bt (rs.map λi=>match ops[i]? with
    |none=>False
    |some o=>wU ops env o.guard (λenv=>q_ P env o (λv w'=>Vc a (sm nd ops dn i) (S w') (o2 P ops nd S K fuel (dn.setIfInBounds i true) (a && sm nd ops dn i) (put env o.dst v) w')) w)
     (λenv=>o2 P ops nd S K fuel (dn.setIfInBounds i true) a (put env o.dst undef) w))
theorem L7 {S:aK}{o:Oper}(h:AK P S env o K):∃ v,(∀ w,(kH o.op=true->S w)->(execOp (cg env) o).run P w=.ok (.value v) w)/\K v:=by
 unfold AK at h;split at h
 ·rename_i t x e;have he:execOp (cg env) o=(do pure (.value (<- Instr.loadAt t (cg env x)))):=by unfold execOp;rw[e]
  have i:kH o.op=true:=by rw[e];rfl
  unfold Gz at h;split at h
  ·rename_i l f;split at h
   ·grind
   ·rename_i inf b;split at h
    ·rename_i a;split at h
     ·rename_i hlen;obtain⟨vs,j,g,h⟩:=ud h;obtain⟨d,dR⟩:=BU a;refine⟨_,λw c=>?_,h⟩;have k:vs.length=inf.size:=by simp_all
      rw[he,Sem.run_bind];simp only[Instr.loadAt,f,Instr.sureAddr,pure_bind,loadVar,Sem.run_bind,pQ dR,Result.andThen_ok,a,if_true,run_sizeOf b];have:=run_loadCellsFrom (P:=P) (acc:=#[]) (g w (c i));rw[k]at this;simp[loadCells,this]
     grind
    ·rename_i a;split at h
     ·grind
     ·rename_i d dR;obtain⟨v,ar,h⟩:=rX h;refine⟨_,λw c=>?_,h⟩;rw[he,Sem.run_bind];simp only[Instr.loadAt,f,Instr.sureAddr,pure_bind,loadVar,Sem.run_bind,pQ dR,Result.andThen_ok,a]
      simp_all
  grind
 ·obtain⟨v,n,h⟩:=Fd h
  grind
theorem Cw {o:Oper}{run skip:au->Prop}(h:wU all env o.guard run skip) :
  (Region.wanted o (yielded all.toArray (act env).tmps)=true/\run env)\/(Region.wanted o (yielded all.toArray (act env).tmps)=false/\skip env):=by
 unfold wU at h;cases c:o.guard with
 |none=>simp only[c]at h;exact .inl ⟨Cu c,h⟩
 |some p=>
  obtain⟨j,want⟩:=p;simp only[c]at h;cases dR:sl all j with
  |none=>grind
  |some d=>
   simp only[dR]at h;have e:=Cv (env:=env) dR;cases he:env[d]? with
   |none=>grind
   |some v=>
    have a:env.set d v=env:=by
     apply jb
     grind
    cases v with
    |bool b=>
     simp only[he]at h;cases b with
     |true=>
      rw[cond_true,a]at h;cases want with
      |true=>exact .inl ⟨by simp[Region.wanted,c,e,he],h⟩
      |false=>exact .inr ⟨by simp[Region.wanted,c,e,he],h⟩
     |false=>
      rw[cond_false,a]at h;cases want with
      |true=>exact .inr ⟨by simp[Region.wanted,c,e,he],h⟩
      |false=>exact .inl ⟨by simp[Region.wanted,c,e,he],h⟩
    | _=>simp only[he]at h;exact .inr ⟨by simp[Region.wanted,c,e,he],h⟩
theorem Ta {i j:Nat}{b:Oper}(f:ops[i]?=some kB)(g:ops[j]?=some b)(h:kH kB.op=true)(c:j≠i)(d:∀ e ∈ b.after,Region.binds .any e=true->e.on≠i):q7 ops j=true:=by
 unfold q7;rw[Ck];have a:i<ops.length:=by
  grind
 refine⟨i,jd.2 a,?_⟩;have hw:AZ ops j i=false:=by
  unfold AZ
  grind
 grind
def xe (ops:e9)(nd:Nat->Bool):Prop:=∀ (dn l2:Array Bool) (i j:Nat) (kB a:Oper),ops[i]?=some kB->ops[j]?=some a->kH kB.op=true->lp ops.toArray dn->lp ops.toArray l2->
 (∀ k,dn.getD k false=true->l2.getD k false=true)->i ∈ Region.ready .any ops.toArray dn->l2.getD i true=false->j ∈ Region.ready .any ops.toArray l2->j≠i->(∀ e ∈ a.after,Region.binds .any e=true->e.on≠i)->nd j=true
theorem Ae (ops:e9):xe ops (q7 ops):=λ_ _ i j kB f c d e _ _ _ _ _ _ a b=>Ta c d e a b
inductive lP (ops:e9):Nat->a6
 |one {j o e}:ops[j]?=some o->e ∈ o.after->Region.binds .any e=true->lP ops j e.on
 |more {j o e i}:ops[j]?=some o->e ∈ o.after->Region.binds .any e=true->lP ops e.on i->lP ops j i
theorem lP.dn {l:Array Bool}(c:lp ops.toArray l){j i:Nat}(h:lP ops j i):l.getD j false=true->l.getD i false=true:=by
 induction h with
 |one d he a=>exactλb=>c _ _ (by grind) b _ he a
 |more d he a _ e=>exactλb=>e (c _ _ (by grind) b _ he a)
theorem lP.ready {l:Array Bool}(f:lp ops.toArray l){j i:Nat}(h:lP ops j i)(g:j ∈ Region.ready .any ops.toArray l):l.getD i false=true:=by
 obtain⟨_,o,d,b⟩:=mem_ready.1 g;cases h with
 |one a he c=>
  grind
 |more a he c e=>simp only[zq]at d;rw[d]at a;cases a;exact e.dn f (b _ he c)
theorem Cx {ops:e9}{m:cV}{k:Nat}{o:Oper}(d:ops[k]?=some o)(hm:∀ j i,(m.getD j 0).testBit i=true->lP ops j i):∀ (es:List Edge) (x:Nat),(∀ e ∈ es,e ∈ o.after)->(∀ i,x.testBit i=true->lP ops k i)->
  ∀ i,(es.foldl (λx e=>match Region.binds .any e with | true=>x ||| (1 <<< e.on) ||| m.getD e.on 0 | false=>x) x).testBit i=true->lP ops k i
 | [],x,_,f,i,h=>f i h
 |e::es,x,he,f,i,h=>by
  rw[vS]at h;refine Cx d hm es _ (λg l=>he g (gm _ l)) (λi a=>?_) i h;have c:=he e (g_ ..);cases b:Region.binds .any e with
  |false=>grind
  |true=>
   rw[b]at a;simp only[Nat.testBit_or,zr]at a;rcases a with(a | a) | a
   ·grind
   ·rw[Nat.one_shiftLeft,Nat.testBit_two_pow]at a;have:e.on=i:=by grind
    rw[<-this];exact .one d c b
   ·exact .more d c b (hm _ _ a)
theorem EC (ops:e9):∀ j i,((Gy ops).getD j 0).testBit i=true->lP ops j i:=by
 have main:∀ n,n<=ops.length->((ops.take n).foldl rZ []).length=n/\∀ j i,(((ops.take n).foldl rZ []).getD j 0).testBit i=true->lP ops j i:=by
  intro n;induction n with
  |zero=>grind
  |succ n g=>
   intro k;obtain⟨a,b⟩:=g (by omega);obtain⟨o,c⟩:∃ o,ops[n]?=some o:=⟨_,bW (by omega)⟩;rw[tK,c,Option.toList_some,List.foldl_append];generalize (ops.take n).foldl rZ []=M at a b ⊢;simp only[vS,List.foldl_nil];refine⟨by unfold rZ;grind,λj i h=>?_⟩;unfold rZ at h;rw[lF,rF]at h;split at h
   ·grind
   ·rename_i f;by_cases d:j=n
    ·subst d;rw[a,rC]at h;exact Cx c b _ 0 (λe he=>by grind) (λi h=>by grind) i h
    grind
 have:=main ops.length (dr _);rw[jC]at this;exact this.2
theorem F2 {l:Array Bool}{k:Nat}(h:l.getD k true=false):¬ l.getD k false=true:=by
 grind
theorem RP (ops:e9):xe ops (BV ops):=by
 intro dn l2 i j kB r h p q g c b e f a k l;unfold BV;rw[Ck];have d:i<ops.length:=(rG.1 h).1;refine⟨i,jd.2 d,?_⟩;have n:r0 ops j i=false:=by
  cases hw:r0 ops j i with
  |false=>rfl
  |true=>exact b_ ((EC ops j i hw).ready c a) (F2 f)
 have o:r0 ops i j=false:=by
  cases hw:r0 ops i j with
  |false=>rfl
  |true=>exact b_ (b _ ((EC ops i j hw).ready g e)) (F2 (mem_ready.1 a).1)
 grind
theorem ED (ops:e9):∀ b,xe ops (w9 ops b)
 |true=>RP ops
 |false=>Ae ops
theorem nF {P:c7}{ops:e9}{nd:Nat->Bool}(l:xe ops nd){S:aK}{K:au->aK}{Q:Exit->Act->aK}(y:Region.noSelect ops.toArray=true)
  (B:∀ env w,K env w->Q .normal (act env) w) (c4:∀ c a w,¬ Q (.panic c) a w) :
  ∀ (fuel:Nat) (dn:Array Bool) (d:Bool) (env:au) (w:aj),lp ops.toArray dn->(d=true->S w)->o2 P ops nd S K fuel dn d env w->rY P ops.toArray Q S nd fuel dn (act env) w
 | 0,dn,d,env,w,g,z,h=>by
  unfold o2 at h;unfold rY;cases D:Region.ready .any ops.toArray dn with
  |nil=>simp[D,Bo]at h;grind
  |cons x xs=>simp[D,Bo]at h
 |fuel+1,dn,d,env,w,g,z,h=>by
  unfold o2 at h;split at h
  ·rename_i i q;have f:=List.mem_of_find?_eq_some q;have J:=List.find?_some q;cases E:ops[i]? with
   |none=>grind
   |some o=>
    simp only[E]at h;simp only[E,fP,zr]at J;have u:ops.toArray[i]?=some o:=by grind
    have s:kH o.op=true->d=true:=by
     intro C;rcases J.1 with I | I
     ·revert I C;cases o.op<;>simp[wT,kH]
     grind
    have r:∀ (l2:Array Bool) j F,lp ops.toArray l2->(∀ k,dn.getD k false=true->l2.getD k false=true)->l2.getD i true=false->j ∈ Region.ready .any ops.toArray l2->ops.toArray[j]?=some F->j≠i->dn.getD j true=false->(∀ e ∈ F.after,Region.binds .any e=true->e.on≠i)->o.apart ops.toArray F=true/\(kH o.op=true->nd j=true):=
     λl2 j F N O R T V H M t=>⟨Region.free_spec u J.2 j F V H M t,λC=>l dn l2 i j o F E (by grind) C g N O f R T H t⟩
    rcases Cw h with⟨hw,h⟩ | ⟨hw,h⟩
    ·obtain⟨v,D,h⟩:=L7 h;refine Cz (L:=kH o.op) (v:=v) u (Region.noSelect_spec y) (λc a w h=>(c4 _ _ _ h).elim) fuel dn (act env) w g r f ?_ (λC=>z (s C)) ?_
     ·exact .inl ⟨hw,λw z=>by rw[tu];grind⟩
     ·rw[lf];exact nF l y B c4 fuel _ d _ w (g.set f) z h
    ·refine Cz (L:=kH o.op) (v:=undef) u (Region.noSelect_spec y) (λc a w h=>(c4 _ _ _ h).elim) fuel dn (act env) w g r f (.inr ⟨hw,rfl⟩) (λC=>z (s C)) ?_;rw[lf];exact nF l y B c4 fuel _ d _ w (g.set f) z h
  ·cases D:Region.ready .any ops.toArray dn with
   |nil=>simp only[D]at h;exact⟨λ_=>B _ _ h,by grind⟩
   |cons x xs=>
    simp only[D]at h;refine⟨λX=>(by grind),λi A=>?_⟩;have n:=g.set A;rw[D]at A;have u:=EB h (dD.2 ⟨i,A,rfl⟩);cases E:ops[i]? with
    |none=>grind
    |some o=>
     simp only[E]at u;unfold wpOp;simp only[zq,E];rcases Cw u with⟨hw,u⟩ | ⟨hw,u⟩
     ·rw[bm hw];refine .inl (PM (AC u) λv w' h=>?_);have t:sm nd ops dn i=false->¬ nd i=true:=by intro U W;simp[sm,W]at U
      cases p:d with
      |true=>
       cases b:sm nd ops dn i with
       |true=>rw[p,b]at h;exact⟨λ_ _=>h.1,nF l y B c4 fuel _ _ _ w' n (λ_=>h.1) h.2⟩
       |false=>rw[p,b]at h;exact⟨λG=>b_ G (t b),nF l y B c4 fuel _ _ _ w' n (λG=>by grind) h⟩
      |false=>
       cases b:sm nd ops dn i with
       |true=>rw[p,b]at h;exact h.elim
       |false=>rw[p,b]at h;exact⟨λG=>b_ G (t b),nF l y B c4 fuel _ _ _ w' n (λG=>by grind) h⟩
     ·rw[aW (by grind),lf];exact⟨λ_ h=>h,nF l y B c4 fuel _ d _ w n z u⟩
def uw (P:c7)(ops:e9)(env:au)(K:au->aK)(w:aj):Prop:=
 match PN ops with
 |true=>∀ w1,w1=w.drew->∃ S:aK,S w1/\o2 P ops (w9 ops (Ad ops)) S K ops.length (Array.replicate ops.length false) true env w1
 |false=>∀ w1,w1=w.drew->o2 P ops (q7 ops) (λ_=>True) K ops.length (Array.replicate ops.length false) true env w1
theorem y4 (ops:Array Oper)(n:Nat):lp ops (Array.replicate n false):=by
 intro j b _ a;exfalso;rcases Nat.lt_or_ge j n with h | h
 ·simp_all
 grind
theorem Lc (hm:P.follows .mixedOrders=true){id:Nat}{K:au->aK}{Q:Exit->Act->aK}(d:Region.noSelect ops.toArray=true)
  (b:∀ env w,K env w->Q .normal (act env) w) (c4:∀ c a w,¬ Q (.panic c) a w) (h:uw P ops env K w):(Code.region id ops.toArray true).wp P Q (act env) w:=by
 unfold uw at h;split at h
 ·obtain⟨S,e,h⟩:=h _ rfl;refine wp_region_any hm (vE (S:=S) (nd:=w9 ops (Ad ops)) _ _ _ _ ?_);have:=nF (ED ops _) d b c4 _ _ _ _ _ (y4 _ _) (λ_=>e) h
  simp_all
 ·refine wp_region_any hm (vE (S:=λ_=>True) (nd:=q7 ops) _ _ _ _ ?_);have:=nF (Ae ops) d b c4 _ _ _ _ _ (y4 _ _) (λ_=>trivial) (h _ rfl)
  simp_all
def qw (Q:Exit->au->aK):Exit->Act->aK
 |.panic _,_,_=>False
 |.outgrown,_,_=>False
 |e,a,w=>a.defers=[]/\Q e a.tmps.toList w
theorem jm {e:Exit}(h:Q e env w)(he:(∀ c,e≠.panic c)/\e≠.outgrown):qw Q e (act env) w:=by
 cases e with
 |panic c=>grind
 |outgrown=>grind
 | _=>exact⟨rfl,by simpa[act]using h⟩
theorem re {e:Exit}{a:Act}(h:qw Q e a w):((∀ c,e≠.panic c)/\e≠.outgrown)/\∃ env,a=act env/\Q e env w:=by
 have mk:∀ (a:Act),a.defers=[]->a=act a.tmps.toList:=λa b=>by
  cases a with
  |mk t d=>simp only at b;subst b;simp[act]
 cases e with
 |panic c=>exact h.elim
 |outgrown=>exact h.elim
 |normal=>exact⟨⟨λ_=>by simp,by simp⟩,_,mk a h.1,h.2⟩
 |exit i=>exact⟨⟨λ_=>by simp,by simp⟩,_,mk a h.1,h.2⟩
 |goto i=>exact⟨⟨λ_=>by simp,by simp⟩,_,mk a h.1,h.2⟩
 |ret=>exact⟨⟨λ_=>by simp,by simp⟩,_,mk a h.1,h.2⟩
def cj (P:c7)(c:Code)(env:au)(Q:Exit->au->aK)(w:aj):Prop:=c.wp P (qw Q) (act env) w
def aM (next:au->aK)(Q:Exit->au->aK):Exit->au->aK
 |.normal,env,w=>next env w
 |e,env,w=>Q e env w
def aL (id:Nat)(Q:Exit->au->aK):Exit->au->aK
 |.exit i,env,w=>match Nat.beq i id with
  |true=>Q .normal env w
  |false=>Q (.exit i) env w
 |e,env,w=>Q e env w
def W (P:c7):Code->au->(Exit->au->aK)->aK
 |.skip,env,Q,w=>Q .normal env w
 |.region _ ops draw,env,Q,w=>match draw with
  |false=>dh P ops.toList ops.toList env (Q .normal) w
  |true=>match Region.noSelect ops with
   |true=>uw P ops.toList env (Q .normal) w
   |false=>False
 |.seq a b,env,Q,w=>W P a env (aM (λenv w=>W P b env Q w) Q) w
 |.cond c x y,env,Q,w=>match cg env c with
  |.bool b=>bif b then W P x env Q w else W P y env Q w
  | _=>False
 |.block id c,env,Q,w=>W P c env (aL id Q) w
 |.exit id,env,Q,w=>Q (.exit id) env w
 |.ret,env,Q,w=>Q .ret env w
 |c,env,Q,w=>cj P c env Q w
theorem p5 {P:c7}(hm:P.follows .mixedOrders=true):∀ (c:Code) (env:au) (Q:Exit->au->aK) (w:aj),W P c env Q w->cj P c env Q w
 |.skip,env,Q,w,h=>wp_skip (jm h ⟨λ_=>by simp,by simp⟩)
 |.region id ops draw,env,Q,w,h=>by
  unfold W at h;cases draw with
  |false=>simp only at h;exact wpIn_wide.1 (wpIn_region_list (n:=0) (oU (all:=ops.toList) ops.toList env w (Q .normal) (λenv w o=>jm o ⟨λ_=>by simp,by simp⟩) h))
  |true=>
   simp only at h;split at h
   ·rename_i p;have:=Lc (id:=id) hm (Q:=qw Q) (by simp_all) (λenv w o=>jm o ⟨λ_=>by simp,by simp⟩) (λc a w h=>h.elim) h;unfold cj
    simp_all
   grind
 |.seq a b,env,Q,w,h=>by
  have k:=p5 hm a env _ w h;refine wp_seq (wp_mono k λe bS w' f=>?_);obtain⟨he,g,l,d⟩:=re f;subst l;clear f;cases e with
  |normal=>exact p5 hm b g Q w' d
  |panic c=>grind
  |outgrown=>grind
  |exit i=>exact jm d he
  |goto i=>exact jm d he
  |ret=>exact jm d he
 |.cond c x y,env,Q,w,h=>by
  unfold W at h;split at h
  ·rename_i b j;refine wp_cond (t:=b) (by rw[tu];exact j) ?_;cases b with
   |true=>exact p5 hm x env Q w h
   |false=>exact p5 hm y env Q w h
  grind
 |.block id c,env,Q,w,h=>by
  have k:=p5 hm c env _ w h;refine wp_block (wp_mono k λe bS w' f=>?_);obtain⟨he,g,l,d⟩:=re f;subst l;clear f;cases e with
  |exit i=>
   simp only[aL]at d;simp only[Exit.inBlock];cases j:Nat.beq i id with
   |true=>rw[j]at d;rw[bm (o0 j)];exact jm d ⟨λ_=>by simp,by simp⟩
   |false=>rw[j]at d;rw[aW (Cj j)];exact jm d he
  |panic c=>grind
  |outgrown=>grind
  |normal=>exact jm d he
  |goto i=>exact jm d he
  |ret=>exact jm d he
 |.exit id,env,Q,w,h=>wp_exit (jm h ⟨λ_=>by simp,by simp⟩)
 |.ret,env,Q,w,h=>wp_ret (jm h ⟨λ_=>by simp,by simp⟩)
 |.loop _,_,_,_,h=>h
 |.rangeFunc ..,_,_,_,h=>h
 |.scope _,_,_,_,h=>h
 |.label _,_,_,_,h=>h
 |.goto _,_,_,_,h=>h
 |.refuse _,_,_,_,h=>h
theorem M0 {Q:Exit->Act->aK}{a:Act}{c:Code}(bf:Nat->Act->aK)(y:Nat)(t:bf y a w)
  (round:∀ n a w,bf n a w->c.wp P (Exit.then (λbS w'=>∃ m,m<n/\bf m bS w') Q) a w):(Code.loop c).wp P Q a w:=by
 intro b k cs;have key:∀ n a w,bf n a w->
   ∃ e bS w',Q e bS w'/\Arrives P (lone (b.at a (.code c::.inLoop c::k)) cs w) b k cs e bS w':=by
  intro n;induction n using Nat.strongRecOn with
  | _ n u=>
   intro a w s;obtain⟨e,h,i,f,d⟩:=round n a w s b (.inLoop c::k) cs;cases e with
   |normal=>obtain⟨m,o,j⟩:=f;obtain⟨r,q,z,p,g⟩:=u m o h i j;exact⟨r,q,z,p,.of_steps (Steps.trans d (.one step_inLoop)) g⟩
   |exit id=>exact⟨_,h,i,f,.pass (x:=.inLoop c) rfl (λ_ _=>.inl (by simp)) d⟩
   |goto l=>exact⟨_,h,i,f,.pass (x:=.inLoop c) rfl (λ_ _=>.inl (by simp)) d⟩
   |ret=>exact⟨_,h,i,f,.pass (x:=.inLoop c) rfl (λ_ _=>.inl (by simp)) d⟩
   |panic A=>exact⟨_,h,i,f,.pass (x:=.inLoop c) rfl (λ_ _=>.inl (by simp)) d⟩
   |outgrown=>exact⟨_,h,i,f,.pass (x:=.inLoop c) rfl (λ_ _=>.inl (by simp)) d⟩
 obtain⟨e,bS,w',f,d⟩:=key _ a w t;exact⟨e,bS,w',f,.of_steps (.one step_loop) d⟩
theorem cP (hm:P.follows .mixedOrders=true){c:Code}
  (bf:Nat->au->aK) (h:Nat) (j:bf h env w)
  (o:∀ n env w,bf n env w->W P c env (aM (λb w'=>∃ m,m<n/\bf m b w') Q) w):cj P (.loop c) env Q w:=by
 refine M0 (λn a w=>∃ env,a=act env/\bf n env w) h ⟨env,rfl,j⟩ ?_;rintro n a w ⟨env,rfl,k⟩;refine wp_mono (p5 hm c env _ w (o n env w k)) λe bS w' d=>?_
 obtain⟨he,b,l,f⟩:=re d;subst l;clear d;cases e with
 |normal=>obtain⟨m,hm,g⟩:=f;exact⟨m,hm,b,rfl,g⟩
 |panic c=>grind
 |outgrown=>grind
 |exit i=>exact jm f he
 |goto i=>exact jm f he
 |ret=>exact jm f he
def sub:Code->cV->Code
 |c,[]=>c
 |.seq a b,n::p=>match n with | 0=>sub a p | _=>sub b p
 |.cond _ a b,n::p=>match n with | 0=>sub a p | _=>sub b p
 |.block _ c,_::p=>sub c p
 |.loop c,_::p=>sub c p
 |.scope c,_::p=>sub c p
 |.rangeFunc _ _ a b,n::p=>match n with | 0=>sub a p | _=>sub b p
 |c,_=>c
def ay (fn:Func):Code:=match fn.body with | some c=>c | none=>.skip
def nQ (P:c7):List ResultVar->au->(au->Prop)->aK
 | [],_,K,_=>K []
 |.tmp t::rs,env,K,w=>nQ P rs env (λvs=>K (env.getD t undef::vs)) w
 |.cell a t::rs,env,K,w=>oc P t (env.getD a undef) (λv w'=>w'=w/\nQ P rs env (λvs=>K (v::vs)) w) w
def ta:au->bl
 | [v]=>v
 |vs=>.tuple vs.toArray
def cS (P:c7)(fn:Func)(R:bg):Exit->au->aK
 |.normal,env,w=>nQ P fn.results.toList env (λvs=>R (ta vs) w) w
 |.ret,env,w=>nQ P fn.results.toList env (λvs=>R (ta vs) w) w
 | _,_,_=>False
theorem Zg {x:bl}{K:bg}(h:oc P t x K w):∃ v,(do loadVar t (<- asAddr x):Sem bl).run P w=.ok v w/\K v w:=by
 unfold oc at h;split at h
 ·rename_i f;split at h
  ·grind
  ·rename_i inf b;split at h
   ·rename_i a;split at h
    ·rename_i hlen;obtain⟨vs,g,c,h⟩:=ud h;obtain⟨d,dR⟩:=BU a;refine⟨_,?_,h⟩;have e:vs.length=inf.size:=by simp_all
     simp only[asAddr,pure_bind,loadVar,Sem.run_bind,pQ dR,Result.andThen_ok,a,if_true,run_sizeOf b];have:=run_loadCellsFrom (P:=P) (acc:=#[]) c;rw[e]at this;simp[loadCells,this]
    grind
   ·rename_i a;split at h
    ·grind
    ·rename_i d dR;obtain⟨v,ar,h⟩:=rX h;refine⟨_,?_,h⟩;simp only[asAddr,pure_bind,loadVar,Sem.run_bind,pQ dR,Result.andThen_ok,a];simp[ar]
 grind
theorem wc {P:c7}{env:au}{w:aj}:∀ (rs:List ResultVar) (K:au->Prop),nQ P rs env K w->
  ∃ vs,(rs.mapM fun |.tmp t=>pure (env.toArray.getD t undef) |.cell a t=>do loadVar t (<- asAddr (env.toArray.getD a undef)):Sem au).run P w=.ok vs w/\K vs
 | [],K,h=>⟨[],rfl,h⟩
 |.tmp t::rs,K,h=>by
  obtain⟨vs,b,h⟩:=wc rs _ h
  simp_all
 |.cell a t::rs,K,h=>by
  obtain⟨v,ar,hw,h⟩:=Zg h;obtain⟨vs,b,h⟩:=wc rs _ h;refine⟨_,?_,h⟩;rw[List.mapM_cons];have e:env.toArray.getD a undef=env.getD a undef:=by simp_all
  simp only[e]at b ⊢;rw[Sem.run_bind,ar]
  simp_all
theorem y5 (h:nQ P fn.results.toList env (λvs=>K (ta vs)) w):∃ v,(results fn env.toArray).run P w=.ok v w/\K v:=by
 obtain⟨vs,b,h⟩:=wc _ _ h;refine⟨_,?_,h⟩;unfold results;rw[Array.mapM_eq_mapM_toList];simp only[Sem.run_bind,Sem.run_map,Sem.run_pure];refine Eq.trans (eh (λr:Result au=>(r.andThen λa w'=>Result.ok a.toArray w').andThen λa w'=>Result.ok (if h:a.size=1 then a[0]else Value.tuple a) w') b) ?_;simp only[Result.andThen_ok];congr 1
 match vs with
 | []=>rfl
 | [v]=>rfl
 |v::u::r=>simp[ta]
def bc (P:c7)(fn:Func)(args:au)(R:bg)(w:aj):Prop:=
 match fn.body with
 |some c=>W P c (args++List.replicate (fn.ntmps-args.length) undef) (cS P fn R) w
 |none=>False
theorem Nu (hm:P.follows .mixedOrders=true){f:FuncId}{args:au}(o:P.funcs[f]?=some fn)
  (h:bc P fn args R w):Calls P f args.toArray w λe w'=>∃ v,e=.returned v/\R v w':=by
 unfold bc at h;split at h
 ·rename_i c n;refine calls_of_wp o n ?_;have j:=p5 hm c _ _ w h;have k:cj P c (args++List.replicate (fn.ntmps-args.length) undef) (cS P fn R) w=c.wp P (qw (cS P fn R)) {tmps:=args.toArray++Array.replicate (fn.ntmps-args.toArray.size) undef,defers:=[]} w:=by unfold cj act;congr 2;simp
  rw[k]at j;refine wp_mono j λe bS w' b=>?_
  obtain⟨he,a,l,d⟩:=re b;subst l;clear b;cases e with
  |normal=>obtain⟨v,ar,g⟩:=y5 (P:=P) (fn:=fn) (env:=a) (w:=w') (K:=λv=>R v w') d;exact⟨rfl,v,ar,v,rfl,g⟩
  |ret=>obtain⟨v,ar,g⟩:=y5 (P:=P) (fn:=fn) (env:=a) (w:=w') (K:=λv=>R v w') d;exact⟨rfl,v,ar,v,rfl,g⟩
  |panic c=>grind
  |outgrown=>grind
  |exit i=>exact d.elim
  |goto i=>exact d.elim
 grind
def aV (P:c7)(fn:Func)(R:bg)(Q:Exit->au->aK):Exit->au->aK
 |.ret,env,w=>cS P fn R .ret env w
 |e,env,w=>Q e env w
theorem Tb (h:∀ env w,Q .ret env w=cS P fn R .ret env w):aV P fn R Q=Q:=by funext e env w;cases e<;>first | rfl | exact(h env w).symm
theorem xv {c:Code}(h:∀ env w,Q .ret env w=cS P fn R .ret env w):W P c env (aV P fn R Q) w=W P c env Q w:=by rw[Tb h]
theorem cb (h:N env w):aM N Q .normal env w:=h
theorem j9 {k:Nat}(h:Q (.exit k) env w):aM N Q (.exit k) env w:=h
theorem k9 {k:Nat}(h:Q .normal env w):aL k Q .normal env w:=h
theorem Gm (h:Q .normal env w):aV P fn R Q .normal env w:=h
theorem j0 {k:Nat}(h:Q .normal env w):aL k Q (.exit k) env w:=by
 show match Nat.beq k k with
  |true=>Q .normal env w
  |false=>Q (.exit k) env w
 simp_all
noncomputable def G7 (n:Nat):(ba->Prop)->Prop:=@Nat.rec (λ_=>(ba->Prop)->Prop) (λK=>K []) (λ_ a K=>∃ x:Int,a λl=>K (x::l)) n
theorem F3:∀ (n:Nat)(l:ba),l.length=n->∀ {K:ba->Prop},K l->G7 n K
 | 0,l,h,K,a=>by have:l=[]:=hh h;subst this;exact a
 |n+1,[],h,_,_=>by cases h
 |n+1,x::l,h,K,a=>⟨x,F3 n l (by grind) a⟩
attribute [irreducible] bc W sub ay
end Go.bd
