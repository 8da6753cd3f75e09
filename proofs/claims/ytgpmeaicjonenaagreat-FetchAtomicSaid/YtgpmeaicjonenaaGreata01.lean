import Derived.OrdersHeld
import Derived.KernelRfl
import Derived.Tactics
import Derived.Laws.World
import Derived.TacticsIn
import Derived.RangeFuncSeq
set_option linter.unusedVariables false
namespace Go.Eng
def ev (env:List Value):Operand→Value
 | .tmp t=>env.getD t undef
 | .const v=>v
 | .global g=>.pointer (some ⟨g,0,none⟩)
 | .func f=>.func (.func f) #[] #[]
def jq (j:List Value):Nat→Nat→List Value→List Value
 | _,0,r=>r
 |a,n+1,r=>j.getD a undef::jq j (a+1) n r
def uq:Nat→List Value→List Value
 | 0,r=>r
 |n+1,r=>undef::uq n r
def put (env:List Value):Option Tmp→Value→List Value
 |some d,v=>env.set d v
 |none,_=>env
def act (env:List Value):Act:={ tmps:=env.toArray,defers:=[] }
theorem o7 (env:List Value):(act env).eval=ev env:=by
 funext x
 cases x with
 |tmp t=>simp only [Act.eval,act,ev,Array.getD_eq_getD_getElem?,List.getElem?_toArray,List.getD_eq_getElem?_getD]
 |const v=>rfl
 |global g=>rfl
 |func f=>rfl
theorem ja (env:List Value) (d:Option Tmp) (v:Value):(act env).put d v=act (put env d v):=by
 cases d with
 |none=>rfl
 |some d=>simp [Act.put,act,put]
def single:Value→Bool
 | .agg _=>false
 | .tuple _=>false
 | _=>true
def semW {α:Type} (P:Program):Sem α→(α→World→Prop)→World→Prop
 | .pure a,K,w=>K a w
 | .load _ a k,K,w=>∃ v,w.cell? a=some v∧semW P (k v) K w
 | .store _ a v k,K,w=>(∃ u,w.cell? a=some u)∧w.frozen? a=false∧single v=true∧∀ w1,w1=w.setCell a v→semW P k K w1
 | .new o k,K,w=>∀ b w1,b=w.heap.size→w1=w.alloc o→semW P (k b) K w1
 | .shape r k,K,w=>semW P (k (w.shape? r)) K w
 | .frozen a k,K,w=>semW P (k (w.frozen? a)) K w
 | .program k,K,w=>semW P (k P) K w
 | .mark _ k,K,w=>semW P k K w
 | _,_,_=>False
theorem uR {α:Type} {P:Program} {m:Mode} {a:Addr} {v:Value} {k:Sem α} {w:World} (hc:∃ u,w.cell? a=some u) (hf:w.frozen? a=false) (hv:single v=true) :
  (Sem.store m a v k).run P w=k.run P (w.setCell a v):=by
 obtain ⟨u,hu⟩:=hc
 cases v<;>simp [single] at hv<;>simp [Sem.run,hu,hf]
theorem Bq {α:Type} {P:Program} (s:Sem α):∀ {K:α→World→Prop} {w:World},semW P s K w→∃ a w',s.run P w=.ok a w'∧K a w':=by
 induction s with
 |pure a=>intro K w h;exact ⟨a,w,rfl,h⟩
 |load m a k ih=>
  intro K w h
  obtain ⟨v,hv,h⟩:=h
  obtain ⟨x,w',hr,hk⟩:=ih v h
  exact ⟨x,w',by simp only [Sem.run,hv];exact hr,hk⟩
 |store m a v k ih=>
  intro K w h
  obtain ⟨hc,hf,hs,h⟩:=h
  obtain ⟨x,w',hr,hk⟩:=ih (h _ rfl)
  exact ⟨x,w',by rw [uR hc hf hs];exact hr,hk⟩
 |new o k ih=>
  intro K w h
  obtain ⟨x,w',hr,hk⟩:=ih _ (h _ _ rfl rfl)
  exact ⟨x,w',hr,hk⟩
 |shape r k ih=>intro K w h;exact ih _ h
 |frozen a k ih=>intro K w h;exact ih _ h
 |program k ih=>intro K w h;exact ih _ h
 |mark m k ih=>intro K w h;exact ih h
 | _=>intro K w h;exact h.elim
def band (k:IntKind) (x y:Int):Int:=k.wrap (BitVec.ofInt k.bits x &&& BitVec.ofInt k.bits y).toNat
def bor (k:IntKind) (x y:Int):Int:=k.wrap (BitVec.ofInt k.bits x ||| BitVec.ofInt k.bits y).toNat
def bxor (k:IntKind) (x y:Int):Int:=k.wrap (BitVec.ofInt k.bits x ^^^ BitVec.ofInt k.bits y).toNat
def bshl (k:IntKind) (x n:Int):Int:=k.wrap (x * 2 ^ min n.toNat k.bits)
def bshr (k:IntKind) (x n:Int):Int:=x.fdiv (2 ^ min n.toNat k.bits)
inductive Ki where
 |i (k:IntKind) | b | p | s | v
def kiOf:Option TypeDesc→Ki
 |some (.int k)=>.i k
 |some .bool=>.b
 |some (.pointer _)=>.p
 |some (.slice _)=>.s
 | _=>.v
def exK:Ki→(Value→Prop)→Prop
 | .i k,K=>∃ x:Int,K (.int k x)
 | .b,K=>∃ x:Bool,K (.bool x)
 | .p,K=>∃ x:Option Addr,K (.pointer x)
 | .s,K=>∃ (x:Option Addr) (l c:Nat),K (.slice x l c)
 | .v,K=>∃ v:Value,K v
theorem th {k:Ki} {K:Value→Prop} (h:exK k K):∃ v,K v:=by
 cases k with
 |i k=>obtain ⟨x,h⟩:=h;exact ⟨_,h⟩
 |b=>obtain ⟨x,h⟩:=h;exact ⟨_,h⟩
 |p=>obtain ⟨x,h⟩:=h;exact ⟨_,h⟩
 |s=>obtain ⟨x,l,c,h⟩:=h;exact ⟨_,h⟩
 |v=>exact h
def exL:List Ki→(List Value→Prop)→Prop
 | [],K=>K []
 |k::ks,K=>exK k λv=>exL ks λvs=>K (v::vs)
theorem uS:∀ {ks:List Ki} {K:List Value→Prop},exL ks K→∃ vs,vs.length=ks.length∧K vs
 | [],_,h=>⟨[],rfl,h⟩
 |k::ks,K,h=>by
  obtain ⟨v,h⟩:=th h
  obtain ⟨vs,hl,h⟩:=uS h
  exact ⟨v::vs,by simp [hl],h⟩
def kis (P:Program):Nat→TypeId→List Ki
 | 0,_=>[]
 |n+1,t=>match P.underlying t with
  |some (.struct fs)=>fs.toList.flatMap λf=>kis P n f.type
  |some (.array len e)=>(List.replicate len (kis P n e)).flatten
  |d=>[kiOf d]
def isAgg? (P:Program) (t:TypeId):Bool:=
 match P.underlying t with
 |some (.struct _)=>true
 |some (.array _ _)=>true
 | _=>false
def wy (P:Program) (t:TypeId):Nat:=match P.info? t with | some i=>i.size | none=>0
def exV (P:Program) (t:TypeId) (K:Value→Prop):Prop:=
 match isAgg? P t with
 |true=>exL (kis P 8 t) λvs=>K (.agg vs.toArray)
 |false=>exK (kiOf (P.underlying t)) K
theorem CP {P:Program} {t:TypeId} {K:Value→Prop} (h:exV P t K):∃ v,K v:=by
 unfold exV at h
 split at h
 ·obtain ⟨vs,_,h⟩:=uS h;exact ⟨_,h⟩
 ·exact th h
def exT (P:Program):List TypeId→(List Value→Prop)→Prop
 | [],K=>K []
 |t::ts,K=>exV P t λv=>exT P ts λvs=>K (v::vs)
theorem CQ {P:Program}:∀ {ts:List TypeId} {K:List Value→Prop},exT P ts K→∃ vs,K vs
 | [],_,h=>⟨[],h⟩
 |t::ts,K,h=>by
  obtain ⟨v,h⟩:=CP h
  obtain ⟨vs,h⟩:=CQ h
  exact ⟨v::vs,h⟩
def exR (P:Program):List TypeId→(Value→Prop)→Prop
 | [t],K=>exV P t K
 |ts,K=>exT P ts λvs=>K (.tuple vs.toArray)
theorem CR {P:Program} {ts:List TypeId} {K:Value→Prop} (h:exR P ts K):∃ v,K v:=by
 unfold exR at h
 split at h
 ·exact CP h
 ·obtain ⟨vs,h⟩:=CQ h;exact ⟨_,h⟩
def aC (w:World) (ad:Addr):Nat→List Value→Prop
 | _,[]=>True
 |i,v::vs=>w.cell? (ad.add i)=some v∧aC w ad (i+1) vs
def wrAt (w:World) (ad:Addr):Nat→List Value→Prop
 | _,[]=>True
 |i,v::vs=>(∃ u,w.cell? (ad.add i)=some u)∧w.frozen? (ad.add i)=false∧single v=true∧wrAt w ad (i+1) vs
def puts (w:World) (ad:Addr):Nat→List Value→World
 | _,[]=>w
 |i,v::vs=>puts (w.setCell (ad.add i) v) ad (i+1) vs
theorem qj {w:World} {p q:Addr} {v:Value} (h:∃ u,w.cell? q=some u):∃ u,(w.setCell p v).cell? q=some u:=by
 obtain ⟨u,hu⟩:=h
 unfold World.cell? World.setCell at *
 simp only [Array.getElem?_modify]
 cases hb:w.heap[q.block]? with
 |none=>rw [hb] at hu;cases hu
 |some o=>
  rw [hb] at hu
  cases o with
  |cells c e fz=>
   simp only at hu
   by_cases hs:q.spot.isSome=true
   ·simp [hs] at hu
   ·simp only [hs,Bool.false_eq_true,if_false] at hu
    by_cases hpq:p.block=q.block
    ·simp only [hpq,if_true,Option.map_some,hs,Bool.false_eq_true,if_false]
     by_cases hp:p.spot.isSome=true
     ·simp only [hp,if_true];exact ⟨u,hu⟩
     ·simp only [hp,Bool.false_eq_true,if_false]
      rw [Array.getElem?_setIfInBounds]
      split
      ·rename_i he
       have hlt:p.off<c.size:=by
        rcases Nat.lt_or_ge p.off c.size with h | h
        ·exact h
        ·rw [Array.getElem?_eq_none (by omega)] at hu;cases hu
       rw [if_pos hlt];exact ⟨_,rfl⟩
      ·exact ⟨u,hu⟩
    ·simp only [hpq,if_false,hs,Bool.false_eq_true];exact ⟨u,hu⟩
  | _=>cases hu
theorem sK {w:World} {p q:Addr} {v:Value}:(w.setCell p v).frozen? q=w.frozen? q:=by
 unfold World.frozen? World.setCell
 simp only [Array.getElem?_modify]
 cases hb:w.heap[q.block]? with
 |none=>simp
 |some o=>
  by_cases hpq:p.block=q.block
  ·simp only [hpq,if_true,Option.map_some]
   cases o<;>rfl
  ·simp only [hpq,if_false]
theorem qM {w:World} {ad p:Addr} {u:Value}:∀ {vs:List Value} {i:Nat},wrAt w ad i vs→wrAt (w.setCell p u) ad i vs
 | [],_,_=>trivial
 | _::_,_,h=>⟨qj h.1,by rw [sK];exact h.2.1,h.2.2.1,qM h.2.2.2⟩
theorem gD {P:Program} {ad:Addr}:∀ {vs:List Value} {i:Nat} {w:World},wrAt w ad i vs→
  (storeCells ad vs i).run P w=.ok () (puts w ad i vs)
 | [],_,_,_=>rfl
 |v::vs,i,w,h=>by
  unfold storeCells
  show ((store (ad.add i) v).bind λ_=>storeCells ad vs (i+1)).run P w=_
  show (Sem.store .plain (ad.add i) v (storeCells ad vs (i+1))).run P w=_
  rw [uR h.1 h.2.1 h.2.2.1]
  exact gD (qM h.2.2.2)
theorem run_loadCellsFrom {P:Program} {ad:Addr} {w:World}:∀ {vs:List Value} {i:Nat} {acc:Array Value},aC w ad i vs→
  (loadCellsFrom ad i vs.length acc).run P w=.ok (acc++vs.toArray) w
 | [],_,acc,_=>by simp [loadCellsFrom]
 |v::vs,i,acc,h=>by
  show (Sem.load .plain (ad.add i) λv=>loadCellsFrom ad (i+1) vs.length (acc.push v)).run P w=_
  simp only [Sem.run,h.1]
  rw [run_loadCellsFrom (acc:=acc.push v) h.2]
  simp
def yl (P:Program) (t:TypeId) (x:Value) (K:Value→World→Prop) (w:World):Prop:=
 match x with
 | .pointer (some ad)=>
  match P.info? t with
  |none=>False
  |some inf=>
   match isAgg? P t with
   |true=>match Nat.beq (kis P 8 t).length inf.size with
    |true=>exL (kis P 8 t) λvs=>aC w ad 0 vs∧K (.agg vs.toArray) w
    |false=>False
   |false=>match P.underlying t with
    |none=>False
    |some d=>exK (kiOf (some d)) λv=>w.cell? ad=some v∧K v w
 | _=>False
def zi (P:Program) (t:TypeId) (x v:Value) (K:World→Prop) (w:World):Prop:=
 match x with
 | .pointer (some ad)=>
  match P.info? t with
  |none=>False
  |some inf=>
   match isAgg? P t with
   |true=>match Nat.beq v.cells.size inf.size with
    |true=>wrAt w ad 0 v.cells.toList∧∀ w1,w1=puts w ad 0 v.cells.toList→K w1
    |false=>False
   |false=>match single v,Nat.beq inf.size 1 with
    |true,true=>(∃ u,w.cell? ad=some u)∧w.frozen? ad=false∧∀ w1,w1=w.setCell ad v→K w1
    | _,_=>False
 | _=>False
def nilP:Option Addr→(Addr→Prop)→Prop
 |some ad,K=>K ad
 |none,_=>False
def idxS (a:Option Addr) (len:Nat) (n:Int) (sz:Nat) (K:Addr→Prop):Prop:=
 ∃ ad,a=some ad∧0≤n∧n<len∧K (ad.add (n.toNat * sz))
def idxA (ad:Addr) (len:Nat) (n:Int) (sz:Nat) (K:Addr→Prop):Prop:=
 0≤n∧n<len∧K (ad.add (n.toNat * sz))
def sl3 (a:Option Addr) (len cap:Nat) (lo hi mx:Int) (sz:Nat) (K:Option Addr→Nat→Nat→Prop):Prop:=
 0≤lo∧lo≤hi∧hi≤mx∧mx≤cap∧len≤cap∧K (if mx=lo then a else a.map (·.add (lo.toNat * sz))) (hi.toNat - lo.toNat) (mx.toNat - lo.toNat)
def reps (n:Nat) (zs:List Value):List Value:=(List.replicate n zs).flatten
def mk3 (len cap:Int) (bytes:Nat) (o:Obj) (w:World) (K:Nat→World→Prop):Prop:=0≤len∧len≤cap∧cap * bytes≤140737488355328∧cap≤140737488355328∧∀ b w1,b=w.heap.size→w1=w.alloc o→K b w1
def l9 (P:Program) (f:FuncId):Bool:=
 match P.funcs[f]? with
 |some fn=>fn.body.isSome && !(fn.name == "runtime.NumGoroutine")
 |none=>false
def sL (P:Program) (f:Value) (args:Array Value) (w:World) (R:Ending→World→Prop):Prop:=
 match f with
 | .func (.func g) first captured=>match l9 P g with
  |true=>Calls P g (first++args++captured) w R
  |false=>False
 | _=>False
def Br (P:Program) (t:TypeId):List TypeId:=
 match P.underlying t with
 |some (.tuple ts)=>ts.toList
 | _=>[t]
def runW (P:Program) (s:Sem Value) (k:Ki) (K:Value→World→Prop) (w:World):Prop:=
 exK k λv=>∃ w',s.run P w=.ok v w'∧K v w'
def intV:Value→Option Int
 | .int _ n=>some n
 | _=>none
def Ew (K:Value→World→Prop):Next→World→Prop
 | .value v,w=>K v w
 | .skip,w=>K undef w
 | _,_=>False
def genW (P:Program) (env:List Value) (o:Oper) (K:Value→World→Prop) (w:World):Prop:=
 semW P (execOp (ev env) o) (Ew K) w
def tQ:Operand→Bool
 | .const _=>true
 | _=>false
def bnd (d:Int):Option Value→Option Int
 |none=>some d
 |some (.int _ n)=>some n
 |some _=>none
def tR {α:Type} (P:Program):Sem α→Option α
 | .pure a=>some a
 | .program k=>tR P (k P)
 | _=>none
theorem wz {α:Type} {P:Program} (s:Sem α):∀ {a:α},tR P s=some a→∀ w,s.run P w=.ok a w:=by
 induction s with
 |pure a=>intro b h w;simp [tR] at h;subst h;rfl
 |program k ih=>intro b h w;exact ih P h w
 | _=>intro b h;cases h
def genP (P:Program) (env:List Value) (o:Oper) (K:Value→Prop):Prop:=
 match tR P (execOp (ev env) o) with
 |some (.value v)=>K v
 | _=>False
def EqAs (P:Program) (t:TypeId) (x y:Value) (r:Bool) (w:World):Prop:=
 (∀ op a b,(eqGuard op t a b x y).run P w=.ok () w)∧(binOp .eql t x y).run P w=.ok (.bool r) w∧(binOp .neq t x y).run P w=.ok (.bool (!r)) w
def uT (P:Program) (t:TypeId) (x y:Value) (K:Bool→Prop):Prop:=∃ r:Bool,(∀ w,EqAs P t x y r w)∧K r
def Bs (P:Program) (env:List Value) (o:Oper) (K:Value→Prop):Prop:=
 match o.op with
 | .pick c a b=>match ev env c with
  | .bool t=>bif t then K (ev env a) else K (ev env b)
  | _=>False
 | .nilCheck x=>match ev env x with
  | .pointer p=>nilP p λad=>K (.pointer (some ad))
  | _=>False
 | .indexAddr t x i=>match ev env i with
  | .int _ n=>match P.underlying t with
   |some (.slice e)=>match ev env x,P.info? e with
    | .slice a len _,some inf=>idxS a len n inf.size λad=>K (.pointer (some ad))
    | _,_=>False
   |some (.array len e)=>match ev env x,P.info? e with
    | .pointer (some ad),some inf=>idxA ad len n inf.size λad=>K (.pointer (some ad))
    | _,_=>False
   | _=>False
  | _=>False
 | .slice t x lo hi mx=>match P.underlying t with
  |some (.slice e)=>match ev env x,P.info? e with
   | .slice a len cap,some inf=>
    match bnd 0 (lo.map (ev env)),bnd len (hi.map (ev env)),bnd cap (mx.map (ev env)),hi.isNone && mx.isSome with
    |some l,some h,some m,false=>sl3 a len cap l h m inf.size λa' l' c'=>K (.slice a' l' c')
    | _,_,_,_=>False
   | _,_=>False
  | _=>genP P env o K
 | .binOp op t x y _=>match op,ev env x,ev env y with
  | .eql,.pointer p,.pointer none=>match P.underlying t with
   |some (.pointer _)=>K (.bool p.isNone)
   | _=>False
  | .neq,.pointer p,.pointer none=>match P.underlying t with
   |some (.pointer _)=>K (.bool (!p.isNone))
   | _=>False
  | .eql,.slice a _ _,.slice none _ _=>match P.underlying t with
   |some (.slice _)=>K (.bool a.isNone)
   | _=>False
  | .neq,.slice a _ _,.slice none _ _=>match P.underlying t with
   |some (.slice _)=>K (.bool (!a.isNone))
   | _=>False
  | .quo,.int k a,.int k' b=>match tQ y with
   |true=>genP P env o K
   |false=>k=k'∧b≠0∧K (.int k (k.wrap (a.tdiv b)))
  | .rem,.int k a,.int k' b=>match tQ y with
   |true=>genP P env o K
   |false=>k=k'∧b≠0∧K (.int k (a.tmod b))
  | .shl,.int k a,.int _ b=>match tQ y with
   |true=>genP P env o K
   |false=>0≤b∧K (.int k (k.wrap (a * 2 ^ min b.toNat k.bits)))
  | .shr,.int k a,.int _ b=>match tQ y with
   |true=>genP P env o K
   |false=>0≤b∧K (.int k (a.fdiv (2 ^ min b.toNat k.bits)))
  | .eql,.agg a,.agg b=>uT P t (.agg a) (.agg b) λr=>K (.bool r)
  | .neq,.agg a,.agg b=>uT P t (.agg a) (.agg b) λr=>K (.bool (!r))
  | _,_,_=>genP P env o K
 | _=>genP P env o K
def xm:Op→Bool
 | .move _ | .assign _ | .pick .. | .build .. | .nilCheck _ | .binOp .. | .unOp .. | .convert .. | .makeFunc .. | .slice .. | .fieldAddr .. | .field .. | .indexAddr .. | .index .. | .extract ..=>true
 | .call { callee:=.builtin .len,.. } | .call { callee:=.builtin .cap,.. } | .call { callee:=.builtin .min,.. } | .call { callee:=.builtin .max,.. }=>true
 | _=>false
def opW (P:Program) (env:List Value) (o:Oper) (K:Value→World→Prop) (w:World):Prop:=
 match xm o.op with
 |true=>Bs P env o λv=>K v w
 |false=>match o.op with
  | .load t x=>yl P t (ev env x) K w
  | .store t x v=>zi P t (ev env x) (ev env v) (K undef) w
  | .makeSlice t l c=>match P.underlying t,ev env l,ev env c with
   |some (.slice e),.int _ len,.int _ cap=>match P.info? e with
    |some inf=>match inf.zero with
     |some z=>match Nat.beq z.cells.size inf.size && Nat.ble 1 inf.size with
      |false=>False
      |true=>mk3 len cap inf.bytes (.cells (reps cap.toNat z.cells.toList).toArray e) w λb w1=>K (.slice (some ⟨b,0,none⟩) len.toNat cap.toNat) w1
     |none=>False
    |none=>False
   | _,_,_=>False
  | .call c=>match c.callee with
   | .builtin .append=>runW P (Builtin.append_ c.argTypes o.type (c.args.map (ev env))) .s K w
   | .builtin .copy=>runW P (Builtin.copy_ c.argTypes o.type (c.args.map (ev env))) (.i .i64) K w
   | .builtin .clear=>runW P (Builtin.clear_ c.argTypes o.type (c.args.map (ev env))) .v K w
   | .value f=>sL P (ev env f) (c.args.map (ev env)) w λe w'=>exR P (Br P o.type) λv=>e=.returned v∧K v w'
   | _=>genW P env o K w
  | _=>genW P env o K w
def nU (P:Program) (f:Value) (args:Array Value) (w:World) (R:Ending→World→Prop):Prop:=
 match f with
 | .func (.yield l) first _=>YieldAt Fence.wide 0 P l (first++args) w R
 |f=>sL P f args w R
def opY (P:Program) (env:List Value) (o:Oper) (K:Value→World→Prop) (w:World):Prop:=
 match o.op with
 | .call c=>match c.callee with
  | .value f=>nU P (ev env f) (c.args.map (ev env)) w λe w'=>exR P (Br P o.type) λv=>e=.returned v∧K v w'
  | _=>opW P env o K w
 | _=>opW P env o K w
section
variable {P:Program} {env:List Value} {o:Oper} {K:Value→World→Prop} {w:World}
def mo (P:Program) (env:List Value) (o:Oper) (K:Value→World→Prop) (w:World):Prop:=
 (∃ n w',(execOp (ev env) o).run P w=.ok n w'∧Ew K n w')∨
 (∃ f args,(execOp (ev env) o).run P w=.ok (.enter f args) w∧Calls P f args w λe w'=>∃ v,e=.returned v∧K v w')
theorem xn (h:genW P env o K w):mo P env o K w:=.inl (Bq _ h)
theorem tS {s:Sem Value} {v:Value} {w':World} (he:execOp (ev env) o=(do pure (.value (← s)))) (hr:s.run P w=.ok v w') (h:K v w'):mo P env o K w:=by
 refine .inl ⟨.value v,w',?_,h⟩
 rw [he,Sem.run_bind,hr]
 rfl
theorem uU {s:Sem Unit} {w':World} (he:execOp (ev env) o=(do s;pure .skip)) (hr:s.run P w=.ok () w') (h:K undef w'):mo P env o K w:=by
 refine .inl ⟨.skip,w',?_,h⟩
 rw [he,Sem.run_bind,hr]
 rfl
theorem mJ {t:TypeId} {i:TypeInfo} (h:P.info? t=some i) (w:World):(typeInfo t).run P w=.ok i w:=by
 simp [typeInfo,h,program,Sem.run]
theorem run_sizeOf {t:TypeId} {i:TypeInfo} (h:P.info? t=some i) (w:World):(sizeOf t).run P w=.ok i.size w:=by
 simp [sizeOf,mJ h]
theorem jJ {t:TypeId} {d:TypeDesc} (h:P.underlying t=some d) (w:World):(Go.isAgg t).run P w=.ok (isAgg? P t) w:=by
 simp only [Go.isAgg,Sem.run_bind,run_underlying h,Result.andThen_ok,isAgg?,h]
 cases d<;>rfl
theorem jc {t:TypeId} (h:isAgg? P t=true):∃ d,P.underlying t=some d:=by
 unfold isAgg? at h
 cases hu:P.underlying t with
 |none=>simp [hu] at h
 |some d=>exact ⟨d,rfl⟩
def ij (P:Program) (env:List Value) (o:Oper) (K:Value→Prop):Prop:=
 ∃ v,(∀ w,(execOp (ev env) o).run P w=.ok (.value v) w)∧K v
theorem ij.does (h:ij P env o λv=>K v w):mo P env o K w:=
 let ⟨v,hr,h⟩:=h
 .inl ⟨.value v,w,hr w,h⟩
theorem rh {s:Sem Value} {v:Value} {K:Value→Prop} (he:execOp (ev env) o=(do pure (.value (← s)))) (hr:∀ w,s.run P w=.ok v w) (h:K v):ij P env o K:=by
 refine ⟨v,λw=>?_,h⟩
 rw [he,Sem.run_bind,hr]
 rfl
theorem ma {K:Value→Prop} (h:genP P env o K):ij P env o K:=by
 unfold genP at h
 split at h
 ·rename_i v hv;exact ⟨v,wz _ hv,h⟩
 ·exact h.elim
theorem zj {t:TypeId} {x:Operand} (ho:o.op=.load t x) (h:yl P t (ev env x) K w):mo P env o K w:=by
 have he:execOp (ev env) o=(do pure (.value (← Instr.loadAt t (ev env x)))):=by unfold execOp;rw [ho]
 unfold yl at h
 split at h
 ·rename_i ad hx
  split at h
  ·exact h.elim
  ·rename_i inf hinf
   split at h
   ·rename_i hagg
    split at h
    ·rename_i hlen
     obtain ⟨vs,hl,hc,h⟩:=uS h
     obtain ⟨d,hd⟩:=jc hagg
     refine tS he ?_ h
     have hn:vs.length=inf.size:=by rw [hl];exact Nat.eq_of_beq_eq_true hlen
     simp only [Instr.loadAt,hx,Instr.sureAddr,pure_bind,loadVar,Sem.run_bind,jJ hd,Result.andThen_ok,hagg,if_true,run_sizeOf hinf]
     have:=run_loadCellsFrom (P:=P) (acc:=#[]) hc
     rw [hn] at this
     simp [loadCells,this]
    ·exact h.elim
   ·rename_i hagg
    split at h
    ·exact h.elim
    ·rename_i d hd
     obtain ⟨v,hv,h⟩:=th h
     refine tS he ?_ h
     simp only [Instr.loadAt,hx,Instr.sureAddr,pure_bind,loadVar,Sem.run_bind,jJ hd,Result.andThen_ok,hagg]
     simp [hv]
 ·exact h.elim
theorem ym {t:TypeId} {x v:Operand} (ho:o.op=.store t x v) (h:zi P t (ev env x) (ev env v) (K undef) w):mo P env o K w:=by
 have he:execOp (ev env) o=(do Instr.storeAt t (ev env x) (ev env v);pure .skip):=by unfold execOp;rw [ho]
 unfold zi at h
 split at h
 ·rename_i ad hx
  split at h
  ·exact h.elim
  ·rename_i inf hinf
   split at h
   ·split at h
    ·rename_i hlen
     obtain ⟨hw,h⟩:=h
     have h:=h _ rfl
     refine uU he ?_ h
     have hn:=Nat.eq_of_beq_eq_true hlen
     simp only [Instr.storeAt,hx,Instr.sureAddr,pure_bind,storeVar,Sem.run_bind,run_sizeOf hinf,Result.andThen_ok,hn]
     simp [gD hw]
    ·exact h.elim
   ·split at h
    ·rename_i hs hn
     obtain ⟨hc,hf,h⟩:=h
     have h:=h _ rfl
     refine uU he ?_ h
     have hn:=Nat.eq_of_beq_eq_true hn
     have hcells:(ev env v).cells=#[ev env v]:=by
      revert hs;cases ev env v<;>simp [single,Value.cells]
     have ha:ad.add 0=ad:=by simp [Addr.add]
     have hw:wrAt w ad 0 [ev env v]:=⟨by rw [ha];exact hc,by rw [ha];exact hf,hs,trivial⟩
     simp only [Instr.storeAt,hx,Instr.sureAddr,pure_bind,storeVar,Sem.run_bind,run_sizeOf hinf,Result.andThen_ok,hn,hcells]
     simp [gD hw,puts,ha]
    ·exact h.elim
 ·exact h.elim
theorem Bu {x:Operand} {p:Option Addr} {K:Value→Prop} (ho:o.op=.nilCheck x) (hx:ev env x=.pointer p) (h:nilP p λad=>K (.pointer (some ad))):ij P env o K:=by
 cases p with
 |none=>exact h.elim
 |some ad=>
  refine ⟨.pointer (some ad),λw=>?_,h⟩
  unfold execOp
  rw [ho]
  simp only [hx]
  rfl
theorem zk {c a b:Operand} {t:Bool} {K:Value→Prop} (ho:o.op=.pick c a b) (hc:ev env c=.bool t) (h:bif t then K (ev env a) else K (ev env b)):ij P env o K:=by
 refine ⟨bif t then ev env a else ev env b,λw=>?_,by cases t<;>exact h⟩
 unfold execOp
 rw [ho]
 simp only [hc,asBool,pure_bind]
 cases t<;>rfl
theorem zl {t e:TypeId} {x i:Operand} {k:IntKind} {n:Int} {a:Option Addr} {len cap:Nat} {inf:TypeInfo} {K:Value→Prop} (ho:o.op=.indexAddr t x i) (hi:ev env i=.int k n)
  (hu:P.underlying t=some (.slice e)) (hx:ev env x=.slice a len cap) (hinf:P.info? e=some inf) (h:idxS a len n inf.size λad=>K (.pointer (some ad))):ij P env o K:=by
 have he:execOp (ev env) o=(do pure (.value (← Instr.indexAt t (ev env x) (ev env i)))):=by unfold execOp;rw [ho]
 obtain ⟨ad,rfl,h0,h1,h⟩:=h
 refine rh he (λw=>?_) h
 simp [Instr.indexAt,hi,hx,asIntOf,run_underlying hu,h0,h1,run_sizeOf hinf]
theorem zm {t e:TypeId} {x i:Operand} {k:IntKind} {n:Int} {ad:Addr} {len:Nat} {inf:TypeInfo} {K:Value→Prop} (ho:o.op=.indexAddr t x i) (hi:ev env i=.int k n)
  (hu:P.underlying t=some (.array len e)) (hx:ev env x=.pointer (some ad)) (hinf:P.info? e=some inf) (h:idxA ad len n inf.size λad=>K (.pointer (some ad))):ij P env o K:=by
 have he:execOp (ev env) o=(do pure (.value (← Instr.indexAt t (ev env x) (ev env i)))):=by unfold execOp;rw [ho]
 obtain ⟨h0,h1,h⟩:=h
 refine rh he (λw=>?_) h
 simp [Instr.indexAt,hi,hx,asIntOf,run_underlying hu,h0,h1,run_sizeOf hinf,Instr.sureAddr]
theorem nO {d n:Int} {v:Option Value} (h:bnd d v=some n):(v=none∧n=d)∨∃ k,v=some (.int k n):=by
 unfold bnd at h
 split at h
 ·exact .inl ⟨rfl,by simpa using h.symm⟩
 ·rename_i k m;exact .inr ⟨k,by simp at h;rw [h]⟩
 ·cases h
theorem dL {k:IntKind} {n:Int} {y:Nat} {c:BoundsCode} (h0:0≤n) (h1:n≤y) (w:World):(Instr.sliceBound (.int k n) y c).run P w=.ok n.toNat w:=by
 simp [Instr.sliceBound,asIntOf,h0,h1]
theorem rz {len cap:Nat} {lo hi mx:Option Value} {l h m:Int} (hl:bnd 0 lo=some l) (hh:bnd len hi=some h) (hm:bnd cap mx=some m) (hhm:¬ (hi=none∧mx≠none))
  (b0:0≤l) (b1:l≤h) (b2:h≤m) (b3:m≤cap) (w:World):(Instr.sliceBounds true len cap lo hi mx).run P w=.ok (l.toNat,h.toNat,m.toNat) w:=by
 unfold Instr.sliceBounds
 rcases nO hm with ⟨rfl,rfl⟩ | ⟨km,rfl⟩
 ·rcases nO hh with ⟨rfl,rfl⟩ | ⟨kh,rfl⟩
  ·rcases nO hl with ⟨rfl,rfl⟩ | ⟨kl,rfl⟩
   ·simp
   ·simp [dL (y:=len) b0 b1]
  ·rcases nO hl with ⟨rfl,rfl⟩ | ⟨kl,rfl⟩
   ·simp [dL (y:=cap) b1 b2]
   ·simp [dL (y:=cap) (Int.le_trans b0 b1) b2,dL (y:=h.toNat) b0 (by omega:l≤((h.toNat:Nat):Int))]
 ·rcases nO hh with ⟨rfl,rfl⟩ | ⟨kh,rfl⟩
  ·exact absurd ⟨rfl,by simp⟩ hhm
  ·rcases nO hl with ⟨rfl,rfl⟩ | ⟨kl,rfl⟩
   ·simp [dL (y:=cap) (by omega:(0:Int)≤m) b3,dL (y:=m.toNat) b1 (by omega:h≤((m.toNat:Nat):Int))]
   ·simp [dL (y:=cap) (by omega:(0:Int)≤m) b3,dL (y:=m.toNat) (Int.le_trans b0 b1) (by omega:h≤((m.toNat:Nat):Int)),
     dL (y:=h.toNat) b0 (by omega:l≤((h.toNat:Nat):Int))]
theorem yn {t e:TypeId} {x:Operand} {lo hi mx:Option Operand} {a:Option Addr} {len cap:Nat} {inf:TypeInfo} {K:Value→Prop} {l h m:Int} (ho:o.op=.slice t x lo hi mx)
  (hu:P.underlying t=some (.slice e)) (hx:ev env x=.slice a len cap) (hinf:P.info? e=some inf)
  (hl:bnd 0 (lo.map (ev env))=some l) (hh:bnd len (hi.map (ev env))=some h) (hm:bnd cap (mx.map (ev env))=some m) (hhm:¬ (hi=none∧mx≠none))
  (hk:sl3 a len cap l h m inf.size λa' l' c'=>K (.slice a' l' c')):ij P env o K:=by
 have he:execOp (ev env) o=(do pure (.value (← Instr.sliceAt t (ev env x) (lo.map (ev env)) (hi.map (ev env)) (mx.map (ev env))))):=by unfold execOp;rw [ho]
 obtain ⟨b0,b1,b2,b3,_,hk⟩:=hk
 refine rh he (λw=>?_) hk
 have hb:=rz (P:=P) hl hh hm (by intro hc;exact hhm ⟨by simpa using hc.1,by simpa using hc.2⟩) b0 b1 b2 b3 w
 have e1:(m=l)↔(m.toNat=l.toNat):=by omega
 simp only [Instr.sliceAt,Sem.run_bind,run_underlying hu,Result.andThen_ok,Instr.slice,hx,hb,run_sizeOf hinf,e1]
 rfl
theorem Dh (n:Nat) (zs:Array Value) (hz:0<zs.size):(Array.range (n * zs.size)).map (zs[· % zs.size]!)=(reps n zs.toList).toArray:=by
 apply Array.ext
 ·simp [reps]
 ·intro i h1 h2
  simp only [Array.size_map,Array.size_range] at h1
  simp only [Array.getElem_map,Array.getElem_range,List.getElem_toArray]
  have key:∀ (m i:Nat) (zs:List Value) (hzs:zs≠[]),i<m * zs.length→((List.replicate m zs).flatten)[i]?=zs[i % zs.length]?:=by
   intro m
   induction m with
   |zero=>intro i zs _ h;simp at h
   |succ m ih=>
    intro i zs hzs h
    have hp:0<zs.length:=List.length_pos_iff.2 hzs
    simp only [List.replicate_succ,List.flatten_cons]
    by_cases hi:i<zs.length
    ·rw [List.getElem?_append_left hi,Nat.mod_eq_of_lt hi]
    ·rw [List.getElem?_append_right (by omega),ih (i - zs.length) zs hzs (by rw [Nat.succ_mul] at h;omega)]
     congr 1
     rw [Nat.mod_eq_sub_mod (by omega:i≥zs.length)]
  have hne:zs.toList≠[]:=by
   intro hc
   have h0:zs.toList.length=0:=by rw [hc];rfl
   rw [Array.length_toList] at h0
   omega
  have hk:=key n i zs.toList hne (by simpa using h1)
  have hlt:i % zs.size<zs.size:=Nat.mod_lt _ hz
  unfold reps
  have h3:((List.replicate n zs.toList).flatten)[i]?=some zs[i % zs.size]:=by
   rw [hk];simp [hlt]
  rw [getElem!_pos zs _ hlt]
  have h2':i<((List.replicate n zs.toList).flatten).length:=by simpa [reps] using h2
  rw [List.getElem?_eq_getElem h2'] at h3
  exact (Option.some.inj h3).symm
theorem zn {t e:TypeId} {l c:Operand} {kl kc:IntKind} {len cap:Int} {inf:TypeInfo} {z:Value} (ho:o.op=.makeSlice t l c)
  (hu:P.underlying t=some (.slice e)) (hl:ev env l=.int kl len) (hc:ev env c=.int kc cap) (hinf:P.info? e=some inf) (hz:inf.zero=some z) (hzs:z.cells.size=inf.size) (hp:0<inf.size)
  (h:mk3 len cap inf.bytes (.cells (reps cap.toNat z.cells.toList).toArray e) w λb w1=>K (.slice (some ⟨b,0,none⟩) len.toNat cap.toNat) w1):mo P env o K w:=by
 have he:execOp (ev env) o=(do pure (.value (← Instr.makeSlice t (ev env l) (ev env c)))):=by unfold execOp;rw [ho]
 obtain ⟨b0,b1,b2,b3,h⟩:=h
 have h:=h _ _ rfl rfl
 refine tS he ?_ h
 have wl:IntKind.i64.wrap len=len:=by simp only [IntKind.wrap,IntKind.bits,IntKind.signed];simp;omega
 have wc:IntKind.i64.wrap cap=cap:=by simp only [IntKind.wrap,IntKind.bits,IntKind.signed];simp;omega
 have t1:¬ cap<0:=by omega
 have t2:¬ ((281474976710656:Int)<(inf.bytes:Int) * cap):=by
  rw [Int.mul_comm];omega
 have t3:¬ len<0:=by omega
 have t4:¬ cap<len:=by omega
 have room:(askRoom (cap.toNat * inf.bytes)).run P w=.ok () w:=by
  have:¬ (cap.toNat * inf.bytes>roomBytes):=by
   have:((cap.toNat * inf.bytes:Nat):Int)=cap * inf.bytes:=by
    rw [Int.natCast_mul,Int.toNat_of_nonneg (by omega)]
   unfold roomBytes;omega
  simp [askRoom,this]
 have hr:=Dh cap.toNat z.cells (by omega)
 rw [hzs] at hr
 by_cases hn:cap.toNat * inf.size=0
 ·have hc0:cap.toNat=0:=by
   rcases Nat.mul_eq_zero.1 hn with h | h
   ·exact h
   ·omega
  simp [Instr.makeSlice,run_underlying hu,hl,hc,asInt,asIntOf,mJ hinf,wl,wc,t1,t2,t3,t4,run_sizeOf hinf,hc0,reps,newRow,newObj,Sem.run]
  rw [show Array.map (λ_=>(default:Value)) (Array.range 0)=#[] from Array.eq_empty_of_size_eq_zero (by simp)]
 ·simp [Instr.makeSlice,run_underlying hu,hl,hc,asInt,asIntOf,mJ hinf,wl,wc,t1,t2,t3,t4,run_sizeOf hinf,hn,zeroValue,hz,hzs,newRow,newObj,Sem.run,←hr]
theorem mK {t e:TypeId} {p:Option Addr} (hu:P.underlying t=some (.pointer e)) (w:World):(Op.equal t (.pointer p) (.pointer none)).run P w=.ok p.isNone w:=by
 have h:∀ d:Nat,(Op.equalIn (d+1) t (.pointer p) (.pointer none)).run P w=.ok p.isNone w:=λd=>by
  cases p<;>simp [Op.equalIn,run_underlying hu]
 exact h 9999
theorem oA {t e:TypeId} {p:Option Addr} {l c l' c':Nat} (hu:P.underlying t=some (.slice e)) (w:World):(Op.equal t (.slice p l c) (.slice none l' c')).run P w=.ok p.isNone w:=by
 have h:∀ d:Nat,(Op.equalIn (d+1) t (.slice p l c) (.slice none l' c')).run P w=.ok p.isNone w:=λd=>by
  cases p<;>simp [Op.equalIn,run_underlying hu]
 exact h 9999
theorem jC {op:BinOp} {t u:TypeId} {x y:Operand} {v:Value} {K:Value→Prop} (ho:o.op=.binOp op t x y u) (hg:∀ w,(eqGuard op t x y (ev env x) (ev env y)).run P w=.ok () w)
  (hr:∀ w,(binOp op t (ev env x) (ev env y)).run P w=.ok v w) (h:K v):ij P env o K:=by
 have he:execOp (ev env) o=(do pure (.value (← (do eqGuard op t x y (ev env x) (ev env y);binOp op t (ev env x) (ev env y))))):=by unfold execOp;rw [ho]
 refine rh he (λw=>?_) h
 rw [Sem.run_bind,hg]
 exact hr w
theorem yo {f:Operand} {c:Call} {g:FuncId} {first captured:Array Value} (ho:o.op=.call c) (hc:c.callee=.value f) (hf:ev env f=.func (.func g) first captured) (hok:l9 P g=true)
  (h:Calls P g (first++c.args.map (ev env)++captured) w λe w'=>exR P (Br P o.type) λv=>e=.returned v∧K v w'):mo P env o K w:=by
 refine .inr ⟨g,first++c.args.map (ev env)++captured,?_,h.mono λe w' h=>CR h⟩
 unfold l9 at hok
 cases hfn:P.funcs[g]? with
 |none=>simp [hfn] at hok
 |some fn=>
  simp only [hfn,Bool.and_eq_true,Bool.not_eq_true'] at hok
  have hb:fn.body≠none:=by
   intro hb
   simp [hb] at hok
  have hn:fn.name≠ "runtime.NumGoroutine" :=by simpa using hok.2
  unfold execOp
  rw [ho]
  simp only [resolve,hc,hf,Deferred.ofValue,pure_bind,invoke,callFunc]
  simp [program,Sem.run,hfn,hn,hb]
theorem mL {c:Call} {b:Builtin} {s:Sem Value} {k:Ki} (ho:o.op=.call c) (hc:c.callee=.builtin b)
  (hb:∀ cs,builtin b c.argTypes o.type cs (c.args.map (ev env))=(do pure (.value (← s))))
  (h:runW P s k K w):mo P env o K w:=by
 obtain ⟨v,w',hr,h⟩:=th h
 refine .inl ⟨.value v,w',?_,h⟩
 unfold execOp
 rw [ho]
 simp only [resolve,hc,pure_bind,invoke,hb]
 rw [Sem.run_bind,hr]
 rfl
theorem pd {op:BinOp} {t:TypeId} {x y:Operand} {k k':IntKind} {a b:Int}:(eqGuard op t x y (.int k a) (.int k' b)).run P w=.ok () w:=by
 cases op<;>rfl
theorem uV {op:BinOp} {t:TypeId} {x y:Operand} {a b:Option Addr}:(eqGuard op t x y (.pointer a) (.pointer b)).run P w=.ok () w:=by
 cases op<;>rfl
theorem xo {op:BinOp} {t:TypeId} {x y:Operand} {a b:Option Addr} {l c l' c':Nat}:(eqGuard op t x y (.slice a l c) (.slice b l' c')).run P w=.ok () w:=by
 cases op<;>rfl
theorem uW {K:Value→Prop} (h:Bs P env o K):ij P env o K:=by
 unfold Bs at h
 split at h
 ·rename_i ho
  split at h
  ·rename_i hc;exact zk ho hc h
  ·exact h.elim
 ·rename_i ho
  split at h
  ·rename_i hx;exact Bu ho hx h
  ·exact h.elim
 ·rename_i ho
  split at h
  ·rename_i hi
   split at h
   ·rename_i hu
    split at h
    ·rename_i hx hinf;exact zl ho hi hu hx hinf h
    ·exact h.elim
   ·rename_i hu
    split at h
    ·rename_i hx hinf;exact zm ho hi hu hx hinf h
    ·exact h.elim
   ·exact h.elim
  ·exact h.elim
 ·rename_i ho
  split at h
  ·rename_i hu
   split at h
   ·rename_i hx hinf
    split at h
    ·rename_i hl hh hm hno
     refine yn ho hu hx hinf hl hh hm ?_ h
     rintro ⟨h1,h2⟩
     rw [h1] at hno
     simp at hno
     exact h2 hno
    ·exact h.elim
   ·exact h.elim
  ·exact ma h
 ·rename_i ho
  split at h
  ·rename_i hx hy
   split at h
   ·rename_i hu
    exact jC ho (λw=>by rw [hx,hy];exact uV) (λw=>by rw [hx,hy];simp [binOp,mK hu]) h
   ·exact h.elim
  ·rename_i hx hy
   split at h
   ·rename_i hu
    exact jC ho (λw=>by rw [hx,hy];exact uV) (λw=>by rw [hx,hy];simp [binOp,mK hu]) h
   ·exact h.elim
  ·rename_i hx hy
   split at h
   ·rename_i hu
    exact jC ho (λw=>by rw [hx,hy];exact xo) (λw=>by rw [hx,hy];simp [binOp,oA hu]) h
   ·exact h.elim
  ·rename_i hx hy
   split at h
   ·rename_i hu
    exact jC ho (λw=>by rw [hx,hy];exact xo) (λw=>by rw [hx,hy];simp [binOp,oA hu]) h
   ·exact h.elim
  ·rename_i hx hy
   split at h
   ·exact ma h
   ·obtain ⟨rfl,hb,h⟩:=h
    exact jC ho (λw=>by rw [hx,hy];exact pd) (λw=>by rw [hx,hy];simp [binOp,Op.intDiv,hb]) h
  ·rename_i hx hy
   split at h
   ·exact ma h
   ·obtain ⟨rfl,hb,h⟩:=h
    exact jC ho (λw=>by rw [hx,hy];exact pd) (λw=>by rw [hx,hy];simp [binOp,Op.intDiv,hb]) h
  ·rename_i hx hy
   split at h
   ·exact ma h
   ·obtain ⟨hb,h⟩:=h
    have hb':¬ _<(0:Int):=Int.not_lt.2 hb
    exact jC ho (λw=>by rw [hx,hy];exact pd) (λw=>by rw [hx,hy];simp only [binOp,Op.shift,hb',if_false];rfl) h
  ·rename_i hx hy
   split at h
   ·exact ma h
   ·obtain ⟨hb,h⟩:=h
    have hb':¬ _<(0:Int):=Int.not_lt.2 hb
    exact jC ho (λw=>by rw [hx,hy];exact pd) (λw=>by rw [hx,hy];simp only [binOp,Op.shift,hb',if_false];rfl) h
  ·rename_i hx hy
   obtain ⟨r,hr,h⟩:=h
   exact jC ho (λw=>by rw [hx,hy];exact (hr w).1 _ _ _) (λw=>by rw [hx,hy];exact (hr w).2.1) h
  ·rename_i hx hy
   obtain ⟨r,hr,h⟩:=h
   exact jC ho (λw=>by rw [hx,hy];exact (hr w).1 _ _ _) (λw=>by rw [hx,hy];exact (hr w).2.2) h
  ·exact ma h
 ·exact ma h
theorem qk (h:opW P env o K w):mo P env o K w:=by
 unfold opW at h
 split at h
 ·exact (uW h).does
 split at h
 ·rename_i ho;exact zj ho h
 ·rename_i ho;exact ym ho h
 ·rename_i ho
  split at h
  ·rename_i hu hl hc
   split at h
   ·rename_i hinf
    split at h
    ·rename_i hzz
     split at h
     ·exact h.elim
     ·rename_i hck
      simp only [Bool.and_eq_true] at hck
      exact zn ho hu hl hc hinf hzz (Nat.eq_of_beq_eq_true hck.1) (Nat.le_of_ble_eq_true hck.2) h
    ·exact h.elim
   ·exact h.elim
  ·exact h.elim
 ·rename_i ho
  split at h
  ·rename_i hc;exact mL ho hc (λ_=>rfl) h
  ·rename_i hc;exact mL ho hc (λ_=>rfl) h
  ·rename_i hc;exact mL ho hc (λ_=>rfl) h
  ·rename_i hc
   unfold sL at h
   split at h
   ·rename_i hf
    split at h
    ·rename_i hok;exact yo ho hc hf hok h
    ·exact h.elim
   ·exact h.elim
  ·exact xn h
 ·exact xn h
theorem Di {Q:Exit→Act→World→Prop} {next:Act→World→Prop} (h:mo P env o K w) (hn:∀ v w',K v w'→next (act (put env o.dst v)) w'):o.wp P (act env) w next Q:=by
 unfold Oper.wp
 rw [o7]
 rcases h with ⟨n,w',hr,h⟩ | ⟨f,args,hr,h⟩
 ·rw [hr]
  cases n with
  |value v=>simp only [Oper.upon,ja];exact hn _ _ h
  |skip=>simp only [Oper.upon,ja];exact hn _ _ h
  | _=>exact h.elim
 ·rw [hr]
  simp only [Oper.upon]
  refine h.mono λe w' ⟨v,he,h⟩=>?_
  subst he
  simp only [ja]
  exact hn _ _ h
theorem mM {Q:Exit→Act→World→Prop} {next:Act→World→Prop} (h:mo P env o K w) (hn:∀ v w',K v w'→next (act (put env o.dst v)) w'):o.wpIn Fence.wide 0 P (act env) w next Q:=by
 refine ⟨λ_ _=>trivial,?_⟩
 show o.uponIn Fence.wide 0 P (act env) next Q ((execOp (act env).eval o).run P w)
 rw [o7]
 rcases h with ⟨n,w',hr,h⟩ | ⟨f,args,hr,h⟩
 ·rw [hr]
  cases n with
  |value v=>simp only [Oper.uponIn,ja];exact hn _ _ h
  |skip=>simp only [Oper.uponIn,ja];exact hn _ _ h
  | _=>exact h.elim
 ·rw [hr]
  simp only [Oper.uponIn]
  refine ⟨λhc=>by simp [Fence.wide] at hc,callsIn_wide.2 (h.mono λe w' ⟨v,he,h⟩=>?_)⟩
  subst he
  simp only [ja]
  exact hn _ _ h
theorem yp {Q:Exit→Act→World→Prop} {next:Act→World→Prop} {f:Operand} {c:Call} {l:Nat} {first captured:Array Value} (ho:o.op=.call c) (hc:c.callee=.value f) (hf:ev env f=.func (.yield l) first captured)
  (h:YieldAt Fence.wide 0 P l (first++c.args.map (ev env)) w λe w'=>exR P (Br P o.type) λv=>e=.returned v∧K v w') (hn:∀ v w',K v w'→next (act (put env o.dst v)) w'):o.wpIn Fence.wide 0 P (act env) w next Q:=by
 refine ⟨λ_ _=>trivial,?_⟩
 show o.uponIn Fence.wide 0 P (act env) next Q ((execOp (act env).eval o).run P w)
 rw [o7]
 obtain ⟨fn,tmps,assign,body,hrun,hR⟩:=h
 have hr:(execOp (ev env) o).run P w=.ok (.round l fn tmps assign body) w:=by
  unfold execOp
  rw [ho]
  simp only [resolve,hc,hf,Deferred.ofValue,pure_bind,invoke]
  exact hrun
 rw [hr]
 simp only [Oper.uponIn]
 refine ⟨λhc=>by simp [Fence.wide] at hc,hR.mono λe w' h=>?_⟩
 obtain ⟨v,he,hkv⟩:=CR h
 subst he
 simp only [ja]
 exact hn _ _ hkv
theorem Bv {Q:Exit→Act→World→Prop} {next:Act→World→Prop} (h:opY P env o K w) (hn:∀ v w',K v w'→next (act (put env o.dst v)) w'):o.wpIn Fence.wide 0 P (act env) w next Q:=by
 unfold opY at h
 split at h
 ·rename_i c ho
  split at h
  ·rename_i f hc
   unfold nU at h
   split at h
   ·rename_i l first captured hf
    exact yp ho hc hf h hn
   ·refine mM (qk ?_) hn
    cases o with
    |mk dst op type pos after guard=>
     cases c with
     |mk callee args argTypes=>
      simp only at ho hc
      subst ho
      subst hc
      exact h
  ·exact mM (qk h) hn
 ·exact mM (qk h) hn
end
def yq (ops:List Oper) (j:Nat):Option Tmp:=match ops[j]? with | some o=>o.dst | none=>none
def opsW (P:Program) (all:List Oper):List Oper→List Value→(List Value→World→Prop)→World→Prop
 | [],env,K,w=>K env w
 |o::rest,env,K,w=>
  match o.guard with
  |none=>opY P env o (λv w'=>opsW P all rest (put env o.dst v) K w') w
  |some (j,want)=>match yq all j with
   |none=>False
   |some d=>match env[d]? with
    |some (.bool b)=>
     bif b then (match want with
      |true=>opW P (env.set d (.bool true)) o (λv w'=>opsW P all rest (put (env.set d (.bool true)) o.dst v) K w') w
      |false=>opsW P all rest (put (env.set d (.bool true)) o.dst undef) K w)
     else (match want with
      |true=>opsW P all rest (put (env.set d (.bool false)) o.dst undef) K w
      |false=>opW P (env.set d (.bool false)) o (λv w'=>opsW P all rest (put (env.set d (.bool false)) o.dst v) K w') w)
    |some _=>opsW P all rest (put env o.dst undef) K w
    |none=>False
theorem rA {ops:Array Oper} {o:Oper} {env:List Value} (hg:o.guard=none):Region.wanted o (yielded ops (act env).tmps)=true:=by
 simp [Region.wanted,hg]
theorem rB {all:List Oper} {env:List Value} {j:Nat} {d:Tmp} (h:yq all j=some d):yielded all.toArray (act env).tmps j=match env[d]? with | some (.bool b)=>some b | _=>none:=by
 unfold yielded yq at *
 cases hj:all[j]? with
 |none=>simp [hj] at h
 |some o=>
  simp only [hj] at h
  simp only [List.getElem?_toArray,hj,Option.bind_some,h,act]
  rcases env[d]? with _ | v
  ·rfl
  ·cases v<;>rfl
theorem mN {P:Program} {all:List Oper} {Q:Exit→Act→World→Prop}:∀ (l:List Oper) (env:List Value) (w:World) (K:List Value→World→Prop),
  (∀ env w,K env w→Q .normal (act env) w)→opsW P all l env K w→wpListIn Fence.wide 0 P all.toArray Q l (act env) w
 | [],env,w,K,hk,h=>hk _ _ h
 |o::rest,env,w,K,hk,h=>by
  unfold opsW at h
  unfold wpListIn
  cases hg:o.guard with
  |none=>
   simp only [hg] at h
   rw [if_pos (rA hg)]
   exact Bv h λv w' h=>mN rest _ _ K hk h
  |some p=>
   obtain ⟨j,want⟩:=p
   simp only [hg] at h
   cases hd:yq all j with
   |none=>simp only [hd] at h
   |some d=>
    simp only [hd] at h
    have hy:=rB (env:=env) hd
    cases he:env[d]? with
    |none=>simp only [he] at h
    |some v=>
     have hself:env.set d v=env:=by
      apply List.ext_getElem?
      intro i
      rw [List.getElem?_set]
      split
      ·rename_i hi;subst hi
       have:d<env.length:=by
        rcases Nat.lt_or_ge d env.length with h | h
        ·exact h
        ·rw [List.getElem?_eq_none h] at he;cases he
       rw [if_pos this,he]
      ·rfl
     cases v with
     |bool b=>
      simp only [he] at h
      cases b with
      |true=>
       rw [cond_true,hself] at h
       cases want with
       |true=>
        simp only at h
        rw [if_pos (by simp [Region.wanted,hg,hy,he])]
        exact mM (qk h) λv w' h=>mN rest _ _ K hk h
       |false=>
        simp only at h
        rw [if_neg (by simp [Region.wanted,hg,hy,he]),ja]
        exact ⟨λ_ _=>trivial,mN rest _ _ K hk h⟩
      |false=>
       rw [cond_false,hself] at h
       cases want with
       |true=>
        simp only at h
        rw [if_neg (by simp [Region.wanted,hg,hy,he]),ja]
        exact ⟨λ_ _=>trivial,mN rest _ _ K hk h⟩
       |false=>
        simp only at h
        rw [if_pos (by simp [Region.wanted,hg,hy,he])]
        exact mM (qk h) λv w' h=>mN rest _ _ K hk h
     | _=>
      simp only [he] at h
      rw [if_neg (by simp [Region.wanted,hg,hy,he]),ja]
      exact ⟨λ_ _=>trivial,mN rest _ _ K hk h⟩
section
variable {P:Program} {ops:Array Oper} {Q:Exit→Act→World→Prop} {S:World→Prop} {nd:Nat→Bool}
def tj (P:Program) (ops:Array Oper) (Q:Exit→Act→World→Prop) (S:World→Prop) (nd:Nat→Bool):Nat→Array Bool→Act→World→Prop
 | 0,listed,a,w=>Region.ready .any ops listed=[]∧Q .normal a w
 |fuel+1,listed,a,w=>
  (Region.ready .any ops listed=[]→Q .normal a w)∧
  ∀ i ∈ Region.ready .any ops listed,wpOp P ops Q i (λa' w'=>(nd i=true→S w→S w')∧tj P ops Q S nd fuel (listed.setIfInBounds i true) a' w') a w
theorem ql:∀ (fuel:Nat) (listed:Array Bool) (a:Act) (w:World),tj P ops Q S nd fuel listed a w→wpAny P .any ops Q fuel listed a w
 | 0,_,_,_,h=>h
 |fuel+1,_,_,_,h=>⟨h.1,λi hi=>wpOp_mono (λa' w' h'=>ql fuel _ a' w' h'.2) (h.2 i hi)⟩
def lC (ops:Array Oper) (listed:Array Bool):Prop:=∀ j oj,ops[j]?=some oj→listed.getD j false=true→∀ e ∈ oj.after,Region.binds .any e=true→listed.getD e.on false=true
theorem lC.set {listed:Array Bool} {i:Nat} (h:lC ops listed) (hi:i ∈ Region.ready .any ops listed):lC ops (listed.setIfInBounds i true):=by
 intro j oj hj hl e he hb
 by_cases hji:j=i
 ·subst hji
  obtain ⟨_,o,ho,hall⟩:=mem_ready.1 hi
  rw [ho] at hj
  cases hj
  exact getD_set_true (hall e he hb)
 ·rw [getD_set_ne false (Ne.symm hji)] at hl
  exact getD_set_true (h j oj hj hl e he hb)
theorem qN {i:Nat} {oi:Oper} {v:Value} {L:Bool} (hi:ops[i]?=some oi) (hsel:∀ (j:Nat) (o:Oper) cs b,ops[j]?=some o→o.op≠.select cs b)
  (hQ:∀ c a w,Q (.panic c) (a.put oi.dst v) w→Q (.panic c) a w) :
  ∀ (fuel:Nat) (listed:Array Bool) (a:Act) (w:World),lC ops listed→
   (∀ (l2:Array Bool) j oj,lC ops l2→(∀ k,listed.getD k false=true→l2.getD k false=true)→l2.getD i true=false→j ∈ Region.ready .any ops l2→ops[j]?=some oj→j≠i→listed.getD j true=false→(∀ e ∈ oj.after,Region.binds .any e=true→e.on≠i)→oi.apart ops oj=true∧(L=true→nd j=true))→
   i ∈ Region.ready .any ops listed→YieldsIf P ops (λw=>L=true→S w) oi v a→(L=true→S w)→
   tj P ops Q S nd fuel (listed.setIfInBounds i true) (a.put oi.dst v) w→tj P ops Q S nd (fuel+1) listed a w:=by
 intro fuel
 induction fuel with
 |zero=>
  intro listed a w _ _ hr hy hS H
  refine ⟨λh=>(by rw [h] at hr;cases hr),λj hj=>?_⟩
  by_cases hji:j=i
  ·subst hji;exact hy.wpOp hi hS ⟨λ_ h=>h,H⟩
  ·have:=ready_mono hj hji
   rw [H.1] at this
   cases this
 |succ fuel ih=>
  intro listed a w hcl hfree hr hy hS H
  refine ⟨λh=>(by rw [h] at hr;cases hr),λj hj=>?_⟩
  by_cases hji:j=i
  ·subst hji;exact hy.wpOp hi hS ⟨λ_ h=>h,H⟩
  ·have h1:=H.2 j (ready_mono hj hji)
   obtain ⟨hjun,oj,hoj,hall⟩:=mem_ready.1 hj
   have hnot:∀ e ∈ oj.after,Region.binds .any e=true→e.on≠i:=λe he hb heq=>by
    have h1:=hall e he hb
    have h0:=(mem_ready.1 hr).1
    rw [heq] at h1
    rcases Nat.lt_or_ge i listed.size with h' | h'
    ·simp [h'] at h0 h1;rw [h0] at h1;cases h1
    ·simp [Array.getElem?_eq_none h'] at h1
   have hj2:=hfree listed j oj hcl (λ_ h=>h) (mem_ready.1 hr).1 hj hoj hji hjun hnot
   have h2:=wpOp_putIf hoj hj2.1 (λcs b=>hsel i oi cs b hi) (λcs b=>hsel j oj cs b hoj) hQ hy h1
   have hfree':∀ (l2:Array Bool) k ok,lC ops l2→(∀ q,(listed.setIfInBounds j true).getD q false=true→l2.getD q false=true)→l2.getD i true=false→k ∈ Region.ready .any ops l2→ops[k]?=some ok→k≠i→(listed.setIfInBounds j true).getD k true=false→
     (∀ e ∈ ok.after,Region.binds .any e=true→e.on≠i)→oi.apart ops ok=true∧(L=true→nd k=true):=λl2 k ok h3 h4 h5 h6 hk hki hun hno=>by
    refine hfree l2 k ok h3 (λq hq=>h4 q (getD_set_true hq)) h5 h6 hk hki ?_ hno
    by_cases hjk:j=k
    ·subst hjk;exact hjun
    ·rw [getD_set_ne true hjk] at hun;exact hun
   refine wpOp_mono (λa' w' h3=>⟨h3.2.1,ih (listed.setIfInBounds j true) a' w' (hcl.set hj) hfree' (ready_mono hr (Ne.symm hji)) h3.1 (λhL=>h3.2.1 (hj2.2 hL) (hS hL)) ?_⟩) h2
   rw [Array.setIfInBounds_comm _ _ hji]
   exact h3.2.2
end
def kT:Op→Bool
 | .load ..=>true
 | _=>false
def Bw (ops:List Oper) (j i:Nat):Bool:=match ops[j]? with
 |some o=>o.after.any λe=>Region.binds .any e && e.on == i
 |none=>false
def ndOf (ops:List Oper) (j:Nat):Bool:=(List.range ops.length).any λi=>i != j && (match ops[i]? with | some o=>kT o.op | none=>false) && !Bw ops j i
def tm (m:List Nat) (o:Oper):List Nat:=m++[o.after.toList.foldl (λx e=>match Region.binds .any e with | true=>x ||| (1 <<< e.on) ||| m.getD e.on 0 | false=>x) 0]
def Ey (ops:List Oper):List Nat:=ops.foldl tm []
def tn (ops:List Oper) (j i:Nat):Bool:=((Ey ops).getD j 0).testBit i
def ndT (ops:List Oper) (j:Nat):Bool:=(List.range ops.length).any λi=>i != j && (match ops[i]? with | some o=>kT o.op | none=>false) && !tn ops j i && !tn ops i j
def Ez:Op→Bool
 | .call ..=>true
 | _=>false
def Fy:Op→Bool
 | .indexAddr ..=>true
 | _=>false
def zo (ops:List Oper):Bool:=ops.any λo=>kT o.op && o.after.any λe=>match ops[e.on]? with
 |some p=>Fy p.op && p.after.any λe2=>match ops[e2.on]? with
  |some q=>Ez q.op
  |none=>false
 |none=>false
def Dj (ops:List Oper):Bool→Nat→Bool
 |true=>ndT ops
 |false=>ndOf ops
def yr (nd:Nat→Bool) (ops:List Oper) (listed:Array Bool) (i:Nat):Bool:=
 nd i || (List.range ops.length).any λk=>!listed.getD k true && k != i && (match ops[k]? with | some o=>!xm o.op | none=>false) && nd k
def Dk (ops:List Oper):Bool:=ops.any λo=>kT o.op
def EA (P:Program) (S:World→Prop) (t:TypeId) (x:Value) (K:Value→Prop):Prop:=
 match x with
 | .pointer (some ad)=>
  match P.info? t with
  |none=>False
  |some inf=>
   match isAgg? P t with
   |true=>match Nat.beq (kis P 8 t).length inf.size with
    |true=>exL (kis P 8 t) λvs=>(∀ w,S w→aC w ad 0 vs)∧K (.agg vs.toArray)
    |false=>False
   |false=>match P.underlying t with
    |none=>False
    |some d=>exK (kiOf (some d)) λv=>(∀ w,S w→w.cell? ad=some v)∧K v
 | _=>False
def zp (P:Program) (S:World→Prop) (env:List Value) (o:Oper) (K:Value→Prop):Prop:=
 match o.op with
 | .load t x=>EA P S t (ev env x) K
 | _=>Bs P env o K
def xp (all:List Oper) (env:List Value) (g:Option (Nat×Bool)) (run skip:List Value→Prop):Prop:=
 match g with
 |none=>run env
 |some (j,want)=>match yq all j with
  |none=>False
  |some d=>match env[d]? with
   |some (.bool b)=>
    bif b then (match want with | true=>run (env.set d (.bool true)) | false=>skip (env.set d (.bool true)))
    else (match want with | true=>skip (env.set d (.bool false)) | false=>run (env.set d (.bool false)))
   |some _=>skip env
   |none=>False
def conj:List Prop→Prop
 | []=>True
 | [p]=>p
 |p::ps=>p∧conj ps
theorem xq:∀ {ps:List Prop} {p:Prop},conj ps→p ∈ ps→p
 | [q],p,h,hm=>by simp only [List.mem_singleton] at hm;subst hm;exact h
 |q::r::rs,p,h,hm=>by
  rcases List.mem_cons.1 hm with rfl | hm
  ·exact h.1
  ·exact xq h.2 hm
def obl:Bool→Bool→Prop→Prop→Prop
 |true,true,s,p=>s∧p
 |true,false,_,p=>p
 |false,false,_,p=>p
 |false,true,_,_=>False
def bnot:Bool→Prop→Prop
 |true,_=>False
 |false,p=>p
def pe (P:Program) (ops:List Oper) (nd:Nat→Bool) (S:World→Prop) (K:List Value→World→Prop):Nat→Array Bool→Bool→List Value→World→Prop
 | 0,listed,_,env,w=>bnot (!(Region.ready .any ops.toArray listed).isEmpty) (K env w)
 |fuel+1,listed,sok,env,w=>
  match (Region.ready .any ops.toArray listed).find? (λi=>match ops[i]? with | some o=>(xm o.op || (kT o.op && sok)) && Region.free .any ops.toArray listed i | none=>false) with
  |some i=>match ops[i]? with
   |none=>False
   |some o=>xp ops env o.guard (λenv=>zp P S env o λv=>pe P ops nd S K fuel (listed.setIfInBounds i true) sok (put env o.dst v) w)
     (λenv=>pe P ops nd S K fuel (listed.setIfInBounds i true) sok (put env o.dst undef) w)
  |none=>match (Region.ready .any ops.toArray listed) with
   | []=>K env w
   |rs=>conj (rs.map λi=>match ops[i]? with
    |none=>False
    |some o=>xp ops env o.guard (λenv=>opW P env o (λv w'=>obl sok (yr nd ops listed i) (S w') (pe P ops nd S K fuel (listed.setIfInBounds i true) (sok && yr nd ops listed i) (put env o.dst v) w')) w)
     (λenv=>pe P ops nd S K fuel (listed.setIfInBounds i true) sok (put env o.dst undef) w))
theorem yt {P:Program} {S:World→Prop} {env:List Value} {o:Oper} {K:Value→Prop} (h:zp P S env o K):∃ v,(∀ w,(kT o.op=true→S w)→(execOp (ev env) o).run P w=.ok (.value v) w)∧K v:=by
 unfold zp at h
 split at h
 ·rename_i t x ho
  have he:execOp (ev env) o=(do pure (.value (← Instr.loadAt t (ev env x)))):=by unfold execOp;rw [ho]
  have hl:kT o.op=true:=by rw [ho];rfl
  unfold EA at h
  split at h
  ·rename_i ad hx
   split at h
   ·exact h.elim
   ·rename_i inf hinf
    split at h
    ·rename_i hagg
     split at h
     ·rename_i hlen
      obtain ⟨vs,hl',hc,h⟩:=uS h
      obtain ⟨d,hd⟩:=jc hagg
      refine ⟨_,λw hS=>?_,h⟩
      have hn:vs.length=inf.size:=by rw [hl'];exact Nat.eq_of_beq_eq_true hlen
      rw [he,Sem.run_bind]
      simp only [Instr.loadAt,hx,Instr.sureAddr,pure_bind,loadVar,Sem.run_bind,jJ hd,Result.andThen_ok,hagg,if_true,run_sizeOf hinf]
      have:=run_loadCellsFrom (P:=P) (acc:=#[]) (hc w (hS hl))
      rw [hn] at this
      simp [loadCells,this]
     ·exact h.elim
    ·rename_i hagg
     split at h
     ·exact h.elim
     ·rename_i d hd
      obtain ⟨v,hv,h⟩:=th h
      refine ⟨_,λw hS=>?_,h⟩
      rw [he,Sem.run_bind]
      simp only [Instr.loadAt,hx,Instr.sureAddr,pure_bind,loadVar,Sem.run_bind,jJ hd,Result.andThen_ok,hagg]
      simp [hv w (hS hl)]
  ·exact h.elim
 ·obtain ⟨v,hr,h⟩:=uW h
  exact ⟨v,λw _=>hr w,h⟩
theorem rC {all:List Oper} {env:List Value} {o:Oper} {run skip:List Value→Prop} (h:xp all env o.guard run skip) :
  (Region.wanted o (yielded all.toArray (act env).tmps)=true∧run env)∨(Region.wanted o (yielded all.toArray (act env).tmps)=false∧skip env):=by
 unfold xp at h
 cases hg:o.guard with
 |none=>simp only [hg] at h;exact .inl ⟨rA hg,h⟩
 |some p=>
  obtain ⟨j,want⟩:=p
  simp only [hg] at h
  cases hd:yq all j with
  |none=>simp only [hd] at h
  |some d=>
   simp only [hd] at h
   have hy:=rB (env:=env) hd
   cases he:env[d]? with
   |none=>simp only [he] at h
   |some v=>
    have hself:env.set d v=env:=by
     apply List.ext_getElem?
     intro i
     rw [List.getElem?_set]
     split
     ·rename_i hi;subst hi
      have:d<env.length:=by
       rcases Nat.lt_or_ge d env.length with h | h
       ·exact h
       ·rw [List.getElem?_eq_none h] at he;cases he
      rw [if_pos this,he]
     ·rfl
    cases v with
    |bool b=>
     simp only [he] at h
     cases b with
     |true=>
      rw [cond_true,hself] at h
      cases want with
      |true=>exact .inl ⟨by simp [Region.wanted,hg,hy,he],h⟩
      |false=>exact .inr ⟨by simp [Region.wanted,hg,hy,he],h⟩
     |false=>
      rw [cond_false,hself] at h
      cases want with
      |true=>exact .inr ⟨by simp [Region.wanted,hg,hy,he],h⟩
      |false=>exact .inl ⟨by simp [Region.wanted,hg,hy,he],h⟩
    | _=>simp only [he] at h;exact .inr ⟨by simp [Region.wanted,hg,hy,he],h⟩
theorem Fz {ops:List Oper} {i j:Nat} {oi oj:Oper} (hi:ops[i]?=some oi) (hj:ops[j]?=some oj) (hl:kT oi.op=true) (hne:j≠i) (hno:∀ e ∈ oj.after,Region.binds .any e=true→e.on≠i):ndOf ops j=true:=by
 unfold ndOf
 rw [List.any_eq_true]
 have hlt:i<ops.length:=by
  rcases Nat.lt_or_ge i ops.length with h | h
  ·exact h
  ·rw [List.getElem?_eq_none h] at hi;cases hi
 refine ⟨i,List.mem_range.2 hlt,?_⟩
 have hw:Bw ops j i=false:=by
  unfold Bw
  simp only [hj]
  rw [Array.any_eq_false']
  intro e he hb
  simp only [Bool.and_eq_true,beq_iff_eq] at hb
  exact hno e he hb.1 hb.2
 simp [hi,hl,hw,Ne.symm hne]
def NdOk (ops:List Oper) (nd:Nat→Bool):Prop:=∀ (listed l2:Array Bool) (i j:Nat) (oi oj:Oper),ops[i]?=some oi→ops[j]?=some oj→kT oi.op=true→lC ops.toArray listed→lC ops.toArray l2→
 (∀ k,listed.getD k false=true→l2.getD k false=true)→i ∈ Region.ready .any ops.toArray listed→l2.getD i true=false→j ∈ Region.ready .any ops.toArray l2→j≠i→(∀ e ∈ oj.after,Region.binds .any e=true→e.on≠i)→nd j=true
theorem zq (ops:List Oper):NdOk ops (ndOf ops):=λ_ _ i j oi oj hi hj hl _ _ _ _ _ _ hne hno=>Fz hi hj hl hne hno
inductive Wt (ops:List Oper):Nat→Nat→Prop
 |one {j o e}:ops[j]?=some o→e ∈ o.after→Region.binds .any e=true→Wt ops j e.on
 |more {j o e i}:ops[j]?=some o→e ∈ o.after→Region.binds .any e=true→Wt ops e.on i→Wt ops j i
theorem Wt.listed {ops:List Oper} {l:Array Bool} (hc:lC ops.toArray l) {j i:Nat} (h:Wt ops j i):l.getD j false=true→l.getD i false=true:=by
 induction h with
 |one ho he hb=>exact λhl=>hc _ _ (by simpa using ho) hl _ he hb
 |more ho he hb _ ih=>exact λhl=>ih (hc _ _ (by simpa using ho) hl _ he hb)
theorem Wt.ready {ops:List Oper} {l:Array Bool} (hc:lC ops.toArray l) {j i:Nat} (h:Wt ops j i) (hr:j ∈ Region.ready .any ops.toArray l):l.getD i false=true:=by
 obtain ⟨_,o,ho,hall⟩:=mem_ready.1 hr
 cases h with
 |one ho' he hb=>
  simp only [List.getElem?_toArray] at ho
  rw [ho] at ho'
  cases ho'
  exact hall _ he hb
 |more ho' he hb h2=>
  simp only [List.getElem?_toArray] at ho
  rw [ho] at ho'
  cases ho'
  exact h2.listed hc (hall _ he hb)
theorem rD {ops:List Oper} {m:List Nat} {k:Nat} {o:Oper} (ho:ops[k]?=some o) (hm:∀ j i,(m.getD j 0).testBit i=true→Wt ops j i):∀ (es:List Edge) (x:Nat),(∀ e ∈ es,e ∈ o.after)→(∀ i,x.testBit i=true→Wt ops k i)→
  ∀ i,(es.foldl (λx e=>match Region.binds .any e with | true=>x ||| (1 <<< e.on) ||| m.getD e.on 0 | false=>x) x).testBit i=true→Wt ops k i
 | [],x,_,hx,i,h=>hx i h
 |e::es,x,he,hx,i,h=>by
  rw [List.foldl_cons] at h
  refine rD ho hm es _ (λe' h'=>he e' (List.mem_cons_of_mem _ h')) (λi hb=>?_) i h
  have hem:=he e (List.mem_cons_self ..)
  cases hbd:Region.binds .any e with
  |false=>rw [hbd] at hb;exact hx i hb
  |true=>
   rw [hbd] at hb
   simp only [Nat.testBit_or,Bool.or_eq_true] at hb
   rcases hb with (hb | hb) | hb
   ·exact hx i hb
   ·rw [Nat.one_shiftLeft,Nat.testBit_two_pow] at hb
    have:e.on=i:=by simpa using hb
    rw [←this]
    exact .one ho hem hbd
   ·exact .more ho hem hbd (hm _ _ hb)
theorem xr (ops:List Oper):∀ j i,((Ey ops).getD j 0).testBit i=true→Wt ops j i:=by
 have main:∀ n,n≤ops.length→((ops.take n).foldl tm []).length=n∧∀ j i,(((ops.take n).foldl tm []).getD j 0).testBit i=true→Wt ops j i:=by
  intro n
  induction n with
  |zero=>intro _;refine ⟨rfl,λj i h=>?_⟩;simp at h
  |succ n ih=>
   intro hn
   obtain ⟨h1,h2⟩:=ih (by omega)
   obtain ⟨o,ho⟩:∃ o,ops[n]?=some o:=⟨_,List.getElem?_eq_getElem (by omega)⟩
   rw [List.take_add_one,ho,Option.toList_some,List.foldl_append]
   generalize (ops.take n).foldl tm []=M at h1 h2 ⊢
   simp only [List.foldl_cons,List.foldl_nil]
   refine ⟨by unfold tm;rw [List.length_append,h1];rfl,λj i h=>?_⟩
   unfold tm at h
   rw [List.getD_eq_getElem?_getD,List.getElem?_append] at h
   split at h
   ·exact h2 j i (by rw [List.getD_eq_getElem?_getD];exact h)
   ·rename_i hlt
    by_cases hj:j=n
    ·subst hj
     rw [h1,Nat.sub_self] at h
     exact rD ho h2 _ 0 (λe he=>by simpa using he) (λi h=>by simp at h) i h
    ·rw [List.getElem?_eq_none (by simp;omega)] at h
     simp at h
 have:=main ops.length (Nat.le_refl _)
 rw [List.take_length] at this
 exact this.2
theorem CT {l:Array Bool} {k:Nat} (h:l.getD k true=false):¬ l.getD k false=true:=by
 intro h2
 rcases Nat.lt_or_ge k l.size with h' | h'
 ·simp [h'] at h h2;rw [h] at h2;cases h2
 ·simp [Array.getElem?_eq_none h'] at h2
theorem EB (ops:List Oper):NdOk ops (ndT ops):=by
 intro listed l2 i j oi oj hi hj hl hc hc2 hsub hri hun hrj hne hno
 unfold ndT
 rw [List.any_eq_true]
 have hlt:i<ops.length:=(List.getElem?_eq_some_iff.1 hi).1
 refine ⟨i,List.mem_range.2 hlt,?_⟩
 have h1:tn ops j i=false:=by
  cases hw:tn ops j i with
  |false=>rfl
  |true=>exact absurd ((xr ops j i hw).ready hc2 hrj) (CT hun)
 have h2:tn ops i j=false:=by
  cases hw:tn ops i j with
  |false=>rfl
  |true=>exact absurd (hsub _ ((xr ops i j hw).ready hc hri)) (CT (mem_ready.1 hrj).1)
 simp [hi,hl,h1,h2,Ne.symm hne]
theorem Bx (ops:List Oper):∀ b,NdOk ops (Dj ops b)
 |true=>EB ops
 |false=>zq ops
theorem eW {P:Program} {ops:List Oper} {nd:Nat→Bool} (hnd:NdOk ops nd) {S:World→Prop} {K:List Value→World→Prop} {Q:Exit→Act→World→Prop} (hs:Region.noSelect ops.toArray=true)
  (hk:∀ env w,K env w→Q .normal (act env) w) (hQ:∀ c a w,¬ Q (.panic c) a w) :
  ∀ (fuel:Nat) (listed:Array Bool) (sok:Bool) (env:List Value) (w:World),lC ops.toArray listed→(sok=true→S w)→pe P ops nd S K fuel listed sok env w→tj P ops.toArray Q S nd fuel listed (act env) w
 | 0,listed,sok,env,w,hcl,hS,h=>by
  unfold pe at h
  unfold tj
  cases hr:Region.ready .any ops.toArray listed with
  |nil=>simp [hr,bnot] at h;exact ⟨rfl,hk _ _ h⟩
  |cons x xs=>simp [hr,bnot] at h
 |fuel+1,listed,sok,env,w,hcl,hS,h=>by
  unfold pe at h
  split at h
  ·rename_i i hfind
   have hmem:=List.mem_of_find?_eq_some hfind
   have hp:=List.find?_some hfind
   cases ho:ops[i]? with
   |none=>simp only [ho] at h
   |some o=>
    simp only [ho] at h
    simp only [ho,Bool.and_eq_true,Bool.or_eq_true] at hp
    have hi:ops.toArray[i]?=some o:=by simpa using ho
    have hload:kT o.op=true→sok=true:=by
     intro hl
     rcases hp.1 with hp1 | hp1
     ·revert hp1 hl;cases o.op<;>simp [xm,kT]
     ·exact hp1.2
    have hfree:∀ (l2:Array Bool) j oj,lC ops.toArray l2→(∀ k,listed.getD k false=true→l2.getD k false=true)→l2.getD i true=false→j ∈ Region.ready .any ops.toArray l2→ops.toArray[j]?=some oj→j≠i→listed.getD j true=false→(∀ e ∈ oj.after,Region.binds .any e=true→e.on≠i)→o.apart ops.toArray oj=true∧(kT o.op=true→nd j=true):=
     λl2 j oj h3 h4 h5 h6 hj hne hun hno=>⟨Region.free_spec hi hp.2 j oj hj hne hun hno,λhl=>hnd listed l2 i j o oj ho (by simpa using hj) hl hcl h3 h4 hmem h5 h6 hne hno⟩
    rcases rC h with ⟨hw,h⟩ | ⟨hw,h⟩
    ·obtain ⟨v,hr,h⟩:=yt h
     refine qN (L:=kT o.op) (v:=v) hi (Region.noSelect_spec hs) (λc a w h=>(hQ _ _ _ h).elim) fuel listed (act env) w hcl hfree hmem ?_ (λhl=>hS (hload hl)) ?_
     ·exact .inl ⟨hw,λw hS=>by rw [o7];exact hr w hS⟩
     ·rw [ja];exact eW hnd hs hk hQ fuel _ sok _ w (hcl.set hmem) hS h
    ·refine qN (L:=kT o.op) (v:=undef) hi (Region.noSelect_spec hs) (λc a w h=>(hQ _ _ _ h).elim) fuel listed (act env) w hcl hfree hmem (.inr ⟨hw,rfl⟩) (λhl=>hS (hload hl)) ?_
     rw [ja];exact eW hnd hs hk hQ fuel _ sok _ w (hcl.set hmem) hS h
  ·cases hr:Region.ready .any ops.toArray listed with
   |nil=>
    simp only [hr] at h
    exact ⟨λ_=>hk _ _ h,by rw [hr];simp⟩
   |cons x xs=>
    simp only [hr] at h
    refine ⟨λh0=>(by rw [hr] at h0;cases h0),λi him=>?_⟩
    have hcl':=hcl.set him
    rw [hr] at him
    have hi:=xq h (List.mem_map.2 ⟨i,him,rfl⟩)
    cases ho:ops[i]? with
    |none=>simp only [ho] at hi
    |some o=>
     simp only [ho] at hi
     unfold wpOp
     simp only [List.getElem?_toArray,ho]
     rcases rC hi with ⟨hw,hi⟩ | ⟨hw,hi⟩
     ·rw [if_pos hw]
      refine .inl (Di (qk hi) λv w' h=>?_)
      have hno:yr nd ops listed i=false→¬ nd i=true:=by
       intro ha hn
       simp [yr,hn] at ha
      cases hsok:sok with
      |true=>
       cases hask:yr nd ops listed i with
       |true=>rw [hsok,hask] at h;exact ⟨λ_ _=>h.1,eW hnd hs hk hQ fuel _ _ _ w' hcl' (λ_=>h.1) h.2⟩
       |false=>rw [hsok,hask] at h;exact ⟨λhc=>absurd hc (hno hask),eW hnd hs hk hQ fuel _ _ _ w' hcl' (λhc=>by simp at hc) h⟩
      |false=>
       cases hask:yr nd ops listed i with
       |true=>rw [hsok,hask] at h;exact h.elim
       |false=>rw [hsok,hask] at h;exact ⟨λhc=>absurd hc (hno hask),eW hnd hs hk hQ fuel _ _ _ w' hcl' (λhc=>by simp at hc) h⟩
     ·rw [if_neg (by simp [hw]),ja]
      exact ⟨λ_ h=>h,eW hnd hs hk hQ fuel _ sok _ w hcl' hS hi⟩
def Dl (P:Program) (ops:List Oper) (env:List Value) (K:List Value→World→Prop) (w:World):Prop:=
 match Dk ops with
 |true=>∀ w1,w1=w.drew→∃ S:World→Prop,S w1∧pe P ops (Dj ops (zo ops)) S K ops.length (Array.replicate ops.length false) true env w1
 |false=>∀ w1,w1=w.drew→pe P ops (ndOf ops) (λ_=>True) K ops.length (Array.replicate ops.length false) true env w1
theorem rE (ops:Array Oper) (n:Nat):lC ops (Array.replicate n false):=by
 intro j oj _ hl
 exfalso
 rcases Nat.lt_or_ge j n with h | h
 ·simp [h] at hl
 ·simp [h] at hl
theorem wA {P:Program} (hm:P.follows .mixedOrders=true) {id:Nat} {ops:List Oper} {env:List Value} {K:List Value→World→Prop} {Q:Exit→Act→World→Prop} {w:World} (hs:Region.noSelect ops.toArray=true)
  (hk:∀ env w,K env w→Q .normal (act env) w) (hQ:∀ c a w,¬ Q (.panic c) a w) (h:Dl P ops env K w):(Code.region id ops.toArray true).wp P Q (act env) w:=by
 unfold Dl at h
 split at h
 ·obtain ⟨S,hS,h⟩:=h _ rfl
  refine wp_region_any hm (ql (S:=S) (nd:=Dj ops (zo ops)) _ _ _ _ ?_)
  have:=eW (Bx ops _) hs hk hQ _ _ _ _ _ (rE _ _) (λ_=>hS) h
  simpa using this
 ·refine wp_region_any hm (ql (S:=λ_=>True) (nd:=ndOf ops) _ _ _ _ ?_)
  have:=eW (zq ops) hs hk hQ _ _ _ _ _ (rE _ _) (λ_=>trivial) (h _ rfl)
  simpa using this
def wB (Q:Exit→List Value→World→Prop):Exit→Act→World→Prop
 | .panic _,_,_=>False
 | .outgrown,_,_=>False
 |e,a,w=>a.defers=[]∧Q e a.tmps.toList w
theorem dO {Q:Exit→List Value→World→Prop} {e:Exit} {env:List Value} {w:World} (h:Q e env w) (he:(∀ c,e≠.panic c)∧e≠.outgrown):wB Q e (act env) w:=by
 cases e with
 |panic c=>exact absurd rfl (he.1 c)
 |outgrown=>exact absurd rfl he.2
 | _=>exact ⟨rfl,by simpa [act] using h⟩
theorem ku {Q:Exit→List Value→World→Prop} {e:Exit} {a:Act} {w:World} (h:wB Q e a w):((∀ c,e≠.panic c)∧e≠.outgrown)∧∃ env,a=act env∧Q e env w:=by
 have mk:∀ (a:Act),a.defers=[]→a=act a.tmps.toList:=λa ha=>by
  cases a with
  |mk t d=>simp only at ha;subst ha;simp [act]
 cases e with
 |panic c=>exact h.elim
 |outgrown=>exact h.elim
 |normal=>exact ⟨⟨λ_=>by simp,by simp⟩,_,mk a h.1,h.2⟩
 |exit i=>exact ⟨⟨λ_=>by simp,by simp⟩,_,mk a h.1,h.2⟩
 |goto i=>exact ⟨⟨λ_=>by simp,by simp⟩,_,mk a h.1,h.2⟩
 |ret=>exact ⟨⟨λ_=>by simp,by simp⟩,_,mk a h.1,h.2⟩
def cQ (P:Program) (c:Code) (env:List Value) (Q:Exit→List Value→World→Prop) (w:World):Prop:=c.wp P (wB Q) (act env) w
def seqQ (next:List Value→World→Prop) (Q:Exit→List Value→World→Prop):Exit→List Value→World→Prop
 | .normal,env,w=>next env w
 |e,env,w=>Q e env w
def aK (id:Nat) (Q:Exit→List Value→World→Prop):Exit→List Value→World→Prop
 | .exit i,env,w=>match Nat.beq i id with
  |true=>Q .normal env w
  |false=>Q (.exit i) env w
 |e,env,w=>Q e env w
def W (P:Program):Code→List Value→(Exit→List Value→World→Prop)→World→Prop
 | .skip,env,Q,w=>Q .normal env w
 | .region _ ops draw,env,Q,w=>match draw with
  |false=>opsW P ops.toList ops.toList env (Q .normal) w
  |true=>match Region.noSelect ops with
   |true=>Dl P ops.toList env (Q .normal) w
   |false=>False
 | .seq a b,env,Q,w=>W P a env (seqQ (λenv w=>W P b env Q w) Q) w
 | .cond c x y,env,Q,w=>match ev env c with
  | .bool b=>bif b then W P x env Q w else W P y env Q w
  | _=>False
 | .block id c,env,Q,w=>W P c env (aK id Q) w
 | .exit id,env,Q,w=>Q (.exit id) env w
 | .ret,env,Q,w=>Q .ret env w
 |c,env,Q,w=>cQ P c env Q w
theorem mO {P:Program} (hm:P.follows .mixedOrders=true):∀ (c:Code) (env:List Value) (Q:Exit→List Value→World→Prop) (w:World),W P c env Q w→cQ P c env Q w
 | .skip,env,Q,w,h=>wp_skip (dO h ⟨λ_=>by simp,by simp⟩)
 | .region id ops draw,env,Q,w,h=>by
  unfold W at h
  cases draw with
  |false=>
   simp only at h
   exact wpIn_wide.1 (wpIn_region_list (n:=0) (mN (all:=ops.toList) ops.toList env w (Q .normal) (λenv w hk=>dO hk ⟨λ_=>by simp,by simp⟩) h))
  |true=>
   simp only at h
   split at h
   ·rename_i hs
    have:=wA (id:=id) hm (Q:=wB Q) (by simpa using hs) (λenv w hk=>dO hk ⟨λ_=>by simp,by simp⟩) (λc a w h=>h.elim) h
    unfold cQ
    simpa using this
   ·exact h.elim
 | .seq a b,env,Q,w,h=>by
  have h1:=mO hm a env _ w h
  refine wp_seq (wp_mono h1 λe a' w' hq0=>?_)
  obtain ⟨he,env',ha,hq⟩:=ku hq0
  subst ha
  clear hq0
  cases e with
  |normal=>exact mO hm b env' Q w' hq
  |panic c=>exact absurd rfl (he.1 c)
  |outgrown=>exact absurd rfl he.2
  |exit i=>exact dO hq he
  |goto i=>exact dO hq he
  |ret=>exact dO hq he
 | .cond c x y,env,Q,w,h=>by
  unfold W at h
  split at h
  ·rename_i b hb
   refine wp_cond (t:=b) (by rw [o7];exact hb) ?_
   cases b with
   |true=>exact mO hm x env Q w h
   |false=>exact mO hm y env Q w h
  ·exact h.elim
 | .block id c,env,Q,w,h=>by
  have h1:=mO hm c env _ w h
  refine wp_block (wp_mono h1 λe a' w' hq0=>?_)
  obtain ⟨he,env',ha,hq⟩:=ku hq0
  subst ha
  clear hq0
  cases e with
  |exit i=>
   simp only [aK] at hq
   simp only [Exit.inBlock]
   cases hb:Nat.beq i id with
   |true=>
    rw [hb] at hq
    rw [if_pos (Nat.eq_of_beq_eq_true hb)]
    exact dO hq ⟨λ_=>by simp,by simp⟩
   |false=>
    rw [hb] at hq
    rw [if_neg (Nat.ne_of_beq_eq_false hb)]
    exact dO hq he
  |panic c=>exact absurd rfl (he.1 c)
  |outgrown=>exact absurd rfl he.2
  |normal=>exact dO hq he
  |goto i=>exact dO hq he
  |ret=>exact dO hq he
 | .exit id,env,Q,w,h=>wp_exit (dO h ⟨λ_=>by simp,by simp⟩)
 | .ret,env,Q,w,h=>wp_ret (dO h ⟨λ_=>by simp,by simp⟩)
 | .loop _,_,_,_,h=>h
 | .rangeFunc ..,_,_,_,h=>h
 | .scope _,_,_,_,h=>h
 | .label _,_,_,_,h=>h
 | .goto _,_,_,_,h=>h
 | .refuse _,_,_,_,h=>h
theorem zr {P:Program} {Q:Exit→Act→World→Prop} {a:Act} {w:World} {c:Code} (I:Nat→Act→World→Prop) (n₀:Nat) (h₀:I n₀ a w)
  (round:∀ n a w,I n a w→c.wp P (Exit.then (λa' w'=>∃ m,m<n∧I m a' w') Q) a w):(Code.loop c).wp P Q a w:=by
 intro b k cs
 have key:∀ n a w,I n a w→
   ∃ e a' w',Q e a' w'∧Arrives P (lone (b.at a (.code c::.inLoop c::k)) cs w) b k cs e a' w':=by
  intro n
  induction n using Nat.strongRecOn with
  | _ n ih=>
   intro a w hI
   obtain ⟨e,a₁,w₁,hq,harr⟩:=round n a w hI b (.inLoop c::k) cs
   cases e with
   |normal=>
    obtain ⟨m,hlt,hI₁⟩:=hq
    obtain ⟨e₂,a₂,w₂,hq₂,harr₂⟩:=ih m hlt a₁ w₁ hI₁
    exact ⟨e₂,a₂,w₂,hq₂,.of_steps (Steps.trans harr (.one step_inLoop)) harr₂⟩
   |exit id=>exact ⟨_,a₁,w₁,hq,.pass (x:=.inLoop c) rfl (λ_ _=>.inl (by simp)) harr⟩
   |goto l=>exact ⟨_,a₁,w₁,hq,.pass (x:=.inLoop c) rfl (λ_ _=>.inl (by simp)) harr⟩
   |ret=>exact ⟨_,a₁,w₁,hq,.pass (x:=.inLoop c) rfl (λ_ _=>.inl (by simp)) harr⟩
   |panic ch=>exact ⟨_,a₁,w₁,hq,.pass (x:=.inLoop c) rfl (λ_ _=>.inl (by simp)) harr⟩
   |outgrown=>exact ⟨_,a₁,w₁,hq,.pass (x:=.inLoop c) rfl (λ_ _=>.inl (by simp)) harr⟩
 obtain ⟨e,a',w',hq,harr⟩:=key _ a w h₀
 exact ⟨e,a',w',hq,.of_steps (.one step_loop) harr⟩
theorem aT {P:Program} (hm:P.follows .mixedOrders=true) {c:Code} {env:List Value} {Q:Exit→List Value→World→Prop} {w:World}
  (I:Nat→List Value→World→Prop) (n₀:Nat) (h0:I n₀ env w)
  (hr:∀ n env w,I n env w→W P c env (seqQ (λenv' w'=>∃ m,m<n∧I m env' w') Q) w):cQ P (.loop c) env Q w:=by
 refine zr (λn a w=>∃ env,a=act env∧I n env w) n₀ ⟨env,rfl,h0⟩ ?_
 rintro n a w ⟨env,rfl,hI⟩
 refine wp_mono (mO hm c env _ w (hr n env w hI)) λe a' w' hq0=>?_
 obtain ⟨he,env',ha,hq⟩:=ku hq0
 subst ha
 clear hq0
 cases e with
 |normal=>obtain ⟨m,hm,hI'⟩:=hq;exact ⟨m,hm,env',rfl,hI'⟩
 |panic c=>exact absurd rfl (he.1 c)
 |outgrown=>exact absurd rfl he.2
 |exit i=>exact dO hq he
 |goto i=>exact dO hq he
 |ret=>exact dO hq he
def sub:Code→List Nat→Code
 |c,[]=>c
 | .seq a b,n::p=>match n with | 0=>sub a p | _=>sub b p
 | .cond _ a b,n::p=>match n with | 0=>sub a p | _=>sub b p
 | .block _ c,_::p=>sub c p
 | .loop c,_::p=>sub c p
 | .scope c,_::p=>sub c p
 | .rangeFunc _ _ a b,n::p=>match n with | 0=>sub a p | _=>sub b p
 |c,_=>c
def aD (fn:Func):Code:=match fn.body with | some c=>c | none=>.skip
def resW (P:Program):List ResultVar→List Value→(List Value→Prop)→World→Prop
 | [],_,K,_=>K []
 | .tmp t::rs,env,K,w=>resW P rs env (λvs=>K (env.getD t undef::vs)) w
 | .cell a t::rs,env,K,w=>yl P t (env.getD a undef) (λv w'=>w'=w∧resW P rs env (λvs=>K (v::vs)) w) w
def retV:List Value→Value
 | [v]=>v
 |vs=>.tuple vs.toArray
def retQ (P:Program) (fn:Func) (R:Value→World→Prop):Exit→List Value→World→Prop
 | .normal,env,w=>resW P fn.results.toList env (λvs=>R (retV vs) w) w
 | .ret,env,w=>resW P fn.results.toList env (λvs=>R (retV vs) w) w
 | _,_,_=>False
theorem nV {P:Program} {t:TypeId} {x:Value} {K:Value→World→Prop} {w:World} (h:yl P t x K w):∃ v,(do loadVar t (← asAddr x):Sem Value).run P w=.ok v w∧K v w:=by
 unfold yl at h
 split at h
 ·rename_i ad
  split at h
  ·exact h.elim
  ·rename_i inf hinf
   split at h
   ·rename_i hagg
    split at h
    ·rename_i hlen
     obtain ⟨vs,hl,hc,h⟩:=uS h
     obtain ⟨d,hd⟩:=jc hagg
     refine ⟨_,?_,h⟩
     have hn:vs.length=inf.size:=by rw [hl];exact Nat.eq_of_beq_eq_true hlen
     simp only [asAddr,pure_bind,loadVar,Sem.run_bind,jJ hd,Result.andThen_ok,hagg,if_true,run_sizeOf hinf]
     have:=run_loadCellsFrom (P:=P) (acc:=#[]) hc
     rw [hn] at this
     simp [loadCells,this]
    ·exact h.elim
   ·rename_i hagg
    split at h
    ·exact h.elim
    ·rename_i d hd
     obtain ⟨v,hv,h⟩:=th h
     refine ⟨_,?_,h⟩
     simp only [asAddr,pure_bind,loadVar,Sem.run_bind,jJ hd,Result.andThen_ok,hagg]
     simp [hv]
 ·exact h.elim
theorem tT {P:Program} {env:List Value} {w:World}:∀ (rs:List ResultVar) (K:List Value→Prop),resW P rs env K w→
  ∃ vs,(rs.mapM fun | .tmp t=>pure (env.toArray.getD t undef) | .cell a t=>do loadVar t (← asAddr (env.toArray.getD a undef)):Sem (List Value)).run P w=.ok vs w∧K vs
 | [],K,h=>⟨[],rfl,h⟩
 | .tmp t::rs,K,h=>by
  obtain ⟨vs,hr,h⟩:=tT rs _ h
  refine ⟨_,?_,h⟩
  rw [List.mapM_cons]
  simp only [pure_bind,Sem.run_bind,hr,Result.andThen_ok,Sem.run_pure]
  simp [List.getD_eq_getElem?_getD]
 | .cell a t::rs,K,h=>by
  obtain ⟨v,hv,hw,h⟩:=nV h
  obtain ⟨vs,hr,h⟩:=tT rs _ h
  refine ⟨_,?_,h⟩
  rw [List.mapM_cons]
  have e:env.toArray.getD a undef=env.getD a undef:=by simp [List.getD_eq_getElem?_getD]
  simp only [e] at hr ⊢
  rw [Sem.run_bind,hv]
  simp only [Result.andThen_ok,Sem.run_bind,hr,Sem.run_pure]
theorem rF {P:Program} {fn:Func} {env:List Value} {w:World} {K:Value→Prop} (h:resW P fn.results.toList env (λvs=>K (retV vs)) w):∃ v,(results fn env.toArray).run P w=.ok v w∧K v:=by
 obtain ⟨vs,hr,h⟩:=tT _ _ h
 refine ⟨_,?_,h⟩
 unfold results
 rw [Array.mapM_eq_mapM_toList]
 simp only [Sem.run_bind,Sem.run_map,Sem.run_pure]
 refine Eq.trans (congrArg (λr:Result (List Value)=>(r.andThen λa w'=>Result.ok a.toArray w').andThen λa w'=>Result.ok (if h:a.size=1 then a[0] else Value.tuple a) w') hr) ?_
 simp only [Result.andThen_ok]
 congr 1
 match vs with
 | []=>rfl
 | [v]=>rfl
 |v::u::r=>simp [retV]
def fnW (P:Program) (fn:Func) (args:List Value) (R:Value→World→Prop) (w:World):Prop:=
 match fn.body with
 |some c=>W P c (args++List.replicate (fn.ntmps - args.length) undef) (retQ P fn R) w
 |none=>False
theorem By {P:Program} (hm:P.follows .mixedOrders=true) {f:FuncId} {fn:Func} {args:List Value} {w:World} {R:Value→World→Prop} (hf:P.funcs[f]?=some fn)
  (h:fnW P fn args R w):Calls P f args.toArray w λe w'=>∃ v,e=.returned v∧R v w':=by
 unfold fnW at h
 split at h
 ·rename_i c hc
  refine calls_of_wp hf hc ?_
  have h1:=mO hm c _ _ w h
  have h2:cQ P c (args++List.replicate (fn.ntmps - args.length) undef) (retQ P fn R) w=c.wp P (wB (retQ P fn R)) { tmps:=args.toArray++Array.replicate (fn.ntmps - args.toArray.size) undef,defers:=[] } w:=by
   unfold cQ act
   congr 2
   simp
  rw [h2] at h1
  refine wp_mono h1 λe a' w' hq0=>?_
  obtain ⟨he,env',ha,hq⟩:=ku hq0
  subst ha
  clear hq0
  cases e with
  |normal=>obtain ⟨v,hv,hR⟩:=rF (P:=P) (fn:=fn) (env:=env') (w:=w') (K:=λv=>R v w') hq;exact ⟨rfl,v,hv,v,rfl,hR⟩
  |ret=>obtain ⟨v,hv,hR⟩:=rF (P:=P) (fn:=fn) (env:=env') (w:=w') (K:=λv=>R v w') hq;exact ⟨rfl,v,hv,v,rfl,hR⟩
  |panic c=>exact absurd rfl (he.1 c)
  |outgrown=>exact absurd rfl he.2
  |exit i=>exact hq.elim
  |goto i=>exact hq.elim
 ·exact h.elim
def Qr (P:Program) (fn:Func) (R:Value→World→Prop) (Q:Exit→List Value→World→Prop):Exit→List Value→World→Prop
 | .ret,env,w=>retQ P fn R .ret env w
 |e,env,w=>Q e env w
theorem Bz {P:Program} {fn:Func} {R:Value→World→Prop} {Q:Exit→List Value→World→Prop} (h:∀ env w,Q .ret env w=retQ P fn R .ret env w):Qr P fn R Q=Q:=by
 funext e env w
 cases e<;>first | rfl | exact (h env w).symm
theorem W_qr {P:Program} {fn:Func} {R:Value→World→Prop} {Q:Exit→List Value→World→Prop} {c:Code} {env:List Value} {w:World} (h:∀ env w,Q .ret env w=retQ P fn R .ret env w):W P c env (Qr P fn R Q) w=W P c env Q w:=by rw [Bz h]
theorem ik {N:List Value→World→Prop} {Q:Exit→List Value→World→Prop} {env:List Value} {w:World} (h:N env w):seqQ N Q .normal env w:=h
theorem xt {N:List Value→World→Prop} {Q:Exit→List Value→World→Prop} {k:Nat} {env:List Value} {w:World} (h:Q (.exit k) env w):seqQ N Q (.exit k) env w:=h
theorem BA {k:Nat} {Q:Exit→List Value→World→Prop} {env:List Value} {w:World} (h:Q .normal env w):aK k Q .normal env w:=h
theorem ri {k:Nat} {Q:Exit→List Value→World→Prop} {env:List Value} {w:World} (h:Q .normal env w):aK k Q (.exit k) env w:=by
 show match Nat.beq k k with
  |true=>Q .normal env w
  |false=>Q (.exit k) env w
 rw [Nat.beq_refl k]
 exact h
noncomputable def exI (n:Nat):(List Int→Prop)→Prop:=@Nat.rec (λ_=>(List Int→Prop)→Prop) (λK=>K []) (λ_ ih K=>∃ x:Int,ih λl=>K (x::l)) n
theorem CU:∀ (n:Nat) (l:List Int),l.length=n→∀ {K:List Int→Prop},K l→exI n K
 | 0,l,h,K,hk=>by
  have:l=[]:=List.eq_nil_of_length_eq_zero h
  subst this
  exact hk
 |n+1,[],h,_,_=>by cases h
 |n+1,x::l,h,K,hk=>⟨x,CU n l (by simpa using h) hk⟩
attribute [irreducible] fnW W sub aD
end Go.Eng
namespace Go.Eng
abbrev jp (a:Addr):Value:=.pointer (some a)
abbrev jf (a:Addr) (k:Nat):Value:=.pointer (some ⟨a.block,a.off+k,none⟩)
abbrev ji (x:Int):Value:=.int .i64 x
abbrev jn (x:Nat):Value:=.int .i64 x
abbrev ju (x:Int):Value:=.int .u64 x
abbrev jb (x:Bool):Value:=.bool x
abbrev js (a:Option Addr) (n c:Nat):Value:=.slice a n c
abbrev jz:Value:=.slice none 0 0
abbrev jg (j:List Value) (n:Nat):Value:=j.getD n undef
abbrev LV:=List Value
end Go.Eng
