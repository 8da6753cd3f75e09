/- A part of the proof. -/
import Derived.Test.YtafopfaomkklpaaGreatp09
set_option linter.unusedVariables false
namespace Go.Mx
structure Bx (β:Type) where
 run:β
noncomputable section
def Bx.go {β:Type} (b:Bx β):β:=@Bx.rec β (λ_=>β) (λr=>r) b
def Bx.bind {β γ:Type} (b:Bx β) (k:β→Bx γ):Bx γ:=@Bx.rec β (λ_=>Bx γ) k b
structure N4 (β:Type) where
 mk::
 x0:β
 x1:β
 x2:β
 x3:β
def Lv (β:Type):Nat→Type
 | 0=>β
 |n+1=>N4 (Lv β n)
section
variable {β:Type}
def four {γ:Type} (d:Nat) (a b c e:γ):γ:=@Bool.rec (λ_=>γ) (@Bool.rec (λ_=>γ) (@Bool.rec (λ_=>γ) e c (Nat.beq d 2)) b (Nat.beq d 1)) a (Nat.beq d 0)
def get1 {γ:Type} (h:β→(γ→Prop)→Prop) (d:Nat):Bx (N4 β→(γ→Prop)→Prop):=
 four d ⟨λt K=>@N4.rec β (λ_=>Prop) (λx _ _ _=>h x K) t⟩ ⟨λt K=>@N4.rec β (λ_=>Prop) (λ_ x _ _=>h x K) t⟩
  ⟨λt K=>@N4.rec β (λ_=>Prop) (λ_ _ x _=>h x K) t⟩ ⟨λt K=>@N4.rec β (λ_=>Prop) (λ_ _ _ x=>h x K) t⟩
def set1 {γ:Type} (h:β→γ→(β→Prop)→Prop) (d:Nat):Bx (N4 β→γ→(N4 β→Prop)→Prop):=
 four d ⟨λt v K=>@N4.rec β (λ_=>Prop) (λx a b c=>h x v λx=>K (N4.mk x a b c)) t⟩ ⟨λt v K=>@N4.rec β (λ_=>Prop) (λa x b c=>h x v λx=>K (N4.mk a x b c)) t⟩
  ⟨λt v K=>@N4.rec β (λ_=>Prop) (λa b x c=>h x v λx=>K (N4.mk a b x c)) t⟩ ⟨λt v K=>@N4.rec β (λ_=>Prop) (λa b c x=>h x v λx=>K (N4.mk a b c x)) t⟩
def getC:(n k:Nat)→Bx (Lv β n→(β→Prop)→Prop)
 | 0,_=>⟨λx K=>K x⟩
 |n+1,k=>(getC n (Nat.div k 4)).bind λh=>get1 h (Nat.mod k 4)
def setC:(n k:Nat)→Bx (Lv β n→β→(Lv β n→Prop)→Prop)
 | 0,_=>⟨λ_ v K=>K v⟩
 |n+1,k=>(setC n (Nat.div k 4)).bind λh=>set1 h (Nat.mod k 4)
def uni (x:β):(n:Nat)→Lv β n
 | 0=>x
 |n+1=>N4.mk (uni x n) (uni x n) (uni x n) (uni x n)
end
abbrev Ptr:=Option (Nat×Nat)
inductive C where
 |un
 |b (x:Bool)
 |i (k:Nat) (n:Int)
 |np
 |p (o off:Nat)
 |ns
 |es
 |s (o off len sz:Nat) (c:Option Nat)
 |f (fn:Fn) (first cap:List Ptr)
 |r (v:Value)
 |mp (o:Nat)
inductive V where
 |c (x:C)
 |a (dp:Nat) (d:Lv C dp) (off sz:Nat)
 |t (vs:List V)
inductive Ob where
 |dead
 |ob (wr:Bool) (n dp:Nat) (d:Lv C dp)
 |mp
 |it (o:Nat)
structure Hp where
 mk::
 next:Nat
 t:Lv Ob 7
abbrev KV:=V→Hp→Prop
abbrev Cal:=FuncId→List V→Hp→KV→Prop
def fN (n:Nat) (K:Nat→Prop):Prop:=@Nat.rec (λ_=>Prop) (K 0) (λm _=>K (Nat.succ m)) n
def fI (n:Int) (K:Int→Prop):Prop:=@Int.rec (λ_=>Prop) (λm=>fN m λm=>K (.ofNat m)) (λm=>fN m λm=>K (.negSucc m)) n
def fNB {γ:Type} (n:Nat) (K:Nat→Bx γ):Bx γ:=@Nat.rec (λ_=>Bx γ) (K 0) (λm _=>K (Nat.succ m)) n
def iff (b:Bool) (T F:Prop):Prop:=@Bool.rec (λ_=>Prop) F T b
def f1 {α:Type} (_:α):Prop:=False
def f2 {α β:Type} (_:α) (_:β):Prop:=False
def f3 {α β γ:Type} (_:α) (_:β) (_:γ):Prop:=False
def f5 (_ _ _ _:Nat) (_:Option Nat):Prop:=False
def fA (dp:Nat) (_:Lv C dp) (_ _:Nat):Prop:=False
def fT (_:List V) (_:PUnit):Prop:=False
def fL (_:V) (_:List V) (_:Prop) (_:PUnit):PUnit:=⟨⟩
def onC (x:V) (K:C→Prop):Prop:=@V.rec (λ_=>Prop) (λ_=>PUnit) K fA fT ⟨⟩ fL x
def onA (x:V) (K:(dp:Nat)→Lv C dp→Nat→Nat→Prop):Prop:=@V.rec (λ_=>Prop) (λ_=>PUnit) f1 K fT ⟨⟩ fL x
def onT (x:V) (K:List V→Prop):Prop:=@V.rec (λ_=>Prop) (λ_=>PUnit) f1 fA (λl _=>K l) ⟨⟩ fL x
def onI (x:V) (K:Nat→Int→Prop):Prop:=@V.rec (λ_=>Prop) (λ_=>PUnit) (λx=>@C.rec (λ_=>Prop) False f1 K False f2 False False f5 f3 f1 f1 x) fA fT ⟨⟩ fL x
def onB (x:V) (T F:Prop):Prop:=@V.rec (λ_=>Prop) (λ_=>PUnit) (λx=>@C.rec (λ_=>Prop) False (λb=>@Bool.rec (λ_=>Prop) F T b) f2 False f2 False False f5 f3 f1 f1 x) fA fT ⟨⟩ fL x
def pO (x:V) (K:Nat→Nat→Prop):Prop:=@V.rec (λ_=>Prop) (λ_=>PUnit) (λx=>@C.rec (λ_=>Prop) False f1 f2 False K False False f5 f3 f1 f1 x) fA fT ⟨⟩ fL x
def onS (x:V) (N E:Prop) (K:Nat→Nat→Nat→Nat→Option Nat→Prop):Prop:=@V.rec (λ_=>Prop) (λ_=>PUnit) (λx=>@C.rec (λ_=>Prop) False f1 f2 False f2 N E K f3 f1 f1 x) fA fT ⟨⟩ fL x
def onN (x:V) (K:Nat→Prop):Prop:=onI x λ_ n=>@Int.rec (λ_=>Prop) K f1 n
def kc (k:IntKind):Nat:=@IntKind.rec (λ_=>Nat) 0 1 2 3 4 5 6 7 k
def kd (k:Nat):IntKind:=match k with
 | 0=>.i8 | 1=>.i16 | 2=>.i32 | 3=>.i64 | 4=>.u8 | 5=>.u16 | 6=>.u32 | _=>.u64
def cv1:Value→C
 | .bool b=>.b b
 | .int k n=>.i (kc k) n
 | .pointer none=>.np
 | .slice none 0 0=>.ns
 |v=>.r v
def stC (c:C):Bool:=@C.rec (λ_=>Bool) false (λ_=>true) (λ_ _=>true) true (λ_ _=>true) true true (λ_ _ _ _ _=>true) (λ_ _ _=>true) (λv=>Eng.single v) (λ_=>true) c
def okV:Value→Bool
 | .agg cs=>cs.toList.all (λv=>stC (cv1 v)) && Nat.ble cs.size 16384
 | _=>true
def pq:(dp:Nat)→(Nat→C)→Nat→Nat→Lv C dp
 | 0,g,i,_=>g i
 |dp+1,g,i,s=>N4.mk (pq dp g i (4 * s)) (pq dp g (i+s) (4 * s)) (pq dp g (i+2 * s) (4 * s)) (pq dp g (i+3 * s) (4 * s))
def nthD (l:List C) (i:Nat):C:=match l[i]? with
 |some c=>c
 |none=>.un
def tr (dp:Nat) (l:List C):Lv C dp:=pq dp (nthD l) 0 1
def dpN (n:Nat):Nat:=@Bool.rec (λ_=>Nat) (@Bool.rec (λ_=>Nat) (@Bool.rec (λ_=>Nat) (@Bool.rec (λ_=>Nat) (@Bool.rec (λ_=>Nat) (@Bool.rec (λ_=>Nat) (@Bool.rec (λ_=>Nat) 7 6 (Nat.ble n 4096)) 5 (Nat.ble n 1024)) 4 (Nat.ble n 256)) 3 (Nat.ble n 64)) 2 (Nat.ble n 16)) 1 (Nat.ble n 4)) 0 (Nat.ble n 1)
def cv:Value→Bx V
 | .agg cs=>fNB (dpN cs.size) λdp=>⟨.a dp (tr dp (cs.toList.map cv1)) 0 cs.size⟩
 |v=>⟨.c (cv1 v)⟩
abbrev Env (e:Nat):=Lv V (dpN e)
def getE (e t:Nat):Bx (Env e→(V→Prop)→Prop):=match Nat.ble (Nat.succ t) e with
 |true=>getC (dpN e) t
 |false=>⟨λ_ _=>False⟩
def setE (e t:Nat):Bx (Env e→V→(Env e→Prop)→Prop):=match Nat.ble (Nat.succ t) e with
 |true=>setC (dpN e) t
 |false=>⟨λ_ _ _=>False⟩
def evC (e:Nat):Operand→Bx (Env e→(V→Prop)→Prop)
 | .tmp t=>getE e t
 | .const v=>match okV v with
  |true=>(cv v).bind λv=>⟨λ_ K=>K v⟩
  |false=>⟨λ_ _=>False⟩
 | .func f=>⟨λ_ K=>K (.c (.f (.func f) [] []))⟩
 | .global _=>⟨λ_ _=>False⟩
def evsC (e:Nat) (os:List Operand):Bx (Env e→(List V→Prop)→Prop):=
 @List.rec Operand (λ_=>Bx (Env e→(List V→Prop)→Prop)) ⟨λ_ K=>K []⟩ (λo _ ih=>(evC e o).bind λg=>ih.bind λh=>⟨λenv K=>g env λv=>h env λvs=>K (v::vs)⟩) os
def szT (P:Program) (t:TypeId):Nat:=match P.info? t with | some i=>i.size | none=>0
def Cr (P:Program) (t:TypeId):Option Value:=match P.info? t with | some i=>i.zero | none=>none
def m4 (P:Program) (t:TypeId):List C:=match Cr P t with | some z=>z.cells.toList.map cv1 | none=>[]
def okT (P:Program) (t:TypeId):Bool:=match Cr P t with | some z=>Nat.beq z.cells.size (szT P t) && (Nat.ble 1 (szT P t) && (Nat.ble (szT P t) 16384 && (m4 P t).all stC)) | none=>false
def aggT (P:Program) (t:TypeId):Bool:=Eng.isAgg? P t
def hasU (P:Program) (t:TypeId):Bool:=(P.underlying t).isSome
def zJ (dp:Nat) (vs:List C):Lv C dp→Nat→(Lv C dp→Prop)→Prop:=
 @List.rec C (λ_=>Lv C dp→Nat→(Lv C dp→Prop)→Prop) (λd _ K=>K d) (λv _ ih d i K=>(setC dp i).go d v λd=>fN (Nat.succ i) λj=>ih d j K) vs
def qm (dp:Nat) (d:Lv C dp) (m:Nat):Nat→(List C→Prop)→Prop:=
 @Nat.rec (λ_=>Nat→(List C→Prop)→Prop) (λ_ K=>K []) (λ_ ih i K=>(getC dp i).go d λv=>fN (Nat.succ i) λj=>ih j λvs=>K (v::vs)) m
def vI (dp':Nat) (d':Lv C dp') (dp:Nat) (m:Nat):Nat→Nat→Lv C dp→(Lv C dp→Prop)→Prop:=
 @Nat.rec (λ_=>Nat→Nat→Lv C dp→(Lv C dp→Prop)→Prop) (λ_ _ d K=>K d)
  (λ_ ih i j d K=>(getC dp' i).go d' λv=>(setC dp j).go d v λd=>fN (Nat.succ i) λi=>fN (Nat.succ j) λj=>ih i j d K) m
def obK (H:Hp) (o:Nat) (K:(wr:Bool)→(n dp:Nat)→Lv C dp→Prop):Prop:=
 @Hp.rec (λ_=>Prop) (λ_ t=>(getC 7 o).go t λb=>@Ob.rec (λ_=>Prop) False K False f1 b) H
def newK (H:Hp) (b:Ob) (K:Nat→Hp→Prop):Prop:=
 @Hp.rec (λ_=>Prop) (λx t=>iff (Nat.ble x 16383) ((setC 7 x).go t b λt=>fN (Nat.succ x) λy=>K x ⟨y,t⟩) False) H
def onM (x:V) (K:Nat→Prop):Prop:=@V.rec (λ_=>Prop) (λ_=>PUnit) (λx=>@C.rec (λ_=>Prop) False f1 f2 False f2 False False f5 f3 f1 K x) fA fT ⟨⟩ fL x
def ET (H:Hp) (o:Nat) (K:Prop):Prop:=@Hp.rec (λ_=>Prop) (λ_ t=>(getC 7 o).go t λb=>@Ob.rec (λ_=>Prop) False (λ_ _ _ _=>False) K f1 b) H
def itAt (H:Hp) (o:Nat) (K:Prop):Prop:=@Hp.rec (λ_=>Prop) (λ_ t=>(getC 7 o).go t λb=>@Ob.rec (λ_=>Prop) False (λ_ _ _ _=>False) False (λ_=>K) b) H
def Dk (H:Hp) (K:V→Hp→Prop):Prop:=newK H .mp λo H=>K (.c (.mp o)) H
def Dm (H:Hp) (x:V) (K:V→Hp→Prop):Prop:=onM x λo=>ET H o (newK H (.it o) λi H=>K (.c (.p i 0)) H)
def EU (H:Hp) (x:V) (K:V→Hp→Prop):Prop:=pO x λo off=>iff (Nat.beq off 0) (itAt H o (K (.t [.c (.b false)]) H)) False
def x8 (H:Hp) (o:Nat) (b:Ob) (K:Hp→Prop):Prop:=
 @Hp.rec (λ_=>Prop) (λx t=>(setC 7 o).go t b λt=>K ⟨x,t⟩) H
def wrK (H:Hp) (o:Nat) (K:(n dp:Nat)→Lv C dp→Prop):Prop:=obK H o λwr n dp d=>iff wr (K n dp d) False
def EV (H:Hp) (o off:Nat) (v:C) (K:Hp→Prop):Prop:=
 wrK H o λn dp d=>iff (stC v) (iff (Nat.ble (Nat.succ off) n) ((setC dp off).go d v λd=>x8 H o (.ob true n dp d) K) False) False
def uK (H:Hp) (o off:Nat) (vs:List C) (K:Hp→Prop):Prop:=
 wrK H o λn dp d=>iff (Nat.ble (Nat.add off vs.length) n) (zJ dp vs d off λd=>x8 H o (.ob true n dp d) K) False
def EW (H:Hp) (o off:Nat) (dp':Nat) (d':Lv C dp') (off' sz:Nat) (K:Hp→Prop):Prop:=
 wrK H o λn dp d=>iff (Nat.ble (Nat.add off sz) n)
  (iff (Nat.beq n sz) (iff (Nat.beq off' 0) (x8 H o (.ob true n dp' d') K) (vI dp' d' dp sz off' off d λd=>x8 H o (.ob true n dp d) K))
   (vI dp' d' dp sz off' off d λd=>x8 H o (.ob true n dp d) K)) False
def Fv (sz:Nat) (H:Hp) (x:V) (K:V→Prop):Prop:=
 pO x λo off=>obK H o λ_ n dp d=>iff (Nat.ble (Nat.add off sz) n) (K (.a dp d off sz)) False
def Fw (H:Hp) (x:V) (K:V→Prop):Prop:=
 pO x λo off=>obK H o λ_ n dp d=>iff (Nat.ble (Nat.succ off) n) ((getC dp off).go d λc=>K (.c c)) False
def hiN (k:Nat):Nat:=@Bool.rec (λ_=>Nat) (@Bool.rec (λ_=>Nat) (@Bool.rec (λ_=>Nat) 127 255 (Nat.beq k 4)) 18446744073709551615 (Nat.beq k 7)) 9223372036854775807 (Nat.beq k 3)
def fin (k:Nat) (n:Int) (K:V→Prop):Prop:=fI n λn=>K (.c (.i k n))
def wrI (k:Nat) (n:Int) (K:V→Prop):Prop:=fin k ((kd k).wrap n) K
def wrN (k:Nat) (n:Nat) (K:V→Prop):Prop:=iff (Nat.ble n (hiN k)) (fN n λn=>K (.c (.i k (.ofNat n)))) (wrI k (.ofNat n) K)
def ii (x y:V) (K:Nat→Int→Int→Prop):Prop:=
 @V.rec (λ_=>Prop) (λ_=>PUnit) (λx=>@C.rec (λ_=>Prop) False f1 (λk a=>
  @V.rec (λ_=>Prop) (λ_=>PUnit) (λy=>@C.rec (λ_=>Prop) False f1 (λj b=>iff (Nat.beq k j) (K k a b) False) False f2 False False f5 f3 f1 f1 y) fA fT ⟨⟩ fL y) False f2 False False f5 f3 f1 f1 x) fA fT ⟨⟩ fL x
def nn (a b:Int) (K:Nat→Nat→Prop) (F:Prop):Prop:=@Int.rec (λ_=>Prop) (λx=>@Int.rec (λ_=>Prop) (K x) (λ_=>F) b) (λ_=>F) a
def addK (k:Nat) (a b:Int) (K:V→Prop):Prop:=nn a b (λx y=>wrN k (Nat.add x y) K) (wrI k (a+b) K)
def mulK (k:Nat) (a b:Int) (K:V→Prop):Prop:=nn a b (λx y=>wrN k (Nat.mul x y) K) (wrI k (a * b) K)
def subK (k:Nat) (a b:Int) (K:V→Prop):Prop:=nn a b (λx y=>iff (Nat.ble y x) (wrN k (Nat.sub x y) K) (wrI k (a - b) K)) (wrI k (a - b) K)
def bitK (op:Nat→Nat→Nat) (k:Nat) (a b:Int) (K:V→Prop):Prop:=nn a b (λx y=>wrN k (op x y) K) (wrI k (op (BitVec.ofInt (kd k).bits a).toNat (BitVec.ofInt (kd k).bits b).toNat) K)
def minN (a b:Nat):Nat:=@Bool.rec (λ_=>Nat) b a (Nat.ble a b)
def Cs (k:Nat):Nat:=@Bool.rec (λ_=>Nat) (@Bool.rec (λ_=>Nat) (kd k).bits 64 (Nat.beq k 7)) 64 (Nat.beq k 3)
def shlK (k:Nat) (a b:Int) (K:V→Prop):Prop:=nn a b (λx y=>wrN k (Nat.mul x (Nat.pow 2 (minN y (Cs k)))) K) False
def shrK (k:Nat) (a b:Int) (K:V→Prop):Prop:=nn a b (λx y=>fN (Nat.div x (Nat.pow 2 (minN y (Cs k)))) λn=>K (.c (.i k (.ofNat n)))) False
def iB (a b:Int) (f:Nat→Nat→Bool) (pn np:Bool) (g:Nat→Nat→Bool):Bool:=@Int.rec (λ_=>Bool) (λx=>@Int.rec (λ_=>Bool) (f x) (λ_=>pn) b) (λx=>@Int.rec (λ_=>Bool) (λ_=>np) (g x) b) a
def eqI (a b:Int):Bool:=iB a b Nat.beq false false Nat.beq
def leI (a b:Int):Bool:=iB a b Nat.ble false true (λx y=>Nat.ble y x)
def retB (b:Bool) (K:V→Prop):Prop:=@Bool.rec (λ_=>Prop) (K (.c (.b false))) (K (.c (.b true))) b
def retN (b:Bool) (K:V→Prop):Prop:=@Bool.rec (λ_=>Prop) (K (.c (.b true))) (K (.c (.b false))) b
def divK (k:Nat) (a b:Int) (K:V→Prop):Prop:=nn a b (λx y=>iff (Nat.beq y 0) False (wrN k (Nat.div x y) K)) (iff (eqI b 0) False (wrI k (a.tdiv b) K))
def remK (k:Nat) (a b:Int) (K:V→Prop):Prop:=nn a b (λx y=>iff (Nat.beq y 0) False (fN (Nat.mod x y) λn=>K (.c (.i k (.ofNat n))))) (iff (eqI b 0) False (fin k (a.tmod b) K))
def iiS (x y:V) (K:Nat→Int→Int→Prop):Prop:=onI x λk a=>onI y λ_ b=>K k a b
def eqBo (x y:C) (K:Bool→Prop):Prop:=
 match x,y with
 | .b a,.b b=>K (@Bool.rec (λ_=>Bool) (!b) b a)
 | _,_=>False
def eqPt (x y:C) (K:Bool→Prop):Prop:=
 match x,y with
 | .np,.np=>K true
 | .np,.p _ _=>K false
 | .p _ _,.np=>K false
 | _,_=>False
def eqSl (x y:C) (K:Bool→Prop):Prop:=
 match x,y with
 | .ns,.ns=>K true
 | .s ..,.ns=>K false
 | .es,.ns=>K false
 | _,_=>False
def eqT (P:Program) (t:TypeId):Nat:=match P.underlying t with
 |some (.int _)=>1
 |some .bool=>2
 |some (.pointer _)=>3
 |some (.slice _)=>4
 |some (.struct _)=>5
 |some (.array _ _)=>5
 | _=>0
def eqC1 (k:Bool) (x y:C) (K:Bool→Prop):Prop:=
 match k,x,y with
 |false,.i a n,.i b m=>iff (Nat.beq a b) (K (eqI n m)) False
 |true,.b a,.b b=>K (@Bool.rec (λ_=>Bool) (!b) b a)
 | _,_,_=>False
def eqLs:List Bool→List C→List C→(Bool→Prop)→Prop
 | [],[],[],K=>K true
 |k::ks,x::xs,y::ys,K=>eqC1 k x y λr=>eqLs ks xs ys λs=>K (@Bool.rec (λ_=>Bool) false s r)
 | _,_,_,_=>False
def eqA (P:Program) (t:TypeId):Bx (V→V→(Bool→Prop)→Prop):=
 match tO P 8 t,P.eqGuardType P.depth t with
 |some ks,false=>⟨λx y K=>onA x λdp d o n=>onA y λdp' d' o' n'=>qm dp d n o λl=>qm dp' d' n' o' λl'=>eqLs ks l l' K⟩
 | _,_=>⟨λ_ _ _=>False⟩
def eqB (P:Program) (t:TypeId):Bx (V→V→(Bool→Prop)→Prop):=
 match eqT P t with
 | 1=>⟨λx y K=>ii x y λ_ a b=>K (eqI a b)⟩
 | 2=>⟨λx y K=>onC x λx=>onC y λy=>eqBo x y K⟩
 | 3=>⟨λx y K=>onC x λx=>onC y λy=>eqPt x y K⟩
 | 4=>⟨λx y K=>onC x λx=>onC y λy=>eqSl x y K⟩
 | 5=>eqA P t
 | _=>⟨λ_ _ _=>False⟩
def binC (P:Program) (op:BinOp) (t:TypeId):Bx (V→V→(V→Prop)→Prop):=
 match op with
 | .add=>⟨λx y K=>ii x y λk a b=>addK k a b K⟩
 | .sub=>⟨λx y K=>ii x y λk a b=>subK k a b K⟩
 | .mul=>⟨λx y K=>ii x y λk a b=>mulK k a b K⟩
 | .quo=>⟨λx y K=>ii x y λk a b=>divK k a b K⟩
 | .rem=>⟨λx y K=>ii x y λk a b=>remK k a b K⟩
 | .and=>⟨λx y K=>ii x y λk a b=>bitK Nat.land k a b K⟩
 | .or=>⟨λx y K=>ii x y λk a b=>bitK Nat.lor k a b K⟩
 | .xor=>⟨λx y K=>ii x y λk a b=>bitK Nat.xor k a b K⟩
 | .andNot=>⟨λx y K=>ii x y λk a b=>wrI k (BitVec.ofInt (kd k).bits a &&& ~~~ BitVec.ofInt (kd k).bits b).toNat K⟩
 | .shl=>⟨λx y K=>iiS x y λk a b=>shlK k a b K⟩
 | .shr=>⟨λx y K=>iiS x y λk a b=>shrK k a b K⟩
 | .eql=>(eqB P t).bind λg=>⟨λx y K=>g x y λr=>retB r K⟩
 | .neq=>(eqB P t).bind λg=>⟨λx y K=>g x y λr=>retN r K⟩
 | .lss=>⟨λx y K=>ii x y λ_ a b=>retN (leI b a) K⟩
 | .leq=>⟨λx y K=>ii x y λ_ a b=>retB (leI a b) K⟩
 | .gtr=>⟨λx y K=>ii x y λ_ a b=>retN (leI a b) K⟩
 | .geq=>⟨λx y K=>ii x y λ_ a b=>retB (leI b a) K⟩
def unC (op:UnOp):Bx (V→(V→Prop)→Prop):=
 match op with
 | .not=>⟨λx K=>onB x (K (.c (.b false))) (K (.c (.b true)))⟩
 | .neg=>⟨λx K=>onI x λk n=>wrI k (0 - n) K⟩
 | .xor=>⟨λx K=>onI x λk n=>iff (Nat.beq k 7) (bitK Nat.xor 7 (.ofNat 18446744073709551615) n K) False⟩
 | _=>⟨λ_ _=>False⟩
def D5 (P:Program) (src dst:TypeId):Bx (V→(V→Prop)→Prop):=
 match hasU P src with
 |true=>match P.underlying dst with
  |some (.int j)=>fNB (kc j) λj=>⟨λx K=>onI x λ_ n=>@Int.rec (λ_=>Prop) (λn=>wrN j n K) (λm=>wrI j (.negSucc m) K) n⟩
  | _=>⟨λ_ _=>False⟩
 |false=>⟨λ_ _=>False⟩
def bndK (v:Option V) (d:Nat) (K:Nat→Prop):Prop:=@Option.rec V (λ_=>Prop) (K d) (λv=>onN v K) v
def optC (e:Nat):Option Operand→Bx (Env e→(Option V→Prop)→Prop)
 |none=>⟨λ_ K=>K none⟩
 |some o=>(evC e o).bind λg=>⟨λenv K=>g env λv=>K (some v)⟩
def slM (o off sz l h m:Nat) (K:V→Prop):Prop:=
 iff (Nat.ble l h) (iff (Nat.ble h m) (fN (Nat.sub h l) λlen=>fN (Nat.sub m l) λc=>iff (Nat.beq c 0) (K (.c (.s o off len sz (some c)))) (fN (Nat.add off (Nat.mul l sz)) λq=>K (.c (.s o q len sz (some c))))) False) False
def slN (o off sz l h:Nat) (K:V→Prop):Prop:=
 iff (Nat.beq l 0) (K (.c (.s o off h sz none)))
  (iff (Nat.ble l h) (iff (Nat.beq l h) (K (.c .es)) (fN (Nat.add off (Nat.mul l sz)) λq=>fN (Nat.sub h l) λlen=>K (.c (.s o q len sz none)))) False)
def endK (q:Bool) (H:Hp) (o off len sz h:Nat) (K:Prop):Prop:=
 iff (Nat.ble h len) K (iff q (obK H o λ_ n _ _=>iff (Nat.ble (Nat.add off (Nat.mul h sz)) n) K False) False)
def qc (q:Bool) (c:Option Nat):Bool:=@Option.rec Nat (λ_=>Bool) q (λ_=>false) c
def slS (q:Bool) (s:Nat) (x:V) (lo hi mx:Option V) (H:Hp) (K:V→Prop):Prop:=
 onS x (bndK lo 0 λl=>bndK hi 0 λh=>bndK mx 0 λm=>iff (Nat.beq (Nat.add l (Nat.add h m)) 0) (K x) False) False λo off len sz c=>iff (Nat.beq sz s) (bndK lo 0 λl=>bndK hi len λh=>
   @Option.rec V (λ_=>Prop)
    (@Option.rec Nat (λ_=>Prop) (endK q H o off len sz h (slN o off sz l h K)) (λc=>slM o off sz l h c K) c)
    (λm=>onN m λm=>endK (qc q c) H o off len sz m (slM o off sz l h m K)) mx) False
def slA (n sz:Nat) (x:V) (lo hi:Option V) (K:V→Prop):Prop:=
 pO x λo off=>bndK lo 0 λl=>bndK hi n λh=>slM o off sz l h n K
def ixS (s:Nat) (x i:V) (K:V→Prop):Prop:=
 onS x False False λo off len sz _=>iff (Nat.beq sz s) (onN i λn=>iff (Nat.ble (Nat.succ n) len) (fN (Nat.add off (Nat.mul n sz)) λq=>K (.c (.p o q))) False) False
def ixA (len sz:Nat) (x i:V) (K:V→Prop):Prop:=
 pO x λo off=>onN i λn=>iff (Nat.ble (Nat.succ n) len) (fN (Nat.add off (Nat.mul n sz)) λq=>K (.c (.p o q))) False
def zK (s:Nat) (H:Hp) (x:V) (K:Nat→List C→Prop):Prop:=
 onS x (K 0 []) (K 0 []) λo off len sz _=>iff (Nat.beq sz s) (@Nat.rec (λ_=>Prop) (K 0 []) (λ_ _=>obK H o λ_ n dp d=>fN (Nat.mul len sz) λq=>iff (Nat.ble (Nat.add off q) n) (qm dp d q off λvs=>K len vs) False) len) False
def newS (H:Hp) (q sz:Nat) (b:Ob) (K:KV):Prop:=newK H b λo H=>K (.c (.s o 0 q sz none)) H
def obL (n:Nat) (vs:List C) (K:Ob→Prop):Prop:=iff (Nat.ble n 16384) (fN (dpN n) λdp=>zJ dp vs (uni .un dp) 0 λd=>K (.ob true n dp d)) False
def EX (n dp:Nat) (d:Lv C dp) (vs:List C) (m:Nat) (K:Ob→Prop):Prop:=
 iff (Nat.ble m 16384) (fN (dpN m) λe=>iff (Nat.ble e dp) (zJ dp vs d n λd=>K (.ob true m dp d)) (vI dp d e n 0 0 (uni .un e) λd=>zJ e vs d n λd=>K (.ob true m e d))) False
def wM (by_ q:Nat) (K:Prop):Prop:=iff (Nat.ble q 140737488355328) (iff (Nat.ble (Nat.mul q by_) 140737488355328) K False) False
def appG (by_ sz:Nat) (H:Hp) (o off len:Nat) (vs:List C) (m:Nat) (K:KV):Prop:=
 wrK H o λn dp d=>fN (Nat.add len m) λq=>fN (Nat.add off (Nat.mul q sz)) λe=>iff (Nat.ble e n)
   (uK H o (Nat.add off (Nat.mul len sz)) vs λH=>K (.c (.s o off q sz none)) H)
   (iff (Nat.beq (Nat.add off (Nat.mul len sz)) n)
    (iff (Nat.beq off 0) (wM by_ q (x8 H o .dead λH=>EX n dp d vs e λb=>newS H q sz b K)) False) False)
def appC (by_ sz:Nat) (H:Hp) (o off len cp:Nat) (vs:List C) (m:Nat) (K:KV):Prop:=
 fN (Nat.add len m) λq=>iff (Nat.ble q cp) False
  (wM by_ q (fN (Nat.mul len sz) λlz=>@Nat.rec (λ_=>Prop) (fN (Nat.mul q sz) λe=>obL e vs λb=>newS H q sz b K)
   (λ_ _=>obK H o λ_ n dp d=>iff (Nat.ble (Nat.add off lz) n) (qm dp d lz off λold=>fN (Nat.mul q sz) λe=>obL e (old++vs) λb=>newS H q sz b K) False) lz))
def AV (by_ sz:Nat) (H:Hp) (x:V) (m:Nat) (vs:List C) (K:KV):Prop:=
 @Nat.rec (λ_=>Prop) (onS x (K x H) (K x H) λ_ _ _ _ _=>K x H) (λ_ _=>onS x (wM by_ m (fN (Nat.mul m sz) λe=>obL e vs λb=>newS H m sz b K)) False
  λo off len s c=>iff (Nat.beq s sz) (@Option.rec Nat (λ_=>Prop) (appG by_ sz H o off len vs m K) (λcp=>appC by_ sz H o off len cp vs m K) c) False) m
def lenS (x:V) (K:V→Prop):Prop:=onS x (K (.c (.i 3 (.ofNat 0)))) (K (.c (.i 3 (.ofNat 0)))) λ_ _ n _ _=>K (.c (.i 3 (.ofNat n)))
def capS (x:V) (K:V→Prop):Prop:=onS x (K (.c (.i 3 (.ofNat 0)))) False λ_ _ _ _ c=>match c with
 |some k=>K (.c (.i 3 (.ofNat k)))
 |none=>False
def EY (s:Nat) (x y:V) (H:Hp) (K:KV):Prop:=
 onS x (zK s H y λ_ _=>K (.c (.i 3 (.ofNat 0))) H) (zK s H y λ_ _=>K (.c (.i 3 (.ofNat 0))) H) λo off len sz _=>iff (Nat.beq sz s) (zK s H y λm vs=>fN (minN m len) λq=>
  @Nat.rec (λ_=>Prop) (K (.c (.i 3 (.ofNat 0))) H) (λ_ _=>uK H o off (vs.take (Nat.mul q sz)) λH=>K (.c (.i 3 (.ofNat q))) H) q) False
def Dn (s:Nat) (z:List C) (x:V) (H:Hp) (K:KV):Prop:=
 onS x (K (.c .un) H) (K (.c .un) H) λo off len sz _=>iff (Nat.beq sz s) (@Nat.rec (λ_=>Prop) (K (.c .un) H) (λ_ _=>uK H o off ((List.replicate len z).flatten) λH=>K (.c .un) H) len) False
def D6 (mx:Bool) (k:Nat):List V→Int→(V→Prop)→Prop
 | [],acc,K=>fin k acc K
 |v::rest,acc,K=>onI v λ_ n=>D6 mx k rest (@Bool.rec (λ_=>Int) (@Bool.rec (λ_=>Int) n acc (leI acc n)) (@Bool.rec (λ_=>Int) acc n (leI acc n)) mx) K
def mmK (mx:Bool) (args:List V) (K:V→Prop):Prop:=@List.rec V (λ_=>Prop) False (λx rest _=>onI x λk n=>D6 mx k rest n K) args
def two (l:List V) (K:V→V→Prop):Prop:=@List.rec V (λ_=>Prop) False (λx t _=>@List.rec V (λ_=>Prop) False (λy u _=>@List.rec V (λ_=>Prop) (K x y) (λ_ _ _=>False) u) t) l
def one (l:List V) (K:V→Prop):Prop:=@List.rec V (λ_=>Prop) False (λx t _=>@List.rec V (λ_=>Prop) (K x) (λ_ _ _=>False) t) l
def elT (P:Program) (t:TypeId):Option TypeId:=match P.underlying t with
 |some (.slice e)=>match okT P e with
  |true=>some e
  |false=>none
 | _=>none
def byT (P:Program) (t:TypeId):Nat:=match P.info? t with | some i=>i.bytes | none=>0
def offT (P:Program) (t:TypeId) (i:Nat):Option (Nat×TypeId):=match P.underlying t with
 |some (.struct fs)=>match fs[i]? with
  |some f=>match okT P f.type && hasU P f.type with
   |true=>some (f.offset,f.type)
   |false=>none
  |none=>none
 | _=>none
def layC (e dp n:Nat) (place:Nat→Option (Nat×Nat)) (ps:List (Nat×Operand)):Bx (Env e→Lv C dp→(Lv C dp→Prop)→Prop):=
 @List.rec (Nat×Operand) (λ_=>Bx (Env e→Lv C dp→(Lv C dp→Prop)→Prop)) ⟨λ_ d K=>K d⟩
  (λp _ ih=>match place p.1 with
   |some r=>match Nat.ble (Nat.add r.1 r.2) n with
    |true=>(evC e p.2).bind λg=>ih.bind λh=>fNB r.1 λq=>fNB r.2 λs=>⟨λenv d K=>g env λv=>
    @V.rec (λ_=>Prop) (λ_=>PUnit) (λc=>iff (stC c) (iff (Nat.beq s 1) ((setC dp q).go d c λd=>h env d K) False) False) (λdp' d' o n=>iff (Nat.beq n s) (vI dp' d' dp n o q d λd=>h env d K) False) fT ⟨⟩ fL v⟩
    |false=>⟨λ_ _ _=>False⟩
   |none=>⟨λ_ _ _=>False⟩) ps
def nthC:Nat→Bx (List V→(V→Prop)→Prop)
 | 0=>⟨λl K=>@List.rec V (λ_=>Prop) False (λv _ _=>K v) l⟩
 |n+1=>(nthC n).bind λh=>⟨λl K=>@List.rec V (λ_=>Prop) False (λ_ t _=>h t K) l⟩
def Cu (P:Program) (off:Nat) (t:TypeId):Bx (V→(V→Prop)→Prop):=
 match aggT P t with
 |true=>fNB (szT P t) λs=>⟨λx K=>onA x λdp d o n=>iff (Nat.ble (Nat.add off s) n) (fN (Nat.add o off) λq=>K (.a dp d q s)) False⟩
 |false=>⟨λx K=>onA x λdp d o n=>iff (Nat.ble (Nat.succ off) n) (fN (Nat.add o off) λq=>(getC dp q).go d λc=>K (.c c)) False⟩
def nnK (x:V) (K:V→Prop):Prop:=pO x λ_ _=>K x
def Fx (sz:Nat) (z:List C) (m:Nat) (K:Ob→Prop):Prop:=
 @List.rec C (λ_=>Prop) False (λv t _=>@List.rec C (λ_=>Prop) (iff (Nat.ble m 16384) (fN (dpN m) λdp=>K (.ob true m dp (uni v dp))) False) (λ_ _ _=>fN (Nat.mul m sz) λq=>obL q (List.replicate m z).flatten K) t) z
def capV (c:List Ptr):List V:=c.map λp=>match p with | none=>.c .np | some (o,off)=>.c (.p o off)
def wN:List V→(List Ptr→Prop)→Prop
 | [],K=>K []
 | .c .np::vs,K=>wN vs λl=>K (none::l)
 | .c (.p o off)::vs,K=>wN vs λl=>K (some (o,off)::l)
 | _,_=>False
def EZ (P:Program) (call:Cal) (f:V) (args:List V) (H:Hp) (K:KV):Prop:=
 match f with
 | .c (.f fn first cap)=>match fn with
  | .func g=>iff (Eng.okFun P g) (call g (capV first++args++capV cap) H K) False
  | _=>False
 | _=>False
abbrev PuR (e:Nat):=Env e→(V→Prop)→Prop
abbrev LdR (e:Nat):=Env e→Hp→(V→Prop)→Prop
abbrev FlR (e:Nat):=Env e→(Ob→(Nat→V)→Prop)→Prop
abbrev OpR (e:Nat):=Cal→Env e→Hp→KV→Prop
def noPu (e:Nat):Bx (PuR e):=⟨λ_ _=>False⟩
def noOp (e:Nat):Bx (OpR e):=⟨λ_ _ _ _=>False⟩
def AW {γ:Type} (P:Program) (t:TypeId) (k:(n dp:Nat)→Lv C dp→Bx γ):Bx γ:=
 fNB (szT P t) λn=>fNB (dpN n) λdp=>k n dp (tr dp (m4 P t))
def t5 (P:Program) (t:TypeId) (i:Nat):Option (Nat×Nat):=match P.underlying t with
 |some (.struct fs)=>match fs[i]? with
  |some f=>some (f.offset,szT P f.type)
  |none=>none
 |some (.array _ e)=>some (Nat.mul i (szT P e),szT P e)
 | _=>none
def okB (P:Program) (t:TypeId):Bool:=match P.underlying t with
 |some (.struct fs)=>fs.toList.all λf=>(P.info? f.type).isSome
 |some (.array _ e)=>(P.info? e).isSome
 | _=>false
def x9 (P:Program) (e:Nat) (t:TypeId) (parts:Array (Nat×Operand)):Bx (PuR e):=
 match okT P t && okB P t with
 |true=>AW P t λn dp d=>(layC e dp n (t5 P t) parts.toList).bind λg=>⟨λenv K=>g env d λd=>K (.a dp d 0 n)⟩
 |false=>noPu e
def okHM (hi mx:Option Operand):Bool:=!(hi.isNone && mx.isSome)
def elHM (P:Program) (t:TypeId) (hi mx:Option Operand):Option TypeId:=match okHM hi mx with
 |true=>elT P t
 |false=>none
def ya (P:Program) (e:Nat) (t:TypeId) (x:Operand) (lo hi mx:Option Operand):Bx (PuR e):=
 match P.underlying t with
 |some (.slice _)=>match elHM P t hi mx with
  |some el=>(evC e x).bind λx=>(optC e lo).bind λlo=>(optC e hi).bind λhi=>(optC e mx).bind λmx=>fNB (szT P el) λs=>⟨λenv K=>x env λx=>lo env λlo=>hi env λhi=>mx env λmx=>slS false s x lo hi mx ⟨0,uni .dead 7⟩ K⟩
  |none=>noPu e
 |some (.array n el)=>match okT P el,mx with
  |true,none=>(evC e x).bind λx=>(optC e lo).bind λlo=>(optC e hi).bind λhi=>fNB (szT P el) λs=>⟨λenv K=>x env λx=>lo env λlo=>hi env λhi=>slA n s x lo hi K⟩
  | _,_=>noPu e
 | _=>noPu e
def rB (P:Program) (e:Nat) (t:TypeId) (x:Operand) (f:Nat):Bx (PuR e):=
 match offT P t f with
 |some r=>(evC e x).bind λx=>fNB r.1 λr=>⟨λenv K=>x env λx=>pO x λo off=>fN (Nat.add off r) λq=>K (.c (.p o q))⟩
 |none=>noPu e
def yb (P:Program) (e:Nat) (t:TypeId) (x:Operand) (f:Nat):Bx (PuR e):=
 match offT P t f with
 |some r=>(evC e x).bind λx=>(Cu P r.1 r.2).bind λf=>⟨λenv K=>x env λx=>f x K⟩
 |none=>noPu e
def rC (P:Program) (e:Nat) (t:TypeId) (x i:Operand):Bx (PuR e):=
 match P.underlying t with
 |some (.slice _)=>match elT P t with
  |some el=>(evC e x).bind λx=>(evC e i).bind λi=>fNB (szT P el) λs=>⟨λenv K=>x env λx=>i env λi=>ixS s x i K⟩
  |none=>noPu e
 |some (.array len el)=>match okT P el with
  |true=>(evC e x).bind λx=>(evC e i).bind λi=>fNB (szT P el) λs=>⟨λenv K=>x env λx=>i env λi=>ixA len s x i K⟩
  |false=>noPu e
 | _=>noPu e
def E0 (b:ByteArray) (n:Nat) (K:V→Prop):Prop:=match b[n]? with
 |some x=>fN x.toNat λk=>K (.c (.i 4 (.ofNat k)))
 |none=>False
def yc (P:Program) (e:Nat) (t:TypeId) (x i:Operand):Bx (PuR e):=
 match P.underlying t with
 |some (.array len el)=>match okT P el && hasU P el with
  |true=>(evC e x).bind λx=>(evC e i).bind λi=>fNB (szT P el) λs=>⟨λenv K=>x env λx=>i env λi=>onN i λn=>iff (Nat.ble (Nat.succ n) len) ((Cu P (Nat.mul n s) el).go x K) False⟩
  |false=>noPu e
 |some .string=>match x with
  | .const (.string b)=>(evC e i).bind λi=>⟨λenv K=>i env λi=>onN i λn=>E0 b n K⟩
  | _=>noPu e
 | _=>noPu e
def AX (P:Program) (e:Nat) (c:Call):Bx (PuR e):=
 match c.callee with
 | .builtin .len=>match c.argTypes.toList with
  |t::_=>match P.underlying t with
   |some (.slice _)=>(evsC e c.args.toList).bind λg=>⟨λenv K=>g env λl=>one l λx=>lenS x K⟩
   | _=>noPu e
  | _=>noPu e
 | .builtin .cap=>match c.argTypes.toList with
  |t::_=>match P.underlying t with
   |some (.slice _)=>(evsC e c.args.toList).bind λg=>⟨λenv K=>g env λl=>one l λx=>capS x K⟩
   | _=>noPu e
  | _=>noPu e
 | .builtin .min=>(evsC e c.args.toList).bind λg=>⟨λenv K=>g env λl=>mmK false l K⟩
 | .builtin .max=>(evsC e c.args.toList).bind λg=>⟨λenv K=>g env λl=>mmK true l K⟩
 | _=>noPu e
def zL (P:Program) (e:Nat) (op:Op):Bx (PuR e):=
 match op with
 | .move x=>evC e x
 | .assign x=>evC e x
 | .pick c a b=>(evC e c).bind λc=>(evC e a).bind λa=>(evC e b).bind λb=>⟨λenv K=>c env λc=>onB c (a env K) (b env K)⟩
 | .build t parts=>x9 P e t parts
 | .nilCheck x=>(evC e x).bind λg=>⟨λenv K=>g env λx=>nnK x K⟩
 | .binOp op t x y _=>(evC e x).bind λx=>(evC e y).bind λy=>(binC P op t).bind λf=>⟨λenv K=>x env λx=>y env λy=>f x y K⟩
 | .unOp op _ x=>(evC e x).bind λx=>(unC op).bind λf=>⟨λenv K=>x env λx=>f x K⟩
 | .convert src dst x=>(evC e x).bind λx=>(D5 P src dst).bind λf=>⟨λenv K=>x env λx=>f x K⟩
 | .makeFunc fn fs cs=>(evsC e fs.toList).bind λf=>(evsC e cs.toList).bind λc=>⟨λenv K=>f env λfs=>c env λcs=>wN fs λfs=>wN cs λcs=>K (.c (.f fn fs cs))⟩
 | .slice t x lo hi mx=>ya P e t x lo hi mx
 | .fieldAddr t x f=>rB P e t x f
 | .field t x f=>yb P e t x f
 | .indexAddr t x i=>rC P e t x i
 | .index t x i=>yc P e t x i
 | .extract t i=>(evC e t).bind λg=>(nthC i).bind λh=>⟨λenv K=>g env λx=>onT x λvs=>h vs K⟩
 | .call c=>AX P e c
 | _=>noPu e
def D7 (P:Program) (e:Nat) (t:TypeId) (x:Operand):Bx (FlR e):=
 (evC e x).bind λg=>⟨λenv K=>g env λv=>
  @V.rec (λ_=>Prop) (λ_=>PUnit) (λc=>iff (stC c) (K (.ob true 1 0 c) λo=>.c (.p o 0)) False)
   (λdp d off sz=>iff (Nat.beq off 0) (K (.ob true sz dp d) λo=>.c (.p o 0))
    (fN (dpN sz) λe=>iff (Nat.ble sz 16384) (vI dp d e sz off 0 (uni .un e) λd=>K (.ob true sz e d) λo=>.c (.p o 0)) False)) fT ⟨⟩ fL v⟩
def qo (P:Program) (e:Nat) (t:TypeId) (len:Nat) (parts:Array (Nat×Operand)):Bx (FlR e):=
 match elT P t with
 |some el=>fNB (szT P el) λs=>fNB (Nat.mul len s) λn=>match Nat.ble n 16384 with
  |true=>fNB (dpN n) λdp=>(layC e dp n (λi=>some (Nat.mul i s,s)) parts.toList).bind λg=>⟨λenv K=>g env (tr dp (List.replicate len (m4 P el)).flatten) λd=>K (.ob true n dp d) λo=>.c (.s o 0 len s none)⟩
  |false=>⟨λ_ _=>False⟩
 |none=>⟨λ_ _=>False⟩
def rD (P:Program) (e:Nat) (t:TypeId) (l c:Operand):Bx (FlR e):=
 match elT P t with
 |some el=>(evC e l).bind λl=>(evC e c).bind λc=>fNB (szT P el) λs=>fNB (byT P el) λb=>⟨λenv K=>l env λl=>c env λc=>
   onN l λn=>onN c λm=>iff (Nat.ble n m) (wM b m (Fx s (m4 P el) m λob=>K ob λo=>.c (.s o 0 n s none))) False⟩
 |none=>⟨λ_ _=>False⟩
def y5 (P:Program) (e:Nat) (op:Op):Bx (FlR e):=
 match op with
 | .alloc t=>match okT P t with
  |true=>AW P t λn dp d=>⟨λ_ K=>K (.ob true n dp d) λo=>.c (.p o 0)⟩
  |false=>⟨λ_ _=>False⟩
 | .box t x=>D7 P e t x
 | .buildSlice t len parts=>qo P e t len parts
 | .makeSlice t l c=>rD P e t l c
 | _=>⟨λ_ _=>False⟩
def ss (P:Program) (e:Nat) (t:TypeId) (x:Operand):Bx (LdR e):=
 match hasU P t with
 |true=>match aggT P t with
  |true=>(evC e x).bind λg=>fNB (szT P t) λs=>⟨λenv H K=>g env λa=>Fv s H a K⟩
  |false=>(evC e x).bind λg=>⟨λenv H K=>g env λa=>Fw H a K⟩
 |false=>⟨λ_ _ _=>False⟩
def yd (P:Program) (e:Nat) (t:TypeId) (x v:Operand):Bx (OpR e):=
 fNB (szT P t) λs=>match aggT P t with
 |true=>match Nat.ble 1 s with
  |true=>(evC e x).bind λg=>(evC e v).bind λh=>⟨λ_ env H K=>g env λa=>h env λv=>pO a λo off=>onA v λdp d off' sz=>iff (Nat.beq sz s) (EW H o off dp d off' sz λH=>K (.c .un) H) False⟩
  |false=>noOp e
 |false=>match s with
  | 1=>(evC e x).bind λg=>(evC e v).bind λh=>⟨λ_ env H K=>g env λa=>h env λv=>pO a λo off=>onC v λc=>EV H o off c λH=>K (.c .un) H⟩
  | _=>noOp e
def ye (P:Program) (e:Nat) (t:TypeId) (x:Operand) (lo hi mx:Option Operand):Bx (OpR e):=
 match elHM P t hi mx with
 |some el=>(evC e x).bind λx=>(optC e lo).bind λlo=>(optC e hi).bind λhi=>(optC e mx).bind λmx=>fNB (szT P el) λs=>⟨λ_ env H K=>x env λx=>lo env λlo=>hi env λhi=>mx env λmx=>slS true s x lo hi mx H λv=>K v H⟩
 |none=>noOp e
def biC (P:Program) (b:Builtin) (tys:List TypeId):Bx (List V→Hp→KV→Prop):=
 match tys with
 |t::_=>match elT P t with
  |some el=>fNB (szT P el) λs=>match b with
   | .append=>match tys with
    | [_,u]=>match P.underlying u with
     |some (.slice _)=>fNB (byT P el) λby_=>⟨λl H K=>two l λx y=>zK s H y λm vs=>AV by_ s H x m vs K⟩
     |some (.int _)=>fNB (byT P el) λby_=>⟨λl H K=>two l λx y=>onS x (onN y λk=>iff (Nat.ble 1 k) (wM by_ k (fN (Nat.mul k s) λe=>obL e (List.replicate k (m4 P el)).flatten λb=>newS H k s b K)) False) False λ_ _ _ _ _=>False⟩
     | _=>⟨λ_ _ _=>False⟩
    | _=>⟨λ_ _ _=>False⟩
   | .copy=>⟨λl H K=>two l λx y=>EY s x y H K⟩
   | .clear=>⟨λl H K=>one l λx=>Dn s (m4 P el) x H K⟩
   | _=>⟨λ_ _ _=>False⟩
  |none=>⟨λ_ _ _=>False⟩
 | _=>⟨λ_ _ _=>False⟩
def AY (P:Program) (e:Nat) (c:Call):Bx (OpR e):=
 match c.callee with
 | .builtin b=>(evsC e c.args.toList).bind λg=>(biC P b c.argTypes.toList).bind λh=>⟨λ_ env H K=>g env λargs=>h args H K⟩
 | .value f=>match f with
  | .func f=>match Eng.okFun P f with
   |true=>(evsC e c.args.toList).bind λg=>⟨λcall env H K=>g env λargs=>call f args H K⟩
   |false=>noOp e
  |f=>(evC e f).bind λf=>(evsC e c.args.toList).bind λg=>⟨λcall env H K=>f env λf=>g env λargs=>EZ P call f args H K⟩
 | _=>noOp e
def qp:Op→Nat
 | .move _ | .assign _ | .pick .. | .build .. | .nilCheck _ | .binOp .. | .unOp .. | .convert .. | .makeFunc .. | .slice .. | .fieldAddr .. | .field .. | .indexAddr .. | .index .. | .extract ..=>0
 | .call { callee:=.builtin .len,.. } | .call { callee:=.builtin .cap,.. } | .call { callee:=.builtin .min,.. } | .call { callee:=.builtin .max,.. }=>0
 | .load ..=>1
 | .alloc _ | .box .. | .buildSlice .. | .makeSlice ..=>2
 | _=>3
def wO (P:Program) (e:Nat) (op:Op):Bx (OpR e):=
 match op with
 | .store t x v=>yd P e t x v
 | .call c=>AY P e c
 | .makeMap _ none=>⟨λ_ _ H K=>Dk H K⟩
 | .range t x=>match P.underlying t with
  |some (.map _ _)=>(evC e x).bind λg=>⟨λ_ env H K=>g env λx=>Dm H x K⟩
  | _=>noOp e
 | .next x false=>(evC e x).bind λg=>⟨λ_ env H K=>g env λx=>EU H x K⟩
 | _=>noOp e
def opC (P:Program) (e:Nat) (op:Op):Bx (OpR e):=
 match qp op with
 | 0=>match op with
  | .slice t x lo hi mx=>match P.underlying t with
   |some (.slice _)=>ye P e t x lo hi mx
   | _=>(zL P e op).bind λg=>⟨λ_ env H K=>g env λv=>K v H⟩
  | _=>(zL P e op).bind λg=>⟨λ_ env H K=>g env λv=>K v H⟩
 | 1=>match op with
  | .load t x=>(ss P e t x).bind λg=>⟨λ_ env H K=>g env H λv=>K v H⟩
  | _=>noOp e
 | 2=>(y5 P e op).bind λg=>⟨λ_ env H K=>g env λb f=>newK H b λo H=>K (f o) H⟩
 | _=>wO P e op
abbrev CdR (e:Nat):=Cal→Env e→Hp→(Env e→Hp→Prop)→Prop
def noCd (e:Nat):Bx (CdR e):=⟨λ_ _ _ _=>False⟩
def gdK (want:Bool) (x:V) (run skip:Prop):Prop:=
 @V.rec (λ_=>Prop) (λ_=>PUnit) (λx=>@C.rec (λ_=>Prop) skip (λb=>@Bool.rec (λ_=>Prop) (@Bool.rec (λ_=>Prop) run skip want) (@Bool.rec (λ_=>Prop) skip run want) b) f2 False f2 False False f5 f3 f1 f1 x) fA fT ⟨⟩ fL x
def putC (e:Nat):Option Tmp→Bx (Env e→V→(Env e→Prop)→Prop)
 |none=>⟨λenv _ K=>K env⟩
 |some d=>setE e d
def wP (P:Program) (e:Nat) (all:List Oper) (o:Oper) (r:OpR e) (nx:CdR e):Bx (CdR e):=
 match o.guard with
 |none=>(putC e o.dst).bind λs=>⟨λcall env H K=>r call env H λv H=>s env v λenv=>nx call env H K⟩
 |some (j,want)=>match Eng.dstOf all j with
  |some d=>(getE e d).bind λg=>(putC e o.dst).bind λs=>⟨λcall env H K=>g env λx=>gdK want x (r call env H λv H=>s env v λenv=>nx call env H K) (s env (.c .un) λenv=>nx call env H K)⟩
  |none=>noCd e
def opsC (P:Program) (e:Nat) (all:List Oper) (ops:List Oper):Bx (CdR e):=
 @List.rec Oper (λ_=>Bx (CdR e)) ⟨λ_ env H K=>K env H⟩ (λo _ ih=>(opC P e o.op).bind λr=>ih.bind λnx=>wP P e all o r nx) ops
end
end Go.Mx
