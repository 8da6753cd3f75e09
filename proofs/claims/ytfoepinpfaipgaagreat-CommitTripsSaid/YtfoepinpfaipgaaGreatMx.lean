/- A deterministic semantics of the program's code over trees, for closed runs: the kernel evaluates it. -/
import Derived.Test.YtfoepinpfaipgaaGreatMq
set_option linter.unusedVariables false
namespace Go.Mx

structure Bx (β : Type) where
  run : β

noncomputable section

def Bx.go {β : Type} (b : Bx β) : β := @Bx.rec β (fun _ => β) (fun r => r) b
def Bx.bind {β γ : Type} (b : Bx β) (k : β → Bx γ) : Bx γ := @Bx.rec β (fun _ => Bx γ) k b

/-! ### Trees -/

structure N4 (β : Type) where
  mk ::
  x0 : β
  x1 : β
  x2 : β
  x3 : β

def Lv (β : Type) : Nat → Type
  | 0 => β
  | n + 1 => N4 (Lv β n)

section
variable {β : Type}
def four {γ : Type} (d : Nat) (a b c e : γ) : γ := @Bool.rec (fun _ => γ) (@Bool.rec (fun _ => γ) (@Bool.rec (fun _ => γ) e c (Nat.beq d 2)) b (Nat.beq d 1)) a (Nat.beq d 0)

def get1 {γ : Type} (h : β → (γ → Prop) → Prop) (d : Nat) : Bx (N4 β → (γ → Prop) → Prop) :=
  four d ⟨fun t K => @N4.rec β (fun _ => Prop) (fun x _ _ _ => h x K) t⟩ ⟨fun t K => @N4.rec β (fun _ => Prop) (fun _ x _ _ => h x K) t⟩
    ⟨fun t K => @N4.rec β (fun _ => Prop) (fun _ _ x _ => h x K) t⟩ ⟨fun t K => @N4.rec β (fun _ => Prop) (fun _ _ _ x => h x K) t⟩

def set1 {γ : Type} (h : β → γ → (β → Prop) → Prop) (d : Nat) : Bx (N4 β → γ → (N4 β → Prop) → Prop) :=
  four d ⟨fun t v K => @N4.rec β (fun _ => Prop) (fun x a b c => h x v fun x => K (N4.mk x a b c)) t⟩ ⟨fun t v K => @N4.rec β (fun _ => Prop) (fun a x b c => h x v fun x => K (N4.mk a x b c)) t⟩
    ⟨fun t v K => @N4.rec β (fun _ => Prop) (fun a b x c => h x v fun x => K (N4.mk a b x c)) t⟩ ⟨fun t v K => @N4.rec β (fun _ => Prop) (fun a b c x => h x v fun x => K (N4.mk a b c x)) t⟩

def getC : (n k : Nat) → Bx (Lv β n → (β → Prop) → Prop)
  | 0, _ => ⟨fun x K => K x⟩
  | n + 1, k => (getC n (Nat.div k 4)).bind fun h => get1 h (Nat.mod k 4)

def setC : (n k : Nat) → Bx (Lv β n → β → (Lv β n → Prop) → Prop)
  | 0, _ => ⟨fun _ v K => K v⟩
  | n + 1, k => (setC n (Nat.div k 4)).bind fun h => set1 h (Nat.mod k 4)

def uni (x : β) : (n : Nat) → Lv β n
  | 0 => x
  | n + 1 => N4.mk (uni x n) (uni x n) (uni x n) (uni x n)
end

/-! ### Values: a cell, a struct (a window of a tree of cells), a tuple -/

abbrev Ptr := Option (Nat × Nat)

inductive C where
  | un
  | b (x : Bool)
  | i (k : Nat) (n : Int)
  | np
  | p (o off : Nat)
  | ns
  | es
  | s (o off len sz : Nat) (c : Option Nat)
  | f (fn : Fn) (first cap : List Ptr)
  | r (v : Value)
  | mp (o : Nat)

inductive V where
  | c (x : C)
  | a (dp : Nat) (d : Lv C dp) (off sz : Nat)
  | t (vs : List V)

inductive Ob where
  | dead
  | ob (wr : Bool) (n dp : Nat) (d : Lv C dp)
  | mp
  | it (o : Nat)

structure Hp where
  mk ::
  next : Nat
  t : Lv Ob 7

abbrev KV := V → Hp → Prop
abbrev Cal := FuncId → List V → Hp → KV → Prop

def fN (n : Nat) (K : Nat → Prop) : Prop := @Nat.rec (fun _ => Prop) (K 0) (fun m _ => K (Nat.succ m)) n
def fI (n : Int) (K : Int → Prop) : Prop := @Int.rec (fun _ => Prop) (fun m => fN m fun m => K (.ofNat m)) (fun m => fN m fun m => K (.negSucc m)) n
def fNB {γ : Type} (n : Nat) (K : Nat → Bx γ) : Bx γ := @Nat.rec (fun _ => Bx γ) (K 0) (fun m _ => K (Nat.succ m)) n
def iff (b : Bool) (T F : Prop) : Prop := @Bool.rec (fun _ => Prop) F T b

def f1 {α : Type} (_ : α) : Prop := False
def f2 {α β : Type} (_ : α) (_ : β) : Prop := False
def f3 {α β γ : Type} (_ : α) (_ : β) (_ : γ) : Prop := False
def f5 (_ _ _ _ : Nat) (_ : Option Nat) : Prop := False
def fA (dp : Nat) (_ : Lv C dp) (_ _ : Nat) : Prop := False
def fT (_ : List V) (_ : PUnit) : Prop := False
def fL (_ : V) (_ : List V) (_ : Prop) (_ : PUnit) : PUnit := ⟨⟩

def onC (x : V) (K : C → Prop) : Prop := @V.rec (fun _ => Prop) (fun _ => PUnit) K fA fT ⟨⟩ fL x
def onA (x : V) (K : (dp : Nat) → Lv C dp → Nat → Nat → Prop) : Prop := @V.rec (fun _ => Prop) (fun _ => PUnit) f1 K fT ⟨⟩ fL x
def onT (x : V) (K : List V → Prop) : Prop := @V.rec (fun _ => Prop) (fun _ => PUnit) f1 fA (fun l _ => K l) ⟨⟩ fL x
def onI (x : V) (K : Nat → Int → Prop) : Prop := @V.rec (fun _ => Prop) (fun _ => PUnit) (fun x => @C.rec (fun _ => Prop) False f1 K False f2 False False f5 f3 f1 f1 x) fA fT ⟨⟩ fL x
def onB (x : V) (T F : Prop) : Prop := @V.rec (fun _ => Prop) (fun _ => PUnit) (fun x => @C.rec (fun _ => Prop) False (fun b => @Bool.rec (fun _ => Prop) F T b) f2 False f2 False False f5 f3 f1 f1 x) fA fT ⟨⟩ fL x
def pO (x : V) (K : Nat → Nat → Prop) : Prop := @V.rec (fun _ => Prop) (fun _ => PUnit) (fun x => @C.rec (fun _ => Prop) False f1 f2 False K False False f5 f3 f1 f1 x) fA fT ⟨⟩ fL x
/-- A slice: nil, empty, or cells of an object. -/
def onS (x : V) (N E : Prop) (K : Nat → Nat → Nat → Nat → Option Nat → Prop) : Prop := @V.rec (fun _ => Prop) (fun _ => PUnit) (fun x => @C.rec (fun _ => Prop) False f1 f2 False f2 N E K f3 f1 f1 x) fA fT ⟨⟩ fL x
def onN (x : V) (K : Nat → Prop) : Prop := onI x fun _ n => @Int.rec (fun _ => Prop) K f1 n

/-! ### Constants -/

def kc (k : IntKind) : Nat := @IntKind.rec (fun _ => Nat) 0 1 2 3 4 5 6 7 k
def kd (k : Nat) : IntKind := match k with
  | 0 => .i8 | 1 => .i16 | 2 => .i32 | 3 => .i64 | 4 => .u8 | 5 => .u16 | 6 => .u32 | _ => .u64

def cv1 : Value → C
  | .bool b => .b b
  | .int k n => .i (kc k) n
  | .pointer none => .np
  | .slice none 0 0 => .ns
  | v => .r v

/-- May the cell be stored? -/
def stC (c : C) : Bool := @C.rec (fun _ => Bool) false (fun _ => true) (fun _ _ => true) true (fun _ _ => true) true true (fun _ _ _ _ _ => true) (fun _ _ _ => true) (fun v => Eng.single v) (fun _ => true) c
def okV : Value → Bool
  | .agg cs => cs.toList.all (fun v => stC (cv1 v)) && Nat.ble cs.size 16384
  | _ => true

def zerosL : (dp : Nat) → (Nat → C) → Nat → Nat → Lv C dp
  | 0, g, i, _ => g i
  | dp + 1, g, i, s => N4.mk (zerosL dp g i (4 * s)) (zerosL dp g (i + s) (4 * s)) (zerosL dp g (i + 2 * s) (4 * s)) (zerosL dp g (i + 3 * s) (4 * s))

def nthD (l : List C) (i : Nat) : C := match l[i]? with
  | some c => c
  | none => .un

/-- A tree of these cells. -/
def tr (dp : Nat) (l : List C) : Lv C dp := zerosL dp (nthD l) 0 1

def dpN (n : Nat) : Nat := @Bool.rec (fun _ => Nat) (@Bool.rec (fun _ => Nat) (@Bool.rec (fun _ => Nat) (@Bool.rec (fun _ => Nat) (@Bool.rec (fun _ => Nat) (@Bool.rec (fun _ => Nat) (@Bool.rec (fun _ => Nat) 7 6 (Nat.ble n 4096)) 5 (Nat.ble n 1024)) 4 (Nat.ble n 256)) 3 (Nat.ble n 64)) 2 (Nat.ble n 16)) 1 (Nat.ble n 4)) 0 (Nat.ble n 1)

def cv : Value → Bx V
  | .agg cs => fNB (dpN cs.size) fun dp => ⟨.a dp (tr dp (cs.toList.map cv1)) 0 cs.size⟩
  | v => ⟨.c (cv1 v)⟩

/-- The temporaries of a function that has so many. -/
abbrev Env (e : Nat) := Lv V (dpN e)
def getE (e t : Nat) : Bx (Env e → (V → Prop) → Prop) := match Nat.ble (Nat.succ t) e with
  | true => getC (dpN e) t
  | false => ⟨fun _ _ => False⟩
def setE (e t : Nat) : Bx (Env e → V → (Env e → Prop) → Prop) := match Nat.ble (Nat.succ t) e with
  | true => setC (dpN e) t
  | false => ⟨fun _ _ _ => False⟩

def evC (e : Nat) : Operand → Bx (Env e → (V → Prop) → Prop)
  | .tmp t => getE e t
  | .const v => match okV v with
    | true => (cv v).bind fun v => ⟨fun _ K => K v⟩
    | false => ⟨fun _ _ => False⟩
  | .func f => ⟨fun _ K => K (.c (.f (.func f) [] []))⟩
  | .global _ => ⟨fun _ _ => False⟩

def evsC (e : Nat) (os : List Operand) : Bx (Env e → (List V → Prop) → Prop) :=
  @List.rec Operand (fun _ => Bx (Env e → (List V → Prop) → Prop)) ⟨fun _ K => K []⟩ (fun o _ ih => (evC e o).bind fun g => ih.bind fun h => ⟨fun env K => g env fun v => h env fun vs => K (v :: vs)⟩) os

/-! ### Types -/

def szT (P : Program) (t : TypeId) : Nat := match P.info? t with | some i => i.size | none => 0
def zeroV (P : Program) (t : TypeId) : Option Value := match P.info? t with | some i => i.zero | none => none
def zeroT (P : Program) (t : TypeId) : List C := match zeroV P t with | some z => z.cells.toList.map cv1 | none => []
/-- The type is known, with a zero value of its size. -/
def okT (P : Program) (t : TypeId) : Bool := match zeroV P t with | some z => Nat.beq z.cells.size (szT P t) && (Nat.ble 1 (szT P t) && (Nat.ble (szT P t) 16384 && (zeroT P t).all stC)) | none => false
def aggT (P : Program) (t : TypeId) : Bool := Eng.isAgg? P t
def hasU (P : Program) (t : TypeId) : Bool := (P.underlying t).isSome

/-! ### Cells and objects -/

def putsK (dp : Nat) (vs : List C) : Lv C dp → Nat → (Lv C dp → Prop) → Prop :=
  @List.rec C (fun _ => Lv C dp → Nat → (Lv C dp → Prop) → Prop) (fun d _ K => K d) (fun v _ ih d i K => (setC dp i).go d v fun d => fN (Nat.succ i) fun j => ih d j K) vs

def cellsK (dp : Nat) (d : Lv C dp) (m : Nat) : Nat → (List C → Prop) → Prop :=
  @Nat.rec (fun _ => Nat → (List C → Prop) → Prop) (fun _ K => K []) (fun _ ih i K => (getC dp i).go d fun v => fN (Nat.succ i) fun j => ih j fun vs => K (v :: vs)) m

/-- Cells are copied from one tree to another. -/
def moveK (dp' : Nat) (d' : Lv C dp') (dp : Nat) (m : Nat) : Nat → Nat → Lv C dp → (Lv C dp → Prop) → Prop :=
  @Nat.rec (fun _ => Nat → Nat → Lv C dp → (Lv C dp → Prop) → Prop) (fun _ _ d K => K d)
    (fun _ ih i j d K => (getC dp' i).go d' fun v => (setC dp j).go d v fun d => fN (Nat.succ i) fun i => fN (Nat.succ j) fun j => ih i j d K) m

def obK (H : Hp) (o : Nat) (K : (wr : Bool) → (n dp : Nat) → Lv C dp → Prop) : Prop :=
  @Hp.rec (fun _ => Prop) (fun _ t => (getC 7 o).go t fun b => @Ob.rec (fun _ => Prop) False K False f1 b) H

def newK (H : Hp) (b : Ob) (K : Nat → Hp → Prop) : Prop :=
  @Hp.rec (fun _ => Prop) (fun x t => iff (Nat.ble x 16383) ((setC 7 x).go t b fun t => fN (Nat.succ x) fun y => K x ⟨y, t⟩) False) H

/-! Maps that are empty, and iterators over them. -/

def onM (x : V) (K : Nat → Prop) : Prop := @V.rec (fun _ => Prop) (fun _ => PUnit) (fun x => @C.rec (fun _ => Prop) False f1 f2 False f2 False False f5 f3 f1 K x) fA fT ⟨⟩ fL x
def mapAt (H : Hp) (o : Nat) (K : Prop) : Prop := @Hp.rec (fun _ => Prop) (fun _ t => (getC 7 o).go t fun b => @Ob.rec (fun _ => Prop) False (fun _ _ _ _ => False) K f1 b) H
def itAt (H : Hp) (o : Nat) (K : Prop) : Prop := @Hp.rec (fun _ => Prop) (fun _ t => (getC 7 o).go t fun b => @Ob.rec (fun _ => Prop) False (fun _ _ _ _ => False) False (fun _ => K) b) H
def newMap (H : Hp) (K : V → Hp → Prop) : Prop := newK H .mp fun o H => K (.c (.mp o)) H
def rangeK (H : Hp) (x : V) (K : V → Hp → Prop) : Prop := onM x fun o => mapAt H o (newK H (.it o) fun i H => K (.c (.p i 0)) H)
def nextK (H : Hp) (x : V) (K : V → Hp → Prop) : Prop := pO x fun o off => iff (Nat.beq off 0) (itAt H o (K (.t [.c (.b false)]) H)) False

def setOb (H : Hp) (o : Nat) (b : Ob) (K : Hp → Prop) : Prop :=
  @Hp.rec (fun _ => Prop) (fun x t => (setC 7 o).go t b fun t => K ⟨x, t⟩) H

/-- An object that may be written. -/
def wrK (H : Hp) (o : Nat) (K : (n dp : Nat) → Lv C dp → Prop) : Prop := obK H o fun wr n dp d => iff wr (K n dp d) False

def store1 (H : Hp) (o off : Nat) (v : C) (K : Hp → Prop) : Prop :=
  wrK H o fun n dp d => iff (stC v) (iff (Nat.ble (Nat.succ off) n) ((setC dp off).go d v fun d => setOb H o (.ob true n dp d) K) False) False

def storeL (H : Hp) (o off : Nat) (vs : List C) (K : Hp → Prop) : Prop :=
  wrK H o fun n dp d => iff (Nat.ble (Nat.add off vs.length) n) (putsK dp vs d off fun d => setOb H o (.ob true n dp d) K) False

def storeA (H : Hp) (o off : Nat) (dp' : Nat) (d' : Lv C dp') (off' sz : Nat) (K : Hp → Prop) : Prop :=
  wrK H o fun n dp d => iff (Nat.ble (Nat.add off sz) n)
    (iff (Nat.beq n sz) (iff (Nat.beq off' 0) (setOb H o (.ob true n dp' d') K) (moveK dp' d' dp sz off' off d fun d => setOb H o (.ob true n dp d) K))
      (moveK dp' d' dp sz off' off d fun d => setOb H o (.ob true n dp d) K)) False

def loadA (sz : Nat) (H : Hp) (x : V) (K : V → Prop) : Prop :=
  pO x fun o off => obK H o fun _ n dp d => iff (Nat.ble (Nat.add off sz) n) (K (.a dp d off sz)) False
def load1 (H : Hp) (x : V) (K : V → Prop) : Prop :=
  pO x fun o off => obK H o fun _ n dp d => iff (Nat.ble (Nat.succ off) n) ((getC dp off).go d fun c => K (.c c)) False

/-! ### Numbers -/

def hiN (k : Nat) : Nat := @Bool.rec (fun _ => Nat) (@Bool.rec (fun _ => Nat) (@Bool.rec (fun _ => Nat) 127 255 (Nat.beq k 4)) 18446744073709551615 (Nat.beq k 7)) 9223372036854775807 (Nat.beq k 3)
def fin (k : Nat) (n : Int) (K : V → Prop) : Prop := fI n fun n => K (.c (.i k n))
def wrI (k : Nat) (n : Int) (K : V → Prop) : Prop := fin k ((kd k).wrap n) K
def wrN (k : Nat) (n : Nat) (K : V → Prop) : Prop := iff (Nat.ble n (hiN k)) (fN n fun n => K (.c (.i k (.ofNat n)))) (wrI k (.ofNat n) K)

/-- Two numbers of one kind. -/
def ii (x y : V) (K : Nat → Int → Int → Prop) : Prop :=
  @V.rec (fun _ => Prop) (fun _ => PUnit) (fun x => @C.rec (fun _ => Prop) False f1 (fun k a =>
    @V.rec (fun _ => Prop) (fun _ => PUnit) (fun y => @C.rec (fun _ => Prop) False f1 (fun j b => iff (Nat.beq k j) (K k a b) False) False f2 False False f5 f3 f1 f1 y) fA fT ⟨⟩ fL y) False f2 False False f5 f3 f1 f1 x) fA fT ⟨⟩ fL x
def nn (a b : Int) (K : Nat → Nat → Prop) (F : Prop) : Prop := @Int.rec (fun _ => Prop) (fun x => @Int.rec (fun _ => Prop) (K x) (fun _ => F) b) (fun _ => F) a

def addK (k : Nat) (a b : Int) (K : V → Prop) : Prop := nn a b (fun x y => wrN k (Nat.add x y) K) (wrI k (a + b) K)
def mulK (k : Nat) (a b : Int) (K : V → Prop) : Prop := nn a b (fun x y => wrN k (Nat.mul x y) K) (wrI k (a * b) K)
def subK (k : Nat) (a b : Int) (K : V → Prop) : Prop := nn a b (fun x y => iff (Nat.ble y x) (wrN k (Nat.sub x y) K) (wrI k (a - b) K)) (wrI k (a - b) K)
def bitK (op : Nat → Nat → Nat) (k : Nat) (a b : Int) (K : V → Prop) : Prop := nn a b (fun x y => wrN k (op x y) K) (wrI k (op (BitVec.ofInt (kd k).bits a).toNat (BitVec.ofInt (kd k).bits b).toNat) K)
def minN (a b : Nat) : Nat := @Bool.rec (fun _ => Nat) b a (Nat.ble a b)
def bitsN (k : Nat) : Nat := @Bool.rec (fun _ => Nat) (@Bool.rec (fun _ => Nat) (kd k).bits 64 (Nat.beq k 7)) 64 (Nat.beq k 3)
def shlK (k : Nat) (a b : Int) (K : V → Prop) : Prop := nn a b (fun x y => wrN k (Nat.mul x (Nat.pow 2 (minN y (bitsN k)))) K) False
def shrK (k : Nat) (a b : Int) (K : V → Prop) : Prop := nn a b (fun x y => fN (Nat.div x (Nat.pow 2 (minN y (bitsN k)))) fun n => K (.c (.i k (.ofNat n)))) False
def iB (a b : Int) (f : Nat → Nat → Bool) (pn np : Bool) (g : Nat → Nat → Bool) : Bool := @Int.rec (fun _ => Bool) (fun x => @Int.rec (fun _ => Bool) (f x) (fun _ => pn) b) (fun x => @Int.rec (fun _ => Bool) (fun _ => np) (g x) b) a
def eqI (a b : Int) : Bool := iB a b Nat.beq false false Nat.beq
def leI (a b : Int) : Bool := iB a b Nat.ble false true (fun x y => Nat.ble y x)
def retB (b : Bool) (K : V → Prop) : Prop := @Bool.rec (fun _ => Prop) (K (.c (.b false))) (K (.c (.b true))) b
def retN (b : Bool) (K : V → Prop) : Prop := @Bool.rec (fun _ => Prop) (K (.c (.b true))) (K (.c (.b false))) b
def divK (k : Nat) (a b : Int) (K : V → Prop) : Prop := nn a b (fun x y => iff (Nat.beq y 0) False (wrN k (Nat.div x y) K)) (iff (eqI b 0) False (wrI k (a.tdiv b) K))
def remK (k : Nat) (a b : Int) (K : V → Prop) : Prop := nn a b (fun x y => iff (Nat.beq y 0) False (fN (Nat.mod x y) fun n => K (.c (.i k (.ofNat n))))) (iff (eqI b 0) False (fin k (a.tmod b) K))
def iiS (x y : V) (K : Nat → Int → Int → Prop) : Prop := onI x fun k a => onI y fun _ b => K k a b

/-- Are two cells equal, in Go's sense? -/
def eqBo (x y : C) (K : Bool → Prop) : Prop :=
  match x, y with
  | .b a, .b b => K (@Bool.rec (fun _ => Bool) (!b) b a)
  | _, _ => False
def eqPt (x y : C) (K : Bool → Prop) : Prop :=
  match x, y with
  | .np, .np => K true
  | .np, .p _ _ => K false
  | .p _ _, .np => K false
  | _, _ => False
def eqSl (x y : C) (K : Bool → Prop) : Prop :=
  match x, y with
  | .ns, .ns => K true
  | .s .., .ns => K false
  | .es, .ns => K false
  | _, _ => False

def eqT (P : Program) (t : TypeId) : Nat := match P.underlying t with
  | some (.int _) => 1
  | some .bool => 2
  | some (.pointer _) => 3
  | some (.slice _) => 4
  | some (.struct _) => 5
  | some (.array _ _) => 5
  | _ => 0
def eqC1 (k : Bool) (x y : C) (K : Bool → Prop) : Prop :=
  match k, x, y with
  | false, .i a n, .i b m => iff (Nat.beq a b) (K (eqI n m)) False
  | true, .b a, .b b => K (@Bool.rec (fun _ => Bool) (!b) b a)
  | _, _, _ => False
def eqLs : List Bool → List C → List C → (Bool → Prop) → Prop
  | [], [], [], K => K true
  | k :: ks, x :: xs, y :: ys, K => eqC1 k x y fun r => eqLs ks xs ys fun s => K (@Bool.rec (fun _ => Bool) false s r)
  | _, _, _, _ => False
def eqA (P : Program) (t : TypeId) : Bx (V → V → (Bool → Prop) → Prop) :=
  match flatB P 8 t, P.eqGuardType P.depth t with
  | some ks, false => ⟨fun x y K => onA x fun dp d o n => onA y fun dp' d' o' n' => cellsK dp d n o fun l => cellsK dp' d' n' o' fun l' => eqLs ks l l' K⟩
  | _, _ => ⟨fun _ _ _ => False⟩
def eqB (P : Program) (t : TypeId) : Bx (V → V → (Bool → Prop) → Prop) :=
  match eqT P t with
  | 1 => ⟨fun x y K => ii x y fun _ a b => K (eqI a b)⟩
  | 2 => ⟨fun x y K => onC x fun x => onC y fun y => eqBo x y K⟩
  | 3 => ⟨fun x y K => onC x fun x => onC y fun y => eqPt x y K⟩
  | 4 => ⟨fun x y K => onC x fun x => onC y fun y => eqSl x y K⟩
  | 5 => eqA P t
  | _ => ⟨fun _ _ _ => False⟩

def binC (P : Program) (op : BinOp) (t : TypeId) : Bx (V → V → (V → Prop) → Prop) :=
  match op with
  | .add => ⟨fun x y K => ii x y fun k a b => addK k a b K⟩
  | .sub => ⟨fun x y K => ii x y fun k a b => subK k a b K⟩
  | .mul => ⟨fun x y K => ii x y fun k a b => mulK k a b K⟩
  | .quo => ⟨fun x y K => ii x y fun k a b => divK k a b K⟩
  | .rem => ⟨fun x y K => ii x y fun k a b => remK k a b K⟩
  | .and => ⟨fun x y K => ii x y fun k a b => bitK Nat.land k a b K⟩
  | .or => ⟨fun x y K => ii x y fun k a b => bitK Nat.lor k a b K⟩
  | .xor => ⟨fun x y K => ii x y fun k a b => bitK Nat.xor k a b K⟩
  | .andNot => ⟨fun x y K => ii x y fun k a b => wrI k (BitVec.ofInt (kd k).bits a &&& ~~~ BitVec.ofInt (kd k).bits b).toNat K⟩
  | .shl => ⟨fun x y K => iiS x y fun k a b => shlK k a b K⟩
  | .shr => ⟨fun x y K => iiS x y fun k a b => shrK k a b K⟩
  | .eql => (eqB P t).bind fun g => ⟨fun x y K => g x y fun r => retB r K⟩
  | .neq => (eqB P t).bind fun g => ⟨fun x y K => g x y fun r => retN r K⟩
  | .lss => ⟨fun x y K => ii x y fun _ a b => retN (leI b a) K⟩
  | .leq => ⟨fun x y K => ii x y fun _ a b => retB (leI a b) K⟩
  | .gtr => ⟨fun x y K => ii x y fun _ a b => retN (leI a b) K⟩
  | .geq => ⟨fun x y K => ii x y fun _ a b => retB (leI b a) K⟩

def unC (op : UnOp) : Bx (V → (V → Prop) → Prop) :=
  match op with
  | .not => ⟨fun x K => onB x (K (.c (.b false))) (K (.c (.b true)))⟩
  | .neg => ⟨fun x K => onI x fun k n => wrI k (0 - n) K⟩
  | .xor => ⟨fun x K => onI x fun k n => iff (Nat.beq k 7) (bitK Nat.xor 7 (.ofNat 18446744073709551615) n K) False⟩
  | _ => ⟨fun _ _ => False⟩

def convC (P : Program) (src dst : TypeId) : Bx (V → (V → Prop) → Prop) :=
  match hasU P src with
  | true => match P.underlying dst with
    | some (.int j) => fNB (kc j) fun j => ⟨fun x K => onI x fun _ n => @Int.rec (fun _ => Prop) (fun n => wrN j n K) (fun m => wrI j (.negSucc m) K) n⟩
    | _ => ⟨fun _ _ => False⟩
  | false => ⟨fun _ _ => False⟩

/-! ### Slices -/

def bndK (v : Option V) (d : Nat) (K : Nat → Prop) : Prop := @Option.rec V (fun _ => Prop) (K d) (fun v => onN v K) v
def optC (e : Nat) : Option Operand → Bx (Env e → (Option V → Prop) → Prop)
  | none => ⟨fun _ K => K none⟩
  | some o => (evC e o).bind fun g => ⟨fun env K => g env fun v => K (some v)⟩

/-- From l to h, where the capacity is known. -/
def slM (o off sz l h m : Nat) (K : V → Prop) : Prop :=
  iff (Nat.ble l h) (iff (Nat.ble h m) (fN (Nat.sub h l) fun len => fN (Nat.sub m l) fun c => iff (Nat.beq c 0) (K (.c (.s o off len sz (some c)))) (fN (Nat.add off (Nat.mul l sz)) fun q => K (.c (.s o q len sz (some c))))) False) False
/-- From l to h, where it is not. -/
def slN (o off sz l h : Nat) (K : V → Prop) : Prop :=
  iff (Nat.beq l 0) (K (.c (.s o off h sz none)))
    (iff (Nat.ble l h) (iff (Nat.beq l h) (K (.c .es)) (fN (Nat.add off (Nat.mul l sz)) fun q => fN (Nat.sub h l) fun len => K (.c (.s o q len sz none)))) False)
/-- Is there so much of the object? -/
def endK (q : Bool) (H : Hp) (o off len sz h : Nat) (K : Prop) : Prop :=
  iff (Nat.ble h len) K (iff q (obK H o fun _ n _ _ => iff (Nat.ble (Nat.add off (Nat.mul h sz)) n) K False) False)
def qc (q : Bool) (c : Option Nat) : Bool := @Option.rec Nat (fun _ => Bool) q (fun _ => false) c
def slS (q : Bool) (s : Nat) (x : V) (lo hi mx : Option V) (H : Hp) (K : V → Prop) : Prop :=
  onS x (bndK lo 0 fun l => bndK hi 0 fun h => bndK mx 0 fun m => iff (Nat.beq (Nat.add l (Nat.add h m)) 0) (K x) False) False fun o off len sz c => iff (Nat.beq sz s) (bndK lo 0 fun l => bndK hi len fun h =>
      @Option.rec V (fun _ => Prop)
        (@Option.rec Nat (fun _ => Prop) (endK q H o off len sz h (slN o off sz l h K)) (fun c => slM o off sz l h c K) c)
        (fun m => onN m fun m => endK (qc q c) H o off len sz m (slM o off sz l h m K)) mx) False
def slA (n sz : Nat) (x : V) (lo hi : Option V) (K : V → Prop) : Prop :=
  pO x fun o off => bndK lo 0 fun l => bndK hi n fun h => slM o off sz l h n K

def ixS (s : Nat) (x i : V) (K : V → Prop) : Prop :=
  onS x False False fun o off len sz _ => iff (Nat.beq sz s) (onN i fun n => iff (Nat.ble (Nat.succ n) len) (fN (Nat.add off (Nat.mul n sz)) fun q => K (.c (.p o q))) False) False
def ixA (len sz : Nat) (x i : V) (K : V → Prop) : Prop :=
  pO x fun o off => onN i fun n => iff (Nat.ble (Nat.succ n) len) (fN (Nat.add off (Nat.mul n sz)) fun q => K (.c (.p o q))) False

/-- The cells that a slice shows. -/
def listK (s : Nat) (H : Hp) (x : V) (K : Nat → List C → Prop) : Prop :=
  onS x (K 0 []) (K 0 []) fun o off len sz _ => iff (Nat.beq sz s) (@Nat.rec (fun _ => Prop) (K 0 []) (fun _ _ => obK H o fun _ n dp d => fN (Nat.mul len sz) fun q => iff (Nat.ble (Nat.add off q) n) (cellsK dp d q off fun vs => K len vs) False) len) False

def newS (H : Hp) (q sz : Nat) (b : Ob) (K : KV) : Prop := newK H b fun o H => K (.c (.s o 0 q sz none)) H

def obL (n : Nat) (vs : List C) (K : Ob → Prop) : Prop := iff (Nat.ble n 16384) (fN (dpN n) fun dp => putsK dp vs (uni .un dp) 0 fun d => K (.ob true n dp d)) False

/-- More cells behind those of an object. -/
def growK (n dp : Nat) (d : Lv C dp) (vs : List C) (m : Nat) (K : Ob → Prop) : Prop :=
  iff (Nat.ble m 16384) (fN (dpN m) fun e => iff (Nat.ble e dp) (putsK dp vs d n fun d => K (.ob true m dp d)) (moveK dp d e n 0 0 (uni .un e) fun d => putsK e vs d n fun d => K (.ob true m e d))) False

/-- Room for so many elements of so many bytes. -/
def roomB (by_ q : Nat) (K : Prop) : Prop := iff (Nat.ble q 140737488355328) (iff (Nat.ble (Nat.mul q by_) 140737488355328) K False) False

def appG (by_ sz : Nat) (H : Hp) (o off len : Nat) (vs : List C) (m : Nat) (K : KV) : Prop :=
  wrK H o fun n dp d => fN (Nat.add len m) fun q => fN (Nat.add off (Nat.mul q sz)) fun e => iff (Nat.ble e n)
      (storeL H o (Nat.add off (Nat.mul len sz)) vs fun H => K (.c (.s o off q sz none)) H)
      (iff (Nat.beq (Nat.add off (Nat.mul len sz)) n)
        (iff (Nat.beq off 0) (roomB by_ q (setOb H o .dead fun H => growK n dp d vs e fun b => newS H q sz b K)) False) False)

def appC (by_ sz : Nat) (H : Hp) (o off len cp : Nat) (vs : List C) (m : Nat) (K : KV) : Prop :=
  fN (Nat.add len m) fun q => iff (Nat.ble q cp) False
    (roomB by_ q (fN (Nat.mul len sz) fun lz => @Nat.rec (fun _ => Prop) (fN (Nat.mul q sz) fun e => obL e vs fun b => newS H q sz b K)
      (fun _ _ => obK H o fun _ n dp d => iff (Nat.ble (Nat.add off lz) n) (cellsK dp d lz off fun old => fN (Nat.mul q sz) fun e => obL e (old ++ vs) fun b => newS H q sz b K) False) lz))

def appendK (by_ sz : Nat) (H : Hp) (x : V) (m : Nat) (vs : List C) (K : KV) : Prop :=
  @Nat.rec (fun _ => Prop) (onS x (K x H) (K x H) fun _ _ _ _ _ => K x H) (fun _ _ => onS x (roomB by_ m (fN (Nat.mul m sz) fun e => obL e vs fun b => newS H m sz b K)) False
    fun o off len s c => iff (Nat.beq s sz) (@Option.rec Nat (fun _ => Prop) (appG by_ sz H o off len vs m K) (fun cp => appC by_ sz H o off len cp vs m K) c) False) m

def lenS (x : V) (K : V → Prop) : Prop := onS x (K (.c (.i 3 (.ofNat 0)))) (K (.c (.i 3 (.ofNat 0)))) fun _ _ n _ _ => K (.c (.i 3 (.ofNat n)))

def capS (x : V) (K : V → Prop) : Prop := onS x (K (.c (.i 3 (.ofNat 0)))) False fun _ _ _ _ c => match c with
  | some k => K (.c (.i 3 (.ofNat k)))
  | none => False

def copyK (s : Nat) (x y : V) (H : Hp) (K : KV) : Prop :=
  onS x (listK s H y fun _ _ => K (.c (.i 3 (.ofNat 0))) H) (listK s H y fun _ _ => K (.c (.i 3 (.ofNat 0))) H) fun o off len sz _ => iff (Nat.beq sz s) (listK s H y fun m vs => fN (minN m len) fun q =>
    @Nat.rec (fun _ => Prop) (K (.c (.i 3 (.ofNat 0))) H) (fun _ _ => storeL H o off (vs.take (Nat.mul q sz)) fun H => K (.c (.i 3 (.ofNat q))) H) q) False

def clearK (s : Nat) (z : List C) (x : V) (H : Hp) (K : KV) : Prop :=
  onS x (K (.c .un) H) (K (.c .un) H) fun o off len sz _ => iff (Nat.beq sz s) (@Nat.rec (fun _ => Prop) (K (.c .un) H) (fun _ _ => storeL H o off ((List.replicate len z).flatten) fun H => K (.c .un) H) len) False

def foldK (mx : Bool) (k : Nat) : List V → Int → (V → Prop) → Prop
  | [], acc, K => fin k acc K
  | v :: rest, acc, K => onI v fun _ n => foldK mx k rest (@Bool.rec (fun _ => Int) (@Bool.rec (fun _ => Int) n acc (leI acc n)) (@Bool.rec (fun _ => Int) acc n (leI acc n)) mx) K
def mmK (mx : Bool) (args : List V) (K : V → Prop) : Prop := @List.rec V (fun _ => Prop) False (fun x rest _ => onI x fun k n => foldK mx k rest n K) args

def two (l : List V) (K : V → V → Prop) : Prop := @List.rec V (fun _ => Prop) False (fun x t _ => @List.rec V (fun _ => Prop) False (fun y u _ => @List.rec V (fun _ => Prop) (K x y) (fun _ _ _ => False) u) t) l
def one (l : List V) (K : V → Prop) : Prop := @List.rec V (fun _ => Prop) False (fun x t _ => @List.rec V (fun _ => Prop) (K x) (fun _ _ _ => False) t) l

/-- The element type of a slice type, if it is known. -/
def elT (P : Program) (t : TypeId) : Option TypeId := match P.underlying t with
  | some (.slice e) => match okT P e with
    | true => some e
    | false => none
  | _ => none
def byT (P : Program) (t : TypeId) : Nat := match P.info? t with | some i => i.bytes | none => 0

/-! ### Structs -/

def offT (P : Program) (t : TypeId) (i : Nat) : Option (Nat × TypeId) := match P.underlying t with
  | some (.struct fs) => match fs[i]? with
    | some f => match okT P f.type && hasU P f.type with
      | true => some (f.offset, f.type)
      | false => none
    | none => none
  | _ => none

/-- The parts of a value that is built are laid into a tree. -/
def layC (e dp n : Nat) (place : Nat → Option (Nat × Nat)) (ps : List (Nat × Operand)) : Bx (Env e → Lv C dp → (Lv C dp → Prop) → Prop) :=
  @List.rec (Nat × Operand) (fun _ => Bx (Env e → Lv C dp → (Lv C dp → Prop) → Prop)) ⟨fun _ d K => K d⟩
    (fun p _ ih => match place p.1 with
      | some r => match Nat.ble (Nat.add r.1 r.2) n with
        | true => (evC e p.2).bind fun g => ih.bind fun h => fNB r.1 fun q => fNB r.2 fun s => ⟨fun env d K => g env fun v =>
        @V.rec (fun _ => Prop) (fun _ => PUnit) (fun c => iff (stC c) (iff (Nat.beq s 1) ((setC dp q).go d c fun d => h env d K) False) False) (fun dp' d' o n => iff (Nat.beq n s) (moveK dp' d' dp n o q d fun d => h env d K) False) fT ⟨⟩ fL v⟩
        | false => ⟨fun _ _ _ => False⟩
      | none => ⟨fun _ _ _ => False⟩) ps

def nthC : Nat → Bx (List V → (V → Prop) → Prop)
  | 0 => ⟨fun l K => @List.rec V (fun _ => Prop) False (fun v _ _ => K v) l⟩
  | n + 1 => (nthC n).bind fun h => ⟨fun l K => @List.rec V (fun _ => Prop) False (fun _ t _ => h t K) l⟩

def partC (P : Program) (off : Nat) (t : TypeId) : Bx (V → (V → Prop) → Prop) :=
  match aggT P t with
  | true => fNB (szT P t) fun s => ⟨fun x K => onA x fun dp d o n => iff (Nat.ble (Nat.add off s) n) (fN (Nat.add o off) fun q => K (.a dp d q s)) False⟩
  | false => ⟨fun x K => onA x fun dp d o n => iff (Nat.ble (Nat.succ off) n) (fN (Nat.add o off) fun q => (getC dp q).go d fun c => K (.c c)) False⟩

def nnK (x : V) (K : V → Prop) : Prop := pO x fun _ _ => K x

/-- So many elements of zeros. -/
def zeroK (sz : Nat) (z : List C) (m : Nat) (K : Ob → Prop) : Prop :=
  @List.rec C (fun _ => Prop) False (fun v t _ => @List.rec C (fun _ => Prop) (iff (Nat.ble m 16384) (fN (dpN m) fun dp => K (.ob true m dp (uni v dp))) False) (fun _ _ _ => fN (Nat.mul m sz) fun q => obL q (List.replicate m z).flatten K) t) z
def mkS (by_ sz : Nat) (z : List C) (l c : V) (H : Hp) (K : KV) : Prop :=
  onN l fun n => onN c fun m => iff (Nat.ble n m) (roomB by_ m (zeroK sz z m fun b => newK H b fun o H => K (.c (.s o 0 n sz none)) H)) False

def capV (c : List Ptr) : List V := c.map fun p => match p with | none => .c .np | some (o, off) => .c (.p o off)
def ptrsV : List V → (List Ptr → Prop) → Prop
  | [], K => K []
  | .c .np :: vs, K => ptrsV vs fun l => K (none :: l)
  | .c (.p o off) :: vs, K => ptrsV vs fun l => K (some (o, off) :: l)
  | _, _ => False
def callV (P : Program) (call : Cal) (f : V) (args : List V) (H : Hp) (K : KV) : Prop :=
  match f with
  | .c (.f fn first cap) => match fn with
    | .func g => iff (Eng.okFun P g) (call g (capV first ++ args ++ capV cap) H K) False
    | _ => False
  | _ => False

/-! ### Operations: pure ones, loads, new objects, and others -/

abbrev PuR (e : Nat) := Env e → (V → Prop) → Prop
abbrev LdR (e : Nat) := Env e → Hp → (V → Prop) → Prop
abbrev FlR (e : Nat) := Env e → (Ob → (Nat → V) → Prop) → Prop
abbrev OpR (e : Nat) := Cal → Env e → Hp → KV → Prop
def noPu (e : Nat) : Bx (PuR e) := ⟨fun _ _ => False⟩
def noOp (e : Nat) : Bx (OpR e) := ⟨fun _ _ _ _ => False⟩

/-- The tree of a type's zero value. -/
def zeroC {γ : Type} (P : Program) (t : TypeId) (k : (n dp : Nat) → Lv C dp → Bx γ) : Bx γ :=
  fNB (szT P t) fun n => fNB (dpN n) fun dp => k n dp (tr dp (zeroT P t))

def placeT (P : Program) (t : TypeId) (i : Nat) : Option (Nat × Nat) := match P.underlying t with
  | some (.struct fs) => match fs[i]? with
    | some f => some (f.offset, szT P f.type)
    | none => none
  | some (.array _ e) => some (Nat.mul i (szT P e), szT P e)
  | _ => none

/-- A struct or an array, all parts of known types. -/
def okB (P : Program) (t : TypeId) : Bool := match P.underlying t with
  | some (.struct fs) => fs.toList.all fun f => (P.info? f.type).isSome
  | some (.array _ e) => (P.info? e).isSome
  | _ => false
def u_build (P : Program) (e : Nat) (t : TypeId) (parts : Array (Nat × Operand)) : Bx (PuR e) :=
  match okT P t && okB P t with
  | true => zeroC P t fun n dp d => (layC e dp n (placeT P t) parts.toList).bind fun g => ⟨fun env K => g env d fun d => K (.a dp d 0 n)⟩
  | false => noPu e
def okHM (hi mx : Option Operand) : Bool := !(hi.isNone && mx.isSome)
def elHM (P : Program) (t : TypeId) (hi mx : Option Operand) : Option TypeId := match okHM hi mx with
  | true => elT P t
  | false => none
def u_slice (P : Program) (e : Nat) (t : TypeId) (x : Operand) (lo hi mx : Option Operand) : Bx (PuR e) :=
  match P.underlying t with
  | some (.slice _) => match elHM P t hi mx with
    | some el => (evC e x).bind fun x => (optC e lo).bind fun lo => (optC e hi).bind fun hi => (optC e mx).bind fun mx => fNB (szT P el) fun s => ⟨fun env K => x env fun x => lo env fun lo => hi env fun hi => mx env fun mx => slS false s x lo hi mx ⟨0, uni .dead 7⟩ K⟩
    | none => noPu e
  | some (.array n el) => match okT P el, mx with
    | true, none => (evC e x).bind fun x => (optC e lo).bind fun lo => (optC e hi).bind fun hi => fNB (szT P el) fun s => ⟨fun env K => x env fun x => lo env fun lo => hi env fun hi => slA n s x lo hi K⟩
    | _, _ => noPu e
  | _ => noPu e
def u_fieldAddr (P : Program) (e : Nat) (t : TypeId) (x : Operand) (f : Nat) : Bx (PuR e) :=
  match offT P t f with
  | some r => (evC e x).bind fun x => fNB r.1 fun r => ⟨fun env K => x env fun x => pO x fun o off => fN (Nat.add off r) fun q => K (.c (.p o q))⟩
  | none => noPu e
def u_field (P : Program) (e : Nat) (t : TypeId) (x : Operand) (f : Nat) : Bx (PuR e) :=
  match offT P t f with
  | some r => (evC e x).bind fun x => (partC P r.1 r.2).bind fun f => ⟨fun env K => x env fun x => f x K⟩
  | none => noPu e
def u_indexAddr (P : Program) (e : Nat) (t : TypeId) (x i : Operand) : Bx (PuR e) :=
  match P.underlying t with
  | some (.slice _) => match elT P t with
    | some el => (evC e x).bind fun x => (evC e i).bind fun i => fNB (szT P el) fun s => ⟨fun env K => x env fun x => i env fun i => ixS s x i K⟩
    | none => noPu e
  | some (.array len el) => match okT P el with
    | true => (evC e x).bind fun x => (evC e i).bind fun i => fNB (szT P el) fun s => ⟨fun env K => x env fun x => i env fun i => ixA len s x i K⟩
    | false => noPu e
  | _ => noPu e
/-- A byte of a string. -/
def byteK (b : ByteArray) (n : Nat) (K : V → Prop) : Prop := match b[n]? with
  | some x => fN x.toNat fun k => K (.c (.i 4 (.ofNat k)))
  | none => False
def u_index (P : Program) (e : Nat) (t : TypeId) (x i : Operand) : Bx (PuR e) :=
  match P.underlying t with
  | some (.array len el) => match okT P el && hasU P el with
    | true => (evC e x).bind fun x => (evC e i).bind fun i => fNB (szT P el) fun s => ⟨fun env K => x env fun x => i env fun i => onN i fun n => iff (Nat.ble (Nat.succ n) len) ((partC P (Nat.mul n s) el).go x K) False⟩
    | false => noPu e
  | some .string => match x with
    | .const (.string b) => (evC e i).bind fun i => ⟨fun env K => i env fun i => onN i fun n => byteK b n K⟩
    | _ => noPu e
  | _ => noPu e
def u_call (P : Program) (e : Nat) (c : Call) : Bx (PuR e) :=
  match c.callee with
  | .builtin .len => match c.argTypes.toList with
    | t :: _ => match P.underlying t with
      | some (.slice _) => (evsC e c.args.toList).bind fun g => ⟨fun env K => g env fun l => one l fun x => lenS x K⟩
      | _ => noPu e
    | _ => noPu e
  | .builtin .cap => match c.argTypes.toList with
    | t :: _ => match P.underlying t with
      | some (.slice _) => (evsC e c.args.toList).bind fun g => ⟨fun env K => g env fun l => one l fun x => capS x K⟩
      | _ => noPu e
    | _ => noPu e
  | .builtin .min => (evsC e c.args.toList).bind fun g => ⟨fun env K => g env fun l => mmK false l K⟩
  | .builtin .max => (evsC e c.args.toList).bind fun g => ⟨fun env K => g env fun l => mmK true l K⟩
  | _ => noPu e

def pureC (P : Program) (e : Nat) (op : Op) : Bx (PuR e) :=
  match op with
  | .move x => evC e x
  | .assign x => evC e x
  | .pick c a b => (evC e c).bind fun c => (evC e a).bind fun a => (evC e b).bind fun b => ⟨fun env K => c env fun c => onB c (a env K) (b env K)⟩
  | .build t parts => u_build P e t parts
  | .nilCheck x => (evC e x).bind fun g => ⟨fun env K => g env fun x => nnK x K⟩
  | .binOp op t x y _ => (evC e x).bind fun x => (evC e y).bind fun y => (binC P op t).bind fun f => ⟨fun env K => x env fun x => y env fun y => f x y K⟩
  | .unOp op _ x => (evC e x).bind fun x => (unC op).bind fun f => ⟨fun env K => x env fun x => f x K⟩
  | .convert src dst x => (evC e x).bind fun x => (convC P src dst).bind fun f => ⟨fun env K => x env fun x => f x K⟩
  | .makeFunc fn fs cs => (evsC e fs.toList).bind fun f => (evsC e cs.toList).bind fun c => ⟨fun env K => f env fun fs => c env fun cs => ptrsV fs fun fs => ptrsV cs fun cs => K (.c (.f fn fs cs))⟩
  | .slice t x lo hi mx => u_slice P e t x lo hi mx
  | .fieldAddr t x f => u_fieldAddr P e t x f
  | .field t x f => u_field P e t x f
  | .indexAddr t x i => u_indexAddr P e t x i
  | .index t x i => u_index P e t x i
  | .extract t i => (evC e t).bind fun g => (nthC i).bind fun h => ⟨fun env K => g env fun x => onT x fun vs => h vs K⟩
  | .call c => u_call P e c
  | _ => noPu e

def f_box (P : Program) (e : Nat) (t : TypeId) (x : Operand) : Bx (FlR e) :=
  (evC e x).bind fun g => ⟨fun env K => g env fun v =>
    @V.rec (fun _ => Prop) (fun _ => PUnit) (fun c => iff (stC c) (K (.ob true 1 0 c) fun o => .c (.p o 0)) False)
      (fun dp d off sz => iff (Nat.beq off 0) (K (.ob true sz dp d) fun o => .c (.p o 0))
        (fN (dpN sz) fun e => iff (Nat.ble sz 16384) (moveK dp d e sz off 0 (uni .un e) fun d => K (.ob true sz e d) fun o => .c (.p o 0)) False)) fT ⟨⟩ fL v⟩
def f_buildSlice (P : Program) (e : Nat) (t : TypeId) (len : Nat) (parts : Array (Nat × Operand)) : Bx (FlR e) :=
  match elT P t with
  | some el => fNB (szT P el) fun s => fNB (Nat.mul len s) fun n => match Nat.ble n 16384 with
    | true => fNB (dpN n) fun dp => (layC e dp n (fun i => some (Nat.mul i s, s)) parts.toList).bind fun g => ⟨fun env K => g env (tr dp (List.replicate len (zeroT P el)).flatten) fun d => K (.ob true n dp d) fun o => .c (.s o 0 len s none)⟩
    | false => ⟨fun _ _ => False⟩
  | none => ⟨fun _ _ => False⟩
def f_makeSlice (P : Program) (e : Nat) (t : TypeId) (l c : Operand) : Bx (FlR e) :=
  match elT P t with
  | some el => (evC e l).bind fun l => (evC e c).bind fun c => fNB (szT P el) fun s => fNB (byT P el) fun b => ⟨fun env K => l env fun l => c env fun c =>
      onN l fun n => onN c fun m => iff (Nat.ble n m) (roomB b m (zeroK s (zeroT P el) m fun ob => K ob fun o => .c (.s o 0 n s none))) False⟩
  | none => ⟨fun _ _ => False⟩

def freshC (P : Program) (e : Nat) (op : Op) : Bx (FlR e) :=
  match op with
  | .alloc t => match okT P t with
    | true => zeroC P t fun n dp d => ⟨fun _ K => K (.ob true n dp d) fun o => .c (.p o 0)⟩
    | false => ⟨fun _ _ => False⟩
  | .box t x => f_box P e t x
  | .buildSlice t len parts => f_buildSlice P e t len parts
  | .makeSlice t l c => f_makeSlice P e t l c
  | _ => ⟨fun _ _ => False⟩

def loadC (P : Program) (e : Nat) (t : TypeId) (x : Operand) : Bx (LdR e) :=
  match hasU P t with
  | true => match aggT P t with
    | true => (evC e x).bind fun g => fNB (szT P t) fun s => ⟨fun env H K => g env fun a => loadA s H a K⟩
    | false => (evC e x).bind fun g => ⟨fun env H K => g env fun a => load1 H a K⟩
  | false => ⟨fun _ _ _ => False⟩

def o_store (P : Program) (e : Nat) (t : TypeId) (x v : Operand) : Bx (OpR e) :=
  fNB (szT P t) fun s => match aggT P t with
  | true => match Nat.ble 1 s with
    | true => (evC e x).bind fun g => (evC e v).bind fun h => ⟨fun _ env H K => g env fun a => h env fun v => pO a fun o off => onA v fun dp d off' sz => iff (Nat.beq sz s) (storeA H o off dp d off' sz fun H => K (.c .un) H) False⟩
    | false => noOp e
  | false => match s with
    | 1 => (evC e x).bind fun g => (evC e v).bind fun h => ⟨fun _ env H K => g env fun a => h env fun v => pO a fun o off => onC v fun c => store1 H o off c fun H => K (.c .un) H⟩
    | _ => noOp e
def o_slice (P : Program) (e : Nat) (t : TypeId) (x : Operand) (lo hi mx : Option Operand) : Bx (OpR e) :=
  match elHM P t hi mx with
  | some el => (evC e x).bind fun x => (optC e lo).bind fun lo => (optC e hi).bind fun hi => (optC e mx).bind fun mx => fNB (szT P el) fun s => ⟨fun _ env H K => x env fun x => lo env fun lo => hi env fun hi => mx env fun mx => slS true s x lo hi mx H fun v => K v H⟩
  | none => noOp e

def biC (P : Program) (b : Builtin) (tys : List TypeId) : Bx (List V → Hp → KV → Prop) :=
  match tys with
  | t :: _ => match elT P t with
    | some el => fNB (szT P el) fun s => match b with
      | .append => match tys with
        | [_, u] => match P.underlying u with
          | some (.slice _) => fNB (byT P el) fun by_ => ⟨fun l H K => two l fun x y => listK s H y fun m vs => appendK by_ s H x m vs K⟩
          | some (.int _) => fNB (byT P el) fun by_ => ⟨fun l H K => two l fun x y => onS x (onN y fun k => iff (Nat.ble 1 k) (roomB by_ k (fN (Nat.mul k s) fun e => obL e (List.replicate k (zeroT P el)).flatten fun b => newS H k s b K)) False) False fun _ _ _ _ _ => False⟩
          | _ => ⟨fun _ _ _ => False⟩
        | _ => ⟨fun _ _ _ => False⟩
      | .copy => ⟨fun l H K => two l fun x y => copyK s x y H K⟩
      | .clear => ⟨fun l H K => one l fun x => clearK s (zeroT P el) x H K⟩
      | _ => ⟨fun _ _ _ => False⟩
    | none => ⟨fun _ _ _ => False⟩
  | _ => ⟨fun _ _ _ => False⟩

def o_call (P : Program) (e : Nat) (c : Call) : Bx (OpR e) :=
  match c.callee with
  | .builtin b => (evsC e c.args.toList).bind fun g => (biC P b c.argTypes.toList).bind fun h => ⟨fun _ env H K => g env fun args => h args H K⟩
  | .value f => match f with
    | .func f => match Eng.okFun P f with
      | true => (evsC e c.args.toList).bind fun g => ⟨fun call env H K => g env fun args => call f args H K⟩
      | false => noOp e
    | f => (evC e f).bind fun f => (evsC e c.args.toList).bind fun g => ⟨fun call env H K => f env fun f => g env fun args => callV P call f args H K⟩
  | _ => noOp e

/-- 0 pure, 1 a load, 2 a new object, 3 others. -/
def kindO : Op → Nat
  | .move _ | .assign _ | .pick .. | .build .. | .nilCheck _ | .binOp .. | .unOp .. | .convert .. | .makeFunc .. | .slice .. | .fieldAddr .. | .field .. | .indexAddr .. | .index .. | .extract .. => 0
  | .call { callee := .builtin .len, .. } | .call { callee := .builtin .cap, .. } | .call { callee := .builtin .min, .. } | .call { callee := .builtin .max, .. } => 0
  | .load .. => 1
  | .alloc _ | .box .. | .buildSlice .. | .makeSlice .. => 2
  | _ => 3

def otherC (P : Program) (e : Nat) (op : Op) : Bx (OpR e) :=
  match op with
  | .store t x v => o_store P e t x v
  | .call c => o_call P e c
  | .makeMap _ none => ⟨fun _ _ H K => newMap H K⟩
  | .range t x => match P.underlying t with
    | some (.map _ _) => (evC e x).bind fun g => ⟨fun _ env H K => g env fun x => rangeK H x K⟩
    | _ => noOp e
  | .next x false => (evC e x).bind fun g => ⟨fun _ env H K => g env fun x => nextK H x K⟩
  | _ => noOp e

def opC (P : Program) (e : Nat) (op : Op) : Bx (OpR e) :=
  match kindO op with
  | 0 => match op with
    | .slice t x lo hi mx => match P.underlying t with
      | some (.slice _) => o_slice P e t x lo hi mx
      | _ => (pureC P e op).bind fun g => ⟨fun _ env H K => g env fun v => K v H⟩
    | _ => (pureC P e op).bind fun g => ⟨fun _ env H K => g env fun v => K v H⟩
  | 1 => match op with
    | .load t x => (loadC P e t x).bind fun g => ⟨fun _ env H K => g env H fun v => K v H⟩
    | _ => noOp e
  | 2 => (freshC P e op).bind fun g => ⟨fun _ env H K => g env fun b f => newK H b fun o H => K (f o) H⟩
  | _ => otherC P e op

/-! ### Regions -/

abbrev CdR (e : Nat) := Cal → Env e → Hp → (Env e → Hp → Prop) → Prop
def noCd (e : Nat) : Bx (CdR e) := ⟨fun _ _ _ _ => False⟩

/-- A guard: on a bool it decides; on a temporary that was left out nothing is done. -/
def gdK (want : Bool) (x : V) (run skip : Prop) : Prop :=
  @V.rec (fun _ => Prop) (fun _ => PUnit) (fun x => @C.rec (fun _ => Prop) skip (fun b => @Bool.rec (fun _ => Prop) (@Bool.rec (fun _ => Prop) run skip want) (@Bool.rec (fun _ => Prop) skip run want) b) f2 False f2 False False f5 f3 f1 f1 x) fA fT ⟨⟩ fL x

def putC (e : Nat) : Option Tmp → Bx (Env e → V → (Env e → Prop) → Prop)
  | none => ⟨fun env _ K => K env⟩
  | some d => setE e d

def thenC (P : Program) (e : Nat) (all : List Oper) (o : Oper) (r : OpR e) (nx : CdR e) : Bx (CdR e) :=
  match o.guard with
  | none => (putC e o.dst).bind fun s => ⟨fun call env H K => r call env H fun v H => s env v fun env => nx call env H K⟩
  | some (j, want) => match Eng.dstOf all j with
    | some d => (getE e d).bind fun g => (putC e o.dst).bind fun s => ⟨fun call env H K => g env fun x => gdK want x (r call env H fun v H => s env v fun env => nx call env H K) (s env (.c .un) fun env => nx call env H K)⟩
    | none => noCd e

def opsC (P : Program) (e : Nat) (all : List Oper) (ops : List Oper) : Bx (CdR e) :=
  @List.rec Oper (fun _ => Bx (CdR e)) ⟨fun _ env H K => K env H⟩ (fun o _ ih => (opC P e o.op).bind fun r => ih.bind fun nx => thenC P e all o r nx) ops

end
end Go.Mx
