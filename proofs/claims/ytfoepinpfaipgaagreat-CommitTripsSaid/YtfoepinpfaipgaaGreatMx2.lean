/- The deterministic semantics: regions in any order, code, functions. -/
import Derived.Test.YtfoepinpfaipgaaGreatMx
set_option linter.unusedVariables false
namespace Go.Mx
noncomputable section

/-! ### Regions whose operations may come in any order -/

/-- Sets of numbers as bits. -/
def has (m i : Nat) : Bool := Nat.beq (Nat.land (Nat.shiftRight m i) 1) 1
def add (m i : Nat) : Nat := Nat.lor m (Nat.shiftLeft 1 i)
def inL : List Nat → Nat → Bool
  | [], _ => false
  | x :: l, i => Nat.beq x i || inL l i
def depsO (o : Oper) : List Nat := (o.after.toList.filter (Region.binds .any)).map (·.on)
def depsI (all : List Oper) (i : Nat) : List Nat := match all[i]? with | some o => depsO o | none => []
def kindI (all : List Oper) (i : Nat) : Nat := match all[i]? with | some o => kindO o.op | none => 3
def rdyI (all : List Oper) (E : Nat) (i : Nat) : Bool := !(has E i) && (depsI all i).all (has E)

/-- What each operation waits for, in all. -/
def ancsI : List (Nat × Nat) → Nat → Nat
  | [], _ => 0
  | p :: A, i => @Bool.rec (fun _ => Nat) (ancsI A i) p.2 (Nat.beq p.1 i)
def ancOf (A : List (Nat × Nat)) : List Nat → Nat
  | [] => 0
  | j :: l => Nat.lor (Nat.lor (Nat.shiftLeft 1 j) (ancsI A j)) (ancOf A l)
def fNat {γ : Type} (n : Nat) (K : Nat → γ) : γ := @Nat.rec (fun _ => γ) (K 0) (fun m _ => K (Nat.succ m)) n
def ancs (all : List Oper) : List Nat → List (Nat × Nat) → List (Nat × Nat)
  | [], A => A
  | i :: l, A => fNat (ancOf A (depsI all i)) fun m => ancs all l ((i, m) :: A)

def tmpO : Operand → List Tmp
  | .tmp t => [t]
  | _ => []
def readsO (all : List Oper) (o : Oper) : List Tmp := (o.op.operands.toList.flatMap tmpO) ++ (match o.guard with | some (j, _) => (match Eng.dstOf all j with | some d => [d] | none => []) | none => [])
def readsI (all : List Oper) (i : Nat) : List Tmp := match all[i]? with | some o => readsO all o | none => []

structure Step where
  i : Nat
  o : Oper
  chk : List Nat

abbrev Plan := List (Nat × List Nat)
/-- As it is written. -/
def plan0 (n : Nat) : Plan := (List.range n).map fun i => (i, [])
def stepsOf (all : List Oper) (p : Plan) : List Step := p.filterMap fun x => match all[x.1]? with
  | some o => some ⟨x.1, o, x.2⟩
  | none => none

/-- Is the order sound? The loads that an operation could disturb are looked at again; all that is left waits for it. -/
def okGo (all : List Oper) (A : List (Nat × Nat)) : Plan → Nat → Bool
  | [], E => (List.range all.length).all (has E)
  | (i, ch) :: p, E => rdyI all E i && (Nat.blt i all.length && ((!(Nat.beq (kindI all i) 3) || (List.range all.length).all (fun j => has E j && (!(Nat.beq (kindI all j) 1) || has (ancsI A i) j || inL ch j) || Nat.beq j i || has (ancsI A j) i)) && fNat (add E i) fun E => okGo all A p E))

def okTmp (all : List Oper) (A : List (Nat × Nat)) : Bool :=
  (List.range all.length).all fun j => match Eng.dstOf all j with
    | some t => (List.range all.length).all fun i => Nat.beq i j || !(inL (readsI all i) t || (match Eng.dstOf all i with | some s => Nat.beq s t | none => false)) || has (ancsI A i) j || has (ancsI A j) i
    | none => true

/-- Nor is what guards it. -/
def okLdG (all : List Oper) (A : List (Nat × Nat)) (l : Nat) (o : Oper) : Bool :=
  match o.guard with
  | none => true
  | some (j, _) => match Eng.dstOf all j with
    | some g => (List.range all.length).all fun i => match Eng.dstOf all i with
      | some t => !(Nat.beq t g) || has (ancsI A l) i
      | none => true
    | none => false

/-- The address of a load that is looked at again is not written behind it, nor is what it has loaded. -/
def okLd (all : List Oper) (A : List (Nat × Nat)) (l : Nat) : Bool :=
  match all[l]? with
    | some o => okLdG all A l o && (match o.op, o.dst with
      | .load _ (.tmp a), some d => !(Nat.beq a d) && (List.range all.length).all (fun j => match Eng.dstOf all j with
        | some t => (!(Nat.beq t a) || has (ancsI A l) j) && (!(Nat.beq t d) || Nat.beq j l)
        | none => true)
      | _, _ => false)
    | none => false

def okGd (all : List Oper) (A : List (Nat × Nat)) : Bool :=
  (List.range all.length).all fun i => match all[i]? with
    | some o => (match o.guard with
      | some (j, _) => has (ancsI A i) j && (Eng.dstOf all j).isSome
      | none => true)
    | none => true

/-- A plan for a region whose operations may come in any order. -/
def okPlan (all : List Oper) (p : Plan) : Bool :=
  okGo all (ancs all (p.map (·.1)) []) p 0 && (okTmp all (ancs all (p.map (·.1)) []) && (p.all (fun x => x.2.all (okLd all (ancs all (p.map (·.1)) []))) && okGd all (ancs all (p.map (·.1)) [])))

/-- Are two values the same? -/
def sameC (x y : C) (K : Prop) : Prop :=
  match x, y with
  | .b a, .b b => @Bool.rec (fun _ => Prop) (@Bool.rec (fun _ => Prop) K False b) (@Bool.rec (fun _ => Prop) False K b) a
  | .i k a, .i j b => iff (Nat.beq k j) (iff (eqI a b) K False) False
  | .np, .np => K
  | .p o q, .p o' q' => iff (Nat.beq o o') (iff (Nat.beq q q') K False) False
  | .ns, .ns => K
  | .s o q l z none, .s o' q' l' z' none => iff (Nat.beq o o') (iff (Nat.beq q q') (iff (Nat.beq l l') (iff (Nat.beq z z') K False) False) False) False
  | .s o q l z (some c), .s o' q' l' z' (some c') => iff (Nat.beq o o') (iff (Nat.beq q q') (iff (Nat.beq l l') (iff (Nat.beq z z') (iff (Nat.beq c c') K False) False) False) False) False
  | _, _ => False
def sameL : List C → List C → Prop → Prop
  | [], [], K => K
  | x :: xs, y :: ys, K => sameC x y (sameL xs ys K)
  | _, _, _ => False
def sameV (x y : V) (K : Prop) : Prop :=
  @V.rec (fun _ => Prop) (fun _ => PUnit) (fun c => onC y fun c' => sameC c c' K) (fun dp d o n => onA y fun dp' d' o' n' => iff (Nat.beq n n') (iff (Nat.ble (Nat.add o n) (Nat.pow 4 dp)) (cellsK dp d n o fun l => cellsK dp' d' n' o' fun l' => sameL l l' K) False) False) fT ⟨⟩ fL x

/-- The loads are looked at again. -/
def chkC (P : Program) (e : Nat) (all : List Oper) (l : List Nat) : Bx (Env e → Hp → Prop → Prop) :=
  @List.rec Nat (fun _ => Bx (Env e → Hp → Prop → Prop)) ⟨fun _ _ K => K⟩ (fun i _ ih => match all[i]? with
    | some o => (match o.op, o.dst with
    | .load t x, some d => (match o.guard with
      | none => (loadC P e t x).bind fun g => (getE e d).bind fun h => ih.bind fun nx => ⟨fun env H K => g env H fun v => h env fun u => sameV u v (nx env H K)⟩
      | some (j, want) => (match Eng.dstOf all j with
        | some gd => (getE e gd).bind fun gg => (loadC P e t x).bind fun g => (getE e d).bind fun h => ih.bind fun nx => ⟨fun env H K => gg env fun b => gdK want b (g env H fun v => h env fun u => sameV u v (nx env H K)) (nx env H K)⟩
        | none => ⟨fun _ _ _ => False⟩))
    | _, _ => ⟨fun _ _ _ => False⟩)
    | none => ⟨fun _ _ _ => False⟩) l

/-- An operation among those that come in any order: a slice is asked for no more than its length. -/
def opD (P : Program) (e : Nat) (op : Op) : Bx (OpR e) :=
  match kindO op with
  | 0 => (pureC P e op).bind fun g => ⟨fun _ env H K => g env fun v => K v H⟩
  | 1 => match op with
    | .load t x => (loadC P e t x).bind fun g => ⟨fun _ env H K => g env H fun v => K v H⟩
    | _ => noOp e
  | 2 => (freshC P e op).bind fun g => ⟨fun _ env H K => g env fun b f => newK H b fun o H => K (f o) H⟩
  | _ => otherC P e op

def chkN (P : Program) (e : Nat) (all : List Oper) (l : List Nat) (nx : CdR e) : Bx (CdR e) := match l with
  | [] => ⟨nx⟩
  | l => (chkC P e all l).bind fun c => ⟨fun call env H K => c env H (nx call env H K)⟩

def stepsC (P : Program) (e : Nat) (all : List Oper) (l : List Step) : Bx (CdR e) :=
  @List.rec Step (fun _ => Bx (CdR e)) ⟨fun _ env H K => K env H⟩ (fun s _ ih => (opD P e s.o.op).bind fun r => ih.bind fun nx => (chkN P e all s.chk nx).bind fun nx => thenC P e all s.o r nx) l

/-- The plan of a region: that of a table, or as it is written. -/
abbrev Plans := Nat → Option Plan
def planOf (Z : Plans) (id n : Nat) : Plan := match Z id with
  | some p => p
  | none => plan0 n
def drawC (P : Program) (e : Nat) (Z : Plans) (id : Nat) (all : List Oper) : Bx (CdR e) := stepsC P e all (stepsOf all (planOf Z id all.length))

/-! ### Code -/

inductive Ex where
  | nrm | exit (k : Nat) | ret

abbrev KE (e : Nat) := Ex → Env e → Hp → Prop
abbrev CoR (e : Nat) := Cal → Env e → Hp → KE e → Prop
def noCo (e : Nat) : Bx (CoR e) := ⟨fun _ _ _ _ => False⟩

def kSeq {e : Nat} (b : Env e → Hp → Prop) (K : KE e) (x : Ex) (env : Env e) (H : Hp) : Prop := @Ex.rec (fun _ => Prop) (b env H) (fun k => K (.exit k) env H) (K .ret env H) x
def kBlock {e : Nat} (id : Nat) (K : KE e) (x : Ex) (env : Env e) (H : Hp) : Prop := @Ex.rec (fun _ => Prop) (K .nrm env H) (fun k => @Bool.rec (fun _ => Prop) (K (.exit k) env H) (K .nrm env H) (Nat.beq k id)) (K .ret env H) x
def loopK {e : Nat} (f : Nat) (body : Env e → Hp → KE e → Prop) (K : KE e) : Env e → Hp → Prop :=
  @Nat.rec (fun _ => Env e → Hp → Prop) (fun _ _ => False) (fun _ ih env H => body env H (kSeq ih K)) f

def codeC (P : Program) (e : Nat) (Z : Plans) : Code → Bx (CoR e)
  | .skip => ⟨fun _ env H K => K .nrm env H⟩
  | .region id ops draw => match draw with
    | true => (drawC P e Z id ops.toList).bind fun r => ⟨fun call env H K => r call env H (K .nrm)⟩
    | false => (opsC P e ops.toList ops.toList).bind fun r => ⟨fun call env H K => r call env H (K .nrm)⟩
  | .seq a b => (codeC P e Z a).bind fun a => (codeC P e Z b).bind fun b => ⟨fun call env H K => a call env H (kSeq (fun env H => b call env H K) K)⟩
  | .cond o a b => (evC e o).bind fun g => (codeC P e Z a).bind fun a => (codeC P e Z b).bind fun b => ⟨fun call env H K => g env fun x => onB x (a call env H K) (b call env H K)⟩
  | .block id c => (codeC P e Z c).bind fun c => ⟨fun call env H K => c call env H (kBlock id K)⟩
  | .loop c => (codeC P e Z c).bind fun c => ⟨fun call env H K => loopK 1000000 (c call) K env H⟩
  | .exit id => ⟨fun _ env H K => K (.exit id) env H⟩
  | .ret => ⟨fun _ env H K => K .ret env H⟩
  | _ => noCo e

/-- All plans are sound. -/
def okCode (Z : Plans) : Code → Bool
  | .region id ops draw => match draw with
    | true => okPlan ops.toList (planOf Z id ops.toList.length)
    | false => true
  | .seq a b => okCode Z a && okCode Z b
  | .cond _ a b => okCode Z a && okCode Z b
  | .block _ c => okCode Z c
  | .loop c => okCode Z c
  | _ => true

/-! ### Functions -/

def resC (P : Program) (e : Nat) (rs : List ResultVar) : Bx (Env e → Hp → (List V → Prop) → Prop) :=
  @List.rec ResultVar (fun _ => Bx (Env e → Hp → (List V → Prop) → Prop)) ⟨fun _ _ K => K []⟩
    (fun r _ ih => match r with
      | .tmp t => (getE e t).bind fun g => ih.bind fun h => ⟨fun env H K => g env fun v => h env H fun vs => K (v :: vs)⟩
      | .cell a t => (loadC P e t (.tmp a)).bind fun l => ih.bind fun h => ⟨fun env H K => l env H fun v => h env H fun vs => K (v :: vs)⟩) rs

def envK (e : Nat) (args : List V) : Nat → Env e → (Env e → Prop) → Prop :=
  @List.rec V (fun _ => Nat → Env e → (Env e → Prop) → Prop) (fun _ t K => K t) (fun v _ ih i t K => (setE e i).go t v fun t => ih (Nat.succ i) t K) args

/-- No tuples among the results. -/
def noT : List V → Bool
  | [] => true
  | v :: vs => match v with
    | .t _ => false
    | _ => noT vs
def retK (vs : List V) (H : Hp) (K : KV) : Prop := match vs with
  | [v] => K v H
  | vs => iff (noT vs) (K (.t vs) H) False

abbrev Sm := FuncId → Option (List V → Hp → KV → Prop)
abbrev FnR := Cal → List V → Hp → KV → Prop
def env0 (e : Nat) : Env e := uni (.c .un) (dpN e)

def fnC (P : Program) (S : Sm) (Z : FuncId → Plans) (f : FuncId) : Bx FnR :=
  match S f with
  | some g => ⟨fun _ args H K => g args H K⟩
  | none => match P.funcs[f]? with
    | some fn => match fn.body with
      | some c => fNB fn.ntmps fun e => match Nat.ble e 16384 with
        | false => ⟨fun _ _ _ _ => False⟩
        | true => (codeC P e (Z f) c).bind fun c => (resC P e fn.results.toList).bind fun r => ⟨fun call args H K => iff (Nat.ble args.length e) (envK e args 0 (env0 e) fun env => c call env H fun x env H => @Ex.rec (fun _ => Prop) (r env H fun vs => retK vs H K) (fun _ => False) (r env H fun vs => retK vs H K) x) False⟩
      | none => ⟨fun _ _ _ _ => False⟩
    | none => ⟨fun _ _ _ _ => False⟩

def callK (P : Program) (S : Sm) (Z : FuncId → Plans) (fuel : Nat) : Cal :=
  @Nat.rec (fun _ => Cal) (fun _ _ _ _ => False) (fun _ ih f args H K => (fnC P S Z f).go ih args H K) fuel

def hp0 : Hp := ⟨0, uni .dead 7⟩

end
end Go.Mx
