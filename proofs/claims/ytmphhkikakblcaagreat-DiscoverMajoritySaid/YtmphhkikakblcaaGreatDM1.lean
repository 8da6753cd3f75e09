/- DiscoverMajority: the nodes' states, and what the semantics says of all of them. -/
import Derived.Test.YtmphhkikakblcaaGreatAwk11
set_option linter.unusedVariables false
namespace Go.Mx
open Go.Eng Go.Proofs Go.Proofs.YtmphhkikakblcaaGreat

def needD : List Nat := [3, 4, 5, 7, 8, 9, 10, 11, 12, 13, 14, 15, 16, 17, 18, 19, 20, 21, 22, 23, 24, 25, 26, 27, 28, 29, 30, 31, 32, 33, 34, 35, 36, 37, 38, 39, 40, 41, 42, 43, 44, 45, 46, 47, 48, 49, 50, 51, 52, 53, 54, 55, 56, 57, 58, 59, 60, 61, 62, 63, 64, 65, 66, 67, 68, 69, 70, 71, 72, 73, 74, 75, 76, 78, 79, 80, 81, 82, 83, 84, 85, 86, 87, 88, 89, 90, 91, 92, 93, 94, 95, 96, 97, 98, 99, 101, 102, 103, 104, 105, 106, 107, 108, 109, 110, 111, 112, 113, 115, 116, 117, 118, 119]
theorem needD_ok : needD.all (okF Tryz.prog plans) = true := by kernel_rfl

noncomputable section
def cD : Cal := callK Tryz.prog (onlyF needD S0) plans 60
theorem cD_ok (w0 : Bs) : CallOk Tryz.prog w0 cD := callK_sound (draw_ok mix) (onlyF_sum (S0_ok w0)) (onlyF_ok needD_ok) 60

abbrev iV (n : Nat) : V := .c (.i 3 (.ofNat n))

def unitK (v : V) (K : Prop) : Prop := onT v fun l => match l with
  | [] => K
  | _ => False

/-- One node: 0 it is up, 1 it fails, 2 it fails and comes back. -/
def upK (fv : V) (i : Nat) (H : Hp) (K : Bool → Hp → Prop) : Prop := cD 7 [fv, iV i] H fun p H => pO p fun _ _ => cD 10 [p] H fun r H => onB r (K true H) (K false H)
def failK (fv : V) (i : Nat) (H : Hp) (K : Hp → Prop) : Prop := cD 7 [fv, iV i] H fun p H => pO p fun _ _ => cD 8 [p] H fun v H => unitK v (K H)
def backK (fv : V) (i : Nat) (H : Hp) (K : Hp → Prop) : Prop := cD 7 [fv, iV i] H fun p H => pO p fun _ _ => cD 9 [p] H fun v H => onB v (K H) (K H)

def nodeK (fv : V) (i s : Nat) (H : Hp) (K : Bool → Hp → Prop) : Prop :=
  match s with
  | 0 => upK fv i H K
  | 1 => failK fv i H fun H => upK fv i H K
  | _ => failK fv i H fun H => backK fv i H fun H => upK fv i H K

def add1 (b : Bool) (n : Nat) : Nat := match b with
  | true => Nat.succ n
  | false => n

/-- The nodes from i on: each in its state, or in all three. -/
def goT (fv : V) (leaf : Nat → Bool → Hp → Prop) : List (Option Nat) → Nat → Nat → Bool → Hp → Prop
  | [], _, up, all, H => leaf up all H
  | some s :: l, i, up, all, H => nodeK fv i s H fun r H => fN (add1 r up) fun up => fN (Nat.succ i) fun i => goT fv leaf l i up (match s with | 0 => all | _ => false) H
  | none :: l, i, up, all, H =>
    (nodeK fv i 0 H fun r H => fN (add1 r up) fun up => fN (Nat.succ i) fun i => goT fv leaf l i up all H) ∧
    (nodeK fv i 1 H fun r H => fN (add1 r up) fun up => fN (Nat.succ i) fun i => goT fv leaf l i up false H) ∧
    (nodeK fv i 2 H fun r H => fN (add1 r up) fun up => fN (Nat.succ i) fun i => goT fv leaf l i up false H)

def andT : List (Option Nat) → Prop
  | [] => True
  | some _ :: l => andT l
  | none :: l => andT l ∧ andT l ∧ andT l

theorem andT_true : ∀ l, andT l
  | [] => trivial
  | some _ :: l => andT_true l
  | none :: l => ⟨andT_true l, andT_true l, andT_true l⟩
end
end Go.Mx
