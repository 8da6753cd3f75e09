/- DiscoverMajority: the conversation at the end, and what a call of the semantics says. -/
import Derived.Test.YtmphhkikakblcaaGreatDM1
set_option linter.unusedVariables false
namespace Go.Mx
open Go.Eng Go.Proofs Go.Proofs.YtmphhkikakblcaaGreat

/-- The conversation's record. -/
def talkL (n : Nat) : List Value := [.int .i64 1, .int .i64 0, .int .i64 n, .int .i64 0, .int .i64 0, .int .i64 0, .int .i64 0, .int .u64 0, .slice none 0 0, .bool false, .bool false, .int .i64 0, .int .i64 0, .slice none 0 0, .int .i64 0, .slice none 0 0, .int .u64 0]

noncomputable section
def okS (status : Int) (all : Bool) : Bool := match all with
  | true => eqI status 1
  | false => eqI status 3

def finK (n : Nat) (fv : V) (up : Nat) (all : Bool) (H : Hp) (t : V) : Prop :=
  onA t fun dp d o sz => iff (Nat.beq sz 17) (cellsK dp d 17 o fun l => match l with
    | [.i 3 _, .i 3 _, .i 3 _, .i 3 _, .i 3 _, .i 3 _, .i 3 _, .i 7 _, g, .b over, .b _, .i 3 code, .i 3 _, mem, .i 3 status, doors, .i 7 _] =>
      iff (okW g) (iff (okW mem) (iff (okW doors) (iff over (iff (Nat.ble (Nat.mul 2 up) n) (iff (eqI code 9) (cD 12 [fv, iV 0] H fun v _ => onI v fun k z => iff (Nat.beq k 3) (iff (eqI z 1) True False) False) False)
        (iff (eqI code 0) (iff (okS status all) (iff (Nat.beq (lenW mem) n) True False) False) False)) False) False) False) False
    | _ => False) False

def leafK (n : Nat) (fv : V) (up : Nat) (all : Bool) (H : Hp) : Prop :=
  putsK 3 ((talkL n).map cv1) (uni .un 3) 0 fun d => cD 11 [fv, .a 3 d 0 17] H fun t H => finK n fv up all H t

/-- All states of so many nodes, of which some are given. -/
def runM (n : Nat) (pre : List (Option Nat)) : Prop :=
  cD 5 [iV n, iV 1, iV 98] hp0 fun v H => onT v fun l => match l with
    | [.c (.p o off), .c (.b ok)] => iff ok (goT (.c (.p o off)) (leafK n (.c (.p o off))) pre 0 0 true H) False
    | _ => False
end

theorem e1 : runM 1 [none] = andT [none] := by kernel_rfl
theorem r1 : runM 1 [none] := by
  rw [e1]
  exact andT_true _
theorem e2 : runM 2 [none, none] = andT [none, none] := by kernel_rfl
theorem r2 : runM 2 [none, none] := by
  rw [e2]
  exact andT_true _
end Go.Mx
