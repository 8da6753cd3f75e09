/- The formulas of the functions, printed by gencode.py; each is checked by the kernel. -/
import Derived.Test.YtppcleiekdbndaaGreatProg
import Derived.Test.YtppcleiekdbndaaGreatRec
set_option linter.unusedVariables false
namespace Go.Proofs.YtppcleiekdbndaaGreat
open Go.Eng
/-- bodega/bodegaref1.InHeap -/
theorem bodegaref1_InHeap_vc (p0 p1 : Int) (w : World) (R : Value → World → Prop) : fnW Tryz.prog Tryz.f186 [(.int .i64 p0), (.int .i64 p1)] R w = ((bif (decide ((p1 : Int) ≥ 98)) then ((bif (decide ((p1 : Int) ≤ 256)) then ((bif (decide ((p0 : Int) ≥ 96)) then (R (.bool (decide ((p0 : Int) < p1))) w) else (R (.bool false) w))) else (R (.bool false) w))) else (R (.bool false) w))) := by kernel_rfl
/-- bodega/layout.InHeap -/
theorem layout_InHeap_vc (p0 p1 : Int) (w : World) (R : Value → World → Prop) : fnW Tryz.prog Tryz.f216 [(.int .i64 p0), (.int .i64 p1)] R w = (Calls Tryz.prog 243 #[(.int .i64 p1)] w fun e w1 => ∃ a, e = .returned (.bool a) ∧ (bif a then ((bif (decide ((p0 : Int) ≥ 96)) then (R (.bool (decide ((p0 : Int) < p1))) w1) else (R (.bool false) w1))) else (R (.bool false) w1))) := by kernel_rfl
/-- bodega/layout.isLines -/
theorem layout_isLines_vc (p0 : Int) (w : World) (R : Value → World → Prop) : fnW Tryz.prog Tryz.f243 [(.int .i64 p0)] R w = ((bif (decide ((p0 : Int) ≥ 98)) then (R (.bool (decide ((p0 : Int) ≤ 256))) w) else (R (.bool false) w))) := by kernel_rfl
end Go.Proofs.YtppcleiekdbndaaGreat
