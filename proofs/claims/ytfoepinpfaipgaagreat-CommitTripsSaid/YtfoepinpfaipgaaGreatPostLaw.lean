/- How a law's row is shut: nothing that was there has changed, and the result is true. -/
import Derived.Test.YtfoepinpfaipgaaGreatLt
import Derived.Test.YtfoepinpfaipgaaGreatRows
import Derived.WalkKit
import Derived.ProofKit
import Derived.OpenShut
set_option linter.unusedVariables false
namespace Go.Proofs.YtfoepinpfaipgaaGreat
open Go.ChangeShapes Go.WideShapes Go.ChangeAt Go.RowKit

theorem laid : laidOutB Tryz.prog = true := by kernel_rfl
theorem ownKn : ownKnob Tryz.prog.godebug = none := by kernel_rfl

theorem trodAll_stays {H : Type} {enc : TypeId × Value → H} {W W' : World} {sp : Nat → Bool} : ∀ {ts : List TypeId} {vs : List Value} {ds : List (DataW H)} {ps : List MemPlace}, (∀ t ∈ ts, Tryz.prog.readableRec t = true ∧ t < Tryz.prog.types.size) → DataW.TrodAll enc Tryz.prog W 0 (fun _ => true) true ts vs ds ps →
    (∀ p ∈ ps, W.sameAt W' p) → (∀ p ∈ ps, sp p.block = true) → DataW.TrodAll enc Tryz.prog W' 0 sp true ts vs ds ps
  | [], _, _, _, _, h, _, _ => by
    obtain ⟨rfl, rfl, rfl⟩ := trodAll_nil h
    exact trodAll_mk0
  | t :: ts, _, _, _, ht, h, hs, hp => by
    obtain ⟨v, vs1, d, ds1, a, b, rfl, rfl, rfl, h1, h2⟩ := trodAll_cons h
    refine trodAll_cons_mk (WideElems.Trod_stays laid (ht t List.mem_cons_self).1 (ht t List.mem_cons_self).2 h1 (fun p hq => hs p (List.mem_append_left _ hq)) fun p hq => hp p (List.mem_append_left _ hq)) ?_
    exact trodAll_stays (fun t h => ht t (List.mem_cons_of_mem _ h)) h2 (fun p hq => hs p (List.mem_append_right _ hq)) fun p hq => hp p (List.mem_append_right _ hq)

/-- What a law's row asks behind the call. -/
theorem law_post {H : Type} {enc : TypeId × Value → H} {f : Func} {s : ChangeSpec} {apart : Bool} {W W' : World} {args : Array Value} {ds gs : List (DataW H)} {before : List MemPlace} {tb : TypeId} (hW : DataW.Whole enc Tryz.prog f.params.toList s.vars apart W args.toList ds gs before)
    (hb : Go.Eng.New W W') (hts : ∀ t ∈ f.params.toList, Tryz.prog.readableRec t = true ∧ t < Tryz.prog.types.size) (hv : s.vars = []) (hfn : s.fn H (ds ++ gs) = { results := [.lit (.bool true)], args := ds }) (hr : f.resultTypes = #[tb]) (htb : Tryz.prog.underlying tb = some .bool) :
    s.post enc Tryz.prog f apart true false false W args (.bool true) W' := by
  have hB : Below W.heap.size W W' := hb.below (Nat.le_refl _) fun _ _ h => h
  have hlt := hW.lt
  have hW0 := hW
  obtain ⟨p, q, hA, hV, rfl, hfz, hnd⟩ := hW
  refine ⟨ds, gs, p ++ q, [], p, [], hW0, ?_, ?_, ?_, hB.frame _, fun h => by cases h⟩
  · rw [hfn, hr]
    exact trodAll_cons_mk (shut_bool htb _) trodAll_mk0
  · rw [hfn]
    exact trodAll_stays hts hA (fun x hx => hB.same (hlt x (List.mem_append_left _ hx))) fun x hx => by simpa using hlt x (List.mem_append_left _ hx)
  · rw [hfn, hv]
    rfl

theorem i64_of {n : Int} (h : (Lit.int .i64 n).wf = true) : I64 n := by have := bounds_i64 h; exact ⟨this.1, by omega⟩
theorem u64_of {n : Int} (h : (Lit.int .u64 n).wf = true) : U64 n := by have := bounds_u64 h; exact ⟨this.1, by omega⟩
end Go.Proofs.YtfoepinpfaipgaaGreat
