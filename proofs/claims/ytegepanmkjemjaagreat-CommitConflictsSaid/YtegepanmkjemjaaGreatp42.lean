import Derived.Test.YtegepanmkjemjaaGreatp41
set_option linter.unusedVariables false
namespace Go.Proofs.YtegepanmkjemjaaGreat
open Go.Eng C12
set_option maxRecDepth 100000 in
theorem AN:tf 1 0=true:=by kernel_rfl
set_option maxRecDepth 100000 in
theorem AO:tf 1 7=true:=by kernel_rfl
set_option maxRecDepth 100000 in
theorem AP:tf 2 0=true:=by kernel_rfl
set_option maxRecDepth 100000 in
theorem AQ:tf 2 7=true:=by kernel_rfl
set_option maxRecDepth 100000 in
theorem AR:tf 3 0=true:=by kernel_rfl
set_option maxRecDepth 100000 in
theorem AS:tf 3 7=true:=by kernel_rfl
theorem AT {n a k:Nat} (hn:1≤n∧n≤3) (ha:a<14) (hk:k<(bK a).length) (neg:Bool):qY (Fab.fresh n 6 100)=true∧y6 n a k neg=true:=by
 have h:∀ lo,lo=0∨lo=7→tf n lo=true:=by
  obtain rfl | rfl | rfl:n=1∨n=2∨n=3:=by omega
  ·rintro lo (rfl | rfl)
   ·exact AN
   ·exact AO
  ·rintro lo (rfl | rfl)
   ·exact AP
   ·exact AQ
  ·rintro lo (rfl | rfl)
   ·exact AR
   ·exact AS
 obtain ⟨lo,q,hlo,rfl,hq⟩:∃ lo q,(lo=0∨lo=7)∧a=lo+q∧q<7:=by
  by_cases hlt:a<7
  ·exact ⟨0,a,.inl rfl,by omega,hlt⟩
  ·exact ⟨7,a - 7,.inr rfl,by omega,by omega⟩
 have h:=h lo hlo
 simp only [tf,Bool.and_eq_true,List.all_eq_true,List.mem_range] at h
 refine ⟨h.1,?_⟩
 cases neg
 ·exact (h.2 q hq k hk).1
 ·exact (h.2 q hq k hk).2
theorem y8:xJ:=λn a k hn ha hk neg sch=>by
 obtain ⟨hq,hb⟩:=AT hn ha hk neg
 unfold y6 at hb
 cases hd:qZ 0 (Fab.fresh n 6 100) (vJ n a k neg) with
 |none=>rw [hd] at hb;cases hb
 |some e=>
  rw [hd] at hb
  simp only [Bool.and_eq_true,List.all_eq_true,List.mem_range,beq_iff_eq] at hb
  obtain ⟨h1,h2,h3,h5⟩:=hb
  have hf:Fine (Fab.fresh n 6 100):=Fine.fresh (by omega) (by omega) (by omega)
  have hdr:=sW hf hq rfl hd sch (Nat.le_refl 3000)
  refine ⟨e,hdr,?_,h1,h2,h3,BG h5⟩
  have:=Fine.drive hf [vJ n a k neg] sch [] 3000
  rw [hdr] at this
  exact this
end Go.Proofs.YtegepanmkjemjaaGreat
