import Derived.Test.YtegepanmkjemjaaGreatr34
set_option linter.unusedVariables false
namespace Go.Proofs.YtegepanmkjemjaaGreat
open Go.Eng C12
set_option maxRecDepth 100000 in
theorem CK:((List.range 4).all λq=>rdA 3 (0+q))=true:=by kernel_rfl
set_option maxRecDepth 100000 in
theorem CL:((List.range 4).all λq=>rdA 3 (4+q))=true:=by kernel_rfl
set_option maxRecDepth 100000 in
theorem CM:((List.range 3).all λq=>rdA 3 (8+q))=true:=by kernel_rfl
set_option maxRecDepth 100000 in
theorem BR:((List.range 3).all λq=>rdA 3 (11+q))=true:=by kernel_rfl
theorem rdG3 {w:Nat} (hw:w<14):rdA 3 w=true:=by
 have h0:=CK
 have h4:=CL
 have h8:=CM
 have h11:=BR
 simp only [List.all_eq_true,List.mem_range] at h0 h4 h8 h11
 by_cases h:w<4
 ·have:=h0 w h
  rwa [Nat.zero_add] at this
 ·by_cases h2:w<8
  ·have:=h4 (w - 4) (by omega)
   rwa [show 4+(w - 4)=w by omega] at this
  ·by_cases h3:w<11
   ·have:=h8 (w - 8) (by omega)
    rwa [show 8+(w - 8)=w by omega] at this
   ·have:=h11 (w - 11) (by omega)
    rwa [show 11+(w - 11)=w by omega] at this
end Go.Proofs.YtegepanmkjemjaaGreat
