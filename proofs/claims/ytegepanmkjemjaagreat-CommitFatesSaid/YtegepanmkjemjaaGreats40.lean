import Derived.Test.YtegepanmkjemjaaGreats37
set_option linter.unusedVariables false
namespace Go.Proofs.YtegepanmkjemjaaGreat
open Go.Eng C12
set_option maxRecDepth 100000 in
theorem CU:((List.range 14).all λa=>(List.range 1).all λi=>zb 1 a i)=true:=by kernel_rfl
set_option maxRecDepth 100000 in
theorem CV:((List.range 14).all λa=>(List.range 2).all λi=>zb 2 a i)=true:=by kernel_rfl
set_option maxRecDepth 100000 in
theorem CW:((List.range 14).all λa=>(List.range 3).all λi=>zb 3 a i)=true:=by kernel_rfl
theorem AD:sX:=B9 λn a i hn ha hi=>by
 have h1:=CU
 have h2:=CV
 have h3:=CW
 simp only [List.all_eq_true,List.mem_range] at h1 h2 h3
 obtain rfl | rfl | rfl:n=1∨n=2∨n=3:=by omega
 ·exact h1 a ha i hi
 ·exact h2 a ha i hi
 ·exact h3 a ha i hi
end Go.Proofs.YtegepanmkjemjaaGreat
