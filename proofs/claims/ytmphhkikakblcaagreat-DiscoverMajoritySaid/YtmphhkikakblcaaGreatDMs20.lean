/- DiscoverMajority: all states of five nodes of which the first two are given. -/
import Derived.Test.YtmphhkikakblcaaGreatDM2
set_option linter.unusedVariables false
namespace Go.Mx
open Go.Eng Go.Proofs Go.Proofs.YtmphhkikakblcaaGreat

theorem e5_20 : runM 5 [some 2, some 0, none, none, none] = andT [some 2, some 0, none, none, none] := by kernel_rfl
theorem r5_20 : runM 5 [some 2, some 0, none, none, none] := by
  rw [e5_20]
  exact andT_true _
end Go.Mx
