/- DiscoverMajority: all states of four nodes, and of three; the first one's is given. -/
import Derived.Test.YtmphhkikakblcaaGreatDM2
set_option linter.unusedVariables false
namespace Go.Mx
open Go.Eng Go.Proofs Go.Proofs.YtmphhkikakblcaaGreat

theorem e4_2 : runM 4 [some 2, none, none, none] = andT [some 2, none, none, none] := by kernel_rfl
theorem r4_2 : runM 4 [some 2, none, none, none] := by
  rw [e4_2]
  exact andT_true _
theorem e3 : runM 3 [none, none, none] = andT [none, none, none] := by kernel_rfl
theorem r3 : runM 3 [none, none, none] := by
  rw [e3]
  exact andT_true _
end Go.Mx
