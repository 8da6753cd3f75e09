/- Views that come in. -/
import Derived.Test.YtppcleiekdbndaaGreatHand
set_option linter.unusedVariables false
namespace Go.Proofs.YtppcleiekdbndaaGreat
open Go.Eng

/-- A view as it is handed in. -/
structure VIn (w : World) (r : ApiViewR) (v : Vw) : Prop where
  num : r.Number = v.number
  len : r.Members_l = v.mem.length
  cap : r.Members_l ≤ r.Members_c
  rd : Rd w r.Members (mrows v.mem).flatten

theorem VIn.at {w : World} {r : ApiViewR} {v : Vw} (h : VIn w r v) (hs : v.mem.length ≤ 1000000) : ViewAt NoM w r v := ⟨h.num, h.len, h.cap, h.rd, .inr (offNo _), hs⟩

end Go.Proofs.YtppcleiekdbndaaGreat
