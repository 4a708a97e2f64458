/- PROVED: the law ClockOdd of layer 16 answers true, and leaves its arguments as they were, whatever they are: One reading that is far off changes nothing that is trusted. Its conditions: none beyond the form's own reach. -/
import Derived.Test.YtcnjaeeghfmkfaaRowClockOdd
import Derived.Test.YtcnjaeeghfmkfaaClockLaws
namespace Go.Proofs.Ytcnjaeeghfmkfaa
open Go.RowKit Go.Proofs.YtcnjaeeghfmkfaaW.PrintWords Go.Proofs.Ytcnjaeeghfmkfaa.C Go.Proofs.Ytcnjaeeghfmkfaa.Par Go.Proofs.Ytcnjaeeghfmkfaa.Clock
theorem walkClockOdd : WalkClockOdd := by
  intro x0 x1 w w0 w1
  refine (newellaw16_ClockOdd.calls 6 x0.f0 x0.f1 x0.f2 x0.f3 x1 true w (odd_pure x0.f0 x0.f1 x0.f2 x0.f3 x1 (wf_in w0.2.2.1) (wf_in w0.2.2.2) (wf_in w1))).mono ?_
  rintro e w' ⟨rfl, hb⟩
  exact ⟨rfl, hb⟩
theorem clockOdd_holds : Rows.ClockOddSaid := RowClockOdd.row walkClockOdd
#print axioms clockOdd_holds
end Go.Proofs.Ytcnjaeeghfmkfaa
