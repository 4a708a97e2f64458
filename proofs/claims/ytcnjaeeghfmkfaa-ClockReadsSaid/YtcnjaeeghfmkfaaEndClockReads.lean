/- PROVED: the law ClockReads of layer 16 answers true, and leaves its arguments as they were, whatever they are: What any reading makes of any clock, and whether it is trusted, is the document's. Its conditions: none beyond the form's own reach. -/
import Derived.Test.YtcnjaeeghfmkfaaRowClockReads
import Derived.Test.YtcnjaeeghfmkfaaClockLaws
namespace Go.Proofs.Ytcnjaeeghfmkfaa
open Go.RowKit Go.Proofs.YtcnjaeeghfmkfaaW.PrintWords Go.Proofs.Ytcnjaeeghfmkfaa.C Go.Proofs.Ytcnjaeeghfmkfaa.Par Go.Proofs.Ytcnjaeeghfmkfaa.Clock
theorem walkClockReads : WalkClockReads := by
  intro x0 x1 w w0 w1
  refine (newellaw16_ClockReads.calls 5 x0.f0 x0.f1 x0.f2 x0.f3 x1 true w (reads_pure x0.f0 x0.f1 x0.f2 x0.f3 x1 (wf_in w0.2.2.1) (wf_in w0.2.2.2) (wf_in w1))).mono ?_
  rintro e w' ⟨rfl, hb⟩
  exact ⟨rfl, hb⟩
theorem clockReads_holds : Rows.ClockReadsSaid := RowClockReads.row walkClockReads
#print axioms clockReads_holds
end Go.Proofs.Ytcnjaeeghfmkfaa
