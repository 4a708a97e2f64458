/- PROVED: the law ClockAgree of layer 16 answers true, and leaves its arguments as they were, whatever they are: Two readings that agree are trusted, whatever was. Its conditions: none beyond the form's own reach. -/
import Derived.Test.YtcnjaeeghfmkfaaRowClockAgree
import Derived.Test.YtcnjaeeghfmkfaaClockLaws
namespace Go.Proofs.Ytcnjaeeghfmkfaa
open Go.RowKit Go.Proofs.YtcnjaeeghfmkfaaW.PrintWords Go.Proofs.Ytcnjaeeghfmkfaa.C Go.Proofs.Ytcnjaeeghfmkfaa.Par Go.Proofs.Ytcnjaeeghfmkfaa.Clock
theorem walkClockAgree : WalkClockAgree := by
  intro x0 x1 x2 w w0 _w1 _w2
  refine (newellaw16_ClockAgree.calls 9 x0.f0 x0.f1 x0.f2 x0.f3 x1 x2 true w (agree_pure x0.f0 x0.f1 x0.f2 x0.f3 x1 x2 (wf_in w0.2.2.1) (wf_in w0.2.2.2))).mono ?_
  rintro e w' ⟨rfl, hb⟩
  exact ⟨rfl, hb⟩
theorem clockAgree_holds : Rows.ClockAgreeSaid := RowClockAgree.row walkClockAgree
#print axioms clockAgree_holds
end Go.Proofs.Ytcnjaeeghfmkfaa
