/- PROVED: the law ClockGoes of layer 16 answers true, and leaves its arguments as they were, whatever they are: Readings that go on are trusted, each of them. Its conditions: none beyond the form's own reach. -/
import Derived.Test.YtcnjaeeghfmkfaaRowClockGoes
import Derived.Test.YtcnjaeeghfmkfaaClockLaws
namespace Go.Proofs.Ytcnjaeeghfmkfaa
open Go.RowKit Go.Proofs.YtcnjaeeghfmkfaaW.PrintWords Go.Proofs.Ytcnjaeeghfmkfaa.C Go.Proofs.Ytcnjaeeghfmkfaa.Par Go.Proofs.Ytcnjaeeghfmkfaa.Clock
theorem walkClockGoes : WalkClockGoes := by
  intro x0 x1 A1 c1 w w0 _w1 l1 g1
  refine (newellaw16_ClockGoes.calls 300 x0.f0 x0.f1 x0.f2 x0.f3 A1 c1 x1 true w g1 l1 (goes_pure x0.f0 x0.f1 x0.f2 x0.f3 x1 (wf_in w0.2.2.1) (wf_in w0.2.2.2))).mono ?_
  rintro e w' ⟨rfl, hb⟩
  exact ⟨rfl, hb⟩
theorem clockGoes_holds : Rows.ClockGoesSaid := RowClockGoes.row walkClockGoes
#print axioms clockGoes_holds
end Go.Proofs.Ytcnjaeeghfmkfaa
