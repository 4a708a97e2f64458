/- PROVED: the law ClockStays of layer 16 answers true, and leaves its arguments as they were, whatever they are: What is trusted is the last reading that was; it goes back only to where a candidate stood, or behind that. Its conditions: none beyond the form's own reach. -/
import Derived.Test.YtcnjaeeghfmkfaaRowClockStays
import Derived.Test.YtcnjaeeghfmkfaaLawClockStays
namespace Go.Proofs.Ytcnjaeeghfmkfaa
open Go.RowKit Go.Proofs.YtcnjaeeghfmkfaaW.PrintWords Go.Proofs.Ytcnjaeeghfmkfaa.D Go.Proofs.Ytcnjaeeghfmkfaa.Par Go.Proofs.Ytcnjaeeghfmkfaa.ClockD
theorem walkClockStays : WalkClockStays := by
  intro x0 x1 A1 c1 w w0 w1 l1 g1
  refine (newellaw16_ClockStays.calls 1000 x0.f0 x0.f1 x0.f2 x0.f3 A1 c1 x1 true w g1 l1 (stays_pure x0.f0 x0.f1 x0.f2 x0.f3 x1 (wf_in w0.2.2.1) (wf_in w0.2.2.2) (fun x hx => wf_in (w1.1 x hx)))).mono ?_
  rintro e w' ⟨rfl, hb⟩
  exact ⟨rfl, hb⟩
theorem clockStays_holds : Rows.ClockStaysSaid := RowClockStays.row walkClockStays
#print axioms clockStays_holds
end Go.Proofs.Ytcnjaeeghfmkfaa
