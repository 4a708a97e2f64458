/- PROVED: the law WireApart answers true, and leaves its arguments as they were, whatever they are: No number's bytes begin another's. Its conditions: none beyond the form's own reach. -/
import Derived.Test.YtjfikeahafflfaaRowWireApart
import Derived.Test.YtjfikeahafflfaaWire4
namespace Go.Proofs.Ytjfikeahafflfaa
open Go.RowKit Go.Proofs.YtjfikeahafflfaaW.PrintWords Go.Proofs.Ytjfikeahafflfaa.C Go.Proofs.Ytjfikeahafflfaa.Par
theorem walkWireApart : WalkWireApart := by
  intro x0 x1 w w0 w1
  obtain ⟨k, h⟩ := Wire.apart_pure x0 x1 w0 w1
  refine (newellaw08_WireApart.calls k x0 x1 true w  h).mono ?_
  rintro e w' ⟨rfl, hb⟩
  exact ⟨rfl, hb⟩
theorem wireApart_holds : Rows.WireApartSaid := RowWireApart.row walkWireApart
#print axioms wireApart_holds
end Go.Proofs.Ytjfikeahafflfaa
