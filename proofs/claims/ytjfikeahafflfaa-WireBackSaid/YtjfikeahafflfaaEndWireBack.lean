/- PROVED: the law WireBack answers true, and leaves its arguments as they were, whatever they are: What was written comes back, whatever follows it. Its conditions: none beyond the form's own reach. -/
import Derived.Test.YtjfikeahafflfaaRowWireBack
import Derived.Test.YtjfikeahafflfaaWire4
namespace Go.Proofs.Ytjfikeahafflfaa
open Go.RowKit Go.Proofs.YtjfikeahafflfaaW.PrintWords Go.Proofs.Ytjfikeahafflfaa.C Go.Proofs.Ytjfikeahafflfaa.Par
theorem walkWireBack : WalkWireBack := by
  intro x0 A0 c0 x1 A1 c1 w w0 l0 g0 w1 l1 g1
  obtain ⟨k, h⟩ := Wire.back_pure x0 x1 (by have := w0.2; unfold maxLen; omega) w0.2 w0.1 (by have := w1.2; unfold maxLen; omega) w1.2 w1.1
  refine (newellaw08_WireBack.calls k A0 c0 x0 A1 c1 x1 true w g0 l0 g1 l1 h).mono ?_
  rintro e w' ⟨rfl, hb⟩
  exact ⟨rfl, hb⟩
theorem wireBack_holds : Rows.WireBackSaid := RowWireBack.row walkWireBack
#print axioms wireBack_holds
end Go.Proofs.Ytjfikeahafflfaa
