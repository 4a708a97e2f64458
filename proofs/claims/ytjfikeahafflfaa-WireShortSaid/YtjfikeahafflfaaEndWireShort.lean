/- PROVED: the law WireShort answers true, and leaves its arguments as they were, whatever they are: A row cut short is reported, and nothing of it is read. Its conditions: none beyond the form's own reach. -/
import Derived.Test.YtjfikeahafflfaaRowWireShort
import Derived.Test.YtjfikeahafflfaaWire4
namespace Go.Proofs.Ytjfikeahafflfaa
open Go.RowKit Go.Proofs.YtjfikeahafflfaaW.PrintWords Go.Proofs.Ytjfikeahafflfaa.C Go.Proofs.Ytjfikeahafflfaa.Par
theorem walkWireShort : WalkWireShort := by
  intro x0 A0 c0 x1 w w0 l0 g0 w1
  obtain ⟨k, h⟩ := Wire.short_pure x0 x1 (by have := w0.2; unfold maxLen; omega) w0.2 w0.1 w1
  refine (newellaw08_WireShort.calls k A0 c0 x0 x1 true w g0 l0 h).mono ?_
  rintro e w' ⟨rfl, hb⟩
  exact ⟨rfl, hb⟩
theorem wireShort_holds : Rows.WireShortSaid := RowWireShort.row walkWireShort
#print axioms wireShort_holds
end Go.Proofs.Ytjfikeahafflfaa
