/- PROVED: the law WirePuts answers true, and leaves its arguments as they were, whatever they are: Put and Row write what the document says. Its conditions: none beyond the form's own reach. -/
import Derived.Test.YtjfikeahafflfaaRowWirePuts
import Derived.Test.YtjfikeahafflfaaWire4
namespace Go.Proofs.Ytjfikeahafflfaa
open Go.RowKit Go.Proofs.YtjfikeahafflfaaW.PrintWords Go.Proofs.Ytjfikeahafflfaa.C Go.Proofs.Ytjfikeahafflfaa.Par
theorem walkWirePuts : WalkWirePuts := by
  intro x0 x1 A1 c1 w w0 w1 l1 g1
  obtain ⟨k, h⟩ := Wire.puts_pure x0 x1 w0 (by have := w1.2; unfold maxLen; omega) w1.2 w1.1
  refine (newellaw08_WirePuts.calls k x0 A1 c1 x1 true w g1 l1 h).mono ?_
  rintro e w' ⟨rfl, hb⟩
  exact ⟨rfl, hb⟩
theorem wirePuts_holds : Rows.WirePutsSaid := RowWirePuts.row walkWirePuts
#print axioms wirePuts_holds
end Go.Proofs.Ytjfikeahafflfaa
