/- PROVED: the law CrcTells answers true, and leaves its arguments as they were, whatever they are: The sum of any bytes, from any sum on, is the document's. Its conditions: the package's table reads as the program's text lays it (the card ties it); none beyond the form's own reach. -/
import Derived.Test.YtcnjaeeghfmkfaaDoorRowCrcTells
import Derived.Test.YtcnjaeeghfmkfaaDoorCrc2
namespace Go.Proofs.YtcnjaeeghfmkfaaDoor
open Go.RowKit Go.Proofs.YtcnjaeeghfmkfaaDoorW.PrintWords Go.Proofs.YtcnjaeeghfmkfaaDoor.C Go.Proofs.YtcnjaeeghfmkfaaDoor.Par
theorem walkCrcTells : WalkCrcTells := by
  intro x0 x1 A1 c1 w w0 w1 l1 g1 ht
  refine (newellaw09_CrcTells.calls 4001 x0 A1 c1 x1 true w g1 l1 (Crc.tells_eq x0 x1 w0 (fun x hx => Crc.wf_by (w1.1 x hx)) 4000 (by omega)) ht).mono ?_
  rintro e w' ⟨rfl, hb⟩
  exact ⟨rfl, hb⟩
theorem crcTells_holds : Rows.CrcTellsCardSaid := RowCrcTells.card walkCrcTells
#print axioms crcTells_holds
end Go.Proofs.YtcnjaeeghfmkfaaDoor
