/- PROVED: the law CrcParts answers true, and leaves its arguments as they were, whatever they are: A sum goes on over bytes as over their parts. Its conditions: the package's table reads as the program's text lays it (the card ties it); none beyond the form's own reach. -/
import Derived.Test.YtcnjaeeghfmkfaaDoorRowCrcParts
import Derived.Test.YtcnjaeeghfmkfaaDoorCrc2
namespace Go.Proofs.YtcnjaeeghfmkfaaDoor
open Go.RowKit Go.Proofs.YtcnjaeeghfmkfaaDoorW.PrintWords Go.Proofs.YtcnjaeeghfmkfaaDoor.C Go.Proofs.YtcnjaeeghfmkfaaDoor.Par
theorem walkCrcParts : WalkCrcParts := by
  intro x0 x1 A1 c1 x2 A2 c2 w w0 w1 l1 g1 w2 l2 g2 ht
  refine (newellaw09_CrcParts.calls 4001 x0 A1 c1 x1 A2 c2 x2 true w g1 l1 g2 l2 (Crc.parts_eq x0 x1 x2 w0 (fun x hx => Crc.wf_by (w1.1 x hx)) (fun x hx => Crc.wf_by (w2.1 x hx)) 4000 (by omega)) ht).mono ?_
  rintro e w' ⟨rfl, hb⟩
  exact ⟨rfl, hb⟩
theorem crcParts_holds : Rows.CrcPartsCardSaid := RowCrcParts.card walkCrcParts
#print axioms crcParts_holds
end Go.Proofs.YtcnjaeeghfmkfaaDoor
