/- PROVED: the law CrcApart answers true, and leaves its arguments as they were, whatever they are: What differs sums to what the sums differ by. Its conditions: the package's table reads as the program's text lays it (the card ties it); none beyond the form's own reach. -/
import Derived.Test.YtcnjaeeghfmkfaaDoorRowCrcApart
import Derived.Test.YtcnjaeeghfmkfaaDoorCrc3
namespace Go.Proofs.YtcnjaeeghfmkfaaDoor
open Go.RowKit Go.Proofs.YtcnjaeeghfmkfaaDoorW.PrintWords Go.Proofs.YtcnjaeeghfmkfaaDoor.C Go.Proofs.YtcnjaeeghfmkfaaDoor.Par
theorem walkCrcApart : WalkCrcApart := by
  intro x0 A0 c0 x1 A1 c1 w w0 l0 g0 w1 l1 g1 ht
  refine (newellaw09_CrcApart.calls 5001 A0 c0 x0 A1 c1 x1 true w g0 l0 g1 l1 (Crc.apart_eq x0 x1 (fun x hx => Crc.wf_by (w0.1 x hx)) (fun x hx => Crc.wf_by (w1.1 x hx)) 5000 (by omega)) ht).mono ?_
  rintro e w' ⟨rfl, hb⟩
  exact ⟨rfl, hb⟩
theorem crcApart_holds : Rows.CrcApartCardSaid := RowCrcApart.card walkCrcApart
#print axioms crcApart_holds
end Go.Proofs.YtcnjaeeghfmkfaaDoor
