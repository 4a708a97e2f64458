/- PROVED: the law CrcBack answers true, and leaves its arguments as they were, whatever they are: What is sealed is opened, and nothing else is. Its conditions: the package's table reads as the program's text lays it (the card ties it); none beyond the form's own reach. -/
import Derived.Test.YtcnjaeeghfmkfaaDoorRowCrcBack
import Derived.Test.YtcnjaeeghfmkfaaDoorCrc2
namespace Go.Proofs.YtcnjaeeghfmkfaaDoor
open Go.RowKit Go.Proofs.YtcnjaeeghfmkfaaDoorW.PrintWords Go.Proofs.YtcnjaeeghfmkfaaDoor.C Go.Proofs.YtcnjaeeghfmkfaaDoor.Par
theorem walkCrcBack : WalkCrcBack := by
  intro x0 A0 c0 w w0 l0 g0 ht
  refine (newellaw09_CrcBack.calls 4001 A0 c0 x0 true w g0 l0 (Crc.back_eq x0 (fun x hx => Crc.wf_by (w0.1 x hx)) 4000 (by omega)) ht).mono ?_
  rintro e w' ⟨rfl, hb⟩
  exact ⟨rfl, hb⟩
theorem crcBack_holds : Rows.CrcBackCardSaid := RowCrcBack.card walkCrcBack
#print axioms crcBack_holds
end Go.Proofs.YtcnjaeeghfmkfaaDoor
