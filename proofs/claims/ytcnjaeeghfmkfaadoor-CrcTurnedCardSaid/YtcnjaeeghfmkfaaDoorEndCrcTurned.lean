/- PROVED: the law CrcTurned answers true, and leaves its arguments as they were, whatever they are: With a byte turned, or two side by side, it is not opened. Its conditions: the package's table reads as the program's text lays it (the card ties it); none beyond the form's own reach. -/
import Derived.Test.YtcnjaeeghfmkfaaDoorRowCrcTurned
import Derived.Test.YtcnjaeeghfmkfaaDoorCrc3
namespace Go.Proofs.YtcnjaeeghfmkfaaDoor
open Go.RowKit Go.Proofs.YtcnjaeeghfmkfaaDoorW.PrintWords Go.Proofs.YtcnjaeeghfmkfaaDoor.C Go.Proofs.YtcnjaeeghfmkfaaDoor.Par
theorem walkCrcTurned : WalkCrcTurned := by
  intro x0 A0 c0 x1 x2 w w0 l0 g0 w1 w2 ht
  refine (newellaw09_CrcTurned.calls 4001 A0 c0 x0 x1 x2.1 x2.2 true w g0 l0 (Crc.turned_eq x0 x1 x2.1 x2.2 (fun x hx => Crc.wf_by (w0.1 x hx)) (Crc.wf_by w2.1) (Crc.wf_by w2.2) 4000 (by omega)) ht).mono ?_
  rintro e w' ⟨rfl, hb⟩
  exact ⟨rfl, hb⟩
theorem crcTurned_holds : Rows.CrcTurnedCardSaid := RowCrcTurned.card walkCrcTurned
#print axioms crcTurned_holds
end Go.Proofs.YtcnjaeeghfmkfaaDoor
