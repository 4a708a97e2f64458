/- PROVED: the law FlashOnly answers true, and leaves its arguments as they were, whatever they are: what is read is written in just those bytes. Its conditions: the package's table reads as the program's text lays it (the card ties it); none beyond the form's own reach. -/
import Derived.Test.YtickbejailcehaaDoorQRowFlashOnly
import Derived.Test.YtickbejailcehaaDoorQFlashO
namespace Go.Proofs.YtickbejailcehaaDoor
open Go.RowKit Go.Proofs.YtickbejailcehaaDoorW.PrintWords Go.Proofs.YtickbejailcehaaDoor.C Go.Proofs.YtickbejailcehaaDoor.Par
theorem walkFlashOnly : WalkFlashOnly := by
  intro x0 A0 c0 w w0 l0 g0 ht
  refine (newellaw12_FlashOnly.calls 20000 A0 c0 x0 true w g0 l0 (Flash.only_eq x0 (fun x hx => Wire.wf_by (w0.1 x hx)) 20000 (by omega)) ht).mono ?_
  rintro e w' ⟨rfl, hb⟩
  exact ⟨rfl, hb⟩
theorem flashOnly_holds : Rows.FlashOnlyCardSaid := RowFlashOnly.card walkFlashOnly
#print axioms flashOnly_holds
end Go.Proofs.YtickbejailcehaaDoor
