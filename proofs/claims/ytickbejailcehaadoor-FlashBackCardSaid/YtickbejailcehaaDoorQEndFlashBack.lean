/- PROVED: the law FlashBack answers true, and leaves its arguments as they were, whatever they are: a record that is written is read, the same. Its conditions: the package's table reads as the program's text lays it (the card ties it); none beyond the form's own reach. -/
import Derived.Test.YtickbejailcehaaDoorQRowFlashBack
import Derived.Test.YtickbejailcehaaDoorQFlashB
namespace Go.Proofs.YtickbejailcehaaDoor
open Go.RowKit Go.Proofs.YtickbejailcehaaDoorW.PrintWords Go.Proofs.YtickbejailcehaaDoor.C Go.Proofs.YtickbejailcehaaDoor.Par
theorem walkFlashBack : WalkFlashBack := by
  intro x0 A0 c0 w w0 l0 g0 ht
  refine (newellaw12_FlashBack.calls 20000 x0.f0 x0.f1 x0.f2 A0 c0 x0.f3 true w g0 l0 (Flash.back_eq (Wire.wf_in w0.1) (Wire.wf_in w0.2.1) (Wire.wf_in w0.2.2.1) (fun x hx => Wire.wf_by (w0.2.2.2.1 x hx)) 20000 (by omega)) ht).mono ?_
  rintro e w' ⟨rfl, hb⟩
  exact ⟨rfl, hb⟩
theorem flashBack_holds : Rows.FlashBackCardSaid := RowFlashBack.card walkFlashBack
#print axioms flashBack_holds
end Go.Proofs.YtickbejailcehaaDoor
