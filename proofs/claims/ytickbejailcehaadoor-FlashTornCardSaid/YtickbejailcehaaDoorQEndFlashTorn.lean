/- PROVED: the law FlashTorn answers true, and leaves its arguments as they were, whatever they are: a slot that was cut has no record, it ends too early. Its conditions: the package's table reads as the program's text lays it (the card ties it); none beyond the form's own reach. -/
import Derived.Test.YtickbejailcehaaDoorQRowFlashTorn
import Derived.Test.YtickbejailcehaaDoorQFlash3
namespace Go.Proofs.YtickbejailcehaaDoor
open Go.RowKit Go.Proofs.YtickbejailcehaaDoorW.PrintWords Go.Proofs.YtickbejailcehaaDoor.C Go.Proofs.YtickbejailcehaaDoor.Par
theorem walkFlashTorn : WalkFlashTorn := by
  intro x0 A0 c0 x1 w w0 l0 g0 w1 ht
  refine (newellaw12_FlashTorn.calls 20000 x0.f0 x0.f1 x0.f2 A0 c0 x0.f3 x1 true w g0 l0 (Flash.torn_eq (Wire.wf_in w0.1) (Wire.wf_in w0.2.1) (Wire.wf_in w0.2.2.1) (fun x hx => Wire.wf_by (w0.2.2.2.1 x hx)) x1 20000 (by omega)) ht).mono ?_
  rintro e w' ⟨rfl, hb⟩
  exact ⟨rfl, hb⟩
theorem flashTorn_holds : Rows.FlashTornCardSaid := RowFlashTorn.card walkFlashTorn
#print axioms flashTorn_holds
end Go.Proofs.YtickbejailcehaaDoor
