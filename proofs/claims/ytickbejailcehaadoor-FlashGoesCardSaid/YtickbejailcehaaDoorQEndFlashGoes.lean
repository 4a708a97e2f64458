/- PROVED: the law FlashGoes answers true, and leaves its arguments as they were, whatever they are: so it goes on, write by write, wherever each one is cut. Its conditions: the package's table reads as the program's text lays it (the card ties it); none beyond the form's own reach. -/
import Derived.Test.YtickbejailcehaaDoorQFlashGoes14
namespace Go.Proofs.YtickbejailcehaaDoor
open Go.RowKit Go.Proofs.YtickbejailcehaaDoorW.PrintWords Go.Proofs.YtickbejailcehaaDoor.C Go.Proofs.YtickbejailcehaaDoor.Par
theorem walkFlashGoes : WalkFlashGoes := by
  intro x0 A0 c0 x1 A1 c1 w w0 l0 g0 w1 l1 g1 ht
  refine (newellaw12_FlashGoes.calls (x0.length + 50000) A0 c0 x0 A1 c1 x1 true w g0 l0 g1 l1 (Flash.goes_eq x0 (fun r_ hr_ => ⟨Wire.wf_in (w0.1 r_ hr_).2.1, Wire.wf_in (w0.1 r_ hr_).2.2.1, fun x hx => Wire.wf_by ((w0.1 r_ hr_).2.2.2.1 x hx)⟩) x1 (by have := w0.2; omega) (x0.length + 50000) (Nat.le_refl _)) ht).mono ?_
  rintro e w' ⟨rfl, hb⟩
  exact ⟨rfl, hb⟩
theorem flashGoes_holds : Rows.FlashGoesCardSaid := RowFlashGoes.card walkFlashGoes
#print axioms flashGoes_holds
end Go.Proofs.YtickbejailcehaaDoor
