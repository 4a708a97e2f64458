/- PROVED: the law DoorSteps answers true, and leaves its arguments as they were, whatever they are: What a tick makes of any door, by any gear, is the document's; and so is its rest. Its conditions: none beyond the form's own reach. -/
import Derived.Test.YtjfikeahafflfaaRowDoorSteps
import Derived.Test.YtjfikeahafflfaaDoor4
namespace Go.Proofs.Ytjfikeahafflfaa
open Go.RowKit Go.Proofs.YtjfikeahafflfaaW.PrintWords Go.Proofs.Ytjfikeahafflfaa.C Go.Proofs.Ytjfikeahafflfaa.Par
theorem walkDoorSteps : WalkDoorSteps := by
  intro x0 x1 x2 w w0 w1
  refine (newellaw17_DoorSteps.calls 100 x0.f0 x0.f1.f0 x0.f1.f1 x0.f1.f2 x0.f1.f3 x0.f1.f4 x0.f1.f5 x0.f1.f6 x0.f2 x0.f3 x1.f0 x1.f1 x1.f2 x2 true w  (DoorPure.steps_law x0.f0 x0.f1.f0 x0.f1.f1 x0.f1.f2 x0.f1.f3 x0.f1.f4 x0.f1.f5 x0.f1.f6 x0.f2 x0.f3 x1.f0 x1.f1 x1.f2 x2)).mono ?_
  rintro e w' ⟨rfl, hb⟩
  exact ⟨rfl, hb⟩
theorem doorSteps_holds : Rows.DoorStepsSaid := RowDoorSteps.row walkDoorSteps
#print axioms doorSteps_holds
end Go.Proofs.Ytjfikeahafflfaa
