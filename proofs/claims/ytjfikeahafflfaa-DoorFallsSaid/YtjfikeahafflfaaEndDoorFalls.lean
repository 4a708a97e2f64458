/- PROVED: the law DoorFalls answers true, and leaves its arguments as they were, whatever they are: With each tick its rest is less, and 0 just when it is shut. Its conditions: none beyond the form's own reach. -/
import Derived.Test.YtjfikeahafflfaaRowDoorFalls
import Derived.Test.YtjfikeahafflfaaDoor3
namespace Go.Proofs.Ytjfikeahafflfaa
open Go.RowKit Go.Proofs.YtjfikeahafflfaaW.PrintWords Go.Proofs.Ytjfikeahafflfaa.C Go.Proofs.Ytjfikeahafflfaa.Par
theorem walkDoorFalls : WalkDoorFalls := by
  intro x0 x1 x2 w w0 w1
  refine (newellaw17_DoorFalls.calls 100 x0.f0 x0.f1.f0 x0.f1.f1 x0.f1.f2 x0.f1.f3 x0.f1.f4 x0.f1.f5 x0.f1.f6 x0.f2 x0.f3 x1.f0 x1.f1 x1.f2 x2 true w  (DoorPure.falls_law x0.f0 x0.f1.f0 x0.f1.f1 x0.f1.f2 x0.f1.f3 x0.f1.f4 x0.f1.f5 x0.f1.f6 x0.f2 x0.f3 x1.f0 x1.f1 x1.f2 x2)).mono ?_
  rintro e w' ⟨rfl, hb⟩
  exact ⟨rfl, hb⟩
theorem doorFalls_holds : Rows.DoorFallsSaid := RowDoorFalls.row walkDoorFalls
#print axioms doorFalls_holds
end Go.Proofs.Ytjfikeahafflfaa
