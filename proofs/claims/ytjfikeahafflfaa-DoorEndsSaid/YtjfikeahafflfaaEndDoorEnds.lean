/- PROVED: the law DoorEnds answers true, and leaves its arguments as they were, whatever they are: However it is held, it is shut when its rest is over. Its conditions: none beyond the form's own reach. -/
import Derived.Test.YtjfikeahafflfaaRowDoorEnds
import Derived.Test.YtjfikeahafflfaaDoor5
namespace Go.Proofs.Ytjfikeahafflfaa
open Go.RowKit Go.Proofs.YtjfikeahafflfaaW.PrintWords Go.Proofs.Ytjfikeahafflfaa.C Go.Proofs.Ytjfikeahafflfaa.Par
theorem walkDoorEnds : WalkDoorEnds := by
  intro x0 x1 x2 A2 c2 w w0 w1 w2 l2 g2
  refine (newellaw17_DoorEnds.calls 100000 x0.f0 x0.f1.f0 x0.f1.f1 x0.f1.f2 x0.f1.f3 x0.f1.f4 x0.f1.f5 x0.f1.f6 x0.f2 x0.f3 x1.f0 x1.f1 x1.f2 A2 c2 x2 true w g2 l2 (DoorPure.ends_law x0.f0 x0.f1.f0 x0.f1.f1 x0.f1.f2 x0.f1.f3 x0.f1.f4 x0.f1.f5 x0.f1.f6 x0.f2 x0.f3 x1.f0 x1.f1 x1.f2 x2)).mono ?_
  rintro e w' ⟨rfl, hb⟩
  exact ⟨rfl, hb⟩
theorem doorEnds_holds : Rows.DoorEndsSaid := RowDoorEnds.row walkDoorEnds
#print axioms doorEnds_holds
end Go.Proofs.Ytjfikeahafflfaa
