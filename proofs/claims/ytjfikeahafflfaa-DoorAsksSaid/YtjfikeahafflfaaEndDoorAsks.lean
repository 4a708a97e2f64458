/- PROVED: the law DoorAsks answers true, and leaves its arguments as they were, whatever they are: Whether any door may be, and what it is when it is asked to open, is the document's. Its conditions: none beyond the form's own reach. -/
import Derived.Test.YtjfikeahafflfaaRowDoorAsks
import Derived.Test.YtjfikeahafflfaaDoor3
namespace Go.Proofs.Ytjfikeahafflfaa
open Go.RowKit Go.Proofs.YtjfikeahafflfaaW.PrintWords Go.Proofs.Ytjfikeahafflfaa.C Go.Proofs.Ytjfikeahafflfaa.Par
theorem walkDoorAsks : WalkDoorAsks := by
  intro x0 x1 w w0 w1
  refine (newellaw17_DoorAsks.calls 100 x0.f0 x0.f1 x0.f2 x0.f3 x0.f4 x0.f5 x0.f6 x1.f0 x1.f1 x1.f2 true w  (DoorPure.asks_law x0.f0 x0.f1 x0.f2 x0.f3 x0.f4 x0.f5 x0.f6 x1.f0 x1.f1 x1.f2)).mono ?_
  rintro e w' ⟨rfl, hb⟩
  exact ⟨rfl, hb⟩
theorem doorAsks_holds : Rows.DoorAsksSaid := RowDoorAsks.row walkDoorAsks
#print axioms doorAsks_holds
end Go.Proofs.Ytjfikeahafflfaa
