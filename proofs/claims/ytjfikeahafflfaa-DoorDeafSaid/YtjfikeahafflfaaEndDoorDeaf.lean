/- PROVED: the law DoorDeaf answers true, and leaves its arguments as they were, whatever they are: A door that lets itself be held in no tick does the same, held or not. Its conditions: none beyond the form's own reach. -/
import Derived.Test.YtjfikeahafflfaaRowDoorDeaf
import Derived.Test.YtjfikeahafflfaaDoor3
namespace Go.Proofs.Ytjfikeahafflfaa
open Go.RowKit Go.Proofs.YtjfikeahafflfaaW.PrintWords Go.Proofs.Ytjfikeahafflfaa.C Go.Proofs.Ytjfikeahafflfaa.Par
theorem walkDoorDeaf : WalkDoorDeaf := by
  intro x0 x1 w w0 w1
  refine (newellaw17_DoorDeaf.calls 100 x0.f0 x0.f1.f0 x0.f1.f1 x0.f1.f2 x0.f1.f3 x0.f1.f4 x0.f1.f5 x0.f1.f6 x0.f2 x0.f3 x1.f0 x1.f1 x1.f2 true w  (DoorPure.deaf_law x0.f0 x0.f1.f0 x0.f1.f1 x0.f1.f2 x0.f1.f3 x0.f1.f4 x0.f1.f5 x0.f1.f6 x0.f2 x0.f3 x1.f0 x1.f1 x1.f2)).mono ?_
  rintro e w' ⟨rfl, hb⟩
  exact ⟨rfl, hb⟩
theorem doorDeaf_holds : Rows.DoorDeafSaid := RowDoorDeaf.row walkDoorDeaf
#print axioms doorDeaf_holds
end Go.Proofs.Ytjfikeahafflfaa
