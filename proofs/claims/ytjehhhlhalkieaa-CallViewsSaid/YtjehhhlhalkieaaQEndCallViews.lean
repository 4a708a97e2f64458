/- PROVED: the law CallViews answers true, and leaves its arguments as they were, whatever they are: each call but those without a car is in just one car's view. Its conditions: none beyond the form's own reach. -/
import Derived.Test.YtjehhhlhalkieaaQCallViews10
namespace Go.Proofs.Ytjehhhlhalkieaa
open Go.RowKit Go.Proofs.YtjehhhlhalkieaaW.PrintWords Go.Proofs.Ytjehhhlhalkieaa.C Go.Proofs.Ytjehhhlhalkieaa.Par
theorem Call.i64_of {n : Int} (h : (Lit.int .i64 n).wf = true) : Call.i64 n := by
  have := bounds_i64 h
  unfold Call.i64
  omega
theorem walkCallViews : WalkCallViews := by
  intro x0 x1 A1_0 c1_0 A1_1 c1_1 w w0 w1 l1_0 g1_0 l1_1 g1_1
  refine (newellaw19_CallViews.calls 3000 x0.f0 x0.f1 A1_0 c1_0 x1.f0 A1_1 c1_1 x1.f1 true w g1_0 l1_0 g1_1 l1_1 (Call.views_eq x0.f0 x0.f1 x1.f0 x1.f1 (Call.i64_of w0.2) 3000 (by omega))).mono ?_
  rintro e w' ⟨rfl, hb⟩
  exact ⟨rfl, hb⟩
theorem callViews_holds : Rows.CallViewsSaid := RowCallViews.row walkCallViews
#print axioms callViews_holds
end Go.Proofs.Ytjehhhlhalkieaa
