/- PROVED: the law CallOnce answers true, and leaves its arguments as they were, whatever they are: a button that is pressed twice is pressed once. Its conditions: none beyond the form's own reach. -/
import Derived.Test.YtjehhhlhalkieaaQCallOnce10
namespace Go.Proofs.Ytjehhhlhalkieaa
open Go.RowKit Go.Proofs.YtjehhhlhalkieaaW.PrintWords Go.Proofs.Ytjehhhlhalkieaa.C Go.Proofs.Ytjehhhlhalkieaa.Par
theorem Call.i64_of {n : Int} (h : (Lit.int .i64 n).wf = true) : Call.i64 n := by
  have := bounds_i64 h
  unfold Call.i64
  omega
theorem walkCallOnce : WalkCallOnce := by
  intro x0 x1 A1_0 c1_0 A1_1 c1_1 x2 w w0 w1 l1_0 g1_0 l1_1 g1_1 w2
  refine (newellaw19_CallOnce.calls 3000 x0.f0 x0.f1 A1_0 c1_0 x1.f0 A1_1 c1_1 x1.f1 x2.f0 x2.f1 x2.f2 true w g1_0 l1_0 g1_1 l1_1 (Call.once_eq x0.f0 x0.f1 x1.f0 x1.f1 x2.f0 x2.f1 x2.f2 (Call.i64_of w0.2) (Call.i64_of w2.2.1) 3000 (by omega))).mono ?_
  rintro e w' ⟨rfl, hb⟩
  exact ⟨rfl, hb⟩
theorem callOnce_holds : Rows.CallOnceSaid := RowCallOnce.row walkCallOnce
#print axioms callOnce_holds
end Go.Proofs.Ytjehhhlhalkieaa
