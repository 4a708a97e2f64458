/- PROVED: the law CallPresses answers true, and leaves its arguments as they were, whatever they are: what any button makes of any calls, in any house, is the document's. Its conditions: none beyond the form's own reach. -/
import Derived.Test.YtjehhhlhalkieaaQCallPresses13
namespace Go.Proofs.Ytjehhhlhalkieaa
open Go.RowKit Go.Proofs.YtjehhhlhalkieaaW.PrintWords Go.Proofs.Ytjehhhlhalkieaa.C Go.Proofs.Ytjehhhlhalkieaa.Par
theorem Call.My {n:Int} (h:(Lit.int .i64 n).wf=true):Call.i64 n:=by
  have:=bounds_i64 h
  unfold Call.i64
  omega
theorem Gt:Yk:=by
  intro D J ζ γ η ε X w w0 w1 B δ I θ Y
  refine(newellaw19_CallPresses.calls 3000 D.f0 D.f1 ζ γ J.f0 η ε J.f1 X.f0 X.f1 X.f2 true w δ B θ I (Call.Wi D.f0 D.f1 J.f0 J.f1 X.f0 X.f1 X.f2 (Call.My w0.2) (Call.My Y.2.1) 3000 (by omega))).mono ?_
  rintro e w' ⟨rfl,hb⟩
  exact⟨rfl,hb⟩
theorem callPresses_holds:Rows.CallPressesSaid:=RowCallPresses.row Gt
#print axioms callPresses_holds
end Go.Proofs.Ytjehhhlhalkieaa
