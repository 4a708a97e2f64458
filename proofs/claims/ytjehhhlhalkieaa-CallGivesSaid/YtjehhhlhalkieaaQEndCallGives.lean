/- PROVED: the law CallGives answers true, and leaves its arguments as they were, whatever they are: what any calls are when a car was sent to one is the document's. Its conditions: none beyond the form's own reach. -/
import Derived.Test.YtjehhhlhalkieaaQCallGives12
namespace Go.Proofs.Ytjehhhlhalkieaa
open Go.RowKit Go.Proofs.YtjehhhlhalkieaaW.PrintWords Go.Proofs.Ytjehhhlhalkieaa.C Go.Proofs.Ytjehhhlhalkieaa.Par
theorem Call.L0 {n:Int} (h:(Lit.int .i64 n).wf=true):Call.i64 n:=by
  have:=bounds_i64 h
  unfold Call.i64
  omega
theorem G7:Yn:=by
  intro J L η δ θ ε X w w0 w1 B γ D ζ Z
  refine(newellaw19_CallGives.calls 3000 J.f0 J.f1 η δ L.f0 θ ε L.f1 X.f0 X.f1 X.f2 true w γ B ζ D (Call.L4 J.f0 J.f1 L.f0 L.f1 X.f0 X.f1 X.f2 (Call.L0 w0.2) (Call.L0 Z.2.1) 3000 (by omega))).mono ?_
  rintro e w' ⟨rfl,hb⟩
  exact⟨rfl,hb⟩
theorem callGives_holds:Rows.CallGivesSaid:=RowCallGives.row G7
#print axioms callGives_holds
end Go.Proofs.Ytjehhhlhalkieaa
