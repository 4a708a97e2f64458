/- PROVED: the law CallServes answers true, and leaves its arguments as they were, whatever they are: what any stop makes of any calls, and where any car is called to, is the document's. Its conditions: none beyond the form's own reach. -/
import Derived.Test.YtjehhhlhalkieaaQCallServes14
namespace Go.Proofs.Ytjehhhlhalkieaa
open Go.RowKit Go.Proofs.YtjehhhlhalkieaaW.PrintWords Go.Proofs.Ytjehhhlhalkieaa.C Go.Proofs.Ytjehhhlhalkieaa.Par
theorem Call.Wg {n:Int} (h:(Lit.int .i64 n).wf=true):Call.i64 n:=by
  have:=bounds_i64 h
  unfold Call.i64
  omega
theorem Gr:Yj:=by
  intro I D ζ γ η δ U w w0 w1 B ε J θ X
  refine(newellaw19_CallServes.calls 3000 I.f0 I.f1 ζ γ D.f0 η δ D.f1 U.f0 U.f1 U.f2 true w ε B θ J (Call.Wx I.f0 I.f1 D.f0 D.f1 U.f0 U.f1 U.f2 (Call.Wg w0.2) (Call.Wg X.2.1) (Call.Wg X.2.2) 3000 (by omega) (by omega))).mono ?_
  rintro e w' ⟨rfl,hb⟩
  exact⟨rfl,hb⟩
theorem callServes_holds:Rows.CallServesSaid:=RowCallServes.row Gr
#print axioms callServes_holds
end Go.Proofs.Ytjehhhlhalkieaa
