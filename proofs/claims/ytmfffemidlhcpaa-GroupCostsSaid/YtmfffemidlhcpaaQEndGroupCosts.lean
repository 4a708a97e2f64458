/- PROVED: the law GroupCosts answers true, and leaves its arguments as they were, whatever they are: what any call costs any car is the document's. Its conditions: none beyond the form's own reach. -/
import Derived.Test.YtmfffemidlhcpaaQGroupCosts13
namespace Go.Proofs.Ytmfffemidlhcpaa
open Go.RowKit Go.Proofs.YtmfffemidlhcpaaW.PrintWords Go.Proofs.Ytmfffemidlhcpaa.C Go.Proofs.Ytmfffemidlhcpaa.Par
theorem Ey {n:Int} (h:(Lit.int .i64 n).wf=true):Call.i64 n:=by
  have:=bounds_i64 h
  unfold Call.i64
  omega
theorem K7:X8:=by
  intro B J O a9 aa ab ac ai aj w w0 w1 w2 σ Y τ Z φ γ
  refine(newellaw21_GroupCosts.calls 3000 B.f0 B.f1.f0 B.f1.f1 B.f1.f2 B.f1.f3 B.f1.f4 B.f1.f5 B.f1.f6 B.f2 B.f3 J.f0.f0 J.f0.f1 J.f0.f2 J.f0.f3 J.f0.f4.f0 J.f0.f4.f1 J.f0.f4.f2 J.f1 J.f2 J.f3 a9 aa O.f0.f0 ab ac O.f0.f1 ai aj O.f0.f2 O.f1.f0 O.f1.f1 O.f1.f2 true w Y σ Z τ γ φ (GrpPure.Lp B.f0 B.f1.f0 B.f1.f1 B.f1.f2 B.f1.f3 B.f1.f4 B.f1.f5 B.f1.f6 B.f2 B.f3 J.f0.f0 J.f0.f1 J.f0.f2 J.f0.f3 J.f0.f4.f0 J.f0.f4.f1 J.f0.f4.f2 J.f1 O.f1.f0 O.f1.f1 O.f1.f2 (Ey w2.2.2.1) J.f2 J.f3 O.f0.f0 O.f0.f1 O.f0.f2 3000 (by omega))).mono ?_
  rintro e w' ⟨rfl,hb⟩
  exact⟨rfl,hb⟩
theorem groupCosts_holds:Rows.GroupCostsSaid:=RowGroupCosts.row K7
#print axioms groupCosts_holds
end Go.Proofs.Ytmfffemidlhcpaa
