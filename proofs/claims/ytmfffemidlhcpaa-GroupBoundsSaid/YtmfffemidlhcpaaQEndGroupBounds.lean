/- PROVED: the law GroupBounds answers true, and leaves its arguments as they were, whatever they are: the way is not shorter than the call is far, nor longer than three times the house is high. Its conditions: none beyond the form's own reach. -/
import Derived.Test.YtmfffemidlhcpaaQGroupBounds11
namespace Go.Proofs.Ytmfffemidlhcpaa
open Go.RowKit Go.Proofs.YtmfffemidlhcpaaW.PrintWords Go.Proofs.Ytmfffemidlhcpaa.C Go.Proofs.Ytmfffemidlhcpaa.Par
theorem N5 {n:Int} (h:(Lit.int .i64 n).wf=true):Call.i64 n:=by
  have:=bounds_i64 h
  unfold Call.i64
  omega
theorem Kp:Xu:=by
  intro B J Y w w0 w1 w2
  refine(newellaw21_GroupBounds.calls 3000 B.f0 B.f1.f0 B.f1.f1 B.f1.f2 B.f1.f3 B.f1.f4 B.f1.f5 B.f1.f6 B.f2 B.f3 J.f0.f0 J.f0.f1 J.f0.f2 J.f0.f3 J.f0.f4.f0 J.f0.f4.f1 J.f0.f4.f2 J.f1 J.f2 J.f3 Y.f0 Y.f1 Y.f2 true w  (GrpPure.Uz B.f0 B.f1.f0 B.f1.f1 B.f1.f2 B.f1.f3 B.f1.f4 B.f1.f5 B.f1.f6 B.f2 B.f3 J.f0.f0 J.f0.f1 J.f0.f2 J.f0.f3 J.f0.f4.f0 J.f0.f4.f1 J.f0.f4.f2 J.f1 Y.f0 Y.f1 Y.f2 (N5 w2.2.1) J.f2 J.f3 3000 (by omega))).mono ?_
  rintro e w' ⟨rfl,hb⟩
  exact⟨rfl,hb⟩
theorem groupBounds_holds:Rows.GroupBoundsSaid:=RowGroupBounds.row Kp
#print axioms groupBounds_holds
end Go.Proofs.Ytmfffemidlhcpaa
