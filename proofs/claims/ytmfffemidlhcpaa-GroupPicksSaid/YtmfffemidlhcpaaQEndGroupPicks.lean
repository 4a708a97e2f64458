/- PROVED: the law GroupPicks answers true, and leaves its arguments as they were, whatever they are: whether any cars and calls may be, and which car comes to any call, is the document's. Its conditions: none beyond the form's own reach. -/
import Derived.Test.YtmfffemidlhcpaaQGroupPicks15
namespace Go.Proofs.Ytmfffemidlhcpaa
open Go.RowKit Go.Proofs.YtmfffemidlhcpaaW.PrintWords Go.Proofs.Ytmfffemidlhcpaa.C Go.Proofs.Ytmfffemidlhcpaa.Par
theorem Cf {n:Int} (h:(Lit.int .i64 n).wf=true):Call.i64 n:=by
 have:=bounds_i64 h
 unfold Call.i64
 omega
theorem Gu:Ya:=by
 intro B ψ a0 a1 a2 a3 a5 J w w0 ν O ξ X σ Z w1
 refine(newellaw21_GroupPicks.calls 9000 B.f0.f0 B.f0.f1.f0 B.f0.f1.f1 B.f0.f1.f2 B.f0.f1.f3 B.f0.f1.f4 B.f0.f1.f5 B.f0.f1.f6 B.f0.f2 B.f0.f3 ψ a0 B.f1 B.f2 a1 a2 B.f3.f0 a3 a5 B.f3.f1 J.f0 J.f1 J.f2 true w O ν X ξ Z σ (GrpPure.Me B.f0.f0 B.f0.f1.f0 B.f0.f1.f1 B.f0.f1.f2 B.f0.f1.f3 B.f0.f1.f4 B.f0.f1.f5 B.f0.f1.f6 B.f0.f2 B.f0.f3 B.f1 B.f2 B.f3.f0 B.f3.f1 J.f0 J.f1 J.f2 (Cf w1.2.1) 9000 (by omega))).mono ?_
 rintro e w' ⟨rfl,hb⟩
 exact⟨rfl,hb⟩
theorem groupPicks_holds:Rows.GroupPicksSaid:=RowGroupPicks.row Gu
#print axioms groupPicks_holds
end Go.Proofs.Ytmfffemidlhcpaa
