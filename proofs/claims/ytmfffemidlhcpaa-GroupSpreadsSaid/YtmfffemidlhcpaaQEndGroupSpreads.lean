/- PROVED: the law GroupSpreads answers true, and leaves its arguments as they were, whatever they are: which car comes to which call, of all, is the document's. Its conditions: none beyond the form's own reach. -/
import Derived.Test.YtmfffemidlhcpaaQGroupSpreads16
namespace Go.Proofs.Ytmfffemidlhcpaa
open Go.RowKit Go.Proofs.YtmfffemidlhcpaaW.PrintWords Go.Proofs.Ytmfffemidlhcpaa.C Go.Proofs.Ytmfffemidlhcpaa.Par
theorem i64_of {n:Int} (h:(Lit.int .i64 n).wf=true):Call.i64 n:=by
 have:=bounds_i64 h
 unfold Call.i64
 omega
theorem Gn:X9:=by
 intro B a0 a1 a2 a3 a5 a7 w w0 κ O μ Y ν Z
 refine(newellaw21_GroupSpreads.calls 9000 B.f0.f0 B.f0.f1.f0 B.f0.f1.f1 B.f0.f1.f2 B.f0.f1.f3 B.f0.f1.f4 B.f0.f1.f5 B.f0.f1.f6 B.f0.f2 B.f0.f3 a0 a1 B.f1 B.f2 a2 a3 B.f3.f0 a5 a7 B.f3.f1 true w O κ Y μ Z ν (GrpPure.Wd B.f0.f0 B.f0.f1.f0 B.f0.f1.f1 B.f0.f1.f2 B.f0.f1.f3 B.f0.f1.f4 B.f0.f1.f5 B.f0.f1.f6 B.f0.f2 B.f0.f3 B.f1 B.f2 B.f3.f0 B.f3.f1 9000 (by omega))).mono ?_
 rintro e w' ⟨rfl,hb⟩
 exact⟨rfl,hb⟩
theorem groupSpreads_holds:Rows.GroupSpreadsSaid:=RowGroupSpreads.row Gn
#print axioms groupSpreads_holds
end Go.Proofs.Ytmfffemidlhcpaa
