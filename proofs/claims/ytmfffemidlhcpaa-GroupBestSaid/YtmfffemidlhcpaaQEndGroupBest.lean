/- PROVED: the law GroupBest answers true, and leaves its arguments as they were, whatever they are: no car without a fault costs less than the one that comes. Its conditions: none beyond the form's own reach. -/
import Derived.Test.YtmfffemidlhcpaaQGroupBest12
namespace Go.Proofs.Ytmfffemidlhcpaa
open Go.RowKit Go.Proofs.YtmfffemidlhcpaaW.PrintWords Go.Proofs.Ytmfffemidlhcpaa.C Go.Proofs.Ytmfffemidlhcpaa.Par
theorem Dh {n:Int} (h:(Lit.int .i64 n).wf=true):Call.i64 n:=by
  have:=bounds_i64 h
  unfold Call.i64
  omega
theorem Ve:Yg:=by
  intro B b9 ar ag ah ai aj J w w0 μ O ω γ a0 δ w1
  refine(newellaw21_GroupBest.calls 9000 B.f0.f0 B.f0.f1.f0 B.f0.f1.f1 B.f0.f1.f2 B.f0.f1.f3 B.f0.f1.f4 B.f0.f1.f5 B.f0.f1.f6 B.f0.f2 B.f0.f3 b9 ar B.f1 B.f2 ag ah B.f3.f0 ai aj B.f3.f1 J.f0 J.f1 J.f2 true w O μ γ ω δ a0 (GrpPure.Nt B.f0.f0 B.f0.f1.f0 B.f0.f1.f1 B.f0.f1.f2 B.f0.f1.f3 B.f0.f1.f4 B.f0.f1.f5 B.f0.f1.f6 B.f0.f2 B.f0.f3 B.f1 B.f2 B.f3.f0 B.f3.f1 J.f0 J.f1 J.f2 (Dh w1.2.1) 9000 (by omega))).mono ?_
  rintro e w' ⟨rfl,hb⟩
  exact⟨rfl,hb⟩
theorem groupBest_holds:Rows.GroupBestSaid:=RowGroupBest.row Ve
#print axioms groupBest_holds
end Go.Proofs.Ytmfffemidlhcpaa
