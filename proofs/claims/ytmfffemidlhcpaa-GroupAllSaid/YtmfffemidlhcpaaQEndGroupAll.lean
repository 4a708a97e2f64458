/- PROVED: the law GroupAll answers true, and leaves its arguments as they were, whatever they are: each call in a hall has a car without a fault, if there is one; those that had one keep it; spread again they stay. Its conditions: none beyond the form's own reach. -/
import Derived.Test.YtmfffemidlhcpaaQGroupAll13
namespace Go.Proofs.Ytmfffemidlhcpaa
open Go.RowKit Go.Proofs.YtmfffemidlhcpaaW.PrintWords Go.Proofs.Ytmfffemidlhcpaa.C Go.Proofs.Ytmfffemidlhcpaa.Par
theorem i64_of {n:Int} (h:(Lit.int .i64 n).wf=true):Call.i64 n:=by
  have:=bounds_i64 h
  unfold Call.i64
  omega
theorem Vx:Yo:=by
  intro B a8 a9 ah ae af ag w w0 ρ O ι Z φ γ
  refine(newellaw21_GroupAll.calls 9000 B.f0.f0 B.f0.f1.f0 B.f0.f1.f1 B.f0.f1.f2 B.f0.f1.f3 B.f0.f1.f4 B.f0.f1.f5 B.f0.f1.f6 B.f0.f2 B.f0.f3 a8 a9 B.f1 B.f2 ah ae B.f3.f0 af ag B.f3.f1 true w O ρ Z ι γ φ (GrpPure.E5 B.f0.f0 B.f0.f1.f0 B.f0.f1.f1 B.f0.f1.f2 B.f0.f1.f3 B.f0.f1.f4 B.f0.f1.f5 B.f0.f1.f6 B.f0.f2 B.f0.f3 B.f1 B.f2 B.f3.f0 B.f3.f1 9000 (by omega))).mono ?_
  rintro e w' ⟨rfl,hb⟩
  exact⟨rfl,hb⟩
theorem groupAll_holds:Rows.GroupAllSaid:=RowGroupAll.row Vx
#print axioms groupAll_holds
end Go.Proofs.Ytmfffemidlhcpaa
