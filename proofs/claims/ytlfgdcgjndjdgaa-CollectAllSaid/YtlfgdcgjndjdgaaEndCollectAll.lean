/- PROVED: the law CollectAll answers true, and leaves its arguments as they were, whatever they are: All calls are answered, in no more rides than three times the house. Its conditions: none beyond the form's own reach. -/
import Derived.Test.YtlfgdcgjndjdgaaRowCollectAll
import Derived.Test.YtlfgdcgjndjdgaaLawAll
namespace Go.Proofs.Ytlfgdcgjndjdgaa
open Go.RowKit Go.Proofs.YtlfgdcgjndjdgaaW.PrintWords Go.Proofs.Ytlfgdcgjndjdgaa.C Go.Proofs.Ytlfgdcgjndjdgaa.Par
theorem walkCollectAll : WalkCollectAll := by
  intro x0 A0_5 c0_5 A0_6 c0_6 A0_7 c0_7 w w0 l0_5 g0_5 l0_6 g0_6 l0_7 g0_7
  refine (newellaw20_CollectAll.calls 5000 x0.f0 x0.f1 x0.f2 x0.f3 x0.f4 A0_5 c0_5 x0.f5.f0 A0_6 c0_6 x0.f5.f1 A0_7 c0_7 x0.f5.f2 true w g0_5 l0_5 g0_6 l0_6 g0_7 l0_7 (ColPure.all_law x0.f0 x0.f1 x0.f2 x0.f3 x0.f4 x0.f5.f0 x0.f5.f1 x0.f5.f2)).mono ?_
  rintro e w' ⟨rfl, hb⟩
  exact ⟨rfl, hb⟩
theorem collectAll_holds : Rows.CollectAllSaid := RowCollectAll.row walkCollectAll
#print axioms collectAll_holds
end Go.Proofs.Ytlfgdcgjndjdgaa
