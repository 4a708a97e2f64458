/- It goes towards calls: the law, in plain Lean. -/
import Derived.Test.YtlfgdcgjndjdgaaLawTw
import Derived.Test.YtlfgdcgjndjdgaaCxf4
namespace Go.Proofs.Ytlfgdcgjndjdgaa.ColPure
open Go.RowKit Go.Proofs.YtlfgdcgjndjdgaaW.PrintWords Go.Proofs.YtlfgdcgjndjdgaaW.PrintLast Go.Proofs.YtlfgdcgjndjdgaaW.PrintMore Go.Proofs.Ytlfgdcgjndjdgaa.C
set_option linter.unusedVariables false
variable {I U D : List Int}
theorem toward_law (fl f d : Int) (su sd : Bool) (I U D : List Int) : newellaw20_CollectToward.f 3000 fl f d su sd I U D = some true := by
  unfold newellaw20_CollectToward.f
  rw [few_eq, Option.bind_some]
  by_cases c : decide (I.length ≤ 80 ∧ U.length ≤ 80 ∧ D.length ≤ 80) = true
  · have h := few_of c
    rw [if_pos c, own_eq h, Option.bind_some]
    dsimp only
    rw [next_eq h fl f d su sd _ (by omega), Option.bind_some, sum_eq h]
    cases hm : mayB fl f d I U D
    · have en : nxt fl f d su sd I U D = (0, 0, 200) := by unfold nxt; rw [hm]; rfl
      rw [en, if_neg (by decide), awake_eq _ (by omega)]
      rfl
    · have m := (may_iff fl f d I U D).1 hm
      have en : nxt fl f d su sd I U D = nextB f d su sd I U D := by unfold nxt; rw [hm]; rfl
      rw [en]
      by_cases hC : allC I U D = []
      · rw [nextB_nil hC, if_pos rfl, if_pos rfl, awake_eq _ (by omega), Option.bind_some, if_pos rfl, hC, if_neg (by decide)]
        rfl
      · rw [nextB_eq hC]
        obtain ⟨f1, f2, f3, -, -⟩ := nx_facts (f := f) (su := su) (sd := sd) (dirB_pm (U := U) (f := f) (up := anyUp f (allC I U D)) m.d0 m.d1) hC
        revert f1 f2 f3
        generalize nx f (dirB f d (anyUp f (allC I U D)) U) su sd I U D = n
        obtain ⟨x, e, z⟩ := n
        dsimp only
        intro f1 f2 f3
        subst f1
        have hpos : ((allC I U D).length : Int) > 0 := by have := List.length_pos_iff.2 hC; omega
        rcases f3 with ⟨rfl, f3⟩ | ⟨rfl, f3⟩
        · rw [if_pos rfl, if_neg (by decide), if_pos rfl, awake_eq _ (by omega), Option.bind_some, if_pos rfl, called_eq h, Option.bind_some, if_pos ((has_iff _ _).2 (here_mem f2 f3))]
          rcases f2 with rfl | rfl <;> rfl
        · have tw := toward_eq h m f2 su sd 3000 (by omega)
          rw [f3] at tw
          rcases f2 with rfl | rfl
          · rw [if_pos rfl, if_neg (by decide), if_neg (by decide), awake_eq _ (by omega), Option.bind_some, if_pos rfl, if_pos hpos, if_pos (by decide), if_pos (by decide), tw]
            rfl
          · rw [if_pos rfl, if_neg (by decide), if_neg (by decide), awake_eq _ (by omega), Option.bind_some, if_pos rfl, if_pos hpos, if_pos (by decide), if_pos (by decide), tw]
            rfl
  · rw [if_neg c, awake_eq _ (by omega)]
    rfl
end Go.Proofs.Ytlfgdcgjndjdgaa.ColPure
