/- What is next: the law, in plain Lean. -/
import Derived.Test.YtlfgdcgjndjdgaaLaw20
import Derived.Test.YtlfgdcgjndjdgaaCxf3
namespace Go.Proofs.Ytlfgdcgjndjdgaa.ColPure
open Go.RowKit Go.Proofs.YtlfgdcgjndjdgaaW.PrintWords Go.Proofs.YtlfgdcgjndjdgaaW.PrintLast Go.Proofs.YtlfgdcgjndjdgaaW.PrintMore Go.Proofs.Ytlfgdcgjndjdgaa.C
set_option linter.unusedVariables false
variable {I U D : List Int}
theorem nexts_law (fl f d : Int) (su sd : Bool) (I U D : List Int) (a : Int) : newellaw20_CollectNexts.f 3000 fl f d su sd I U D a = some true := by
  unfold newellaw20_CollectNexts.f
  rw [few_eq, Option.bind_some]
  by_cases c : decide (I.length ≤ 80 ∧ U.length ≤ 80 ∧ D.length ≤ 80) = true
  · have h := few_of c
    rw [if_pos c, own_eq h, Option.bind_some]
    dsimp only
    rw [next_eq h fl f d su sd _ (by omega), Option.bind_some, called_eq h, Option.bind_some, called20_eq h a _ (by omega), Option.bind_some, if_neg (by rw [bne_self_eq_false]; decide), may20_eq h fl f d su sd _ (by omega), Option.bind_some]
    have ck := check_eq h fl f d su sd 3000 (by omega)
    cases hm : mayB fl f d I U D
    · have en : nxt fl f d su sd I U D = (0, 0, 200) := by unfold nxt; rw [hm]; rfl
      rw [if_neg (show ¬ (false = true) by decide), awake_eq _ (by omega), Option.bind_some, if_pos rfl, en]
      dsimp only
      rw [hm] at ck
      rw [if_pos rfl, Option.bind_some]
      dsimp only
      rw [ck, Option.bind_some]
      rfl
    · have m := (may_iff fl f d I U D).1 hm
      have en : nxt fl f d su sd I U D = nextB f d su sd I U D := by unfold nxt; rw [hm]; rfl
      rw [if_pos rfl, next20_eq h m su sd _ (by omega), Option.bind_some, awake_eq _ (by omega), Option.bind_some, if_pos rfl, en]
      have e2 : (nextB f d su sd I U D).2.2 = 0 := by
        by_cases hC : allC I U D = []
        · rw [nextB_nil hC]
        · rw [nextB_eq hC]
          exact (nx_facts (dirB_pm m.d0 m.d1) hC).1
      rw [if_pos e2, Option.bind_some]
      dsimp only
      rw [hm] at ck
      rw [ck, Option.bind_some, e2, if_pos rfl, if_pos rfl, newellaw20_CollectNexts.j1, beq_self_eq_true]
      try rw [if_pos rfl]
  · rw [if_neg c, awake_eq _ (by omega)]
    rfl
end Go.Proofs.Ytlfgdcgjndjdgaa.ColPure
