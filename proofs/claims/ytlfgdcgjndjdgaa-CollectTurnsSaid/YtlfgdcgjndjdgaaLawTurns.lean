/- It turns when nothing is ahead: the law, in plain Lean. -/
import Derived.Test.YtlfgdcgjndjdgaaLawTw
import Derived.Test.YtlfgdcgjndjdgaaCxf5
namespace Go.Proofs.Ytlfgdcgjndjdgaa.ColPure
open Go.RowKit Go.Proofs.YtlfgdcgjndjdgaaW.PrintWords Go.Proofs.YtlfgdcgjndjdgaaW.PrintLast Go.Proofs.YtlfgdcgjndjdgaaW.PrintMore Go.Proofs.Ytlfgdcgjndjdgaa.C
set_option linter.unusedVariables false
variable {I U D : List Int}
theorem turns_law (fl f d : Int) (su sd : Bool) (I U D : List Int) : newellaw20_CollectTurns.f 3000 fl f d su sd I U D = some true := by
  unfold newellaw20_CollectTurns.f
  rw [few_eq, Option.bind_some]
  by_cases c : decide (I.length ≤ 80 ∧ U.length ≤ 80 ∧ D.length ≤ 80) = true
  · have h := few_of c
    have skip : ∀ e, newellaw20_CollectTurns.j0 3000 e true fl f d su sd I U D = some true := by
      intro e
      rw [newellaw20_CollectTurns.j0, if_pos rfl, awake_eq _ (by omega)]
      rfl
    rw [if_pos c, own_eq h, Option.bind_some]
    dsimp only
    rw [next_eq h fl f d su sd _ (by omega), Option.bind_some]
    cases hm : mayB fl f d I U D
    · have en : nxt fl f d su sd I U D = (0, 0, 200) := by unfold nxt; rw [hm]; rfl
      rw [en, if_neg (by decide), skip]
    · have m := (may_iff fl f d I U D).1 hm
      have en : nxt fl f d su sd I U D = nextB f d su sd I U D := by unfold nxt; rw [hm]; rfl
      rw [en]
      by_cases c0 : d = 0
      · rw [if_pos c0, skip]
        split <;> rfl
      rw [if_neg c0]
      by_cases hC : allC I U D = []
      · rw [nextB_nil hC, if_pos rfl]
        exact skip 0
      · have hd : d = 1 ∨ d = -1 := by have := m.d0; have := m.d1; omega
        rw [nextB_eq hC, dirB_same hd]
        obtain ⟨f1, f2, f3, f4, -⟩ := nx_facts (f := f) (su := su) (sd := sd) hd hC
        revert f1 f2 f3 f4
        generalize nx f d su sd I U D = n
        obtain ⟨x, e, z⟩ := n
        dsimp only
        intro f1 f2 f3 f4
        subst f1
        have hx : (x == 0) = false := by
          rcases f3 with ⟨rfl, _⟩ | ⟨rfl, _⟩
          · rfl
          · unfold rideB
            split <;> rfl
        rw [if_pos rfl, hx, newellaw20_CollectTurns.j0, if_neg (by decide), awake_eq _ (by omega), Option.bind_some, if_pos rfl]
        rcases f4 with rfl | ⟨rfl, f4⟩
        · rw [if_pos rfl]
          rfl
        · rw [if_neg (by omega), negw hd, if_pos rfl, toward_eq h m hd su sd _ (by omega), f4]
          rfl
  · rw [if_neg c, awake_eq _ (by omega)]
    rfl
end Go.Proofs.Ytlfgdcgjndjdgaa.ColPure
