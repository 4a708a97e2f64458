/- The document's tick of a door. -/
import Derived.Test.YtjfikeahafflfaaDoor3a
import Derived.Test.YtjfikeahafflfaaCxf27
import Derived.Test.YtjfikeahafflfaaCxf8
namespace Go.Proofs.Ytjfikeahafflfaa.DoorPure
open Go.RowKit Go.Proofs.YtjfikeahafflfaaW.PrintWords Go.Proofs.YtjfikeahafflfaaW.PrintLast Go.Proofs.YtjfikeahafflfaaW.PrintMore Go.Proofs.Ytjfikeahafflfaa.C
theorem rstep_eq (g0 g1 g2 g3 g4 g5 g6 g7 g8 g9 d0 d1 d2 : Int) (b : Bool) (hg : gearP g0 g1 g2 g3 g4 g5 g6 g7 g8 g9) (hd : doorP d0 d1 d2) (f : Nat) (hf : 4 < f) :
    newelref17_Step.f f g0 g1 g2 g3 g4 g5 g6 g7 g8 g9 d0 d1 d2 b = some ((stepS g3 g5 g6 g8 g9 d0 d1 d2 b).1, (stepS g3 g5 g6 g8 g9 d0 d1 d2 b).2.1, (stepS g3 g5 g6 g8 g9 d0 d1 d2 b).2.2.1, (stepS g3 g5 g6 g8 g9 d0 d1 d2 b).2.2.2.1) := by
  obtain ⟨f, rfl⟩ : ∃ m, f = m + 2 := ⟨f - 2, by omega⟩
  have w1 : wrap64 (d1 - 1) = d1 - 1 := w64 (by omega)
  have w2 : wrap64 (d2 + 1) = d2 + 1 := w64 (by omega)
  unfold newelref17_Step.f stepS
  simp only [newelref17_Step.j0, newelref17_Step.j1, newelref17_held.f, w1, w2]
  have e : d0 = 0 ∨ d0 = 1 ∨ d0 = 2 ∨ d0 = 3 := by omega
  have e1 : d0 ≠ 0 → (d1 - 1 > 0 ↔ ¬ d1 = 1) := by omega
  rcases e with rfl | rfl | rfl | rfl
  · cases b <;> by_cases h : d2 < g9 <;> simp [h]
  all_goals (simp only [e1 (by decide)]; cases b <;> by_cases h : d2 < g9 <;> by_cases h1 : d1 = 1 <;> simp [h, h1] <;> first | rfl | (by_cases h2 : d1 = g5 <;> simp [h2]))
theorem steps_law (g0 g1 g2 g3 g4 g5 g6 g7 g8 g9 d0 d1 d2 : Int) (b : Bool) : newellaw17_DoorSteps.f 100 g0 g1 g2 g3 g4 g5 g6 g7 g8 g9 d0 d1 d2 b = some true := by
  unfold newellaw17_DoorSteps.f
  rw [step_eq _ _ _ _ _ _ _ _ _ _ _ _ _ _ 100 (by decide), rest_eq _ _ _ _ _ _ _ _ _ _ _ _ _ 100 (by decide), rgear_eq, may_eq _ _ _ 100 (by decide)]
  simp only [Option.bind_some]
  by_cases h1 : gearP g0 g1 g2 g3 g4 g5 g6 g7 g8 g9
  · by_cases h2 : doorP d0 d1 d2
    · have h := And.intro h1 h2
      simp only [if_pos h, decide_eq_true h1, decide_eq_true h2, if_true, Bool.not_true, newellaw17_DoorSteps.j0]
      rw [if_neg (by decide), rstep_eq _ _ _ _ _ _ _ _ _ _ _ _ _ _ h1 h2 99 (by decide), awake_eq 99 (by decide), rrest_eq _ _ _ _ _ _ _ _ _ _ _ _ _ h1 h2 99 (by decide)]
      simp only [Option.bind_some]
      simp [stepS_ok, newellaw17_DoorSteps.j2]
    · have h : ¬ (gearP g0 g1 g2 g3 g4 g5 g6 g7 g8 g9 ∧ doorP d0 d1 d2) := fun h => h2 h.2
      simp only [if_neg h, decide_eq_true h1, decide_eq_false h2, if_true, Bool.not_false, newellaw17_DoorSteps.j0]
      rw [awake_eq 99 (by decide)]
      simp [newellaw17_DoorSteps.j1]
  · have h : ¬ (gearP g0 g1 g2 g3 g4 g5 g6 g7 g8 g9 ∧ doorP d0 d1 d2) := fun h => h1 h.1
    simp only [if_neg h, decide_eq_false h1, newellaw17_DoorSteps.j0]
    rw [awake_eq 99 (by decide)]
    simp [newellaw17_DoorSteps.j1]
end Go.Proofs.Ytjfikeahafflfaa.DoorPure
