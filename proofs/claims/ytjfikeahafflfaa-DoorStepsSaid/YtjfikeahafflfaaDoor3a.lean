/- What a tick does to a door and to its rest: plain Lean, no memory. -/
import Derived.Test.YtjfikeahafflfaaDoor2
namespace Go.Proofs.Ytjfikeahafflfaa.DoorPure
open Go.RowKit Go.Proofs.YtjfikeahafflfaaW.PrintWords Go.Proofs.YtjfikeahafflfaaW.PrintLast Go.Proofs.YtjfikeahafflfaaW.PrintMore Go.Proofs.Ytjfikeahafflfaa.C
theorem stepS_ok (g3 g5 g6 g8 g9 d0 d1 d2 : Int) (b : Bool) : (stepS g3 g5 g6 g8 g9 d0 d1 d2 b).2.2.2.2 = 0 := by
  unfold stepS
  repeat' split
  all_goals rfl
/-- The rest that holds cost at most. -/
def prodS (S g9 d2 : Int) : Int := if d2 < g9 then (g9 - d2) * S else 0
theorem prodS_next {S g9 d2 : Int} (h : d2 < g9) : prodS S g9 (d2 + 1) = prodS S g9 d2 - S := by
  unfold prodS
  rw [if_pos h]
  have e : (g9 - (d2 + 1)) * S = (g9 - d2) * S - S := by rw [show g9 - (d2 + 1) = (g9 - d2) - 1 from by omega, Int.sub_mul, Int.one_mul]
  by_cases h1 : d2 + 1 < g9
  · rw [if_pos h1, e]
  · rw [if_neg h1, show g9 - d2 = 1 from by omega, Int.one_mul]; omega
theorem prodS_le {S g9 d2 : Int} (hS : 0 ≤ S) : 0 ≤ prodS S g9 d2 := by
  unfold prodS
  by_cases h : d2 < g9
  · rw [if_pos h]; exact Int.mul_nonneg (by omega) hS
  · rw [if_neg h]; omega
theorem restS_eq (g3 g6 g8 g9 d0 d1 d2 : Int) : restS g3 g6 g8 g9 d0 d1 d2 = if d0 = 0 then 0 else d1 + (if d0 = 1 then g8 + g6 else if d0 = 2 then g6 else 0) + prodS (g3 + g8 + g6) g9 d2 := rfl
/-- What a tick does to a door and to its rest. -/
theorem tick_all {g0 g1 g2 g3 g4 g5 g6 g7 g8 g9 d0 d1 d2 : Int} (b : Bool) (hg : gearP g0 g1 g2 g3 g4 g5 g6 g7 g8 g9) (hd : doorP d0 d1 d2) :
    ∃ e0 e1 e2 c, stepS g3 g5 g6 g8 g9 d0 d1 d2 b = (e0, e1, e2, c, 0) ∧ doorP e0 e1 e2 ∧ (c = true → d0 = 2) ∧ (e0 = 0 → d0 = 0 ∨ d0 = 3) ∧ (d0 = 0 → e0 = 0 ∧ e1 = 0 ∧ e2 = 0) ∧ e2 ≤ mx d2 g9 ∧
      (d0 ≠ 0 → restS g3 g6 g8 g9 e0 e1 e2 ≤ restS g3 g6 g8 g9 d0 d1 d2 - 1) := by
  have a1 : 1 ≤ g3 ∧ g3 ≤ 60 := hg.1.1.2.2.1
  have a2 : 1 ≤ g6 ∧ g6 ≤ 60 := hg.1.1.2.2.2.2.2
  have a3 : 1 ≤ g8 ∧ g8 ≤ 300 := hg.2.2.1
  have a4 : 0 ≤ g9 ∧ g9 ≤ 60 := hg.2.2.2
  have hm : d2 ≤ mx d2 g9 ∧ g9 ≤ mx d2 g9 := by unfold mx; split <;> omega
  have hp := prodS_le (S := g3 + g8 + g6) (g9 := g9) (d2 := d2) (by omega)
  clear hg
  have e : d0 = 0 ∨ d0 = 1 ∨ d0 = 2 ∨ d0 = 3 := by omega
  unfold stepS
  simp only [restS_eq]
  rcases e with rfl | rfl | rfl | rfl
  · exact ⟨_, _, _, _, if_pos rfl, hd, by simp, fun _ => .inl rfl, by omega, hm.1, fun h => absurd rfl h⟩
  · by_cases h : d1 = 1
    · refine ⟨2, g8, d2, false, by simp [h], by omega, by simp, by simp, by simp, hm.1, fun _ => ?_⟩
      simp [h]; omega
    · refine ⟨1, d1 - 1, d2, false, by simp [h], by omega, by simp, by simp, by simp, hm.1, fun _ => ?_⟩
      simp; omega
  · by_cases hb : b = true ∧ d2 < g9
    · refine ⟨2, g8, d2 + 1, false, by simp [hb], by omega, by simp, by simp, by simp, by omega, fun _ => ?_⟩
      simp [prodS_next hb.2]; omega
    · by_cases h : d1 = 1
      · refine ⟨3, g6, d2, decide (d1 = g5), by simp only [if_neg hb, if_pos h]; simp, by omega, by simp, by simp, by simp, hm.1, fun _ => ?_⟩
        simp [h]; omega
      · refine ⟨2, d1 - 1, d2, decide (d1 = g5), by simp only [if_neg hb, if_neg h]; simp, by omega, by simp, by simp, by simp, hm.1, fun _ => ?_⟩
        simp; omega
  · by_cases hb : b = true ∧ d2 < g9
    · refine ⟨1, g3, d2 + 1, false, by simp [hb], by omega, by simp, by simp, by simp, by omega, fun _ => ?_⟩
      simp [prodS_next hb.2]; omega
    · by_cases h : d1 = 1
      · refine ⟨0, 0, 0, false, by simp only [if_neg hb, if_pos h]; simp, by omega, by simp, by simp, by simp, by unfold mx; split <;> omega, fun _ => ?_⟩
        simp [h]; omega
      · refine ⟨3, d1 - 1, d2, false, by simp only [if_neg hb, if_neg h]; simp, by omega, by simp, by simp, by simp, hm.1, fun _ => ?_⟩
        simp; omega
theorem rest_sign {g0 g1 g2 g3 g4 g5 g6 g7 g8 g9 d0 d1 d2 : Int} (hg : gearP g0 g1 g2 g3 g4 g5 g6 g7 g8 g9) (hd : doorP d0 d1 d2) : 0 ≤ restS g3 g6 g8 g9 d0 d1 d2 ∧ (restS g3 g6 g8 g9 d0 d1 d2 = 0 ↔ d0 = 0) ∧ restS g3 g6 g8 g9 d0 d1 d2 ≤ 26000 := by
  have a1 : 1 ≤ g3 ∧ g3 ≤ 60 := hg.1.1.2.2.1
  have a2 : 1 ≤ g6 ∧ g6 ≤ 60 := hg.1.1.2.2.2.2.2
  have a3 : 1 ≤ g8 ∧ g8 ≤ 300 := hg.2.2.1
  obtain ⟨-, m2, m3⟩ := rest_mid _ _ _ _ _ _ _ _ _ _ _ _ _ hg hd
  unfold restS
  generalize (if d2 < g9 then (g9 - d2) * (g3 + g8 + g6) else 0) = p at m2 m3 ⊢
  clear hg
  have e : d0 = 0 ∨ d0 = 1 ∨ d0 = 2 ∨ d0 = 3 := by omega
  rcases e with rfl | rfl | rfl | rfl <;> simp <;> omega
end Go.Proofs.Ytjfikeahafflfaa.DoorPure
