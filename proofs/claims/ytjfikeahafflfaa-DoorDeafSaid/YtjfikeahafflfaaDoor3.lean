/- The five laws of a door: plain Lean, no memory. -/
import Derived.Test.YtjfikeahafflfaaDoor2
import Derived.Test.YtjfikeahafflfaaCxf9
import Derived.Test.YtjfikeahafflfaaCxf10
import Derived.Test.YtjfikeahafflfaaCxf12
namespace Go.Proofs.Ytjfikeahafflfaa.DoorPure
open Go.RowKit Go.Proofs.YtjfikeahafflfaaW.PrintWords Go.Proofs.YtjfikeahafflfaaW.PrintLast Go.Proofs.YtjfikeahafflfaaW.PrintMore Go.Proofs.Ytjfikeahafflfaa.C

theorem stepS_ok (g3 g5 g6 g8 g9 d0 d1 d2 : Int) (b : Bool) : (stepS g3 g5 g6 g8 g9 d0 d1 d2 b).2.2.2.2 = 0 := by
  unfold stepS
  repeat' split
  all_goals rfl
theorem asks_law (t0 t1 t2 t3 t4 t5 t6 d0 d1 d2 : Int) : newellaw17_DoorAsks.f 100 t0 t1 t2 t3 t4 t5 t6 d0 d1 d2 = some true := by
  unfold newellaw17_DoorAsks.f
  rw [ask_eq _ _ _ _ _ _ _ _ _ _ 100 (by decide), check_eq, may_eq _ _ _ 100 (by decide), rtimes_eq]
  simp only [Option.bind_some]
  by_cases h2 : doorP d0 d1 d2
  · rw [if_pos h2, decide_eq_true h2, if_neg (by decide)]
    by_cases h1 : timesP t0 t1 t2 t3 t4 t5 t6
    · have h := And.intro h1 h2
      simp only [if_pos h, decide_eq_true h1, if_true, Bool.not_true, newellaw17_DoorAsks.j0]
      rw [if_neg (by decide), awake_eq 99 (by decide)]
      simp only [Option.bind_some, newelref17_Ask.f]
      by_cases e : d0 = 0
      · simp [e, newellaw17_DoorAsks.j2]
      · simp [e, newellaw17_DoorAsks.j2]
    · have h : ¬ (timesP t0 t1 t2 t3 t4 t5 t6 ∧ doorP d0 d1 d2) := fun h => h1 h.1
      simp only [if_neg h, decide_eq_false h1, newellaw17_DoorAsks.j0]
      rw [awake_eq 99 (by decide)]
      simp [newellaw17_DoorAsks.j1]
  · have h : ¬ (timesP t0 t1 t2 t3 t4 t5 t6 ∧ doorP d0 d1 d2) := fun h => h2 h.2
    rw [if_neg h2, decide_eq_false h2, if_neg (by decide), if_neg h]
    by_cases h1 : timesP t0 t1 t2 t3 t4 t5 t6
    · simp only [decide_eq_true h1, if_true, Bool.not_false, newellaw17_DoorAsks.j0]
      rw [awake_eq 99 (by decide)]
      simp [newellaw17_DoorAsks.j1]
    · simp only [decide_eq_false h1, newellaw17_DoorAsks.j0]
      rw [awake_eq 99 (by decide)]
      simp [newellaw17_DoorAsks.j1]
/-- The rest that holds cost at most. -/
def prodS (S g9 d2 : Int) : Int := if d2 < g9 then (g9 - d2) * S else 0
theorem prodS_next {S g9 d2 : Int} (h : d2 < g9) : prodS S g9 (d2 + 1) = prodS S g9 d2 - S := by
  unfold prodS
  rw [if_pos h]
  have e : (g9 - (d2 + 1)) * S = (g9 - d2) * S - S := by rw [show g9 - (d2 + 1) = (g9 - d2) - 1 from by omega, Int.sub_mul, Int.one_mul]
  by_cases h1 : d2 + 1 < g9
  · rw [if_pos h1, e]
  · rw [if_neg h1, show g9 - d2 = 1 from by omega, Int.one_mul]; omega
theorem prodS_le {S g9 d2 : Int} (hS : 0 ≤ S) : 0 ≤ prodS S g9 d2 := by
  unfold prodS
  by_cases h : d2 < g9
  · rw [if_pos h]; exact Int.mul_nonneg (by omega) hS
  · rw [if_neg h]; omega
theorem restS_eq (g3 g6 g8 g9 d0 d1 d2 : Int) : restS g3 g6 g8 g9 d0 d1 d2 = if d0 = 0 then 0 else d1 + (if d0 = 1 then g8 + g6 else if d0 = 2 then g6 else 0) + prodS (g3 + g8 + g6) g9 d2 := rfl
/-- What a tick does to a door and to its rest. -/
theorem tick_all {g0 g1 g2 g3 g4 g5 g6 g7 g8 g9 d0 d1 d2 : Int} (b : Bool) (hg : gearP g0 g1 g2 g3 g4 g5 g6 g7 g8 g9) (hd : doorP d0 d1 d2) :
    ∃ e0 e1 e2 c, stepS g3 g5 g6 g8 g9 d0 d1 d2 b = (e0, e1, e2, c, 0) ∧ doorP e0 e1 e2 ∧ (c = true → d0 = 2) ∧ (e0 = 0 → d0 = 0 ∨ d0 = 3) ∧ (d0 = 0 → e0 = 0 ∧ e1 = 0 ∧ e2 = 0) ∧ e2 ≤ mx d2 g9 ∧
      (d0 ≠ 0 → restS g3 g6 g8 g9 e0 e1 e2 ≤ restS g3 g6 g8 g9 d0 d1 d2 - 1) := by
  have a1 : 1 ≤ g3 ∧ g3 ≤ 60 := hg.1.1.2.2.1
  have a2 : 1 ≤ g6 ∧ g6 ≤ 60 := hg.1.1.2.2.2.2.2
  have a3 : 1 ≤ g8 ∧ g8 ≤ 300 := hg.2.2.1
  have a4 : 0 ≤ g9 ∧ g9 ≤ 60 := hg.2.2.2
  have hm : d2 ≤ mx d2 g9 ∧ g9 ≤ mx d2 g9 := by unfold mx; split <;> omega
  have hp := prodS_le (S := g3 + g8 + g6) (g9 := g9) (d2 := d2) (by omega)
  clear hg
  have e : d0 = 0 ∨ d0 = 1 ∨ d0 = 2 ∨ d0 = 3 := by omega
  unfold stepS
  simp only [restS_eq]
  rcases e with rfl | rfl | rfl | rfl
  · exact ⟨_, _, _, _, if_pos rfl, hd, by simp, fun _ => .inl rfl, by omega, hm.1, fun h => absurd rfl h⟩
  · by_cases h : d1 = 1
    · refine ⟨2, g8, d2, false, by simp [h], by omega, by simp, by simp, by simp, hm.1, fun _ => ?_⟩
      simp [h]; omega
    · refine ⟨1, d1 - 1, d2, false, by simp [h], by omega, by simp, by simp, by simp, hm.1, fun _ => ?_⟩
      simp; omega
  · by_cases hb : b = true ∧ d2 < g9
    · refine ⟨2, g8, d2 + 1, false, by simp [hb], by omega, by simp, by simp, by simp, by omega, fun _ => ?_⟩
      simp [prodS_next hb.2]; omega
    · by_cases h : d1 = 1
      · refine ⟨3, g6, d2, decide (d1 = g5), by simp only [if_neg hb, if_pos h]; simp, by omega, by simp, by simp, by simp, hm.1, fun _ => ?_⟩
        simp [h]; omega
      · refine ⟨2, d1 - 1, d2, decide (d1 = g5), by simp only [if_neg hb, if_neg h]; simp, by omega, by simp, by simp, by simp, hm.1, fun _ => ?_⟩
        simp; omega
  · by_cases hb : b = true ∧ d2 < g9
    · refine ⟨1, g3, d2 + 1, false, by simp [hb], by omega, by simp, by simp, by simp, by omega, fun _ => ?_⟩
      simp [prodS_next hb.2]; omega
    · by_cases h : d1 = 1
      · refine ⟨0, 0, 0, false, by simp only [if_neg hb, if_pos h]; simp, by omega, by simp, by simp, by simp, by unfold mx; split <;> omega, fun _ => ?_⟩
        simp [h]; omega
      · refine ⟨3, d1 - 1, d2, false, by simp only [if_neg hb, if_neg h]; simp, by omega, by simp, by simp, by simp, hm.1, fun _ => ?_⟩
        simp; omega
theorem rest_sign {g0 g1 g2 g3 g4 g5 g6 g7 g8 g9 d0 d1 d2 : Int} (hg : gearP g0 g1 g2 g3 g4 g5 g6 g7 g8 g9) (hd : doorP d0 d1 d2) : 0 ≤ restS g3 g6 g8 g9 d0 d1 d2 ∧ (restS g3 g6 g8 g9 d0 d1 d2 = 0 ↔ d0 = 0) ∧ restS g3 g6 g8 g9 d0 d1 d2 ≤ 26000 := by
  have a1 : 1 ≤ g3 ∧ g3 ≤ 60 := hg.1.1.2.2.1
  have a2 : 1 ≤ g6 ∧ g6 ≤ 60 := hg.1.1.2.2.2.2.2
  have a3 : 1 ≤ g8 ∧ g8 ≤ 300 := hg.2.2.1
  obtain ⟨-, m2, m3⟩ := rest_mid _ _ _ _ _ _ _ _ _ _ _ _ _ hg hd
  unfold restS
  generalize (if d2 < g9 then (g9 - d2) * (g3 + g8 + g6) else 0) = p at m2 m3 ⊢
  clear hg
  have e : d0 = 0 ∨ d0 = 1 ∨ d0 = 2 ∨ d0 = 3 := by omega
  rcases e with rfl | rfl | rfl | rfl <;> simp <;> omega
theorem falls_law (g0 g1 g2 g3 g4 g5 g6 g7 g8 g9 d0 d1 d2 : Int) (b : Bool) : newellaw17_DoorFalls.f 100 g0 g1 g2 g3 g4 g5 g6 g7 g8 g9 d0 d1 d2 b = some true := by
  unfold newellaw17_DoorFalls.f
  rw [step_eq _ _ _ _ _ _ _ _ _ _ _ _ _ _ 100 (by decide), rest_eq _ _ _ _ _ _ _ _ _ _ _ _ _ 100 (by decide)]
  simp only [Option.bind_some]
  by_cases h : gearP g0 g1 g2 g3 g4 g5 g6 g7 g8 g9 ∧ doorP d0 d1 d2
  · obtain ⟨e0, e1, e2, c, he, hde, hc, hz, hs, hm, hr⟩ := tick_all b h.1 h.2
    rw [if_pos h, if_pos h, he]
    simp only [newellaw17_DoorFalls.j0]
    rw [if_pos trivial, if_neg (by decide), rest_eq _ _ _ _ _ _ _ _ _ _ _ _ _ 99 (by decide), if_pos (show gearP g0 g1 g2 g3 g4 g5 g6 g7 g8 g9 ∧ doorP e0 e1 e2 from ⟨h.1, hde⟩), awake_eq 99 (by decide)]
    simp only [Option.bind_some]
    obtain ⟨n1, n2, n3⟩ := rest_sign h.1 h.2
    obtain ⟨m1, m2, m3⟩ := rest_sign h.1 hde
    by_cases e : d0 = 0
    · obtain ⟨z0, z1, z2⟩ := hs e
      have hd := h.2
      have d1z : d1 = 0 := by omega
      have d2z : d2 = 0 := by omega
      rw [if_pos e, if_pos trivial, n2.2 e, m2.2 z0]
      simp [newellaw17_DoorFalls.j1, e, z0, z1, z2, d1z, d2z]
    · have hr := hr e
      have hw : wrap64 (restS g3 g6 g8 g9 d0 d1 d2 - 1) = restS g3 g6 g8 g9 d0 d1 d2 - 1 := w64 (by omega)
      have hn : restS g3 g6 g8 g9 d0 d1 d2 ≥ 1 := by omega
      have hq : ((restS g3 g6 g8 g9 e0 e1 e2 == 0) == (e0 == 0)) = true := by
        rw [beq_iff_eq, Bool.eq_iff_iff, beq_iff_eq, beq_iff_eq]; exact m2
      rw [if_neg e, if_pos trivial, if_pos trivial, if_pos hn, hw, if_pos hr, if_pos m1, if_pos hq]
      simp only [newellaw17_DoorFalls.j2]
      rw [decide_eq_true hm]
  · rw [if_neg h, if_neg h]
    simp only [newellaw17_DoorFalls.j0]
    rw [if_neg (by decide), if_pos trivial, awake_eq 99 (by decide)]
    rfl
theorem deaf_law (g0 g1 g2 g3 g4 g5 g6 g7 g8 g9 d0 d1 d2 : Int) : newellaw17_DoorDeaf.f 100 g0 g1 g2 g3 g4 g5 g6 g7 g8 g9 d0 d1 d2 = some true := by
  unfold newellaw17_DoorDeaf.f
  rw [step_eq _ _ _ _ _ _ _ _ _ _ _ _ _ _ 100 (by decide), step_eq _ _ _ _ _ _ _ _ _ _ _ _ _ _ 100 (by decide), awake_eq 100 (by decide)]
  have e : (if gearP g0 g1 g2 g3 g4 g5 g6 g7 g8 0 ∧ doorP d0 d1 d2 then stepS g3 g5 g6 g8 0 d0 d1 d2 true else (0, 0, 0, false, 170)) = (if gearP g0 g1 g2 g3 g4 g5 g6 g7 g8 0 ∧ doorP d0 d1 d2 then stepS g3 g5 g6 g8 0 d0 d1 d2 false else (0, 0, 0, false, 170)) := by
    by_cases h : gearP g0 g1 g2 g3 g4 g5 g6 g7 g8 0 ∧ doorP d0 d1 d2
    · rw [if_pos h, if_pos h]
      have h2 := h.2
      have : ¬ d2 < 0 := by omega
      simp [stepS, this]
    · rw [if_neg h, if_neg h]
  rw [e]
  generalize (if gearP g0 g1 g2 g3 g4 g5 g6 g7 g8 0 ∧ doorP d0 d1 d2 then stepS g3 g5 g6 g8 0 d0 d1 d2 false else (0, 0, 0, false, 170)) = r
  simp [newellaw17_DoorDeaf.j0]
end Go.Proofs.Ytjfikeahafflfaa.DoorPure
