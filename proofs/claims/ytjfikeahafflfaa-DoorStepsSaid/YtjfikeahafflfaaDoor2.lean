/- A door's rest, and the document's answers: plain Lean, no memory. -/
import Derived.Test.YtjfikeahafflfaaDoor1
import Derived.Test.YtjfikeahafflfaaCxf25
import Derived.Test.YtjfikeahafflfaaCxf28
import Derived.Test.YtjfikeahafflfaaCxf24
import Derived.Test.YtjfikeahafflfaaCxf26
namespace Go.Proofs.Ytjfikeahafflfaa.DoorPure
open Go.RowKit Go.Proofs.YtjfikeahafflfaaW.PrintWords Go.Proofs.YtjfikeahafflfaaW.PrintLast Go.Proofs.YtjfikeahafflfaaW.PrintMore Go.Proofs.Ytjfikeahafflfaa.C

/-- In how many ticks it is shut at the latest. -/
def restS (g3 g6 g8 g9 d0 d1 d2 : Int) : Int :=
  if d0 = 0 then 0 else d1 + (if d0 = 1 then g8 + g6 else if d0 = 2 then g6 else 0) + (if d2 < g9 then (g9 - d2) * (g3 + g8 + g6) else 0)
theorem prod_le {a b : Int} (ha : 0 ≤ a ∧ a ≤ 60) (hb : 0 ≤ b ∧ b ≤ 420) : 0 ≤ a * b ∧ a * b ≤ 25200 := by
  refine ⟨Int.mul_nonneg ha.1 hb.1, ?_⟩
  have h1 : a * b ≤ 60 * b := Int.mul_le_mul_of_nonneg_right ha.2 hb.1
  omega
theorem w64 {n : Int} (h : -1000000000000 ≤ n ∧ n ≤ 1000000000000) : wrap64 n = n := by unfold wrap64; omega
theorem rest_mid (g0 g1 g2 g3 g4 g5 g6 g7 g8 g9 d0 d1 d2 : Int) (hg : gearP g0 g1 g2 g3 g4 g5 g6 g7 g8 g9) (hd : doorP d0 d1 d2) :
    wrap64 ((mx (wrap64 (g9 - d2)) 0) * (wrap64 ((wrap64 (g3 + g8)) + g6))) = (if d2 < g9 then (g9 - d2) * (g3 + g8 + g6) else 0) ∧ 0 ≤ (if d2 < g9 then (g9 - d2) * (g3 + g8 + g6) else 0) ∧ (if d2 < g9 then (g9 - d2) * (g3 + g8 + g6) else 0) ≤ 25200 := by
  have a1 : 1 ≤ g3 ∧ g3 ≤ 60 := hg.1.1.2.2.1
  have a2 : 1 ≤ g6 ∧ g6 ≤ 60 := hg.1.1.2.2.2.2.2
  have a3 : 1 ≤ g8 ∧ g8 ≤ 300 := hg.2.2.1
  have a4 : 0 ≤ g9 ∧ g9 ≤ 60 := hg.2.2.2
  have a5 : 0 ≤ d2 ∧ d2 ≤ 60 := by omega
  rw [w64 (n := g9 - d2) (by omega), w64 (n := g3 + g8) (by omega), w64 (n := g3 + g8 + g6) (by omega)]
  by_cases h : d2 < g9
  · have hp := prod_le (a := g9 - d2) (b := g3 + g8 + g6) (by omega) (by omega)
    rw [if_pos h]
    have e : mx (g9 - d2) 0 = g9 - d2 := by unfold mx; rw [if_neg (by omega)]
    rw [e]
    exact ⟨w64 (by omega), hp⟩
  · rw [if_neg h]
    have e : mx (g9 - d2) 0 = 0 := by unfold mx; split <;> omega
    rw [e, Int.zero_mul]
    exact ⟨w64 (by omega), by omega, by omega⟩
theorem rest_eq (g0 g1 g2 g3 g4 g5 g6 g7 g8 g9 d0 d1 d2 : Int) (f : Nat) (hf : 10 < f) :
    door_Rest.f f g0 g1 g2 g3 g4 g5 g6 g7 g8 g9 d0 d1 d2 = some (if gearP g0 g1 g2 g3 g4 g5 g6 g7 g8 g9 ∧ doorP d0 d1 d2 then (restS g3 g6 g8 g9 d0 d1 d2, 0) else (0, 170)) := by
  unfold door_Rest.f
  rw [gear_eq _ _ _ _ _ _ _ _ _ _ f hf, check_eq]
  simp only [Option.bind_some]
  obtain ⟨f, rfl⟩ : ∃ m, f = m + 1 := ⟨f - 1, by omega⟩
  by_cases h1 : gearP g0 g1 g2 g3 g4 g5 g6 g7 g8 g9
  · rw [decide_eq_true h1, if_pos rfl]
    by_cases h2 : doorP d0 d1 d2
    · rw [if_pos h2, if_pos (show gearP g0 g1 g2 g3 g4 g5 g6 g7 g8 g9 ∧ doorP d0 d1 d2 from ⟨h1, h2⟩)]
      obtain ⟨m1, m2, m3⟩ := rest_mid _ _ _ _ _ _ _ _ _ _ _ _ _ h1 h2
      have a2 : 1 ≤ g6 ∧ g6 ≤ 60 := h1.1.1.2.2.2.2.2
      have a3 : 1 ≤ g8 ∧ g8 ≤ 300 := h1.2.2.1
      simp only [door_Rest.j0]
      rw [m1]
      unfold restS
      generalize (if d2 < g9 then (g9 - d2) * (g3 + g8 + g6) else 0) = p at m2 m3 ⊢
      rw [if_neg (by decide)]
      have hb : 0 ≤ d1 ∧ d1 ≤ 300 := by omega
      by_cases e0 : d0 = 0
      · rw [if_pos e0, if_pos e0]
      · rw [if_neg e0, if_neg e0]
        by_cases e1 : d0 = 1
        · rw [if_pos e1, if_pos e1, w64 (n := g8 + g6) (by omega), w64 (n := d1 + (g8 + g6)) (by omega), w64 (by omega)]
        · rw [if_neg e1, if_neg e1]
          by_cases e2 : d0 = 2
          · rw [if_pos e2, if_pos e2, w64 (n := d1 + g6) (by omega), w64 (by omega)]
          · rw [if_neg e2, if_neg e2, w64 (by omega), Int.add_zero]
    · rw [if_neg h2, if_neg (fun h => h2 h.2)]
      simp only [door_Rest.j0]
      rw [if_pos (by decide)]
  · rw [decide_eq_false h1, if_neg (by decide), if_neg (fun h => h1 h.1)]
    simp only [door_Rest.j0]
    rw [if_pos trivial]
theorem ask_eq (t0 t1 t2 t3 t4 t5 t6 d0 d1 d2 : Int) (f : Nat) (hf : 10 < f) :
    door_Ask.f f t0 t1 t2 t3 t4 t5 t6 d0 d1 d2 = some (if timesP t0 t1 t2 t3 t4 t5 t6 ∧ doorP d0 d1 d2 then (if d0 = 0 then (1, t2, 0, 0) else (d0, d1, d2, 0)) else (0, 0, 0, 170)) := by
  unfold door_Ask.f
  rw [times_eq _ _ _ _ _ _ _ f hf, check_eq]
  simp only [Option.bind_some]
  obtain ⟨f, rfl⟩ : ∃ m, f = m + 1 := ⟨f - 1, by omega⟩
  by_cases h1 : timesP t0 t1 t2 t3 t4 t5 t6
  · rw [decide_eq_true h1, if_pos rfl]
    by_cases h2 : doorP d0 d1 d2
    · rw [if_pos h2, if_pos (show timesP t0 t1 t2 t3 t4 t5 t6 ∧ doorP d0 d1 d2 from ⟨h1, h2⟩)]
      simp only [door_Ask.j0]
      rw [if_neg (by decide)]
      split <;> rfl
    · rw [if_neg h2, if_neg (fun h => h2 h.2)]
      simp only [door_Ask.j0]
      rw [if_pos (by decide)]
  · rw [decide_eq_false h1, if_neg (by decide), if_neg (fun h => h1 h.1)]
    simp only [door_Ask.j0]
    rw [if_pos trivial]

/-! ### The document's answers -/
theorem rtick_eq (n : Int) : newelref17_tick.f n = some (decide (tI n)) := by
  unfold newelref17_tick.f
  by_cases h : n ≥ 1
  · rw [if_pos h]; congr 1; rw [decide_eq_decide]; omega
  · rw [if_neg h, decide_eq_false (by omega)]
theorem rtimes_eq (t0 t1 t2 t3 t4 t5 t6 : Int) : newelref17_Times.f t0 t1 t2 t3 t4 t5 t6 = some (decide (timesP t0 t1 t2 t3 t4 t5 t6)) := by
  unfold newelref17_Times.f
  simp only [rtick_eq, Option.bind_some]
  by_cases h0 : tI t0 <;> by_cases h1 : tI t1 <;> by_cases h2 : tI t2 <;> by_cases h3 : tI t3 <;> by_cases h4 : tI t4 <;> by_cases h5 : tI t5 <;> by_cases h6 : t6 ≥ 0 <;> simp [h0, h1, h2, h3, h4, h5, h6] <;> omega
theorem rgear_eq (g0 g1 g2 g3 g4 g5 g6 g7 g8 g9 : Int) : newelref17_Gear.f g0 g1 g2 g3 g4 g5 g6 g7 g8 g9 = some (decide (gearP g0 g1 g2 g3 g4 g5 g6 g7 g8 g9)) := by
  unfold newelref17_Gear.f
  rw [rtimes_eq]
  simp only [Option.bind_some]
  by_cases h1 : timesP g1 g2 g3 g4 g5 g6 g7
  · rw [decide_eq_true h1, if_pos rfl]
    have e : gearP g0 g1 g2 g3 g4 g5 g6 g7 g8 g9 ↔ ((2 ≤ g0 ∧ g0 ≤ 64) ∧ (1 ≤ g8 ∧ g8 ≤ 300) ∧ 0 ≤ g9 ∧ g9 ≤ 60) := ⟨fun h => h.2, fun h => ⟨h1, h⟩⟩
    rw [show decide (gearP g0 g1 g2 g3 g4 g5 g6 g7 g8 g9) = decide ((2 ≤ g0 ∧ g0 ≤ 64) ∧ (1 ≤ g8 ∧ g8 ≤ 300) ∧ 0 ≤ g9 ∧ g9 ≤ 60) from decide_eq_decide.2 e]
    clear e h1
    repeat' split
    all_goals congr 1
    all_goals first | (rw [decide_eq_decide]; omega) | (symm; rw [decide_eq_false_iff_not]; omega)
  · rw [decide_eq_false h1, if_neg (by decide), decide_eq_false (fun h => h1 h.1)]
theorem may_eq (d0 d1 d2 : Int) (f : Nat) (hf : 2 < f) : newelref17_May.f f d0 d1 d2 = some (decide (doorP d0 d1 d2)) := by
  obtain ⟨f, rfl⟩ : ∃ m, f = m + 1 := ⟨f - 1, by omega⟩
  unfold newelref17_May.f
  simp only [newelref17_May.j0]
  by_cases e0 : d0 = 0
  · rw [if_pos e0]
    by_cases e1 : d1 = 0
    · rw [if_pos e1]; congr 1
      by_cases e2 : d2 = 0
      · rw [decide_eq_true (by omega)]; simp [e2]
      · rw [decide_eq_false (by omega)]; simp [e2]
    · rw [if_neg e1, decide_eq_false (by omega)]
  · rw [if_neg e0]
    by_cases h1 : d2 < 0
    · rw [if_pos h1, if_pos trivial, decide_eq_false (by omega)]
    · rw [if_neg h1]
      by_cases h2 : d2 > 60
      · rw [if_pos h2, if_pos trivial, decide_eq_false (by omega)]
      · rw [if_neg h2]
        by_cases h3 : d1 < 1
        · rw [decide_eq_true h3, if_pos rfl, decide_eq_false (by omega)]
        · rw [decide_eq_false h3, if_neg (by decide)]
          by_cases e2 : d0 = 2
          · rw [if_pos e2]; congr 1; rw [decide_eq_decide]; omega
          · rw [if_neg e2]
            by_cases e1 : d0 = 1
            · rw [if_pos e1]; congr 1; rw [decide_eq_decide]; omega
            · rw [if_neg e1]
              by_cases e3 : d0 = 3
              · rw [if_pos e3]; congr 1; rw [decide_eq_decide]; omega
              · rw [if_neg e3, decide_eq_false (by omega)]
theorem rrest_eq (g0 g1 g2 g3 g4 g5 g6 g7 g8 g9 d0 d1 d2 : Int) (hg : gearP g0 g1 g2 g3 g4 g5 g6 g7 g8 g9) (hd : doorP d0 d1 d2) (f : Nat) (hf : 4 < f) :
    newelref17_Rest.f f g0 g1 g2 g3 g4 g5 g6 g7 g8 g9 d0 d1 d2 = some (restS g3 g6 g8 g9 d0 d1 d2) := by
  obtain ⟨f, rfl⟩ : ∃ m, f = m + 2 := ⟨f - 2, by omega⟩
  obtain ⟨-, m2, m3⟩ := rest_mid _ _ _ _ _ _ _ _ _ _ _ _ _ hg hd
  have a1 : 1 ≤ g3 ∧ g3 ≤ 60 := hg.1.1.2.2.1
  have a2 : 1 ≤ g6 ∧ g6 ≤ 60 := hg.1.1.2.2.2.2.2
  have a3 : 1 ≤ g8 ∧ g8 ≤ 300 := hg.2.2.1
  have a4 : 0 ≤ g9 ∧ g9 ≤ 60 := hg.2.2.2
  have a5 : 0 ≤ d2 ∧ d2 ≤ 60 := by omega
  have hb : 0 ≤ d1 ∧ d1 ≤ 300 := by omega
  unfold newelref17_Rest.f restS
  simp only [newelref17_Rest.j0]
  rw [w64 (n := g3 + g8) (by omega), w64 (n := g3 + g8 + g6) (by omega), w64 (n := g9 - d2) (by omega), w64 (n := d1 + g8) (by omega), w64 (n := d1 + g8 + g6) (by omega), w64 (n := d1 + g6) (by omega)]
  by_cases h : d2 < g9
  · have h' : g9 > d2 := h
    simp only [if_pos h', if_pos h] at m2 m3 ⊢
    generalize (g9 - d2) * (g3 + g8 + g6) = p at m2 m3 ⊢
    rw [w64 (n := p) (by omega), w64 (n := d1 + g8 + g6 + g6) (by omega), w64 (n := d1 + g8 + g6 + p) (by omega), w64 (n := d1 + g6 + p) (by omega), w64 (n := d1 + p) (by omega)]
    by_cases e0 : d0 = 0
    · simp [e0]
    · by_cases e1 : d0 = 1
      · simp [e1]; omega
      · by_cases e2 : d0 = 2
        · simp [e2]
        · simp [e0, e1, e2]
  · have h' : ¬ g9 > d2 := h
    simp only [if_neg h', if_neg h] at m2 m3 ⊢
    rw [w64 (n := d1 + g8 + g6 + g6) (by omega)]
    by_cases e0 : d0 = 0
    · simp [e0]
    · by_cases e1 : d0 = 1
      · simp [e1]; omega
      · by_cases e2 : d0 = 2
        · simp [e2]
        · simp [e0, e1, e2]
/-! ### The chapter's example -/
theorem awake_at : newellaw17_awake.f 60 = some true := by decide +kernel
theorem awake_eq (f : Nat) (hf : 60 ≤ f) : newellaw17_awake.f f = some true := by
  induction f with
  | zero => omega
  | succ n ih =>
    by_cases h : n + 1 = 60
    · rw [h]; exact awake_at
    · exact newellaw17_awake.mono n _ (ih (by omega))
end Go.Proofs.Ytjfikeahafflfaa.DoorPure
