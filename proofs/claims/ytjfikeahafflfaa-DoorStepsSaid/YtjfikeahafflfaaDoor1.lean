/- A door, its ticks and its rest as numbers: plain Lean, no memory. -/
import Derived.Test.YtjfikeahafflfaaStep
import Derived.Test.YtjfikeahafflfaaCxf23
import Derived.Test.YtjfikeahafflfaaCxf29
namespace Go.Proofs.Ytjfikeahafflfaa.DoorPure
open Go.RowKit Go.Proofs.YtjfikeahafflfaaW.PrintWords Go.Proofs.YtjfikeahafflfaaW.PrintLast Go.Proofs.YtjfikeahafflfaaW.PrintMore Go.Proofs.Ytjfikeahafflfaa.C

abbrev tI (n : Int) : Prop := 1 ≤ n ∧ n ≤ 60
abbrev timesP (t0 t1 t2 t3 t4 t5 t6 : Int) : Prop := (tI t0 ∧ tI t1 ∧ tI t2 ∧ tI t3 ∧ tI t4 ∧ tI t5) ∧ 0 ≤ t6 ∧ t6 ≤ 60
abbrev gearP (g0 g1 g2 g3 g4 g5 g6 g7 g8 g9 : Int) : Prop := timesP g1 g2 g3 g4 g5 g6 g7 ∧ (2 ≤ g0 ∧ g0 ≤ 64) ∧ (1 ≤ g8 ∧ g8 ≤ 300) ∧ 0 ≤ g9 ∧ g9 ≤ 60
abbrev doorP (d0 d1 d2 : Int) : Prop := (d0 = 0 ∧ d1 = 0 ∧ d2 = 0) ∨ ((d0 = 1 ∨ d0 = 3) ∧ 1 ≤ d1 ∧ d1 ≤ 60 ∧ 0 ≤ d2 ∧ d2 ≤ 60) ∨ (d0 = 2 ∧ 1 ≤ d1 ∧ d1 ≤ 300 ∧ 0 ≤ d2 ∧ d2 ≤ 60)
theorem within_eq (n a b : Int) : door_within.f n a b = some (decide (a ≤ n ∧ n ≤ b)) := by
  unfold door_within.f
  by_cases h : a ≤ n
  · rw [if_pos h]; simp [h]
  · rw [if_neg h]; simp [h]
theorem rdn (l : List Int) (i : Nat) (h : i < l.length) : rd l (i : Int) = l[i] := by
  simp [rd, h]
theorem times_loop (l : List Int) (hl : l.length ≤ 1000) (t0 t1 t2 t3 t4 t5 t6 : Int) (j : Nat) : ∀ (f i : Nat), i + j = l.length → j < f → door_times.l0 f l (l.length : Int) (i : Int) t0 t1 t2 t3 t4 t5 t6 = some (decide ((∀ x ∈ l.drop i, tI x) ∧ 0 ≤ t6 ∧ t6 ≤ 60)) := by
  induction j with
  | zero =>
    intro f i h hf
    obtain ⟨f, rfl⟩ : ∃ m, f = m + 1 := ⟨f - 1, by omega⟩
    simp only [door_times.l0]
    rw [if_neg (by omega), within_eq, List.drop_of_length_le (by omega)]
    simp
  | succ j ih =>
    intro f i h hf
    obtain ⟨f, rfl⟩ : ∃ m, f = m + 1 := ⟨f - 1, by omega⟩
    have hlt : i < l.length := by omega
    have ei : wrap64 ((i : Int) + 1) = ((i + 1 : Nat) : Int) := by unfold wrap64; omega
    simp only [door_times.l0]
    rw [if_pos (by omega), if_pos (by omega), if_pos (by omega), rdn l i hlt, within_eq, ei, ih f (i + 1) (by omega) (by omega), List.drop_eq_getElem_cons hlt]
    simp only [Option.bind_some]
    by_cases hc : 1 ≤ l[i] ∧ l[i] ≤ 60
    · rw [decide_eq_true hc, if_pos rfl]
      congr 1
      rw [decide_eq_decide]
      constructor
      · rintro ⟨h1, h2⟩
        refine ⟨fun x hx => ?_, h2⟩
        rcases List.mem_cons.1 hx with rfl | hx
        · exact hc
        · exact h1 x hx
      · rintro ⟨h1, h2⟩
        exact ⟨fun x hx => h1 x (List.mem_cons_of_mem _ hx), h2⟩
    · have : ¬ ((∀ x ∈ l[i] :: l.drop (i + 1), tI x) ∧ 0 ≤ t6 ∧ t6 ≤ 60) := fun h => hc (h.1 _ List.mem_cons_self)
      rw [decide_eq_false hc, if_neg (by decide), decide_eq_false this]
theorem times_eq (t0 t1 t2 t3 t4 t5 t6 : Int) (f : Nat) (hf : 10 < f) : door_times.f f t0 t1 t2 t3 t4 t5 t6 = some (decide (timesP t0 t1 t2 t3 t4 t5 t6)) := by
  unfold door_times.f
  simp only [Option.bind_some]
  have := times_loop [t0, t1, t2, t3, t4, t5] (by simp) t0 t1 t2 t3 t4 t5 t6 6 f 0 rfl (by omega)
  rw [show ((0 : Nat) : Int) = 0 from rfl] at this
  rw [this]
  congr 1
  rw [decide_eq_decide]
  simp only [List.drop_zero, List.mem_cons, List.not_mem_nil, or_false, forall_eq_or_imp, forall_eq]
theorem gear_eq (g0 g1 g2 g3 g4 g5 g6 g7 g8 g9 : Int) (f : Nat) (hf : 10 < f) : door_gear.f f g0 g1 g2 g3 g4 g5 g6 g7 g8 g9 = some (decide (gearP g0 g1 g2 g3 g4 g5 g6 g7 g8 g9)) := by
  unfold door_gear.f
  rw [times_eq _ _ _ _ _ _ _ f hf, within_eq, within_eq, within_eq]
  simp only [Option.bind_some]
  by_cases h1 : timesP g1 g2 g3 g4 g5 g6 g7
  · rw [decide_eq_true h1, if_pos rfl]
    by_cases h2 : 2 ≤ g0 ∧ g0 ≤ 64
    · rw [decide_eq_true h2, if_pos rfl]
      by_cases h3 : 1 ≤ g8 ∧ g8 ≤ 300
      · rw [decide_eq_true h3, if_pos rfl]
        congr 1
        rw [decide_eq_decide]
        exact ⟨fun h => ⟨h1, h2, h3, h⟩, fun h => h.2.2.2⟩
      · rw [decide_eq_false h3, if_neg (by decide), decide_eq_false (fun h => h3 h.2.2.1)]
    · rw [decide_eq_false h2, if_neg (by decide), decide_eq_false (fun h => h2 h.2.1)]
  · rw [decide_eq_false h1, if_neg (by decide), decide_eq_false (fun h => h1 h.1)]
theorem on_eq (d0 d1 d2 a b : Int) : door_on.f d0 d1 d2 a b = some (if wrap64 (d1 - 1) = 0 then (a, b, d2) else (d0, wrap64 (d1 - 1), d2)) := by
  unfold door_on.f
  split <;> rfl
theorem check_eq (d0 d1 d2 : Int) : door_Check.f d0 d1 d2 = some (if doorP d0 d1 d2 then 0 else 170) := by
  unfold door_Check.f
  rw [within_eq, within_eq, within_eq, on_eq]
  simp only [Option.bind_some]
  by_cases h : 0 ≤ d0 ∧ d0 ≤ 3
  · rw [decide_eq_true h, if_pos rfl]
    have hm : (mn (mostI d0) 1 ≤ d1 ∧ d1 ≤ mostI d0) ∧ (0 ≤ d2 ∧ d2 ≤ mn (mostI d0) 60) ↔ doorP d0 d1 d2 := by
      have e : d0 = 0 ∨ d0 = 1 ∨ d0 = 2 ∨ d0 = 3 := by omega
      rcases e with rfl | rfl | rfl | rfl <;> simp [mostI, mn] <;> omega
    by_cases h1 : mn (mostI d0) 1 ≤ d1 ∧ d1 ≤ mostI d0
    · rw [decide_eq_true h1, if_pos rfl]
      by_cases h2 : 0 ≤ d2 ∧ d2 ≤ mn (mostI d0) 60
      · rw [decide_eq_true h2, if_pos rfl, if_pos (hm.1 ⟨h1, h2⟩)]
      · rw [decide_eq_false h2, if_neg (by decide), if_neg (fun h => h2 (hm.2 h).2)]
    · rw [decide_eq_false h1, if_neg (by decide), if_neg (fun h => h1 (hm.2 h).1)]
  · rw [decide_eq_false h, if_neg (by decide), if_neg (by omega)]

/-- A tick of a door that may be. -/
def stepS (g3 g5 g6 g8 g9 d0 d1 d2 : Int) (b : Bool) : Int × Int × Int × Bool × Int :=
  if d0 = 0 then (d0, d1, d2, false, 0)
  else if d0 = 1 then (if d1 = 1 then (2, g8, d2, false, 0) else (1, d1 - 1, d2, false, 0))
  else if b = true ∧ d2 < g9 then (if d0 = 2 then (2, g8, d2 + 1, false, 0) else (1, g3, d2 + 1, false, 0))
  else if d0 = 2 then (if d1 = 1 then (3, g6, d2, decide (d1 = g5), 0) else (2, d1 - 1, d2, decide (d1 = g5), 0))
  else (if d1 = 1 then (0, 0, 0, false, 0) else (3, d1 - 1, d2, false, 0))
theorem tick_eq (g0 g1 g2 g3 g4 g5 g6 g7 g8 g9 d0 d1 d2 : Int) (b c : Bool) (hd : doorP d0 d1 d2) (hb : d0 ≠ 0 → d0 ≠ 1 → b = c) (hg : b = true → d2 < 60) (x : Bool) :
    (door_tick.f g0 g1 g2 g3 g4 g5 g6 g7 g8 g9 d0 d1 d2 b).bind (fun t => some (t.1, t.2.1, t.2.2, x, (0 : Int))) =
      some ((if d0 = 0 then (d0, d1, d2, x, 0) else if d0 = 1 then (if d1 = 1 then (2, g8, d2, x, 0) else (1, d1 - 1, d2, x, 0)) else if b = true then (if d0 = 2 then (2, g8, d2 + 1, x, 0) else (1, g3, d2 + 1, x, 0)) else if d0 = 2 then (if d1 = 1 then (3, g6, d2, x, 0) else (2, d1 - 1, d2, x, 0)) else (if d1 = 1 then (0, 0, 0, x, 0) else (3, d1 - 1, d2, x, 0))) : Int × Int × Int × Bool × Int) := by
  have e : d0 = 0 ∨ d0 = 1 ∨ d0 = 2 ∨ d0 = 3 := by omega
  have w1 : d0 ≠ 0 → wrap64 (d1 - 1) = d1 - 1 := by intro _; unfold wrap64; omega
  have w2 : wrap64 (d2 + 1) = d2 + 1 := by unfold wrap64; omega
  have e1 : d1 - 1 = 0 ↔ d1 = 1 := by omega
  unfold door_tick.f
  rcases e with rfl | rfl | rfl | rfl
  · simp [door_phases_1.f]
  · simp only [door_phases_2.f, on_eq, w1 (by decide), e1]
    by_cases h : d1 = 1 <;> simp [h]
  · simp only [door_open.f, on_eq, w1 (by decide), w2, e1]
    cases b <;> by_cases h : d1 = 1 <;> simp [h]
  · simp only [door_closing.f, on_eq, w1 (by decide), w2, e1]
    cases b <;> by_cases h : d1 = 1 <;> simp [h]
theorem step_eq (g0 g1 g2 g3 g4 g5 g6 g7 g8 g9 d0 d1 d2 : Int) (b : Bool) (f : Nat) (hf : 10 < f) :
    door_Step.f f g0 g1 g2 g3 g4 g5 g6 g7 g8 g9 d0 d1 d2 b = some (if gearP g0 g1 g2 g3 g4 g5 g6 g7 g8 g9 ∧ doorP d0 d1 d2 then stepS g3 g5 g6 g8 g9 d0 d1 d2 b else (0, 0, 0, false, 170)) := by
  unfold door_Step.f
  rw [gear_eq _ _ _ _ _ _ _ _ _ _ f hf, check_eq]
  simp only [Option.bind_some]
  obtain ⟨f, rfl⟩ : ∃ m, f = m + 1 := ⟨f - 1, by omega⟩
  by_cases h1 : gearP g0 g1 g2 g3 g4 g5 g6 g7 g8 g9
  · rw [decide_eq_true h1, if_pos rfl]
    by_cases h2 : doorP d0 d1 d2
    · rw [if_pos h2, if_pos rfl, if_pos (show gearP g0 g1 g2 g3 g4 g5 g6 g7 g8 g9 ∧ doorP d0 d1 d2 from ⟨h1, h2⟩)]
      have hg9 : g9 ≤ 60 := h1.2.2.2.2
      simp only [door_Step.j0, door_Step.j1]
      rw [tick_eq _ _ _ _ _ _ _ _ _ _ _ _ _ (decide (d2 < g9)) (decide (d2 < g9)) h2 (fun _ _ => rfl) (by intro h; have := of_decide_eq_true h; omega), tick_eq _ _ _ _ _ _ _ _ _ _ _ _ _ (decide (d2 < g9)) (decide (d2 < g9)) h2 (fun _ _ => rfl) (by intro h; have := of_decide_eq_true h; omega), tick_eq _ _ _ _ _ _ _ _ _ _ _ _ _ false false h2 (fun _ _ => rfl) (by simp), tick_eq _ _ _ _ _ _ _ _ _ _ _ _ _ false false h2 (fun _ _ => rfl) (by simp)]
      unfold stepS
      have e : d0 = 0 ∨ d0 = 1 ∨ d0 = 2 ∨ d0 = 3 := by omega
      rcases e with rfl | rfl | rfl | rfl <;> cases b <;> by_cases h : d2 < g9 <;> by_cases h3 : d1 = 1 <;> by_cases h4 : d1 = g5 <;> simp [h, h3, h4] <;> (by_cases h5 : (1 : Int) = g5 <;> simp [h5])
    · rw [if_neg h2, if_neg (by decide), if_neg (fun h => h2 h.2)]
  · rw [decide_eq_false h1, if_neg (by decide), if_neg (fun h => h1 h.1)]
end Go.Proofs.Ytjfikeahafflfaa.DoorPure
