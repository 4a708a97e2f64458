/- Clocks: the laws whose functions are printed answer true: plain Lean. -/
import Derived.Test.YtcnjaeeghfmkfaaClock
namespace Go.Proofs.Ytcnjaeeghfmkfaa.Clock
open Go.RowKit Go.Proofs.YtcnjaeeghfmkfaaW.PrintWords Go.Proofs.YtcnjaeeghfmkfaaW.PrintLast Go.Proofs.YtcnjaeeghfmkfaaW.PrintMore Go.Proofs.Ytcnjaeeghfmkfaa.C

theorem reads_pure (a b : Bool) (c d r : Int) (hc : In c) (hd : In d) (hr : In r) : newellaw16_ClockReads.f 5 a b c d r = some true := by
  unfold newellaw16_ClockReads.f
  rw [read_eq 5 (by omega) a b c d r hc hd hr, rmay_eq]
  simp only [Option.bind_some, awake_eq 5 (by omega), check_eq 5 (by omega) a b c d hc hd, decide_eq_true_eq]
  by_cases hm : May a b c d
  · obtain ⟨tc, td⟩ := may_tm hm
    simp [hm, rtr_eq a b c d r tc td, rread_eq a b c d r tc td]
  · simp [hm]
theorem odd_yes (a b : Bool) (c d r : Int) : newellaw16_ClockOdd.j0 6 r true a b c d = some true := by
  simp only [newellaw16_ClockOdd.j0]
  rw [if_pos trivial, awake_eq 5 (by omega)]
  rfl
theorem odd_no (c r : Int) (hm : May true false c 0) (hr : In r) (hn : ¬ (c ≤ r ∧ r ≤ c + 1440)) : newellaw16_ClockOdd.j0 6 r false true false c 0 = some true := by
  obtain ⟨tc, td⟩ := may_tm hm
  simp only [newellaw16_ClockOdd.j0]
  rw [if_neg (by decide), read_eq 5 (by omega) true false c 0 r (tm_in tc) (tm_in td) hr, if_pos hm, awake_eq 5 (by omega)]
  have ht : ¬ Tr true false c 0 r := by unfold Tr; simp; intro _; exact fun h => by omega
  have hM := rd_may hm r
  have e1 : (Rd true false c 0 r).1 = true := by unfold Rd; rw [if_neg ht]; split <;> rfl
  have e3 : (Rd true false c 0 r).2.2.1 = c := by unfold Rd; rw [if_neg ht]; split <;> rfl
  obtain ⟨t1, t2⟩ := may_tm hM
  simp only [Option.bind_some, e3, e1, ht, decide_false, if_true]
  rw [e1, e3] at hM
  rw [e3] at t1
  rw [check_eq 5 (by omega) _ _ _ _ (tm_in t1) (tm_in t2), if_pos hM]
  rfl
theorem odd_pure (a b : Bool) (c d r : Int) (hc : In c) (hd : In d) (hr : In r) : newellaw16_ClockOdd.f 6 a b c d r = some true := by
  unfold newellaw16_ClockOdd.f
  rw [check_eq 6 (by omega) a b c d hc hd]
  simp only [Option.bind_some]
  by_cases hm : May a b c d
  · rw [if_pos hm, if_pos rfl]
    cases a
    · rw [if_neg (by decide)]; exact odd_yes _ _ _ _ _
    · cases b
      · obtain ⟨tc, td⟩ := may_tm hm
        obtain rfl : d = 0 := by
          rcases hm.2.2.2.1 with h | h
          · cases h
          · exact h
        have e : wrap64 (r - c) = r - c ∨ ¬ r ≥ c := by unfold Tm at tc; unfold In at hr; unfold wrap64; omega
        simp only [if_true]
        rw [if_neg (by decide)]
        by_cases h1 : r ≥ c
        · rw [if_pos h1]
          rcases e with e | e
          · rw [e]
            by_cases h2 : r - c ≤ 1440
            · rw [decide_eq_true h2]; exact odd_yes _ _ _ _ _
            · rw [decide_eq_false h2]; exact odd_no c r hm hr (by omega)
          · exact absurd h1 e
        · rw [if_neg h1]; exact odd_no c r hm hr (by omega)
      · simp only [if_true]; exact odd_yes _ _ _ _ _
  · rw [if_neg hm, if_neg (by decide)]
    exact odd_yes _ _ _ _ _
theorem agree_yes (a b : Bool) (c d r m : Int) : newellaw16_ClockAgree.j0 9 r m true a b c d = some true := by
  simp only [newellaw16_ClockAgree.j0]
  rw [if_pos trivial, awake_eq 8 (by omega)]
  rfl
theorem two_trusted {a b : Bool} {c d r m : Int} (hr : Tm r) (hs : Tm (r + m)) (h0 : 0 ≤ m) (h1 : m ≤ 60) : (All [r, r + m] a b c d).2 = (true, false, r + m, 0) ∧ 1 ≤ (All [r, r + m] a b c d).1 := by
  simp only [All]
  by_cases ht : Tr a b c d r
  · have e : Rd a b c d r = (true, false, r, 0) := by unfold Rd; rw [if_pos ht]
    have h2 : Tr true false r 0 (r + m) := ⟨hs, .inr (.inl (by omega))⟩
    have e2 : Rd true false r 0 (r + m) = (true, false, r + m, 0) := by unfold Rd; rw [if_pos h2]
    rw [e]
    simp only [e2, if_pos ht, if_pos h2]
    exact ⟨trivial, by omega⟩
  · have e : Rd a b c d r = (a, true, c, r) := by unfold Rd; rw [if_neg ht, if_pos hr]
    have h2 : Tr a true c r (r + m) := ⟨hs, .inr (.inr ⟨rfl, by omega⟩)⟩
    have e2 : Rd a true c r (r + m) = (true, false, r + m, 0) := by unfold Rd; rw [if_pos h2]
    rw [e]
    simp only [e2, if_neg ht, if_pos h2]
    exact ⟨trivial, by omega⟩
theorem agree_no (a b : Bool) (c d r m : Int) (hm : May a b c d) (h0 : 0 ≤ r) (h1 : 0 ≤ m) (h2 : m ≤ 60) (h3 : r ≤ 5258879999 - m) : newellaw16_ClockAgree.j0 9 r m false a b c d = some true := by
  obtain ⟨tc, td⟩ := may_tm hm
  have hr : Tm r := ⟨h0, by omega⟩
  have hs : Tm (r + m) := ⟨by omega, by omega⟩
  have e : wrap64 (r + m) = r + m := by unfold wrap64; omega
  obtain ⟨e1, e2⟩ := two_trusted (a := a) (b := b) (c := c) (d := d) hr hs h1 h2
  simp only [newellaw16_ClockAgree.j0]
  rw [if_neg (by decide), e, all_eq [r, r + m] (by simp) (by intro x hx; simp at hx; rcases hx with rfl | rfl <;> exact tm_in (by assumption)) 8 (by simp) a b c d (tm_in tc) (tm_in td), if_pos hm]
  simp only [Option.bind_some, awake_eq 8 (by omega), e1]
  simp [e2]
theorem agree_pure (a b : Bool) (c d r m : Int) (hc : In c) (hd : In d) : newellaw16_ClockAgree.f 9 a b c d r m = some true := by
  unfold newellaw16_ClockAgree.f
  rw [check_eq 9 (by omega) a b c d hc hd]
  simp only [Option.bind_some]
  by_cases hm : May a b c d
  · rw [if_pos hm, if_pos rfl]
    by_cases h1 : r < 0
    · rw [if_pos h1]; exact agree_yes _ _ _ _ _ _
    rw [if_neg h1]
    by_cases h2 : m < 0
    · rw [if_pos h2]; exact agree_yes _ _ _ _ _ _
    rw [if_neg h2]
    by_cases h3 : m > 60
    · rw [if_pos h3]; exact agree_yes _ _ _ _ _ _
    rw [if_neg h3]
    have e : wrap64 (5258879999 - m) = 5258879999 - m := by unfold wrap64; omega
    rw [e]
    by_cases h4 : r > 5258879999 - m
    · rw [decide_eq_true h4]; exact agree_yes _ _ _ _ _ _
    · rw [decide_eq_false h4]; exact agree_no a b c d r m hm (by omega) (by omega) (by omega) (by omega)
  · rw [if_neg hm, if_neg (by decide)]
    exact agree_yes _ _ _ _ _ _
theorem all_snoc (l : List Int) (r : Int) : ∀ a b c d, All (l ++ [r]) a b c d =
    ((All l a b c d).1 + (if Tr (All l a b c d).2.1 (All l a b c d).2.2.1 (All l a b c d).2.2.2.1 (All l a b c d).2.2.2.2 r then 1 else 0), Rd (All l a b c d).2.1 (All l a b c d).2.2.1 (All l a b c d).2.2.2.1 (All l a b c d).2.2.2.2 r) := by
  induction l with
  | nil => intro a b c d; simp only [List.nil_append, All, Int.add_zero, Int.zero_add]; rfl
  | cons x l ih =>
    intro a b c d
    simp only [List.cons_append, All, ih]
    rw [Int.add_assoc]
    rfl
/-- What goes on is trusted: so far. -/
def Gone (l : List Int) (b : Bool) (c d now : Int) : Prop :=
  (All l true b c d).1 = l.length ∧ (All l true b c d).2.1 = true ∧ (All l true b c d).2.2.2.1 = now ∧ (l.length = 0 ∨ (All l true b c d).2.2.1 = false) ∧ ∀ x ∈ l, In x
theorem gone_step {l : List Int} {b : Bool} {c d now : Int} (h : Gone l b c d now) {y : Int} (h0 : 0 ≤ y) (h1 : y ≤ 1440) (h2 : 0 ≤ now) (h3 : now ≤ 5258878559) : Gone (l ++ [now + y]) b c d (now + y) := by
  obtain ⟨e1, e2, e3, e4, e5⟩ := h
  have tm : Tm (now + y) := ⟨by omega, by omega⟩
  have ht : ∀ q s, Tr true q now s (now + y) := fun q s => ⟨tm, .inr (.inl (by omega))⟩
  have er : ∀ q s, Rd true q now s (now + y) = (true, false, now + y, 0) := fun q s => by unfold Rd; rw [if_pos (ht q s)]
  unfold Gone
  rw [all_snoc, e2, e3, if_pos (ht _ _), er, e1]
  refine ⟨by simp, rfl, rfl, .inr rfl, fun x hx => ?_⟩
  rcases List.mem_append.1 hx with hx | hx
  · exact e5 x hx
  · rw [List.mem_singleton.1 hx]; exact tm_in tm
theorem goes_loop (l : List Int) (hl : l.length ≤ 100) (b : Bool) (c d : Int) (hm : May true b c d) (j : Nat) : ∀ (k i : Nat) (acc : List Int) (now : Int), i + j = l.length → acc.length = i → j + 110 < k → 0 ≤ now → Gone acc b c d now →
    newellaw16_ClockGoes.l0 k l acc now (i : Int) true b c d = some true := by
  obtain ⟨tc, td⟩ := may_tm hm
  induction j with
  | zero =>
    intro k i acc now hi ha hk h0 hg
    obtain ⟨k, rfl⟩ : ∃ n, k = n + 1 := ⟨k - 1, by omega⟩
    obtain ⟨e1, e2, e3, e4, e5⟩ := hg
    simp only [newellaw16_ClockGoes.l0]
    rw [if_neg (by omega), all_eq acc (by omega) e5 k (by omega) true b c d (tm_in tc) (tm_in td), if_pos hm, awake_eq k (by omega)]
    simp only [Option.bind_some, if_true, e1, e3]
    by_cases h : acc.length = 0
    · simp [h]
    · rcases e4 with e4 | e4
      · exact absurd e4 h
      · simp [h, e4]
  | succ j ih =>
    intro k i acc now hi ha hk h0 hg
    obtain ⟨k, rfl⟩ : ∃ n, k = n + 1 := ⟨k - 1, by omega⟩
    have hlt : i < l.length := by omega
    simp only [newellaw16_ClockGoes.l0]
    rw [if_pos (by omega), if_pos (by omega), rd_at l i hlt, awake_eq k (by omega)]
    simp only [Option.bind_some]
    by_cases h1 : l[i] < 0
    · rw [if_pos h1]
    rw [if_neg h1]
    by_cases h2 : l[i] > 1440
    · rw [if_pos h2]
    rw [if_neg h2]
    by_cases h3 : now > 5258878559
    · rw [if_pos h3]
    rw [if_neg h3, if_pos (by omega)]
    have ei : wrap64 ((i : Int) + 1) = ((i + 1 : Nat) : Int) := by unfold wrap64; omega
    have en : wrap64 (now + l[i]) = now + l[i] := by unfold wrap64; omega
    rw [ei, en]
    exact ih k (i + 1) _ _ (by omega) (by simp [ha]) (by omega) (by omega) (gone_step hg (by omega) (by omega) h0 (by omega))
theorem goes_yes (l : List Int) (a b : Bool) (c d : Int) : newellaw16_ClockGoes.j0 300 l true a b c d = some true := by
  simp only [newellaw16_ClockGoes.j0]
  rw [if_pos trivial, awake_eq 299 (by omega)]
  rfl
theorem goes_pure (a b : Bool) (c d : Int) (l : List Int) (hc : In c) (hd : In d) : newellaw16_ClockGoes.f 300 a b c d l = some true := by
  unfold newellaw16_ClockGoes.f
  rw [check_eq 300 (by omega) a b c d hc hd]
  simp only [Option.bind_some]
  by_cases hm : May a b c d
  · rw [if_pos hm, if_pos rfl]
    cases a
    · rw [if_neg (by decide)]; exact goes_yes _ _ _ _ _
    · simp only [if_true]
      by_cases h : (l.length : Int) > 100
      · rw [decide_eq_true h]; exact goes_yes _ _ _ _ _
      · rw [decide_eq_false h]
        simp only [newellaw16_ClockGoes.j0]
        rw [if_neg (by decide)]
        exact goes_loop l (by omega) b c d hm l.length 299 0 [] c (by omega) rfl (by omega) (may_tm hm).1.1 ⟨rfl, rfl, rfl, .inl rfl, fun x hx => by cases hx⟩
  · rw [if_neg hm, if_neg (by decide)]
    exact goes_yes _ _ _ _ _
end Go.Proofs.Ytcnjaeeghfmkfaa.Clock
