/- Clocks: what the printed functions of the layer clock, of its reference and of its laws come to: plain Lean, no memory. -/
import Derived.Test.YtcnjaeeghfmkfaaDx0
import Derived.Test.YtcnjaeeghfmkfaaDx1
import Derived.Test.YtcnjaeeghfmkfaaDx10
import Derived.Test.YtcnjaeeghfmkfaaDx2
import Derived.Test.YtcnjaeeghfmkfaaDx3
import Derived.Test.YtcnjaeeghfmkfaaDx4
import Derived.Test.YtcnjaeeghfmkfaaDx5
import Derived.Test.YtcnjaeeghfmkfaaDx6
import Derived.Test.YtcnjaeeghfmkfaaDx7
import Derived.Test.YtcnjaeeghfmkfaaDx8
import Derived.Test.YtcnjaeeghfmkfaaDx9
import Derived.OpenShut
namespace Go.Proofs.Ytcnjaeeghfmkfaa.ClockD
open Go.RowKit Go.Proofs.YtcnjaeeghfmkfaaW.PrintWords Go.Proofs.YtcnjaeeghfmkfaaW.PrintLast Go.Proofs.YtcnjaeeghfmkfaaW.PrintMore Go.Proofs.Ytcnjaeeghfmkfaa.D

def In (n : Int) : Prop := -9223372036854775808 ≤ n ∧ n ≤ 9223372036854775807
def Tm (n : Int) : Prop := 0 ≤ n ∧ n ≤ 5258879999
/-- May a clock be. -/
def May (a b : Bool) (c d : Int) : Prop := Tm c ∧ Tm d ∧ (a = true ∨ c = 0) ∧ (b = true ∨ d = 0) ∧ (a = true ∨ b = false)
instance (n : Int) : Decidable (Tm n) := by unfold Tm; infer_instance
instance (a b : Bool) (c d : Int) : Decidable (May a b c d) := by unfold May; infer_instance
/-- Is a reading trusted. -/
def Tr (a b : Bool) (c d r : Int) : Prop := Tm r ∧ (a = false ∨ (c ≤ r ∧ r ≤ c + 1440) ∨ (b = true ∧ d ≤ r ∧ r ≤ d + 60))
instance (a b : Bool) (c d r : Int) : Decidable (Tr a b c d r) := by unfold Tr; infer_instance
/-- The clock behind a reading. -/
def Rd (a b : Bool) (c d r : Int) : Bool × Bool × Int × Int := if Tr a b c d r then (true, false, r, 0) else if Tm r then (a, true, c, r) else (a, b, c, d)

theorem wf_in {n : Int} (h : (Lit.int .i64 n).wf = true) : In n := by
  unfold In
  exact bounds_i64 h
theorem tm_in {n : Int} (h : Tm n) : In n := by unfold Tm at h; unfold In; omega
theorem within_eq (n f m : Int) (hf : Tm f) (hn : In n) : clock_within.f n f m = some (decide (f ≤ n ∧ n ≤ f + m)) := by
  unfold Tm at hf; unfold In at hn
  unfold clock_within.f wrap64
  by_cases h : f ≤ n
  · rw [if_pos h]
    have e : ((n - f + 9223372036854775808) % 18446744073709551616 - 9223372036854775808 ≤ m) ↔ (f ≤ n ∧ n ≤ f + m) := by omega
    simp only [e]
  · rw [if_neg h]
    have e : ¬ (f ≤ n ∧ n ≤ f + m) := by omega
    simp [e]
theorem within0 (n : Int) (hn : In n) : clock_within.f n 0 5258879999 = some (decide (Tm n)) := by
  rw [within_eq n 0 _ (by unfold Tm; omega) hn]
  have e : (0 ≤ n ∧ n ≤ 0 + 5258879999) ↔ Tm n := by unfold Tm; omega
  simp only [e]
theorem check_eq (k : Nat) (hk : 2 ≤ k) (a b : Bool) (c d : Int) (hc : In c) (hd : In d) : clock_Check.f k a b c d = some (if May a b c d then 0 else 160) := by
  obtain ⟨k, rfl⟩ : ∃ m, k = m + 2 := ⟨k - 2, by omega⟩
  unfold clock_Check.f
  rw [within0 c hc, within0 d hd]
  simp only [Option.bind_some, clock_Check.j0, clock_Check.j1, decide_eq_true_eq]
  unfold May
  by_cases h1 : Tm c <;> by_cases h2 : Tm d <;> by_cases h3 : c = 0 <;> by_cases h4 : d = 0 <;> cases a <;> cases b <;> simp_all <;> omega
theorem may_tm {a b : Bool} {c d : Int} (h : May a b c d) : Tm c ∧ Tm d := ⟨h.1, h.2.1⟩
theorem read_eq (k : Nat) (hk : 2 ≤ k) (a b : Bool) (c d r : Int) (hc : In c) (hd : In d) (hr : In r) :
    clock_Read.f k a b c d r = some (if May a b c d then ((Rd a b c d r).1, (Rd a b c d r).2.1, (Rd a b c d r).2.2.1, (Rd a b c d r).2.2.2, decide (Tr a b c d r), 0) else (false, false, 0, 0, false, 160)) := by
  unfold clock_Read.f
  rw [check_eq k hk a b c d hc hd]
  simp only [Option.bind_some]
  by_cases hm : May a b c d
  · obtain ⟨tc, td⟩ := may_tm hm
    rw [if_pos hm, if_pos rfl, if_pos hm, within0 r hr, within_eq r c _ tc hr, within_eq r d _ td hr]
    simp only [Option.bind_some, decide_eq_true_eq]
    unfold Rd Tr
    by_cases h1 : Tm r <;> by_cases h2 : (c ≤ r ∧ r ≤ c + 1440) <;> by_cases h3 : (d ≤ r ∧ r ≤ d + 60) <;> cases a <;> cases b <;> simp [h1, h2, h3]
  · rw [if_neg hm, if_neg hm, if_neg (by decide)]
theorem time_eq (n : Int) : newelref16_time.f n = some (decide (Tm n)) := by
  unfold newelref16_time.f Tm
  by_cases h : n ≥ 0
  · have e : (0 ≤ n ∧ n ≤ 5258879999) ↔ n ≤ 5258879999 := by omega
    rw [if_pos h]; simp only [e]
  · have e : ¬ (0 ≤ n ∧ n ≤ 5258879999) := by omega
    rw [if_neg h]; simp only [e, decide_false]
theorem rmay_eq (a b : Bool) (c d : Int) : newelref16_May.f a b c d = some (decide (May a b c d)) := by
  unfold newelref16_May.f May
  rw [time_eq, time_eq]
  simp only [Option.bind_some, decide_eq_true_eq]
  have t0 : Tm 0 := by decide
  by_cases h1 : Tm c <;> by_cases h2 : Tm d <;> by_cases h3 : c = 0 <;> by_cases h4 : d = 0 <;> cases a <;> cases b <;> simp_all
theorem rtr_eq (a b : Bool) (c d r : Int) (hc : Tm c) (hd : Tm d) : newelref16_Trusted.f a b c d r = some (decide (Tr a b c d r)) := by
  unfold newelref16_Trusted.f
  rw [time_eq]
  have e1 : wrap64 (c + 1440) = c + 1440 := by unfold Tm at hc; unfold wrap64; omega
  have e2 : wrap64 (d + 60) = d + 60 := by unfold Tm at hd; unfold wrap64; omega
  simp only [Option.bind_some, decide_eq_true_eq, e1, e2]
  unfold Tr
  by_cases h1 : Tm r <;> by_cases h2 : c ≤ r <;> by_cases h3 : r ≤ c + 1440 <;> by_cases h4 : d ≤ r <;> by_cases h5 : r ≤ d + 60 <;> cases a <;> cases b <;> simp [h1, h2, h3, h4, h5]
theorem rread_eq (a b : Bool) (c d r : Int) (hc : Tm c) (hd : Tm d) : newelref16_Read.f a b c d r = some (Rd a b c d r) := by
  unfold newelref16_Read.f Rd
  rw [rtr_eq a b c d r hc hd, time_eq]
  simp only [Option.bind_some, decide_eq_true_eq]
  by_cases h1 : Tr a b c d r <;> by_cases h2 : Tm r <;> simp [h1, h2]
/-- A reading leaves a clock that may be. -/
theorem rd_may {a b : Bool} {c d : Int} (h : May a b c d) (r : Int) : May (Rd a b c d r).1 (Rd a b c d r).2.1 (Rd a b c d r).2.2.1 (Rd a b c d r).2.2.2 := by
  unfold Rd
  by_cases h1 : Tr a b c d r
  · rw [if_pos h1]; exact ⟨h1.1, (show Tm 0 by decide), .inl rfl, .inr rfl, .inl rfl⟩
  · rw [if_neg h1]
    by_cases h2 : Tm r
    · rw [if_pos h2]
      obtain ⟨hc, hd, h3, h4, h5⟩ := h
      refine ⟨hc, h2, h3, .inl rfl, ?_⟩
      cases a
      · exact absurd ⟨h2, .inl rfl⟩ h1
      · exact .inl rfl
    · rw [if_neg h2]; exact h
/-- Readings, one behind the other: how many are trusted, and the clock behind them. -/
def All : List Int → Bool → Bool → Int → Int → Int × (Bool × Bool × Int × Int)
  | [], a, b, c, d => (0, a, b, c, d)
  | r :: l, a, b, c, d => ((if Tr a b c d r then 1 else 0) + (All l (Rd a b c d r).1 (Rd a b c d r).2.1 (Rd a b c d r).2.2.1 (Rd a b c d r).2.2.2).1,
      (All l (Rd a b c d r).1 (Rd a b c d r).2.1 (Rd a b c d r).2.2.1 (Rd a b c d r).2.2.2).2)
theorem all_le (l : List Int) : ∀ a b c d, 0 ≤ (All l a b c d).1 ∧ (All l a b c d).1 ≤ l.length := by
  induction l with
  | nil => intro a b c d; exact ⟨Int.le_refl _, Int.le_refl _⟩
  | cons r l ih =>
    intro a b c d
    have := ih (Rd a b c d r).1 (Rd a b c d r).2.1 (Rd a b c d r).2.2.1 (Rd a b c d r).2.2.2
    simp only [All, List.length_cons]
    split <;> omega
theorem all_may (l : List Int) : ∀ {a b c d}, May a b c d → May (All l a b c d).2.1 (All l a b c d).2.2.1 (All l a b c d).2.2.2.1 (All l a b c d).2.2.2.2 := by
  induction l with
  | nil => intro a b c d h; exact h
  | cons r l ih => intro a b c d h; exact ih (rd_may h r)
theorem rd_at (l : List Int) (i : Nat) (h : i < l.length) : rd l (i : Int) = l[i] := by
  unfold rd
  rw [Int.toNat_natCast, List.getD_eq_getElem?_getD, List.getElem?_eq_getElem h]
  rfl
theorem all_loop (l : List Int) (hl : l.length ≤ 1000000) (hw : ∀ x ∈ l, In x) (j : Nat) : ∀ (k i : Nat) (a b : Bool) (c d m : Int), i + j = l.length → j + 2 < k → May a b c d → 0 ≤ m → m ≤ i →
    clock_All.l0 k l m (l.length : Int) (i : Int) a b c d = some ((All (l.drop i) a b c d).2.1, (All (l.drop i) a b c d).2.2.1, (All (l.drop i) a b c d).2.2.2.1, (All (l.drop i) a b c d).2.2.2.2, m + (All (l.drop i) a b c d).1, 0) := by
  induction j with
  | zero =>
    intro k i a b c d m hi hk hM h0 h1
    obtain ⟨k, rfl⟩ : ∃ n, k = n + 1 := ⟨k - 1, by omega⟩
    simp only [clock_All.l0]
    rw [if_neg (by omega), List.drop_of_length_le (by omega)]
    simp [All]
  | succ j ih =>
    intro k i a b c d m hi hk hM h0 h1
    obtain ⟨k, rfl⟩ : ∃ n, k = n + 1 := ⟨k - 1, by omega⟩
    have hlt : i < l.length := by omega
    obtain ⟨tc, td⟩ := may_tm hM
    simp only [clock_All.l0]
    rw [if_pos (by omega), if_pos (by omega), if_pos (by omega), rd_at l i hlt, read_eq k (by omega) a b c d _ (tm_in tc) (tm_in td) (hw _ (List.getElem_mem _)), if_pos hM]
    simp only [Option.bind_some, decide_eq_true_eq]
    have ei : wrap64 ((i : Int) + 1) = ((i + 1 : Nat) : Int) := by unfold wrap64; omega
    have em : wrap64 (m + 1) = m + 1 := by unfold wrap64; omega
    have ed : l.drop i = l[i] :: l.drop (i + 1) := List.drop_eq_getElem_cons hlt
    rw [ei, em, ed]
    simp only [All]
    by_cases ht : Tr a b c d l[i]
    · rw [if_pos ht, if_pos ht, ih k (i + 1) _ _ _ _ (m + 1) (by omega) (by omega) (rd_may hM _) (by omega) (by omega)]
      simp; omega
    · rw [if_neg ht, if_neg ht, ih k (i + 1) _ _ _ _ m (by omega) (by omega) (rd_may hM _) (by omega) (by omega)]
      simp
theorem all_eq (l : List Int) (hl : l.length ≤ 1000000) (hw : ∀ x ∈ l, In x) (k : Nat) (hk : l.length + 2 < k) (a b : Bool) (c d : Int) (hc : In c) (hd : In d) :
    clock_All.f k a b c d l = some (if May a b c d then ((All l a b c d).2.1, (All l a b c d).2.2.1, (All l a b c d).2.2.2.1, (All l a b c d).2.2.2.2, (All l a b c d).1, 0) else (false, false, 0, 0, 0, 160)) := by
  unfold clock_All.f
  rw [check_eq k (by omega) a b c d hc hd]
  simp only [Option.bind_some]
  by_cases hm : May a b c d
  · rw [if_pos hm, if_pos rfl, if_pos hm]
    have := all_loop l hl hw l.length k 0 a b c d 0 (by omega) (by omega) hm (by omega) (by omega)
    simpa using this
  · rw [if_neg hm, if_neg hm, if_neg (by decide)]
theorem awake_eq (k : Nat) (hk : 5 ≤ k) : newellaw16_awake.f k = some true := by
  unfold newellaw16_awake.f
  have i5 : In 5000 := by unfold In; omega
  have i0 : In 0 := by unfold In; omega
  rw [all_eq [9000, 9010] (by decide) (by intro x hx; simp at hx; unfold In; omega) k (by simp; omega) true false 5000 0 i5 i0,
    read_eq k (by omega) true false 5000 0 9000 i5 i0 (by unfold In; omega)]
  have hm : May true false 5000 0 := by decide
  rw [if_pos hm, if_pos hm]
  have e1 : All [9000, 9010] true false 5000 0 = (1, true, false, 9010, 0) := by decide
  have e2 : Rd true false 5000 0 9000 = (true, true, 5000, 9000) := by decide
  have e3 : ¬ Tr true false 5000 0 9000 := by decide
  rw [e1, e2]
  simp only [Option.bind_some]
  rw [check_eq k (by omega) true true 5000 9000 i5 (by unfold In; omega)]
  have e4 : May true true 5000 9000 := by decide
  simp [e3, e4]
end Go.Proofs.Ytcnjaeeghfmkfaa.ClockD
