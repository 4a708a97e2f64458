/- Clocks: the law ClockAll answers true: plain Lean. -/
import Derived.Test.YtcnjaeeghfmkfaaClockD
import Derived.Test.YtcnjaeeghfmkfaaDx11
namespace Go.Proofs.Ytcnjaeeghfmkfaa.ClockD
open Go.RowKit Go.Proofs.YtcnjaeeghfmkfaaW.PrintWords Go.Proofs.YtcnjaeeghfmkfaaW.PrintLast Go.Proofs.YtcnjaeeghfmkfaaW.PrintMore Go.Proofs.Ytcnjaeeghfmkfaa.D

theorem alllaw_loop (l : List Int) (hl : l.length ≤ 200) (A B : Bool) (C D M : Int) (j : Nat) : ∀ (k i : Nat) (a b : Bool) (c d m : Int), i + j = l.length → 2 * j + 10 < k → May a b c d → 0 ≤ m → m ≤ i →
    (A, B, C, D) = (All (l.drop i) a b c d).2 → M = m + (All (l.drop i) a b c d).1 → newellaw16_ClockAll.l0 k l M 0 m (i : Int) a b c d A B C D = some true := by
  induction j with
  | zero =>
    intro k i a b c d m hi hk hM h0 h1 e1 e2
    obtain ⟨k, rfl⟩ : ∃ n, k = n + 2 := ⟨k - 2, by omega⟩
    rw [List.drop_of_length_le (by omega)] at e1 e2
    simp only [All] at e1 e2
    simp only [newellaw16_ClockAll.l0]
    rw [if_neg (by omega), awake_eq (k + 1) (by omega)]
    injection e1 with e3 e1
    injection e1 with e4 e1
    injection e1 with e5 e6
    subst e3 e4 e5 e6
    rw [Int.add_zero] at e2
    subst e2
    simp [newellaw16_ClockAll.j3]
  | succ j ih =>
    intro k i a b c d m hi hk hM h0 h1 e1 e2
    obtain ⟨k, rfl⟩ : ∃ n, k = n + 2 := ⟨k - 2, by omega⟩
    have hlt : i < l.length := by omega
    obtain ⟨tc, td⟩ := may_tm hM
    have ei : wrap64 ((i : Int) + 1) = ((i + 1 : Nat) : Int) := by unfold wrap64; omega
    have em : wrap64 (m + 1) = m + 1 := by unfold wrap64; omega
    have ed : l.drop i = l[i] :: l.drop (i + 1) := List.drop_eq_getElem_cons hlt
    rw [ed] at e1 e2
    simp only [All] at e1 e2
    simp only [newellaw16_ClockAll.l0, newellaw16_ClockAll.j2]
    rw [if_pos (by omega), if_pos (by omega), rd_at l i hlt, rtr_eq a b c d _ tc td, rread_eq a b c d _ tc td]
    simp only [Option.bind_some, decide_eq_true_eq]
    rw [ei, em]
    by_cases ht : Tr a b c d l[i]
    · rw [if_pos ht] at e2
      rw [if_pos ht, if_pos (by omega), if_pos (by omega)]
      exact ih k (i + 1) _ _ _ _ (m + 1) (by omega) (by omega) (rd_may hM _) (by omega) (by omega) e1 (by rw [e2]; omega)
    · rw [if_neg ht] at e2
      rw [if_neg ht, if_pos (by omega), if_pos (by omega)]
      exact ih k (i + 1) _ _ _ _ m (by omega) (by omega) (rd_may hM _) (by omega) (by omega) e1 (by rw [e2]; omega)
theorem all_pure (a b : Bool) (c d : Int) (l : List Int) (hc : In c) (hd : In d) (hw : ∀ x ∈ l, In x) : newellaw16_ClockAll.f 1000 a b c d l = some true := by
  unfold newellaw16_ClockAll.f
  by_cases h : (l.length : Int) > 200
  · rw [if_pos h, awake_eq 1000 (by omega)]; rfl
  rw [if_neg h]
  simp only [Option.bind_some, List.nil_append, List.length_nil]
  rw [if_pos (by omega), all_eq l (by omega) hw 1000 (by omega) a b c d hc hd, rmay_eq]
  simp only [Option.bind_some, decide_eq_true_eq]
  by_cases hm : May a b c d
  · rw [if_pos hm, if_pos hm]
    exact alllaw_loop l (by omega) _ _ _ _ _ l.length 1000 0 a b c d 0 (by omega) (by omega) hm (by omega) (by omega) rfl (by simp)
  · rw [if_neg hm, if_neg hm, awake_eq 1000 (by omega)]
    simp [newellaw16_ClockAll.j0]
end Go.Proofs.Ytcnjaeeghfmkfaa.ClockD
