/- Clocks: the law ClockStays answers true: plain Lean. -/
import Derived.Test.YtcnjaeeghfmkfaaClockD
import Derived.Test.YtcnjaeeghfmkfaaDx12
namespace Go.Proofs.Ytcnjaeeghfmkfaa.ClockD
open Go.RowKit Go.Proofs.YtcnjaeeghfmkfaaW.PrintWords Go.Proofs.YtcnjaeeghfmkfaaW.PrintLast Go.Proofs.YtcnjaeeghfmkfaaW.PrintMore Go.Proofs.Ytcnjaeeghfmkfaa.D

theorem stays_loop (l : List Int) (hl : l.length ≤ 100) (hw : ∀ x ∈ l, In x) (j : Nat) : ∀ (k i : Nat) (a b : Bool) (c d : Int), i + j = l.length → 2 * j + 10 < k → May a b c d →
    newellaw16_ClockStays.l0 k l (i : Int) a b c d = some true := by
  induction j with
  | zero =>
    intro k i a b c d hi hk hM
    obtain ⟨k, rfl⟩ : ∃ n, k = n + 1 := ⟨k - 1, by omega⟩
    simp only [newellaw16_ClockStays.l0]
    rw [if_neg (by omega), awake_eq k (by omega)]
    rfl
  | succ j ih =>
    intro k i a b c d hi hk hM
    obtain ⟨k, rfl⟩ : ∃ n, k = n + 2 := ⟨k - 2, by omega⟩
    have hlt : i < l.length := by omega
    obtain ⟨tc, td⟩ := may_tm hM
    have hM' := rd_may hM l[i]
    obtain ⟨tc', td'⟩ := may_tm hM'
    have ei : wrap64 ((i : Int) + 1) = ((i + 1 : Nat) : Int) := by unfold wrap64; omega
    have go := ih k (i + 1) _ _ _ _ (by omega) (by omega) hM'
    simp only [newellaw16_ClockStays.l0, newellaw16_ClockStays.j2]
    rw [if_pos (by omega), if_pos (by omega), rd_at l i hlt, read_eq (k + 1) (by omega) a b c d _ (tm_in tc) (tm_in td) (hw _ (List.getElem_mem _)), if_pos hM]
    simp only [Option.bind_some, decide_eq_true_eq, if_true]
    rw [check_eq (k + 1) (by omega) _ _ _ _ (tm_in tc') (tm_in td'), if_pos hM', ei]
    simp only [Option.bind_some, if_true]
    by_cases ht : Tr a b c d l[i]
    · have e3 : (Rd a b c d l[i]).2.2.1 = l[i] := by unfold Rd; rw [if_pos ht]
      rw [if_pos ht, if_pos e3]
      cases a
      · rw [if_neg (by decide), if_neg (by decide)]; exact go
      · rw [if_pos rfl]
        by_cases h1 : l[i] < c
        · have hb : b = true ∧ d ≤ l[i] := by
            obtain ⟨_, h | h | h⟩ := ht
            · cases h
            · omega
            · exact ⟨h.1, h.2.1⟩
          rw [if_pos h1, if_pos hb.1, if_neg (by omega)]; exact go
        · rw [if_neg h1, if_neg (by decide)]; exact go
    · have e3 : (Rd a b c d l[i]).2.2.1 = c := by unfold Rd; rw [if_neg ht]; split <;> rfl
      rw [if_neg ht, if_pos e3, if_neg (by decide)]; exact go
theorem stays_pure (a b : Bool) (c d : Int) (l : List Int) (hc : In c) (hd : In d) (hw : ∀ x ∈ l, In x) : newellaw16_ClockStays.f 1000 a b c d l = some true := by
  unfold newellaw16_ClockStays.f
  rw [check_eq 1000 (by omega) a b c d hc hd]
  simp only [Option.bind_some, newellaw16_ClockStays.j0]
  by_cases hm : May a b c d
  · rw [if_pos hm, if_pos rfl]
    by_cases h : (l.length : Int) > 100
    · rw [decide_eq_true h, if_pos rfl, awake_eq 999 (by omega)]; rfl
    · rw [decide_eq_false h, if_neg (by decide)]
      exact stays_loop l (by omega) hw l.length 999 0 a b c d (by omega) (by omega) hm
  · rw [if_neg hm, if_neg (by decide), if_pos trivial, awake_eq 999 (by omega)]; rfl
end Go.Proofs.Ytcnjaeeghfmkfaa.ClockD
