/- What toward answers, in plain Lean. -/
import Derived.Test.YtlfgdcgjndjdgaaLaw2
import Derived.Test.YtlfgdcgjndjdgaaCxf18
namespace Go.Proofs.Ytlfgdcgjndjdgaa.ColPure
open Go.RowKit Go.Proofs.YtlfgdcgjndjdgaaW.PrintWords Go.Proofs.YtlfgdcgjndjdgaaW.PrintLast Go.Proofs.YtlfgdcgjndjdgaaW.PrintMore Go.Proofs.Ytlfgdcgjndjdgaa.C
set_option linter.unusedVariables false
variable {I U D : List Int}
theorem toward_loop (h : Few I U D) {d : Int} (hd : d = 1 ∨ d = -1) (fl f d2 : Int) (su sd : Bool) (hfl : fl ≤ 64) (j : Nat) : ∀ (k i : Nat), (i : Int) + j = fl → j + 150 ≤ k →
    ∃ b, newellaw20_toward.l0 k d (i : Int) fl f d2 su sd I U D = some b ∧ (b = true ↔ ∃ n ∈ allC I U D, (i : Int) ≤ n ∧ n < fl ∧ ah d f n) := by
  induction j with
  | zero =>
    intro k i hi hk
    obtain ⟨k, rfl⟩ : ∃ m, k = m + 1 := ⟨k - 1, by omega⟩
    rw [newellaw20_toward.l0, if_neg (by omega)]
    refine ⟨_, rfl, ?_⟩
    constructor
    · intro e
      cases e
    · rintro ⟨n, _, h1, h2, _⟩
      omega
  | succ j ih =>
    intro k i hi hk
    obtain ⟨k, rfl⟩ : ∃ m, k = m + 1 := ⟨k - 1, by omega⟩
    obtain ⟨b, hb, hbi⟩ := ih k (i + 1) (by omega) (by omega)
    have er : wrap64 ((i : Int) + 1) = ((i + 1 : Nat) : Int) := up1 (by omega)
    rw [newellaw20_toward.l0, if_pos (by omega), called_eq h, Option.bind_some, er, hb]
    have skip : (∃ n ∈ allC I U D, ((i + 1 : Nat) : Int) ≤ n ∧ n < fl ∧ ah d f n) → ∃ n ∈ allC I U D, (i : Int) ≤ n ∧ n < fl ∧ ah d f n := by
      rintro ⟨n, a, b, c⟩
      exact ⟨n, a, by omega, c⟩
    have back : ¬ ((i : Int) ∈ allC I U D ∧ ah d f i) → (∃ n ∈ allC I U D, (i : Int) ≤ n ∧ n < fl ∧ ah d f n) → ∃ n ∈ allC I U D, ((i + 1 : Nat) : Int) ≤ n ∧ n < fl ∧ ah d f n := by
      rintro hn ⟨n, a, b, c, e⟩
      by_cases en : n = (i : Int)
      · exact absurd ⟨en ▸ a, en ▸ e⟩ hn
      · exact ⟨n, a, by omega, c, e⟩
    have no : ¬ ((i : Int) ∈ allC I U D ∧ ah d f i) → ∃ b', some b = some b' ∧ (b' = true ↔ ∃ n ∈ allC I U D, (i : Int) ≤ n ∧ n < fl ∧ ah d f n) :=
      fun hn => ⟨b, rfl, hbi.trans ⟨skip, back hn⟩⟩
    by_cases c1 : hasB (i : Int) (allC I U D) = true
    · rw [if_pos c1]
      have c1' := (has_iff _ _).1 c1
      rcases hd with rfl | rfl
      · rw [if_pos (by decide)]
        by_cases c2 : (i : Int) > f
        · rw [if_pos c2]
          exact ⟨true, rfl, iff_of_true rfl ⟨i, c1', by omega, by omega, .inl ⟨rfl, c2⟩⟩⟩
        · rw [if_neg c2, if_neg (by decide)]
          exact no (fun hh => by have := hh.2; unfold ah at this; omega)
      · rw [if_neg (by decide), if_pos (by decide)]
        by_cases c2 : (i : Int) < f
        · rw [if_pos c2]
          exact ⟨true, rfl, iff_of_true rfl ⟨i, c1', by omega, by omega, .inr ⟨rfl, c2⟩⟩⟩
        · rw [if_neg c2]
          exact no (fun hh => by have := hh.2; unfold ah at this; omega)
    · rw [if_neg c1]
      exact no (fun hh => c1 ((has_iff _ _).2 hh.1))
theorem toward_eq (h : Few I U D) {fl f d0 d : Int} (hm : May fl f d0 I U D) (hd : d = 1 ∨ d = -1) (su sd : Bool) (k : Nat) (hk : 300 ≤ k) : newellaw20_toward.f k fl f d0 su sd I U D d = some (anyD d f (allC I U D)) := by
  have := hm.fl2
  have := hm.fl64
  obtain ⟨b, e, hb⟩ := toward_loop h hd fl f d0 su sd hm.fl64 fl.toNat k 0 (by omega) (by omega)
  rw [← any_range hm hd b hb]
  exact e
end Go.Proofs.Ytlfgdcgjndjdgaa.ColPure
