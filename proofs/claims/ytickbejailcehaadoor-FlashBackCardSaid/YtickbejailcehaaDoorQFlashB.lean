/- FlashBack in plain Lean: a record that is written is read, the same. -/
import Derived.Test.YtickbejailcehaaDoorQ4
import Derived.Test.YtickbejailcehaaDoorQCxf4
namespace Go.Proofs.YtickbejailcehaaDoor.Flash
open Go.RowKit Go.Proofs.YtickbejailcehaaDoorW.PrintWords Go.Proofs.YtickbejailcehaaDoorW.PrintLast Go.Proofs.YtickbejailcehaaDoorW.PrintMore Go.Proofs.YtickbejailcehaaDoor.C
open Go.Proofs.YtickbejailcehaaDoor.Wire (In pt rowB getS getRowS)
open Go.Proofs.YtickbejailcehaaDoor.Crc (sealB openB By)
set_option linter.unusedVariables false
theorem may_In {g m : Int} {n : Nat} (h : mayB g m n = true) : In g ∧ In m := by
  have := may_in h
  unfold In
  omega
theorem back_eq {g c m : Int} {l : List Int} (hg : In g) (hc : In c) (hm : In m) (hb : ∀ x ∈ l, By x) (k : Nat) (hk : 20000 ≤ k) : newellaw12_FlashBack.f k g c m l = some true := by
  obtain ⟨k, rfl⟩ : ∃ m, k = m + 1 := ⟨k - 1, by omega⟩
  unfold newellaw12_FlashBack.f
  rw [awake_eq _ (by omega)]
  simp only [Option.bind_some]
  by_cases h : (l.length : Int) > 5000
  · rw [if_pos h]
  rw [if_neg h, code_eq hg hc hm hb (by omega) _ (by omega)]
  simp only [Option.bind_some]
  unfold codeS
  by_cases h1 : mayB g m l.length = true
  · rw [if_pos h1]
    dsimp only
    have hl := code_len g c m l
    have hd := head_len g c m l.length
    rw [if_pos rfl, read_eq _ (code_by hg hc hm hb (by omega)) (by omega) _ (by omega), read_code hg hc hm hb h1]
    simp only [Option.bind_some]
    rw [if_pos trivial, if_pos trivial, sameF_refl]
    simp only [Option.bind_some]
    rw [if_pos trivial, sameR_eq _ _ _ _ _ _ _ _ (by omega) _ (by omega)]
    simp [newellaw12_FlashBack.j0]
  · rw [if_neg h1]
    dsimp only
    rw [if_neg (by decide)]
    simp
end Go.Proofs.YtickbejailcehaaDoor.Flash
