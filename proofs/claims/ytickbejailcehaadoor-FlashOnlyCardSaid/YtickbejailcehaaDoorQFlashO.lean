/- FlashOnly in plain Lean: what is read is written in just those bytes. -/
import Derived.Test.YtickbejailcehaaDoorQ4
import Derived.Test.YtickbejailcehaaDoorQCxf5
namespace Go.Proofs.YtickbejailcehaaDoor.Flash
open Go.RowKit Go.Proofs.YtickbejailcehaaDoorW.PrintWords Go.Proofs.YtickbejailcehaaDoorW.PrintLast Go.Proofs.YtickbejailcehaaDoorW.PrintMore Go.Proofs.YtickbejailcehaaDoor.C
open Go.Proofs.YtickbejailcehaaDoor.Wire (In pt rowB getS getRowS)
open Go.Proofs.YtickbejailcehaaDoor.Crc (sealB openB By)
set_option linter.unusedVariables false
theorem only_eq (l : List Int) (hb : ∀ x ∈ l, By x) (k : Nat) (hk : 20000 ≤ k) : newellaw12_FlashOnly.f k l = some true := by
  obtain ⟨k, rfl⟩ : ∃ m, k = m + 1 := ⟨k - 1, by omega⟩
  unfold newellaw12_FlashOnly.f
  rw [awake_eq _ (by omega)]
  simp only [Option.bind_some]
  by_cases h : (l.length : Int) > 5000
  · rw [if_pos h]
  rw [if_neg h, List.nil_append, if_pos (by simp; omega), read_eq l hb (by omega) _ (by omega)]
  simp only [Option.bind_some]
  by_cases h1 : (readS l).2.2.2.2 = 0
  · rw [if_pos h1]
    have hR := read_only l hb (by omega) h1
    have hl := code_len (readS l).1 (readS l).2.1 (readS l).2.2.1 (readS l).2.2.2.1
    rw [← hR.eq] at hl
    rw [code_eq hR.ing hR.inc hR.inm hR.by' (by omega) _ (by omega)]
    simp only [Option.bind_some]
    unfold codeS
    rw [if_pos hR.may, if_pos trivial]
    dsimp only
    rw [if_pos rfl, ← hR.eq, Wire.same8_eq _ _ _ (by omega) (by omega)]
    simp [newellaw12_FlashOnly.j0]
  · rw [if_neg h1, if_pos trivial, read_none l h1, sameR_eq _ _ _ _ _ _ _ _ (by simp) _ (by simp)]
    simp
end Go.Proofs.YtickbejailcehaaDoor.Flash
