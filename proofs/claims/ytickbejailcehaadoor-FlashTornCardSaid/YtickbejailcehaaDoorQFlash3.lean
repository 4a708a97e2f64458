/- FlashTorn in plain Lean: a slot that was cut has no record. -/
import Derived.Test.YtickbejailcehaaDoorQ4
import Derived.Test.YtickbejailcehaaDoorQCxf6
namespace Go.Proofs.YtickbejailcehaaDoor.Flash
open Go.RowKit Go.Proofs.YtickbejailcehaaDoorW.PrintWords Go.Proofs.YtickbejailcehaaDoorW.PrintLast Go.Proofs.YtickbejailcehaaDoorW.PrintMore Go.Proofs.YtickbejailcehaaDoor.C
open Go.Proofs.YtickbejailcehaaDoor.Wire (In pt rowB getS getRowS)
open Go.Proofs.YtickbejailcehaaDoor.Crc (sealB openB By)
set_option linter.unusedVariables false
theorem torn_eq {g c m : Int} {l : List Int} (hg : In g) (hc : In c) (hm : In m) (hb : ∀ x ∈ l, By x) (cut : Int) (k : Nat) (hk : 20000 ≤ k) : newellaw12_FlashTorn.f k g c m l cut = some true := by
  obtain ⟨k, rfl⟩ : ∃ m, k = m + 2 := ⟨k - 2, by omega⟩
  unfold newellaw12_FlashTorn.f
  rw [awake_eq _ (by omega)]
  simp only [Option.bind_some]
  by_cases h : (l.length : Int) > 5000
  · rw [if_pos h]
  rw [if_neg h, code_eq hg hc hm hb (by omega) _ (by omega)]
  simp only [Option.bind_some]
  have jt : ∀ x, newellaw12_FlashTorn.j0 (k + 2) cut x true = some true := by
    intro x
    simp only [newellaw12_FlashTorn.j0]
    rw [awake_eq _ (by omega)]
    simp
  unfold codeS
  by_cases h1 : mayB g m l.length = true
  case neg =>
    rw [if_neg h1]
    dsimp only
    rw [if_neg (by decide), jt]
  rw [if_pos h1]
  dsimp only
  rw [if_pos rfl]
  by_cases h2 : cut < 0
  · rw [if_pos h2, jt]
  rw [if_neg h2]
  by_cases h3 : cut ≥ ((codeB g c m l).length : Int)
  · rw [decide_eq_true h3, jt]
  rw [decide_eq_false h3]
  simp only [newellaw12_FlashTorn.j0]
  have hl := code_len g c m l
  have hd := head_len g c m l.length
  have hq := code_by hg hc hm hb (show l.length ≤ 1000000 by omega)
  rw [if_neg (by decide), if_pos (by omega), if_pos (by omega), read_eq _ (fun x hx => hq x (List.mem_of_mem_take hx)) (by rw [List.length_take]; omega) _ (by rw [List.length_take]; omega), awake_eq _ (by omega)]
  simp only [Option.bind_some]
  rw [if_pos trivial]
  rcases read_torn hg hc hm h1 cut.toNat (by omega) with e | e
  · rw [e, if_neg (by decide)]
    simp [newellaw12_FlashTorn.j1]
  · rw [e, if_pos rfl]
    simp [newellaw12_FlashTorn.j1]
end Go.Proofs.YtickbejailcehaaDoor.Flash
