/- Texts of this claim, one behind the other: what the law's functions come to, walked (printed by a program, with the words that the print uses), and what that is, in plain Lean. No conditions of their own. -/
import Derived.Test.YtickbejailcehaaDoorQFlashGoes11
namespace Go.Proofs.YtickbejailcehaaDoor.Flash
open Go.RowKit Go.Proofs.YtickbejailcehaaDoorW.PrintWords Go.Proofs.YtickbejailcehaaDoorW.PrintLast Go.Proofs.YtickbejailcehaaDoorW.PrintMore Go.Proofs.YtickbejailcehaaDoor.C
open Go.Proofs.YtickbejailcehaaDoor.Wire (In pt rowB getS getRowS)
open Go.Proofs.YtickbejailcehaaDoor.Crc (sealB openB By)
set_option linter.unusedVariables false
theorem write_no (a b : List Int) {g c m : Int} {l : List Int} (h : ¬ mayB g m l.length = true) (cut : Int) (k : Nat) : flash_Write.f k a b g c m l cut = some ([], [], false, 120) := by
  unfold flash_Write.f flash_Code.f
  rw [may_eq]
  simp only [Option.bind_some]
  rw [if_neg h]
  simp only [Option.bind_some]
  rw [if_neg (by decide)]
structure Held (i : Int) (a b : List Int) (g c m : Int) (q : List Int) : Prop where
  g0 : 0 ≤ g
  gi : g ≤ i
  ha : ∀ x ∈ a, By x
  hb : ∀ x ∈ b, By x
  la : a.length ≤ 6000
  lb : b.length ≤ 6000
  has : 0 < g → ∃ s, recoverS a b = (g, c, m, q, s, 0)
  no : g = 0 → (recoverS a b).2.2.2.2.2 ≠ 0
theorem rd_in (l : List S26) (x9 : Int) (h0 : 0 ≤ x9) (h1 : x9 < (l.length : Int)) : rd_T26 l x9 ∈ l := by
  unfold rd_T26
  have h : x9.toNat < l.length := by omega
  rw [List.getD_eq_getElem?_getD, List.getElem?_eq_getElem h]
  exact List.getElem_mem h
def Good (l : List S26) : Prop := ∀ r ∈ l, In r.f1 ∧ In r.f2 ∧ ∀ x ∈ r.f3, By x
theorem j5_eq (k : Nat) (l : List S26) (cuts : List Int) (x9 : Int) (a b : List Int) (g c m : Int) (q : List Int) : newellaw12_FlashGoes.j5 (k + 2) l cuts x9 false a b g c m q = newellaw12_FlashGoes.l1 k l cuts (wrap64 (x9 + 1)) a b g c m q := by
  simp only [newellaw12_FlashGoes.j5, newellaw12_FlashGoes.j6]
  rw [if_neg (by decide)]
theorem j4_eq (k : Nat) (l : List S26) (cuts : List Int) (x9 i : Int) (a b : List Int) (g c m : Int) (q : List Int) (h : Held i a b g c m q) (hk : 20000 < k) : newellaw12_FlashGoes.j4 (k + 3) l cuts x9 a b g c m q = newellaw12_FlashGoes.l1 k l cuts (wrap64 (x9 + 1)) a b g c m q := by
  have ha := h.la
  have hb := h.lb
  simp only [newellaw12_FlashGoes.j4]
  rw [recover_eq a b h.ha h.hb (by omega) (by omega) _ (by omega)]
  simp only [Option.bind_some]
  by_cases hg : 0 < g
  · obtain ⟨s, e⟩ := h.has hg
    rw [e]
    dsimp only
    rw [if_neg (show ¬ (((0 : Int) == 0) != decide (g > 0)) = true by rw [decide_eq_true hg]; decide), if_pos rfl, sameF_refl]
    simp only [Option.bind_some, Bool.not_true]
    exact j5_eq k l cuts x9 a b g c m q
  · have hz : g = 0 := by have := h.g0; omega
    have e := h.no hz
    rw [if_neg (by rw [decide_eq_false hg]; simp [e]), if_neg e]
    exact j5_eq k l cuts x9 a b g c m q
theorem round_eq (l : List S26) (hl : Good l) (cuts : List Int) (hn : l.length ≤ 12) (k : Nat) (hk : 20000 < k) (x9 : Int) (a b : List Int) (g c m : Int) (q : List Int) (h0 : 0 ≤ x9) (h1 : x9 < (l.length : Int)) (h2 : x9 < (cuts.length : Int)) (h : Held x9 a b g c m q) :
    ∃ k' a' b' g' c' m' q', k ≤ k' ∧ k' ≤ k + 3 ∧ Held (x9 + 1) a' b' g' c' m' q' ∧ newellaw12_FlashGoes.j3 (k + 4) l cuts x9 true a b g c m q = newellaw12_FlashGoes.l1 k' l cuts (x9 + 1) a' b' g' c' m' q' := by
  have hw : wrap64 (x9 + 1) = x9 + 1 := by unfold wrap64; omega
  obtain ⟨hc, hm, hq⟩ := hl _ (rd_in l x9 h0 h1)
  have hg : In (x9 + 1) := by unfold In; omega
  have la := h.la
  have lb := h.lb
  have gi := h.gi
  simp only [newellaw12_FlashGoes.j3]
  rw [if_pos trivial, if_pos h0, if_pos h1, if_pos h2, hw]
  generalize rd cuts x9 = cut
  generalize (rd_T26 l x9).f1 = c1 at *
  generalize (rd_T26 l x9).f2 = m1 at *
  generalize (rd_T26 l x9).f3 = q1 at *
  by_cases hy : mayB (x9 + 1) m1 q1.length = true
  case neg =>
    rw [write_no a b hy cut]
    simp only [Option.bind_some]
    rw [if_neg (by decide), mayR_eq]
    simp only [Option.bind_some]
    rw [if_neg hy]
    simp only [newellaw12_FlashGoes.j6]
    rw [hw]
    exact ⟨k + 2, a, b, g, c, m, q, by omega, by omega, ⟨h.g0, by omega, h.ha, h.hb, la, lb, h.has, h.no⟩, rfl⟩
  have hm5 := may_in hy
  have hno : ¬ ((recoverS a b).2.2.2.2.2 = 0 ∧ x9 + 1 ≤ (recoverS a b).1) := by
    rintro ⟨e, hle⟩
    by_cases g0 : 0 < g
    · obtain ⟨s, e2⟩ := h.has g0
      rw [e2] at hle
      dsimp only at hle
      omega
    · exact h.no (by have := h.g0; omega) e
  rw [write_eq a b h.ha h.hb (by omega) (by omega) hg hc hm hq (by omega) cut _ (by omega)]
  simp only [Option.bind_some]
  have w0 : (writeS a b (x9 + 1) c1 m1 q1 cut).2.2.2 = 0 := by unfold writeS; rw [if_pos hy, if_neg hno]
  have wl := write_len a b (g := x9 + 1) (c := c1) (m := m1) (l := q1) cut 6000 (by omega) (by omega) (by omega)
  have wb := write_by a b h.ha h.hb hg hc hm hq (by omega) cut
  rw [if_pos w0]
  by_cases h3 : cut ≥ ((codeB (x9 + 1) c1 m1 q1).length : Int)
  · have wa : (writeS a b (x9 + 1) c1 m1 q1 cut).2.2.1 = true := by unfold writeS; rw [if_pos hy, if_neg hno]; exact decide_eq_true h3
    obtain ⟨s, hr⟩ := write_all a b hg hc hm hq cut hy hno h3
    rw [if_pos wa]
    have hh : Held (x9 + 1) (writeS a b (x9 + 1) c1 m1 q1 cut).1 (writeS a b (x9 + 1) c1 m1 q1 cut).2.1 (x9 + 1) c1 m1 q1 := ⟨by omega, Int.le_refl _, wb.1, wb.2, wl.1, wl.2, fun _ => ⟨s, hr⟩, fun e => by omega⟩
    rw [j4_eq k l cuts x9 _ _ _ _ _ _ _ hh hk, hw]
    exact ⟨k, _, _, _, _, _, _, by omega, by omega, hh, rfl⟩
  · have wa : (writeS a b (x9 + 1) c1 m1 q1 cut).2.2.1 = false := by unfold writeS; rw [if_pos hy, if_neg hno]; exact decide_eq_false h3
    have hr := write_torn a b hg hc hm cut hy hno h3
    rw [if_neg (by rw [wa]; decide)]
    have hh : Held (x9 + 1) (writeS a b (x9 + 1) c1 m1 q1 cut).1 (writeS a b (x9 + 1) c1 m1 q1 cut).2.1 g c m q := ⟨h.g0, by omega, wb.1, wb.2, wl.1, wl.2, fun e => by rw [hr]; exact h.has e, fun e => by rw [hr]; exact h.no e⟩
    rw [j4_eq k l cuts x9 _ _ _ _ _ _ _ hh hk, hw]
    exact ⟨k, _, _, _, _, _, _, by omega, by omega, hh, rfl⟩
theorem l1_eq (l : List S26) (hl : Good l) (cuts : List Int) (hn : l.length ≤ 12) : ∀ (n : Nat) (k : Nat) (x9 : Int) (a b : List Int) (g c m : Int) (q : List Int), (l.length : Int) - x9 ≤ n → 0 ≤ x9 → Held x9 a b g c m q → 30000 + 10 * n ≤ k → newellaw12_FlashGoes.l1 k l cuts x9 a b g c m q = some true := by
  intro n
  induction n with
  | zero =>
    intro k x9 a b g c m q h1 h0 h hk
    obtain ⟨k, rfl⟩ : ∃ j, k = j + 2 := ⟨k - 2, by omega⟩
    simp only [newellaw12_FlashGoes.l1, newellaw12_FlashGoes.j3]
    rw [if_neg (by omega), if_neg (by decide), awake_eq _ (by omega)]
    rfl
  | succ n ih =>
    intro k x9 a b g c m q h1 h0 h hk
    obtain ⟨k, rfl⟩ : ∃ j, k = j + 5 := ⟨k - 5, by omega⟩
    have fin : newellaw12_FlashGoes.j3 (k + 4) l cuts x9 false a b g c m q = some true := by
      simp only [newellaw12_FlashGoes.j3]
      rw [if_neg (by decide), awake_eq _ (by omega)]
      rfl
    simp only [newellaw12_FlashGoes.l1]
    by_cases c1 : x9 < (l.length : Int)
    case neg => rw [if_neg c1]; exact fin
    rw [if_pos c1]
    by_cases c2 : x9 < (cuts.length : Int)
    case neg => rw [decide_eq_false c2]; exact fin
    rw [decide_eq_true c2]
    obtain ⟨k', a', b', g', c', m', q', e1, e2, hh, e⟩ := round_eq l hl cuts hn k (by omega) x9 a b g c m q h0 c1 c2 h
    rw [e]
    exact ih k' (x9 + 1) a' b' g' c' m' q' (by omega) (by omega) hh (by omega)
theorem rec_nil : (recoverS [] []).2.2.2.2.2 ≠ 0 := by
  rw [recover_rec, read_nil]
  decide
theorem j1_eq (l : List S26) (hl : Good l) (cuts : List Int) (x : Bool) (hx : l.length ≤ 12 ∨ x = true) (k : Nat) (hk : 40000 ≤ k) : newellaw12_FlashGoes.j1 k l cuts x = some true := by
  obtain ⟨k, rfl⟩ : ∃ j, k = j + 1 := ⟨k - 1, by omega⟩
  simp only [newellaw12_FlashGoes.j1]
  cases x
  · rw [if_neg (by decide)]
    have hn : l.length ≤ 12 := by rcases hx with h | h; exact h; exact Bool.noConfusion h
    exact l1_eq l hl cuts hn 12 k 0 [] [] 0 0 0 [] (by omega) (Int.le_refl 0) ⟨Int.le_refl 0, Int.le_refl 0, fun x hx => absurd hx (by simp), fun x hx => absurd hx (by simp), by decide, by decide, fun h => absurd h (by decide), fun _ => rec_nil⟩ (by omega)
  · rw [if_pos rfl, awake_eq _ (by omega)]
    rfl
theorem l0_eq (l : List S26) (hl : Good l) (cuts : List Int) (hn : l.length ≤ 1000000000000000) : ∀ (n : Nat) (k : Nat) (x5 x6 : Int), (l.length : Int) - x6 ≤ n → 0 ≤ x6 → 50000 + n ≤ k → newellaw12_FlashGoes.l0 k l cuts x5 x6 = some true := by
  intro n
  induction n with
  | zero =>
    intro k x5 x6 h1 h0 hk
    obtain ⟨k, rfl⟩ : ∃ j, k = j + 1 := ⟨k - 1, by omega⟩
    simp only [newellaw12_FlashGoes.l0]
    rw [if_neg (by omega)]
    by_cases c : (l.length : Int) > 12
    · rw [if_pos c]; exact j1_eq l hl cuts true (.inr rfl) k (by omega)
    · rw [if_neg c]; exact j1_eq l hl cuts _ (.inl (by omega)) k (by omega)
  | succ n ih =>
    intro k x5 x6 h1 h0 hk
    obtain ⟨k, rfl⟩ : ∃ j, k = j + 1 := ⟨k - 1, by omega⟩
    simp only [newellaw12_FlashGoes.l0]
    by_cases c0 : x6 < (l.length : Int)
    · have hw : wrap64 (x6 + 1) = x6 + 1 := by unfold wrap64; omega
      rw [if_pos c0, if_pos h0, hw]
      exact ih k _ (x6 + 1) (by omega) (by omega) (by omega)
    · rw [if_neg c0]
      by_cases c : (l.length : Int) > 12
      · rw [if_pos c]; exact j1_eq l hl cuts true (.inr rfl) k (by omega)
      · rw [if_neg c]; exact j1_eq l hl cuts _ (.inl (by omega)) k (by omega)
theorem goes_eq (l : List S26) (hl : Good l) (cuts : List Int) (hn : l.length ≤ 1000000000000000) (k : Nat) (hk : l.length + 50000 ≤ k) : newellaw12_FlashGoes.f k l cuts = some true := by
  unfold newellaw12_FlashGoes.f
  exact l0_eq l hl cuts hn l.length k 0 0 (by omega) (Int.le_refl 0) (by omega)
end Go.Proofs.YtickbejailcehaaDoor.Flash
