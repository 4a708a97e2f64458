/- Numbers as bytes: what is put is got, and nothing else; rows: plain Lean, no memory. -/
import Derived.Test.YtjfikeahafflfaaWire1
namespace Go.Proofs.Ytjfikeahafflfaa.Wire
open Go.RowKit Go.Proofs.YtjfikeahafflfaaW.PrintWords Go.Proofs.YtjfikeahafflfaaW.PrintLast Go.Proofs.YtjfikeahafflfaaW.PrintMore Go.Proofs.Ytjfikeahafflfaa.C

theorem leb_pos (f c : Nat) : 0 < (leb f c).length := by
  cases f with
  | zero => simp [leb]
  | succ f => simp only [leb]; split <;> simp
theorem leb_len (f c : Nat) : (leb f c).length ≤ f + 1 := by
  induction f generalizing c with
  | zero => simp [leb]
  | succ f ih =>
    simp only [leb]
    split
    · simp only [List.length_cons]; have := ih (c / 128); omega
    · simp
theorem leb_by (f : Nat) : ∀ c, c < 2 ^ (7 * f + 1) → ∀ x ∈ leb f c, By x := by
  induction f with
  | zero =>
    intro c h x hx
    simp only [leb, List.mem_singleton] at hx
    subst hx
    unfold By
    simp at h
    omega
  | succ f ih =>
    intro c h x hx
    simp only [leb] at hx
    split at hx
    · rcases List.mem_cons.1 hx with rfl | hx
      · unfold By; omega
      · refine ih (c / 128) ?_ x hx
        rw [show 7 * (f + 1) + 1 = (7 * f + 1) + 7 from by omega, Nat.pow_add] at h
        omega
    · rw [List.mem_singleton.1 hx]; unfold By; omega
theorem lebB_pow (k : Nat) (h : k ≤ 9) : lebB k = 2 ^ (7 * (9 - k) + 1) := by
  unfold lebB
  congr 1
  omega
/-- What is put is got, whatever stands behind. -/
theorem dec_leb (f : Nat) : ∀ k c m tail, k + f = 9 → m < 2 ^ (7 * f + 1) → (k = 0 ∨ 0 < m) → dec k c (leb f m ++ tail) = (c + m * 2 ^ (7 * k), k + (leb f m).length, 2) := by
  induction f with
  | zero =>
    intro k c m tail hk hm h0
    obtain rfl : k = 9 := by omega
    simp only [Nat.mul_zero, Nat.zero_add, Nat.pow_one] at hm
    simp only [leb, List.cons_append, List.nil_append, dec, List.length_cons, List.length_nil]
    have h1 : m = 1 := by omega
    subst h1
    rfl
  | succ f ih =>
    intro k c m tail hk hm h0
    have hk9 : ¬ (k = 9) := by omega
    simp only [leb]
    by_cases h : 128 ≤ m
    · rw [if_pos h]
      simp only [List.cons_append, dec]
      rw [if_neg (fun hh => hk9 hh.1), if_neg (by omega)]
      rw [show 7 * (f + 1) + 1 = (7 * f + 1) + 7 from by omega, Nat.pow_add] at hm
      rw [ih (k + 1) _ (m / 128) tail (by omega) (by omega) (.inr (by omega))]
      have e1 : (((m % 128 + 128 : Nat) : Int) % 128).toNat = m % 128 := by omega
      rw [e1, show 7 * (k + 1) = 7 + 7 * k from by omega, Nat.pow_add, show (2 : Nat) ^ 7 = 128 from rfl, ← Nat.mul_assoc, Nat.add_assoc, ← Nat.add_mul, show m % 128 + m / 128 * 128 = m from by omega]
      simp only [List.length_cons]
      rw [show k + 1 + (leb f (m / 128)).length = k + ((leb f (m / 128)).length + 1) from by omega]
    · rw [if_neg h]
      simp only [List.cons_append, List.nil_append, dec, List.length_cons, List.length_nil]
      have e1 : ((m : Int) % 128).toNat = m := by omega
      rw [if_neg (fun hh => hk9 hh.1), if_pos (by omega), if_neg (by omega), e1]
/-- What is got is put in just those bytes. -/
theorem dec_only (f : Nat) : ∀ k c l d n, k + f = 9 → (∀ x ∈ l, By x) → dec k c l = (d, n, 2) → ∃ m, m < 2 ^ (7 * f + 1) ∧ d = c + m * 2 ^ (7 * k) ∧ k < n ∧ n - k ≤ l.length ∧ l.take (n - k) = leb f m ∧ (k = 0 ∨ 0 < m) := by
  induction f with
  | zero =>
    intro k c l d n hk hb h
    obtain rfl : k = 9 := by omega
    cases l with
    | nil => simp [dec] at h
    | cons x l =>
      have hx := hb x List.mem_cons_self
      unfold By at hx
      simp only [dec] at h
      split at h
      · simp at h
      · rename_i h1
        have hx1 : x ≤ 1 := by
          by_cases hh : 1 < x
          · exact absurd ⟨by trivial, hh⟩ h1
          · omega
        rw [if_pos (by omega)] at h
        split at h
        · simp at h
        · rename_i h2
          obtain rfl : x = 1 := by omega
          simp only [Prod.mk.injEq] at h
          obtain ⟨rfl, rfl, _⟩ := h
          exact ⟨1, by decide, rfl, by omega, by simp, by simp [leb], .inr (by omega)⟩
  | succ f ih =>
    intro k c l d n hk hb h
    have hk9 : ¬ (k = 9) := by omega
    cases l with
    | nil => simp [dec] at h
    | cons x l =>
      have hx := hb x List.mem_cons_self
      unfold By at hx
      simp only [dec] at h
      rw [if_neg (fun hh => hk9 hh.1)] at h
      by_cases h1 : x < 128
      · rw [if_pos h1] at h
        split at h
        · simp at h
        · rename_i h2
          simp only [Prod.mk.injEq] at h
          obtain ⟨rfl, rfl, _⟩ := h
          have e1 : (x % 128).toNat = x.toNat := by omega
          refine ⟨x.toNat, ?_, by rw [e1], by omega, by simp, ?_, ?_⟩
          · have := Nat.pow_le_pow_right (show 0 < 2 by decide) (show 7 ≤ 7 * (f + 1) + 1 by omega)
            omega
          · rw [show k + 1 - k = 1 from by omega]
            simp only [List.take_succ_cons, List.take_zero, leb]
            rw [if_neg (by omega), Int.toNat_of_nonneg hx.1]
          · omega
      · rw [if_neg h1] at h
        obtain ⟨m, g1, g2, g3, g4, g5, g6⟩ := ih (k + 1) _ l d n (by omega) (fun y hy => hb y (List.mem_cons_of_mem _ hy)) h
        have gm : 0 < m := by omega
        have e1 : (x % 128).toNat = x.toNat - 128 := by omega
        refine ⟨(x.toNat - 128) + 128 * m, ?_, ?_, by omega, by simp only [List.length_cons]; omega, ?_, .inr (by omega)⟩
        · rw [show 7 * (f + 1) + 1 = (7 * f + 1) + 7 from by omega, Nat.pow_add]
          omega
        · rw [g2, e1, show 7 * (k + 1) = 7 + 7 * k from by omega, Nat.pow_add, show (2 : Nat) ^ 7 = 128 from rfl, Nat.add_assoc, ← Nat.mul_assoc, ← Nat.add_mul, Nat.mul_comm m 128]
        · rw [show n - k = (n - (k + 1)) + 1 from by omega, List.take_succ_cons, g5]
          simp only [leb]
          rw [if_pos (by omega)]
          congr 1
          · omega
          · congr 1
            omega
/-- Bytes that are cut end too early. -/
theorem dec_short (f : Nat) : ∀ k c m i, k + f = 9 → i < (leb f m).length → m < 2 ^ (7 * f + 1) → dec k c ((leb f m).take i) = (0, 0, 0) := by
  induction f with
  | zero =>
    intro k c m i hk hi hm
    simp only [leb, List.length_cons, List.length_nil] at hi
    obtain rfl : i = 0 := by omega
    rfl
  | succ f ih =>
    intro k c m i hk hi hm
    cases i with
    | zero => rfl
    | succ i =>
      simp only [leb] at hi ⊢
      by_cases h : 128 ≤ m
      · rw [if_pos h] at hi ⊢
        rw [List.take_succ_cons]
        simp only [dec]
        rw [if_neg (by omega), if_neg (by omega)]
        rw [show 7 * (f + 1) + 1 = (7 * f + 1) + 7 from by omega, Nat.pow_add] at hm
        exact ih (k + 1) _ (m / 128) i (by omega) (by simpa using hi) (by omega)
      · rw [if_neg h] at hi
        simp at hi
theorem dec_came (k c : Nat) (l : List Int) : (dec k c l).2.2 = 0 ∨ (dec k c l).2.2 = 1 ∨ (dec k c l).2.2 = 2 := by
  induction l generalizing k c with
  | nil => exact .inl rfl
  | cons x l ih =>
    simp only [dec]
    split
    · exact .inr (.inl rfl)
    · split
      · split
        · exact .inr (.inl rfl)
        · exact .inr (.inr rfl)
      · exact ih _ _
/-- A number's bytes. -/
def pt (n : Int) : List Int := leb 9 (codeN n)
theorem pt_by {n : Int} (h : In n) : ∀ x ∈ pt n, By x := leb_by 9 _ (by have := codeN_lt h; exact this)
theorem pt_pos (n : Int) : 0 < (pt n).length := leb_pos _ _
theorem pt_len (n : Int) : (pt n).length ≤ 10 := leb_len 9 _
theorem dec_pt {n : Int} (h : In n) (tail : List Int) : dec 0 0 (pt n ++ tail) = (codeN n, (pt n).length, 2) := by
  have := dec_leb 9 0 0 (codeN n) tail rfl (codeN_lt h) (.inl rfl)
  unfold pt
  simpa using this

/-! ### Get -/
def getS (l : List Int) (at_ : Int) : Int × Int × Int :=
  if at_ < 0 ∨ (l.length : Int) < at_ then (0, 0, 80) else
    if (dec 0 0 (l.drop at_.toNat)).2.2 = 0 then (0, 0, 81) else if (dec 0 0 (l.drop at_.toNat)).2.2 = 1 then (0, 0, 82) else (decN (dec 0 0 (l.drop at_.toNat)).1, at_ + ((dec 0 0 (l.drop at_.toNat)).2.1 : Int), 0)
theorem and_one (c : Nat) (h : c < 18446744073709551616) : Go.bits .and .u64 (c : Int) 1 = ((c % 2 : Nat) : Int) := by
  have q : Go.bits .and .u64 (c : Int) 1 = ((c &&& 1 : Nat) : Int) := u64_and_nat _ 1 h (by omega)
  rw [q, Nat.and_one_is_mod]
theorem dec_lt (l : List Int) (hb : ∀ x ∈ l, By x) (h : (dec 0 0 l).2.2 = 2) : (dec 0 0 l).1 < 18446744073709551616 ∧ (dec 0 0 l).2.1 ≤ l.length ∧ 0 < (dec 0 0 l).2.1 := by
  obtain ⟨m, h1, h2, h3, h4, _, _⟩ := dec_only 9 0 0 l (dec 0 0 l).1 (dec 0 0 l).2.1 rfl hb (by rw [← h])
  refine ⟨?_, by omega, h3⟩
  rw [h2]
  simp only [Nat.mul_zero, Nat.pow_zero, Nat.mul_one, Nat.zero_add]
  exact h1
theorem get_eq (l : List Int) (hb : ∀ x ∈ l, By x) (hl : l.length ≤ 1000000000) (at_ : Int) (f : Nat) (hf : 24 < f) : wire_Get.f f l at_ = some (getS l at_) := by
  obtain ⟨f, rfl⟩ : ∃ m, f = m + 1 := ⟨f - 1, by omega⟩
  have main : ∀ b : Bool, b = decide (at_ < 0 ∨ (l.length : Int) < at_) → wire_Get.j0 (f + 1) l at_ b = some (getS l at_) := by
    intro b hbb
    simp only [wire_Get.j0]
    unfold getS
    by_cases h : at_ < 0 ∨ (l.length : Int) < at_
    · rw [decide_eq_true h] at hbb
      rw [if_pos hbb, if_pos h]
    · rw [decide_eq_false h] at hbb
      rw [if_neg (by rw [hbb]; decide), if_neg h, if_pos (by omega), if_pos (by omega)]
      have hbd : ∀ x ∈ l.drop at_.toNat, By x := fun x hx => hb x (List.mem_of_mem_drop hx)
      rw [read_eq _ hbd f (by omega)]
      have hc := dec_came 0 0 (l.drop at_.toNat)
      have hlt := dec_lt _ hbd
      have hld : (l.drop at_.toNat).length ≤ l.length := by simp
      unfold tri
      simp only [Option.bind_some]
      generalize hd : dec 0 0 (l.drop at_.toNat) = p at *
      obtain ⟨c, n, q⟩ := p
      simp only at hc hlt ⊢
      by_cases h0 : q = 0
      · rw [if_pos (by omega), if_pos h0]
      rw [if_neg (by omega), if_neg h0]
      by_cases h1 : q = 1
      · rw [if_pos (by omega), if_pos h1]
      rw [if_neg (by omega), if_neg h1]
      obtain ⟨g1, g2, _⟩ := hlt (by omega)
      have e1 : wrap64 ((c : Int) / 2) = ((c / 2 : Nat) : Int) := by unfold wrap64; omega
      have e2 : wrap64 (at_ + (n : Int)) = at_ + (n : Int) := by unfold wrap64; omega
      rw [and_one c g1, e1, e2]
      unfold decN
      by_cases h2 : c % 2 = 1
      · rw [if_pos (by omega), if_pos h2, xor_neg1 _ (by unfold In; omega)]
      · rw [if_neg (by omega), if_neg h2]
  unfold wire_Get.f
  by_cases h : at_ < 0
  · rw [if_pos h]
    exact main true (decide_eq_true (.inl h)).symm
  · rw [if_neg h]
    refine main _ ?_
    rw [decide_eq_decide]
    omega
theorem getS_pt {n : Int} (h : In n) (pre tail : List Int) : getS (pre ++ (pt n ++ tail)) (pre.length : Int) = (n, (pre.length : Int) + ((pt n).length : Int), 0) := by
  unfold getS
  rw [if_neg (by simp only [List.length_append]; omega), Int.toNat_natCast, List.drop_left, dec_pt h]
  simp only
  rw [if_neg (by decide), if_neg (by decide), dec_code]
theorem getS_short {n : Int} (h : In n) (pre : List Int) (i : Nat) (hi : i < (pt n).length) : getS (pre ++ (pt n).take i) (pre.length : Int) = (0, 0, 81) := by
  unfold getS
  rw [if_neg (by simp only [List.length_append]; omega), Int.toNat_natCast, List.drop_left]
  have := dec_short 9 0 0 (codeN n) i rfl hi (codeN_lt h)
  rw [show (pt n).take i = (leb 9 (codeN n)).take i from rfl, this]
  rfl
/-- No number's bytes begin another one's. -/
theorem pt_apart {m n : Int} (hm : In m) (hn : In n) (t : List Int) (h : pt m = pt n ++ t) : m = n := by
  have h1 := dec_pt hm []
  have h2 := dec_pt hn t
  rw [List.append_nil, h, h2] at h1
  simp only [Prod.mk.injEq] at h1
  rw [← dec_code m, ← h1.1, dec_code]
theorem pt_inj {m n : Int} (hm : In m) (hn : In n) (h : pt m = pt n) : m = n := pt_apart hm hn [] (by simpa using h)

/-! ### Two rows, the same? -/
theorem same8_loop (a b : List Int) (j : Nat) : ∀ (f i : Nat), i + j = a.length → a.length = b.length → j < f → a.length ≤ 1000000000 → newelref08_Same.l0 f a b (i : Int) = some (decide (a.drop i = b.drop i)) := by
  induction j with
  | zero =>
    intro f i hi hl hf hm
    obtain ⟨f, rfl⟩ : ∃ m, f = m + 1 := ⟨f - 1, by omega⟩
    simp only [newelref08_Same.l0]
    rw [if_neg (by omega), List.drop_of_length_le (by omega), List.drop_of_length_le (by omega)]
    rfl
  | succ j ih =>
    intro f i hi hl hf hm
    obtain ⟨f, rfl⟩ : ∃ m, f = m + 1 := ⟨f - 1, by omega⟩
    have ha : i < a.length := by omega
    have hb : i < b.length := by omega
    have ei : wrap64 ((i : Int) + 1) = ((i + 1 : Nat) : Int) := by unfold wrap64; omega
    simp only [newelref08_Same.l0]
    rw [if_pos (by omega), if_pos (by omega), if_pos (by omega), rd_at a i ha, rd_at b i hb, ei, ih f (i + 1) (by omega) hl (by omega) hm, List.drop_eq_getElem_cons ha, List.drop_eq_getElem_cons hb]
    by_cases h : a[i] = b[i]
    · rw [if_pos h, h]
      congr 1
      rw [decide_eq_decide]
      exact ⟨fun e => by rw [e], fun e => (List.cons.inj e).2⟩
    · rw [if_neg h, decide_eq_false (fun e => h (List.cons.inj e).1)]
theorem same8_eq (a b : List Int) (f : Nat) (hf : a.length < f) (hm : a.length ≤ 1000000000) : newelref08_Same.f f a b = some (decide (a = b)) := by
  unfold newelref08_Same.f
  by_cases h : (a.length : Int) = (b.length : Int)
  · rw [if_pos h]
    have := same8_loop a b a.length f 0 (by omega) (by omega) (by omega) hm
    simpa using this
  · rw [if_neg h]
    have : a ≠ b := fun e => h (by rw [e])
    simp [this]
end Go.Proofs.Ytjfikeahafflfaa.Wire
