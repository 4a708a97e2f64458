/- Texts of this claim, one behind the other: what the law's functions come to, walked (printed by a program, with the words that the print uses), and what that is, in plain Lean. No conditions of their own. -/
import Derived.Test.YtickbejailcehaaDoorQFlashGoes5
namespace Go.Proofs.YtickbejailcehaaDoor.Wire
open Go.RowKit Go.Proofs.YtickbejailcehaaDoorW.PrintWords Go.Proofs.YtickbejailcehaaDoorW.PrintLast Go.Proofs.YtickbejailcehaaDoorW.PrintMore Go.Proofs.YtickbejailcehaaDoor.C
def In (n : Int) : Prop := -9223372036854775808 ≤ n ∧ n ≤ 9223372036854775807
theorem wf_in {n : Int} (h : (Lit.int .i64 n).wf = true) : In n := bounds_i64 h
def By (n : Int) : Prop := 0 ≤ n ∧ n < 256
theorem wf_by {n : Int} (h : (Lit.int .u8 n).wf = true) : By n := by
  have := bounds_u8 h
  unfold By; omega
def codeN (n : Int) : Nat := if n < 0 then (2 * (-1 - n) + 1).toNat else (2 * n).toNat
def decN (c : Nat) : Int := if c % 2 = 1 then -1 - ((c / 2 : Nat) : Int) else ((c / 2 : Nat) : Int)
theorem codeN_lt {n : Int} (h : In n) : codeN n < 18446744073709551616 := by
  unfold In at h; unfold codeN; split <;> omega
theorem dec_code (n : Int) : decN (codeN n) = n := by
  unfold decN codeN
  split <;> split <;> omega
theorem code_dec (c : Nat) : codeN (decN c) = c := by
  unfold decN codeN
  split <;> split <;> omega
theorem dec_in {c : Nat} (h : c < 18446744073709551616) : In (decN c) := by
  unfold decN In; split <;> omega
theorem xor_neg1 (n : Int) (h : In n) : Go.bits .xor .i64 (-1) n = -1 - n := by
  unfold In at h
  show IntKind.i64.wrap ((BitVec.ofInt 64 (-1) ^^^ BitVec.ofInt 64 n).toNat : Int) = _
  have e1 : BitVec.ofInt 64 (-1) = BitVec.allOnes 64 := by decide
  have e2 : (BitVec.allOnes 64 ^^^ BitVec.ofInt 64 n) = ~~~ (BitVec.ofInt 64 n) := by
    ext i hi
    rw [BitVec.getElem_xor, BitVec.getElem_not, BitVec.getElem_allOnes]
    simp
  rw [e1, e2, BitVec.toNat_not, BitVec.toNat_ofInt, IntKind.wrap_i64]
  omega
theorem or_add (a b i : Nat) (h : b < 2 ^ i) : a * 2 ^ i ||| b = a * 2 ^ i + b := by
  have := Nat.shiftLeft_add_eq_or_of_lt h a
  rw [Nat.shiftLeft_eq] at this
  exact this.symm
theorem code_eq (n : Int) (h : In n) : wire_code.f n = some (codeN n : Int) := by
  unfold wire_code.f codeN
  have h' := h
  unfold In at h
  by_cases h0 : n < 0
  · rw [if_pos h0, if_pos h0, xor_neg1 n h']
    have e : IntKind.u64.wrap (IntKind.u64.wrap (-1 - n) * 2) = (((-1 - n).toNat * 2 : Nat) : Int) := by
      rw [IntKind.wrap_u64, IntKind.wrap_u64]; omega
    have q : Go.bits .or .u64 (((-1 - n).toNat * 2 : Nat) : Int) 1 = (((-1 - n).toNat * 2 ||| 1 : Nat) : Int) := u64_or_nat _ 1 (by omega) (by omega)
    have := or_add (-1 - n).toNat 1 1 (by decide)
    rw [Nat.pow_one] at this
    rw [e, q, this]
    congr 1
    omega
  · rw [if_neg h0, if_neg h0, IntKind.wrap_u64, IntKind.wrap_u64]
    congr 1
    omega
theorem put_eq (n : Int) (h : In n) : wire_Put.f n = some (leb 9 (codeN n)) := by
  unfold wire_Put.f
  rewrite [code_eq n h]
  simp only [Option.bind_some]
  rw [Int.toNat_natCast]
def dec : Nat → Nat → List Int → Nat × Nat × Nat
  | _, _, [] => (0, 0, 0)
  | k, c, x :: l => if k = 9 ∧ 1 < x then (0, 0, 1) else if x < 128 then (if 0 < k ∧ x = 0 then (0, 0, 1) else (c + (x % 128).toNat * 2 ^ (7 * k), k + 1, 2)) else dec (k + 1) (c + (x % 128).toNat * 2 ^ (7 * k)) l
theorem pow_le_63 (k : Nat) (h : k ≤ 8) : (2 : Nat) ^ (7 * k) * 128 ≤ 9223372036854775808 := by
  have e : (2 : Nat) ^ (7 * k) * 128 = 2 ^ (7 * k + 7) := by rw [Nat.pow_add]
  rw [e]
  exact Nat.pow_le_pow_right (by decide) (show 7 * k + 7 ≤ 63 by omega)
theorem pow63 : (2 : Nat) ^ (7 * 9) = 9223372036854775808 := by decide
theorem or_step (c k : Nat) (x : Int) (hx : By x) (hk : k ≤ 9) (h9 : k = 9 → x ≤ 1) (hc : c < 2 ^ (7 * k)) :
    Go.bits .or .u64 (c : Int) (shl .u64 (IntKind.u64.wrap (Int.tmod x 128)) (wrap64 (7 * (k : Int)))) = ((c + (x % 128).toNat * 2 ^ (7 * k) : Nat) : Int) ∧ c + (x % 128).toNat * 2 ^ (7 * k) < 18446744073709551616 := by
  unfold By at hx
  have e0 : Int.tmod x 128 = x % 128 := by rw [Int.tmod_eq_emod_of_nonneg hx.1]
  have e1 : wrap64 (7 * (k : Int)) = ((7 * k : Nat) : Int) := by unfold wrap64; omega
  have hp : (x % 128).toNat * 2 ^ (7 * k) + 2 ^ (7 * k) ≤ 18446744073709551616 := by
    rcases Nat.lt_or_ge k 9 with h | h
    · have := pow_le_63 k (by omega)
      have h2 : (x % 128).toNat + 1 ≤ 128 := by omega
      have h3 : ((x % 128).toNat + 1) * 2 ^ (7 * k) ≤ 128 * 2 ^ (7 * k) := Nat.mul_le_mul_right _ h2
      rw [Nat.add_mul, Nat.one_mul] at h3
      omega
    · obtain rfl : k = 9 := by omega
      have := h9 rfl
      have h2 : (x % 128).toNat ≤ 1 := by omega
      have h3 : (x % 128).toNat * 2 ^ (7 * 9) ≤ 1 * 2 ^ (7 * 9) := Nat.mul_le_mul_right _ h2
      have h4 : (2 : Nat) ^ (7 * 9) = 9223372036854775808 := pow63
      generalize (2 : Nat) ^ (7 * 9) = p at *
      generalize (x % 128).toNat * p = q at *
      omega
  have hs : (shl .u64 (IntKind.u64.wrap (Int.tmod x 128)) (wrap64 (7 * (k : Int)))) = (((x % 128).toNat * 2 ^ (7 * k) : Nat) : Int) := by
    unfold shl
    have e2 : min (((7 * k : Nat) : Int)).toNat IntKind.u64.bits = 7 * k := by
      rw [Int.toNat_natCast]
      show min (7 * k) 64 = 7 * k
      omega
    rw [e1, e2, e0, IntKind.wrap_u64, IntKind.wrap_u64]
    have e3 : x % 128 % 18446744073709551616 = ((x % 128).toNat : Int) := by omega
    rw [e3]
    have e4 : (((x % 128).toNat : Int) * 2 ^ (7 * k)) = (((x % 128).toNat * 2 ^ (7 * k) : Nat) : Int) := by push_cast; rfl
    rw [e4]
    omega
  have hpos : 0 < (2 : Nat) ^ (7 * k) := Nat.pow_pos (by decide)
  rw [hs, u64_or_nat _ _ (by omega) (by omega)]
  refine ⟨?_, by omega⟩
  rw [Nat.or_comm, or_add _ _ _ hc, Nat.add_comm]
theorem step_lt (c k : Nat) (x : Int) (hc : c < 2 ^ (7 * k)) : c + (x % 128).toNat * 2 ^ (7 * k) < 2 ^ (7 * (k + 1)) := by
  have h2 : (x % 128).toNat + 1 ≤ 128 := by omega
  have h3 : ((x % 128).toNat + 1) * 2 ^ (7 * k) ≤ 128 * 2 ^ (7 * k) := Nat.mul_le_mul_right _ h2
  rw [Nat.add_mul, Nat.one_mul] at h3
  rw [show 7 * (k + 1) = 7 * k + 7 from by omega, Nat.pow_add]
  omega
theorem rd_at (l : List Int) (i : Nat) (h : i < l.length) : rd l (i : Int) = l[i] := by
  unfold rd
  rw [Int.toNat_natCast, List.getD_eq_getElem?_getD, List.getElem?_eq_getElem h]
  rfl
theorem read_round (f k c : Nat) (l : List Int) (x : Int) (B : Option (Int × Int × Int)) (hk9 : k ≤ 9) (ho : Go.bits .or .u64 (c : Int) (shl .u64 (IntKind.u64.wrap (Int.tmod x 128)) (wrap64 (7 * (k : Int)))) = ((c + (x % 128).toNat * 2 ^ (7 * k) : Nat) : Int))
    (hB : 128 ≤ x → wire_read.l0 f ((c + (x % 128).toNat * 2 ^ (7 * k) : Nat) : Int) l (l.length : Int) ((k + 1 : Nat) : Int) = B) :
    wire_read.j1 (f + 1) (c : Int) (k : Int) x l (l.length : Int) (k : Int) false = if x < 128 then (if 0 < k ∧ x = 0 then some (0, 0, 1) else some (((c + (x % 128).toNat * 2 ^ (7 * k) : Nat) : Int), ((k + 1 : Nat) : Int), 2)) else B := by
  have e6 : wrap64 (7 * (k : Int)) = ((7 * k : Nat) : Int) := by clear ho hB; unfold wrap64; omega
  have e7 : (0 : Int) ≤ wrap64 (7 * (k : Int)) := by rw [e6]; omega
  have e8 : wrap64 ((k : Int) + 1) = ((k + 1 : Nat) : Int) := by clear ho hB; unfold wrap64; omega
  simp only [wire_read.j1]
  rw [if_neg (by decide), if_pos e7, ho, e8]
  by_cases h1 : x < 128
  · rw [if_pos h1, if_pos h1]
    by_cases h2 : (k : Int) > 0
    · rw [if_pos h2]
      by_cases h3 : x = 0
      · rw [if_pos h3, if_pos (show 0 < k ∧ x = 0 from ⟨by omega, h3⟩)]
      · rw [if_neg h3, if_neg (show ¬ (0 < k ∧ x = 0) from fun h => h3 h.2)]
    · rw [if_neg h2, if_neg (show ¬ (0 < k ∧ x = 0) from fun h => h2 (by omega))]
  · rw [if_neg h1, if_neg h1]
    exact hB (by omega)
def tri (p : Nat × Nat × Nat) : Option (Int × Int × Int) := some ((p.1 : Int), (p.2.1 : Int), (p.2.2 : Int))
theorem tri_ite (P : Prop) [Decidable P] (a b : Nat × Nat × Nat) : tri (if P then a else b) = if P then tri a else tri b := by split <;> rfl
theorem read_loop (l : List Int) (hb : ∀ x ∈ l, By x) (j : Nat) : ∀ (f k c : Nat), k + j = l.length → (10 - k) * 2 + 2 < f → k ≤ 9 → c < 2 ^ (7 * k) →
    wire_read.l0 f (c : Int) l (l.length : Int) (k : Int) = tri (dec k c (l.drop k)) := by
  induction j with
  | zero =>
    intro f k c hk hf h9 hc
    obtain ⟨f, rfl⟩ : ∃ m, f = m + 1 := ⟨f - 1, by omega⟩
    rw [List.drop_of_length_le (by omega)]
    simp only [wire_read.l0, dec]
    rw [if_neg (by omega)]
    rfl
  | succ j ih =>
    intro f k c hk hf h9 hc
    obtain ⟨f, rfl⟩ : ∃ m, f = m + 2 := ⟨f - 2, by omega⟩
    have hlt : k < l.length := by omega
    have hx := hb _ (List.getElem_mem hlt)
    rw [List.drop_eq_getElem_cons hlt]
    have hrd := rd_at l k hlt
    generalize l[k] = x at *
    simp only [wire_read.l0, dec]
    rw [if_pos (show (k : Int) < (l.length : Int) by omega), if_pos (show (0 : Int) ≤ (k : Int) by omega), if_pos (show (k : Int) < (l.length : Int) by omega), hrd]
    by_cases h91 : k = 9 ∧ 1 < x
    · rw [if_pos (show (k : Int) = 9 by omega), if_pos h91, decide_eq_true (show x > 1 from h91.2)]
      simp only [wire_read.j1]
      rfl
    · rw [if_neg h91]
      obtain ⟨o1, _⟩ := or_step c k x hx h9 (by omega) hc
      have main := read_round f k c l x _ h9 o1 (fun hge => ih f (k + 1) _ (by omega) (by omega) (by omega) (step_lt c k x hc))
      have hd : ∀ b : Bool, b = false → wire_read.j1 (f + 1) (c : Int) (k : Int) x l (l.length : Int) (k : Int) b = tri (if x < 128 then (if 0 < k ∧ x = 0 then ((0, 0, 1) : Nat × Nat × Nat) else (c + (x % 128).toNat * 2 ^ (7 * k), k + 1, 2)) else dec (k + 1) (c + (x % 128).toNat * 2 ^ (7 * k)) (l.drop (k + 1))) := by
        intro b hb
        rw [hb, main, tri_ite, tri_ite]
        rfl
      by_cases hk99 : k = 9
      · rw [if_pos (show (k : Int) = 9 by omega)]
        exact hd _ (decide_eq_false (by omega))
      · rw [if_neg (show ¬ (k : Int) = 9 by omega)]
        exact hd _ rfl
theorem read_eq (l : List Int) (hb : ∀ x ∈ l, By x) (f : Nat) (hf : 22 < f) : wire_read.f f l = tri (dec 0 0 l) := by
  unfold wire_read.f
  have := read_loop l hb l.length f 0 0 (by omega) (by omega) (by omega) (by decide)
  simpa using this
end Go.Proofs.YtickbejailcehaaDoor.Wire
namespace Go.Proofs.YtickbejailcehaaDoor.Wire
open Go.RowKit Go.Proofs.YtickbejailcehaaDoorW.PrintWords Go.Proofs.YtickbejailcehaaDoorW.PrintLast Go.Proofs.YtickbejailcehaaDoorW.PrintMore Go.Proofs.YtickbejailcehaaDoor.C
theorem leb_len (f c : Nat) : (leb f c).length ≤ f + 1 := by
  induction f generalizing c with
  | zero => simp [leb]
  | succ f ih =>
    simp only [leb]
    split
    · simp only [List.length_cons]; have := ih (c / 128); omega
    · simp
theorem leb_by (f : Nat) : ∀ c, c < 2 ^ (7 * f + 1) → ∀ x ∈ leb f c, By x := by
  induction f with
  | zero =>
    intro c h x hx
    simp only [leb, List.mem_singleton] at hx
    subst hx
    unfold By
    simp at h
    omega
  | succ f ih =>
    intro c h x hx
    simp only [leb] at hx
    split at hx
    · rcases List.mem_cons.1 hx with rfl | hx
      · unfold By; omega
      · refine ih (c / 128) ?_ x hx
        rw [show 7 * (f + 1) + 1 = (7 * f + 1) + 7 from by omega, Nat.pow_add] at h
        omega
    · rw [List.mem_singleton.1 hx]; unfold By; omega
theorem dec_leb (f : Nat) : ∀ k c m tail, k + f = 9 → m < 2 ^ (7 * f + 1) → (k = 0 ∨ 0 < m) → dec k c (leb f m ++ tail) = (c + m * 2 ^ (7 * k), k + (leb f m).length, 2) := by
  induction f with
  | zero =>
    intro k c m tail hk hm h0
    obtain rfl : k = 9 := by omega
    simp only [Nat.mul_zero, Nat.zero_add, Nat.pow_one] at hm
    simp only [leb, List.cons_append, List.nil_append, dec, List.length_cons, List.length_nil]
    have h1 : m = 1 := by omega
    subst h1
    rfl
  | succ f ih =>
    intro k c m tail hk hm h0
    have hk9 : ¬ (k = 9) := by omega
    simp only [leb]
    by_cases h : 128 ≤ m
    · rw [if_pos h]
      simp only [List.cons_append, dec]
      rw [if_neg (fun hh => hk9 hh.1), if_neg (by omega)]
      rw [show 7 * (f + 1) + 1 = (7 * f + 1) + 7 from by omega, Nat.pow_add] at hm
      rw [ih (k + 1) _ (m / 128) tail (by omega) (by omega) (.inr (by omega))]
      have e1 : (((m % 128 + 128 : Nat) : Int) % 128).toNat = m % 128 := by omega
      rw [e1, show 7 * (k + 1) = 7 + 7 * k from by omega, Nat.pow_add, show (2 : Nat) ^ 7 = 128 from rfl, ← Nat.mul_assoc, Nat.add_assoc, ← Nat.add_mul, show m % 128 + m / 128 * 128 = m from by omega]
      simp only [List.length_cons]
      rw [show k + 1 + (leb f (m / 128)).length = k + ((leb f (m / 128)).length + 1) from by omega]
    · rw [if_neg h]
      simp only [List.cons_append, List.nil_append, dec, List.length_cons, List.length_nil]
      have e1 : ((m : Int) % 128).toNat = m := by omega
      rw [if_neg (fun hh => hk9 hh.1), if_pos (by omega), if_neg (by omega), e1]
theorem dec_only (f : Nat) : ∀ k c l d n, k + f = 9 → (∀ x ∈ l, By x) → dec k c l = (d, n, 2) → ∃ m, m < 2 ^ (7 * f + 1) ∧ d = c + m * 2 ^ (7 * k) ∧ k < n ∧ n - k ≤ l.length ∧ l.take (n - k) = leb f m ∧ (k = 0 ∨ 0 < m) := by
  induction f with
  | zero =>
    intro k c l d n hk hb h
    obtain rfl : k = 9 := by omega
    cases l with
    | nil => simp [dec] at h
    | cons x l =>
      have hx := hb x List.mem_cons_self
      unfold By at hx
      simp only [dec] at h
      split at h
      · simp at h
      · rename_i h1
        have hx1 : x ≤ 1 := by
          by_cases hh : 1 < x
          · exact absurd ⟨by trivial, hh⟩ h1
          · omega
        rw [if_pos (by omega)] at h
        split at h
        · simp at h
        · rename_i h2
          obtain rfl : x = 1 := by omega
          simp only [Prod.mk.injEq] at h
          obtain ⟨rfl, rfl, _⟩ := h
          exact ⟨1, by decide, rfl, by omega, by simp, by simp [leb], .inr (by omega)⟩
  | succ f ih =>
    intro k c l d n hk hb h
    have hk9 : ¬ (k = 9) := by omega
    cases l with
    | nil => simp [dec] at h
    | cons x l =>
      have hx := hb x List.mem_cons_self
      unfold By at hx
      simp only [dec] at h
      rw [if_neg (fun hh => hk9 hh.1)] at h
      by_cases h1 : x < 128
      · rw [if_pos h1] at h
        split at h
        · simp at h
        · rename_i h2
          simp only [Prod.mk.injEq] at h
          obtain ⟨rfl, rfl, _⟩ := h
          have e1 : (x % 128).toNat = x.toNat := by omega
          refine ⟨x.toNat, ?_, by rw [e1], by omega, by simp, ?_, ?_⟩
          · have := Nat.pow_le_pow_right (show 0 < 2 by decide) (show 7 ≤ 7 * (f + 1) + 1 by omega)
            omega
          · rw [show k + 1 - k = 1 from by omega]
            simp only [List.take_succ_cons, List.take_zero, leb]
            rw [if_neg (by omega), Int.toNat_of_nonneg hx.1]
          · omega
      · rw [if_neg h1] at h
        obtain ⟨m, g1, g2, g3, g4, g5, g6⟩ := ih (k + 1) _ l d n (by omega) (fun y hy => hb y (List.mem_cons_of_mem _ hy)) h
        have gm : 0 < m := by omega
        have e1 : (x % 128).toNat = x.toNat - 128 := by omega
        refine ⟨(x.toNat - 128) + 128 * m, ?_, ?_, by omega, by simp only [List.length_cons]; omega, ?_, .inr (by omega)⟩
        · rw [show 7 * (f + 1) + 1 = (7 * f + 1) + 7 from by omega, Nat.pow_add]
          omega
        · rw [g2, e1, show 7 * (k + 1) = 7 + 7 * k from by omega, Nat.pow_add, show (2 : Nat) ^ 7 = 128 from rfl, Nat.add_assoc, ← Nat.mul_assoc, ← Nat.add_mul, Nat.mul_comm m 128]
        · rw [show n - k = (n - (k + 1)) + 1 from by omega, List.take_succ_cons, g5]
          simp only [leb]
          rw [if_pos (by omega)]
          congr 1
          · omega
          · congr 1
            omega
theorem dec_short (f : Nat) : ∀ k c m i, k + f = 9 → i < (leb f m).length → m < 2 ^ (7 * f + 1) → dec k c ((leb f m).take i) = (0, 0, 0) := by
  induction f with
  | zero =>
    intro k c m i hk hi hm
    simp only [leb, List.length_cons, List.length_nil] at hi
    obtain rfl : i = 0 := by omega
    rfl
  | succ f ih =>
    intro k c m i hk hi hm
    cases i with
    | zero => rfl
    | succ i =>
      simp only [leb] at hi ⊢
      by_cases h : 128 ≤ m
      · rw [if_pos h] at hi ⊢
        rw [List.take_succ_cons]
        simp only [dec]
        rw [if_neg (by omega), if_neg (by omega)]
        rw [show 7 * (f + 1) + 1 = (7 * f + 1) + 7 from by omega, Nat.pow_add] at hm
        exact ih (k + 1) _ (m / 128) i (by omega) (by simpa using hi) (by omega)
      · rw [if_neg h] at hi
        simp at hi
theorem dec_came (k c : Nat) (l : List Int) : (dec k c l).2.2 = 0 ∨ (dec k c l).2.2 = 1 ∨ (dec k c l).2.2 = 2 := by
  induction l generalizing k c with
  | nil => exact .inl rfl
  | cons x l ih =>
    simp only [dec]
    split
    · exact .inr (.inl rfl)
    · split
      · split
        · exact .inr (.inl rfl)
        · exact .inr (.inr rfl)
      · exact ih _ _
def pt (n : Int) : List Int := leb 9 (codeN n)
theorem pt_by {n : Int} (h : In n) : ∀ x ∈ pt n, By x := leb_by 9 _ (by have := codeN_lt h; exact this)
theorem pt_len (n : Int) : (pt n).length ≤ 10 := leb_len 9 _
theorem dec_pt {n : Int} (h : In n) (tail : List Int) : dec 0 0 (pt n ++ tail) = (codeN n, (pt n).length, 2) := by
  have := dec_leb 9 0 0 (codeN n) tail rfl (codeN_lt h) (.inl rfl)
  unfold pt
  simpa using this
def getS (l : List Int) (at_ : Int) : Int × Int × Int :=
  if at_ < 0 ∨ (l.length : Int) < at_ then (0, 0, 80) else
    if (dec 0 0 (l.drop at_.toNat)).2.2 = 0 then (0, 0, 81) else if (dec 0 0 (l.drop at_.toNat)).2.2 = 1 then (0, 0, 82) else (decN (dec 0 0 (l.drop at_.toNat)).1, at_ + ((dec 0 0 (l.drop at_.toNat)).2.1 : Int), 0)
theorem and_one (c : Nat) (h : c < 18446744073709551616) : Go.bits .and .u64 (c : Int) 1 = ((c % 2 : Nat) : Int) := by
  have q : Go.bits .and .u64 (c : Int) 1 = ((c &&& 1 : Nat) : Int) := u64_and_nat _ 1 h (by omega)
  rw [q, Nat.and_one_is_mod]
theorem dec_lt (l : List Int) (hb : ∀ x ∈ l, By x) (h : (dec 0 0 l).2.2 = 2) : (dec 0 0 l).1 < 18446744073709551616 ∧ (dec 0 0 l).2.1 ≤ l.length ∧ 0 < (dec 0 0 l).2.1 := by
  obtain ⟨m, h1, h2, h3, h4, _, _⟩ := dec_only 9 0 0 l (dec 0 0 l).1 (dec 0 0 l).2.1 rfl hb (by rw [← h])
  refine ⟨?_, by omega, h3⟩
  rw [h2]
  simp only [Nat.mul_zero, Nat.pow_zero, Nat.mul_one, Nat.zero_add]
  exact h1
theorem get_eq (l : List Int) (hb : ∀ x ∈ l, By x) (hl : l.length ≤ 1000000000) (at_ : Int) (f : Nat) (hf : 24 < f) : wire_Get.f f l at_ = some (getS l at_) := by
  obtain ⟨f, rfl⟩ : ∃ m, f = m + 1 := ⟨f - 1, by omega⟩
  have main : ∀ b : Bool, b = decide (at_ < 0 ∨ (l.length : Int) < at_) → wire_Get.j0 (f + 1) l at_ b = some (getS l at_) := by
    intro b hbb
    simp only [wire_Get.j0]
    unfold getS
    by_cases h : at_ < 0 ∨ (l.length : Int) < at_
    · rw [decide_eq_true h] at hbb
      rw [if_pos hbb, if_pos h]
    · rw [decide_eq_false h] at hbb
      rw [if_neg (by rw [hbb]; decide), if_neg h, if_pos (by omega), if_pos (by omega)]
      have hbd : ∀ x ∈ l.drop at_.toNat, By x := fun x hx => hb x (List.mem_of_mem_drop hx)
      rw [read_eq _ hbd f (by omega)]
      have hc := dec_came 0 0 (l.drop at_.toNat)
      have hlt := dec_lt _ hbd
      have hld : (l.drop at_.toNat).length ≤ l.length := by simp
      unfold tri
      simp only [Option.bind_some]
      generalize hd : dec 0 0 (l.drop at_.toNat) = p at *
      obtain ⟨c, n, q⟩ := p
      simp only at hc hlt ⊢
      by_cases h0 : q = 0
      · rw [if_pos (by omega), if_pos h0]
      rw [if_neg (by omega), if_neg h0]
      by_cases h1 : q = 1
      · rw [if_pos (by omega), if_pos h1]
      rw [if_neg (by omega), if_neg h1]
      obtain ⟨g1, g2, _⟩ := hlt (by omega)
      have e1 : wrap64 ((c : Int) / 2) = ((c / 2 : Nat) : Int) := by unfold wrap64; omega
      have e2 : wrap64 (at_ + (n : Int)) = at_ + (n : Int) := by unfold wrap64; omega
      rw [and_one c g1, e1, e2]
      unfold decN
      by_cases h2 : c % 2 = 1
      · rw [if_pos (by omega), if_pos h2, xor_neg1 _ (by unfold In; omega)]
      · rw [if_neg (by omega), if_neg h2]
  unfold wire_Get.f
  by_cases h : at_ < 0
  · rw [if_pos h]
    exact main true (decide_eq_true (.inl h)).symm
  · rw [if_neg h]
    refine main _ ?_
    rw [decide_eq_decide]
    omega
theorem getS_pt {n : Int} (h : In n) (pre tail : List Int) : getS (pre ++ (pt n ++ tail)) (pre.length : Int) = (n, (pre.length : Int) + ((pt n).length : Int), 0) := by
  unfold getS
  rw [if_neg (by simp only [List.length_append]; omega), Int.toNat_natCast, List.drop_left, dec_pt h]
  simp only
  rw [if_neg (by decide), if_neg (by decide), dec_code]
theorem getS_short {n : Int} (h : In n) (pre : List Int) (i : Nat) (hi : i < (pt n).length) : getS (pre ++ (pt n).take i) (pre.length : Int) = (0, 0, 81) := by
  unfold getS
  rw [if_neg (by simp only [List.length_append]; omega), Int.toNat_natCast, List.drop_left]
  have := dec_short 9 0 0 (codeN n) i rfl hi (codeN_lt h)
  rw [show (pt n).take i = (leb 9 (codeN n)).take i from rfl, this]
  rfl
theorem same8_loop (a b : List Int) (j : Nat) : ∀ (f i : Nat), i + j = a.length → a.length = b.length → j < f → a.length ≤ 1000000000 → newelref08_Same.l0 f a b (i : Int) = some (decide (a.drop i = b.drop i)) := by
  induction j with
  | zero =>
    intro f i hi hl hf hm
    obtain ⟨f, rfl⟩ : ∃ m, f = m + 1 := ⟨f - 1, by omega⟩
    simp only [newelref08_Same.l0]
    rw [if_neg (by omega), List.drop_of_length_le (by omega), List.drop_of_length_le (by omega)]
    rfl
  | succ j ih =>
    intro f i hi hl hf hm
    obtain ⟨f, rfl⟩ : ∃ m, f = m + 1 := ⟨f - 1, by omega⟩
    have ha : i < a.length := by omega
    have hb : i < b.length := by omega
    have ei : wrap64 ((i : Int) + 1) = ((i + 1 : Nat) : Int) := by unfold wrap64; omega
    simp only [newelref08_Same.l0]
    rw [if_pos (by omega), if_pos (by omega), if_pos (by omega), rd_at a i ha, rd_at b i hb, ei, ih f (i + 1) (by omega) hl (by omega) hm, List.drop_eq_getElem_cons ha, List.drop_eq_getElem_cons hb]
    by_cases h : a[i] = b[i]
    · rw [if_pos h, h]
      congr 1
      rw [decide_eq_decide]
      exact ⟨fun e => by rw [e], fun e => (List.cons.inj e).2⟩
    · rw [if_neg h, decide_eq_false (fun e => h (List.cons.inj e).1)]
theorem same8_eq (a b : List Int) (f : Nat) (hf : a.length < f) (hm : a.length ≤ 1000000000) : newelref08_Same.f f a b = some (decide (a = b)) := by
  unfold newelref08_Same.f
  by_cases h : (a.length : Int) = (b.length : Int)
  · rw [if_pos h]
    have := same8_loop a b a.length f 0 (by omega) (by omega) (by omega) hm
    simpa using this
  · rw [if_neg h]
    have : a ≠ b := fun e => h (by rw [e])
    simp [this]
end Go.Proofs.YtickbejailcehaaDoor.Wire
namespace Go.Proofs.YtickbejailcehaaDoor.Wire
open Go.RowKit Go.Proofs.YtickbejailcehaaDoorW.PrintWords Go.Proofs.YtickbejailcehaaDoorW.PrintLast Go.Proofs.YtickbejailcehaaDoorW.PrintMore Go.Proofs.YtickbejailcehaaDoor.C
def pts (l : List Int) : List Int := l.flatMap pt
def rowB (l : List Int) : List Int := pt (l.length : Int) ++ pts l
theorem pts_len (l : List Int) : (pts l).length ≤ 10 * l.length := by
  induction l with
  | nil => simp [pts]
  | cons n l ih =>
    have := pt_len n
    simp only [pts, List.flatMap_cons, List.length_append, List.length_cons] at *
    omega
theorem pts_cons (n : Int) (l : List Int) : pts (n :: l) = pt n ++ pts l := rfl
theorem rowB_len (l : List Int) : (rowB l).length ≤ 10 * (l.length + 1) := by
  have := pts_len l
  have := pt_len (l.length : Int)
  simp only [rowB, List.length_append]; omega
theorem pts_by {l : List Int} (h : ∀ x ∈ l, In x) : ∀ y ∈ pts l, By y := by
  intro y hy
  obtain ⟨x, hx, hy⟩ := List.mem_flatMap.1 hy
  exact pt_by (h x hx) y hy
theorem rowB_by {l : List Int} (h : ∀ x ∈ l, In x) (hl : l.length ≤ 1000000) : ∀ y ∈ rowB l, By y := by
  intro y hy
  rcases List.mem_append.1 hy with hy | hy
  · exact pt_by (by unfold In; omega) y hy
  · exact pts_by h y hy
theorem row_loop (l : List Int) (hi : ∀ x ∈ l, In x) (hl : l.length ≤ 1000000) (j : Nat) : ∀ (f i : Nat) (acc : List Int), i + j = l.length → j < f → acc.length ≤ 10 * (i + 1) → wire_Row.l0 f acc l (l.length : Int) (i : Int) = some (acc ++ pts (l.drop i)) := by
  induction j with
  | zero =>
    intro f i acc h hf ha
    obtain ⟨f, rfl⟩ : ∃ m, f = m + 1 := ⟨f - 1, by omega⟩
    simp only [wire_Row.l0]
    rw [if_neg (by omega), List.drop_of_length_le (by omega)]
    simp [pts]
  | succ j ih =>
    intro f i acc h hf ha
    obtain ⟨f, rfl⟩ : ∃ m, f = m + 1 := ⟨f - 1, by omega⟩
    have hlt : i < l.length := by omega
    have ei : wrap64 ((i : Int) + 1) = ((i + 1 : Nat) : Int) := by unfold wrap64; omega
    have hp := pt_len l[i]
    simp only [wire_Row.l0]
    rw [if_pos (by omega), if_pos (by omega), if_pos (by omega), rd_at l i hlt, put_eq _ (hi _ (List.getElem_mem hlt))]
    simp only [Option.bind_some]
    rw [show leb 9 (codeN l[i]) = pt l[i] from rfl, if_pos (by omega), ei, ih f (i + 1) _ (by omega) (by omega) (by simp only [List.length_append]; omega), List.drop_eq_getElem_cons hlt, pts_cons, List.append_assoc]
theorem row_eq (l : List Int) (hi : ∀ x ∈ l, In x) (hl : l.length ≤ 1000000) (f : Nat) (hf : l.length < f) : wire_Row.f f l = some (rowB l) := by
  unfold wire_Row.f
  rw [put_eq _ (by unfold In; omega)]
  simp only [Option.bind_some]
  have := row_loop l hi hl l.length f 0 (leb 9 (codeN (l.length : Int))) (by omega) hf (pt_len (l.length : Int))
  simpa [rowB, pt] using this
def many : Nat → List Int → Int → List Int → List Int × Int × Int
  | 0, _, nx, acc => (acc, nx, 0)
  | m + 1, b, nx, acc => if (getS b nx).2.2 = 0 then many m b (getS b nx).2.1 (acc ++ [(getS b nx).1]) else ([], 0, (getS b nx).2.2)
def getRowS (b : List Int) (at_ most : Int) : List Int × Int × Int :=
  if (getS b at_).2.2 = 0 then (if (getS b at_).1 < 0 ∨ most < (getS b at_).1 then ([], 0, 83) else many (getS b at_).1.toNat b (getS b at_).2.1 []) else ([], 0, (getS b at_).2.2)
theorem many_loop (b : List Int) (hb : ∀ x ∈ b, By x) (hl : b.length ≤ 1000000000) (m : Nat) : ∀ (f : Nat) (nx : Int) (acc : List Int), m + 30 < f → acc.length + m ≤ 1000000 → wire_GetRow.l0 f b (m : Int) nx 0 acc = some (many m b nx acc) := by
  induction m with
  | zero =>
    intro f nx acc hf ha
    obtain ⟨f, rfl⟩ : ∃ m, f = m + 1 := ⟨f - 1, by omega⟩
    simp only [wire_GetRow.l0, many]
    rw [if_pos trivial, if_neg (by omega)]
  | succ m ih =>
    intro f nx acc hf ha
    obtain ⟨f, rfl⟩ : ∃ m, f = m + 1 := ⟨f - 1, by omega⟩
    have em : wrap64 (((m + 1 : Nat) : Int) - 1) = (m : Int) := by unfold wrap64; omega
    simp only [wire_GetRow.l0, many]
    rw [if_pos trivial, if_pos (by omega), get_eq b hb hl nx f (by omega)]
    simp only [Option.bind_some]
    rw [if_pos (by omega), em]
    by_cases h : (getS b nx).2.2 = 0
    · rw [if_pos h, h]
      exact ih f _ _ (by omega) (by simp only [List.length_append, List.length_cons, List.length_nil]; omega)
    · rw [if_neg h]
      obtain ⟨f, rfl⟩ : ∃ m, f = m + 1 := ⟨f - 1, by omega⟩
      simp only [wire_GetRow.l0]
      rw [if_neg h]
theorem getRow_eq (b : List Int) (hb : ∀ x ∈ b, By x) (hl : b.length ≤ 1000000000) (at_ most : Int) (hm : most ≤ 100000) (f : Nat) (hf : most.toNat + 40 < f) : wire_GetRow.f f b at_ most = some (getRowS b at_ most) := by
  unfold wire_GetRow.f getRowS
  rw [get_eq b hb hl at_ f (by omega)]
  obtain ⟨f, rfl⟩ : ∃ m, f = m + 2 := ⟨f - 2, by omega⟩
  simp only [Option.bind_some]
  have hj : ∀ (n nx e : Int) (x : Bool), wire_GetRow.j0 (f + 2) b n nx e x = wire_GetRow.l0 f b n nx (if x = true then 83 else e) [] := by
    intro n nx e x
    simp only [wire_GetRow.j0, wire_GetRow.j1]
    cases x <;> rfl
  have he : ∀ (n nx e : Int), e ≠ 0 → wire_GetRow.l0 f b n nx e [] = some ([], 0, e) := by
    intro n nx e h
    obtain ⟨f, rfl⟩ : ∃ m, f = m + 1 := ⟨f - 1, by omega⟩
    simp only [wire_GetRow.l0]
    rw [if_neg h]
  by_cases h : (getS b at_).2.2 = 0
  · rw [if_pos h, if_pos h]
    by_cases h1 : (getS b at_).1 < 0
    · rw [if_pos h1, if_pos (.inl h1), hj, if_pos rfl, he _ _ _ (by decide)]
    · rw [if_neg h1]
      by_cases h2 : (getS b at_).1 > most
      · rw [decide_eq_true h2, if_pos (.inr h2), hj, if_pos rfl, he _ _ _ (by decide)]
      · rw [decide_eq_false h2, if_neg (by omega), hj, if_neg (by decide), h]
        obtain ⟨n, hn⟩ := Int.eq_ofNat_of_zero_le (show 0 ≤ (getS b at_).1 by omega)
        rw [hn, Int.toNat_natCast]
        exact many_loop b hb hl n f _ [] (by omega) (by simp; omega)
  · rw [if_neg h, if_neg h, hj, if_neg (by decide), he _ _ _ h]
theorem many_back (l : List Int) : ∀ (pre tail acc : List Int), (∀ x ∈ l, In x) → many l.length (pre ++ (pts l ++ tail)) (pre.length : Int) acc = (acc ++ l, (pre.length : Int) + ((pts l).length : Int), 0) := by
  induction l with
  | nil => intro pre tail acc _; simp [many, pts]
  | cons n l ih =>
    intro pre tail acc h
    have e : pre ++ (pts (n :: l) ++ tail) = pre ++ (pt n ++ (pts l ++ tail)) := by rw [pts_cons, List.append_assoc]
    simp only [List.length_cons, many]
    rw [e, getS_pt (h n List.mem_cons_self)]
    simp only
    rw [if_pos trivial, ← List.append_assoc]
    have := ih (pre ++ pt n) tail (acc ++ [n]) (fun x hx => h x (List.mem_cons_of_mem _ hx))
    rw [List.length_append] at this
    rw [show (pre.length : Int) + ((pt n).length : Int) = ((pre.length + (pt n).length : Nat) : Int) from by omega, this, pts_cons]
    simp only [List.append_assoc, List.cons_append, List.nil_append, List.length_append]
    congr 2
    omega
theorem many_short (l : List Int) : ∀ (pre acc : List Int) (i : Nat), (∀ x ∈ l, In x) → i < (pts l).length → many l.length (pre ++ (pts l).take i) (pre.length : Int) acc = ([], 0, 81) := by
  induction l with
  | nil => intro pre acc i _ h; simp [pts] at h
  | cons n l ih =>
    intro pre acc i h hi
    simp only [List.length_cons, many]
    by_cases hc : i < (pt n).length
    · rw [pts_cons, List.take_append_of_le_length (by omega), getS_short (h n List.mem_cons_self) pre i hc]
      rfl
    · have e : (pts (n :: l)).take i = pt n ++ (pts l).take (i - (pt n).length) := by
        rw [pts_cons, List.take_append, List.take_of_length_le (by omega)]
      rw [e, getS_pt (h n List.mem_cons_self)]
      simp only
      rw [if_pos trivial, ← List.append_assoc]
      have := ih (pre ++ pt n) (acc ++ [n]) (i - (pt n).length) (fun x hx => h x (List.mem_cons_of_mem _ hx)) (by rw [pts_cons, List.length_append] at hi; omega)
      rw [List.length_append] at this
      rw [show (pre.length : Int) + ((pt n).length : Int) = ((pre.length + (pt n).length : Nat) : Int) from by omega, this]
theorem getRowS_back (l tail : List Int) (h : ∀ x ∈ l, In x) (hl : l.length ≤ 1000000) (most : Int) (hm : (l.length : Int) ≤ most) : getRowS (rowB l ++ tail) 0 most = (l, ((rowB l).length : Int), 0) := by
  have hn : In (l.length : Int) := by unfold In; omega
  have g := getS_pt hn [] (pts l ++ tail)
  have e : rowB l ++ tail = [] ++ (pt (l.length : Int) ++ (pts l ++ tail)) := by simp [rowB]
  have e0 : ((([] : List Int).length : Nat) : Int) = 0 := rfl
  rw [e0, ← e] at g
  unfold getRowS
  rw [g]
  simp only
  rw [if_pos trivial, if_neg (by omega), Int.toNat_natCast]
  have := many_back l (pt (l.length : Int)) tail [] h
  rw [show rowB l ++ tail = pt (l.length : Int) ++ (pts l ++ tail) from by simp [rowB], show (0 : Int) + ((pt (l.length : Int)).length : Int) = ((pt (l.length : Int)).length : Int) from by omega, this]
  simp only [List.nil_append, rowB, List.length_append]
  congr 2
theorem getRowS_short (l : List Int) (h : ∀ x ∈ l, In x) (hl : l.length ≤ 1000000) (most : Int) (hm : (l.length : Int) ≤ most) (i : Nat) (hi : i < (rowB l).length) : getRowS ((rowB l).take i) 0 most = ([], 0, 81) := by
  have hn : In (l.length : Int) := by unfold In; omega
  have e0 : ((([] : List Int).length : Nat) : Int) = 0 := rfl
  unfold getRowS
  by_cases hc : i < (pt (l.length : Int)).length
  · have g := getS_short hn [] i hc
    rw [e0, List.nil_append] at g
    have e : (rowB l).take i = (pt (l.length : Int)).take i := by unfold rowB; rw [List.take_append_of_le_length (by omega)]
    rw [e, g]
    rfl
  · have e : (rowB l).take i = pt (l.length : Int) ++ (pts l).take (i - (pt (l.length : Int)).length) := by
      unfold rowB
      rw [List.take_append, List.take_of_length_le (by omega)]
    have g := getS_pt hn [] ((pts l).take (i - (pt (l.length : Int)).length))
    rw [e0, List.nil_append, ← e] at g
    rw [g]
    simp only
    rw [if_pos trivial, if_neg (by omega), Int.toNat_natCast, e, show (0 : Int) + ((pt (l.length : Int)).length : Int) = ((pt (l.length : Int)).length : Int) from by omega]
    exact many_short l _ [] _ h (by simp only [rowB, List.length_append] at hi; omega)
end Go.Proofs.YtickbejailcehaaDoor.Wire
namespace Go.Proofs.YtickbejailcehaaDoor.Wire
open Go.RowKit Go.Proofs.YtickbejailcehaaDoorW.PrintWords Go.Proofs.YtickbejailcehaaDoorW.PrintLast Go.Proofs.YtickbejailcehaaDoorW.PrintMore Go.Proofs.YtickbejailcehaaDoor.C
theorem getS_only (l : List Int) (hb : ∀ x ∈ l, By x) (at_ : Int) (h : (getS l at_).2.2 = 0) : 0 ≤ at_ ∧ at_ < (getS l at_).2.1 ∧ (getS l at_).2.1 ≤ (l.length : Int) ∧ In (getS l at_).1 ∧ (l.take ((getS l at_).2.1).toNat).drop at_.toNat = pt (getS l at_).1 := by
  unfold getS at h ⊢
  by_cases h0 : at_ < 0 ∨ (l.length : Int) < at_
  · rw [if_pos h0] at h
    exact absurd h (by decide)
  · rw [if_neg h0] at h ⊢
    by_cases h1 : (dec 0 0 (l.drop at_.toNat)).2.2 = 0
    · rw [if_pos h1] at h
      exact absurd h (by decide)
    · rw [if_neg h1] at h ⊢
      by_cases h2 : (dec 0 0 (l.drop at_.toNat)).2.2 = 1
      · rw [if_pos h2] at h
        exact absurd h (by decide)
      · rw [if_neg h2]
        have hbd : ∀ x ∈ l.drop at_.toNat, By x := fun x hx => hb x (List.mem_of_mem_drop hx)
        have h3 : (dec 0 0 (l.drop at_.toNat)).2.2 = 2 := by
          have := dec_came 0 0 (l.drop at_.toNat)
          omega
        obtain ⟨q1, q2, q3⟩ := dec_lt _ hbd h3
        obtain ⟨m, m1, m2, m3, m4, m5, _⟩ := dec_only 9 0 0 _ (dec 0 0 (l.drop at_.toNat)).1 (dec 0 0 (l.drop at_.toNat)).2.1 rfl hbd (by rw [← h3])
        simp only [Nat.mul_zero, Nat.pow_zero, Nat.mul_one, Nat.zero_add, Nat.sub_zero] at m2 m5
        rw [List.length_drop] at q2
        refine ⟨by omega, by dsimp only; omega, by dsimp only; omega, dec_in q1, ?_⟩
        dsimp only
        rw [List.drop_take]
        unfold pt
        rw [code_dec, m2, ← m5]
        congr 1
        omega
end Go.Proofs.YtickbejailcehaaDoor.Wire
