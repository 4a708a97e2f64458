/- Numbers as bytes: what the printed functions of the layer wire come to: plain Lean, no memory. -/
import Derived.Test.YtjfikeahafflfaaPut
import Derived.Test.YtjfikeahafflfaaCxf33
import Derived.Test.YtjfikeahafflfaaCxf14
import Derived.Test.YtjfikeahafflfaaCxf18
import Derived.Test.YtjfikeahafflfaaCxf20
import Derived.Test.YtjfikeahafflfaaCxf15
import Derived.OpenShut
namespace Go.Proofs.Ytjfikeahafflfaa.Wire
open Go.RowKit Go.Proofs.YtjfikeahafflfaaW.PrintWords Go.Proofs.YtjfikeahafflfaaW.PrintLast Go.Proofs.YtjfikeahafflfaaW.PrintMore Go.Proofs.Ytjfikeahafflfaa.C

def In (n : Int) : Prop := -9223372036854775808 ≤ n ∧ n ≤ 9223372036854775807
theorem wf_in {n : Int} (h : (Lit.int .i64 n).wf = true) : In n := bounds_i64 h
def By (n : Int) : Prop := 0 ≤ n ∧ n < 256
theorem wf_by {n : Int} (h : (Lit.int .u8 n).wf = true) : By n := by
  have := bounds_u8 h
  unfold By; omega
def codeN (n : Int) : Nat := if n < 0 then (2 * (-1 - n) + 1).toNat else (2 * n).toNat
def decN (c : Nat) : Int := if c % 2 = 1 then -1 - ((c / 2 : Nat) : Int) else ((c / 2 : Nat) : Int)
theorem codeN_lt {n : Int} (h : In n) : codeN n < 18446744073709551616 := by
  unfold In at h; unfold codeN; split <;> omega
theorem dec_code (n : Int) : decN (codeN n) = n := by
  unfold decN codeN
  split <;> split <;> omega
theorem code_dec (c : Nat) : codeN (decN c) = c := by
  unfold decN codeN
  split <;> split <;> omega
theorem dec_in {c : Nat} (h : c < 18446744073709551616) : In (decN c) := by
  unfold decN In; split <;> omega
theorem xor_neg1 (n : Int) (h : In n) : Go.bits .xor .i64 (-1) n = -1 - n := by
  unfold In at h
  show IntKind.i64.wrap ((BitVec.ofInt 64 (-1) ^^^ BitVec.ofInt 64 n).toNat : Int) = _
  have e1 : BitVec.ofInt 64 (-1) = BitVec.allOnes 64 := by decide
  have e2 : (BitVec.allOnes 64 ^^^ BitVec.ofInt 64 n) = ~~~ (BitVec.ofInt 64 n) := by
    ext i hi
    rw [BitVec.getElem_xor, BitVec.getElem_not, BitVec.getElem_allOnes]
    simp
  rw [e1, e2, BitVec.toNat_not, BitVec.toNat_ofInt, IntKind.wrap_i64]
  omega
theorem or_add (a b i : Nat) (h : b < 2 ^ i) : a * 2 ^ i ||| b = a * 2 ^ i + b := by
  have := Nat.shiftLeft_add_eq_or_of_lt h a
  rw [Nat.shiftLeft_eq] at this
  exact this.symm
theorem code_eq (n : Int) (h : In n) : wire_code.f n = some (codeN n : Int) := by
  unfold wire_code.f codeN
  have h' := h
  unfold In at h
  by_cases h0 : n < 0
  · rw [if_pos h0, if_pos h0, xor_neg1 n h']
    have e : IntKind.u64.wrap (IntKind.u64.wrap (-1 - n) * 2) = (((-1 - n).toNat * 2 : Nat) : Int) := by
      rw [IntKind.wrap_u64, IntKind.wrap_u64]; omega
    have q : Go.bits .or .u64 (((-1 - n).toNat * 2 : Nat) : Int) 1 = (((-1 - n).toNat * 2 ||| 1 : Nat) : Int) := u64_or_nat _ 1 (by omega) (by omega)
    have := or_add (-1 - n).toNat 1 1 (by decide)
    rw [Nat.pow_one] at this
    rw [e, q, this]
    congr 1
    omega
  · rw [if_neg h0, if_neg h0, IntKind.wrap_u64, IntKind.wrap_u64]
    congr 1
    omega
theorem put_eq (n : Int) (h : In n) : wire_Put.f n = some (leb 9 (codeN n)) := by
  unfold wire_Put.f
  rewrite [code_eq n h]
  simp only [Option.bind_some]
  rw [Int.toNat_natCast]

/-! ### Reading -/
def dec : Nat → Nat → List Int → Nat × Nat × Nat
  | _, _, [] => (0, 0, 0)
  | k, c, x :: l => if k = 9 ∧ 1 < x then (0, 0, 1) else if x < 128 then (if 0 < k ∧ x = 0 then (0, 0, 1) else (c + (x % 128).toNat * 2 ^ (7 * k), k + 1, 2)) else dec (k + 1) (c + (x % 128).toNat * 2 ^ (7 * k)) l
theorem pow_le_63 (k : Nat) (h : k ≤ 8) : (2 : Nat) ^ (7 * k) * 128 ≤ 9223372036854775808 := by
  have e : (2 : Nat) ^ (7 * k) * 128 = 2 ^ (7 * k + 7) := by rw [Nat.pow_add]
  rw [e]
  exact Nat.pow_le_pow_right (by decide) (show 7 * k + 7 ≤ 63 by omega)
theorem pow63 : (2 : Nat) ^ (7 * 9) = 9223372036854775808 := by decide
theorem or_step (c k : Nat) (x : Int) (hx : By x) (hk : k ≤ 9) (h9 : k = 9 → x ≤ 1) (hc : c < 2 ^ (7 * k)) :
    Go.bits .or .u64 (c : Int) (shl .u64 (IntKind.u64.wrap (Int.tmod x 128)) (wrap64 (7 * (k : Int)))) = ((c + (x % 128).toNat * 2 ^ (7 * k) : Nat) : Int) ∧ c + (x % 128).toNat * 2 ^ (7 * k) < 18446744073709551616 := by
  unfold By at hx
  have e0 : Int.tmod x 128 = x % 128 := by rw [Int.tmod_eq_emod_of_nonneg hx.1]
  have e1 : wrap64 (7 * (k : Int)) = ((7 * k : Nat) : Int) := by unfold wrap64; omega
  have hp : (x % 128).toNat * 2 ^ (7 * k) + 2 ^ (7 * k) ≤ 18446744073709551616 := by
    rcases Nat.lt_or_ge k 9 with h | h
    · have := pow_le_63 k (by omega)
      have h2 : (x % 128).toNat + 1 ≤ 128 := by omega
      have h3 : ((x % 128).toNat + 1) * 2 ^ (7 * k) ≤ 128 * 2 ^ (7 * k) := Nat.mul_le_mul_right _ h2
      rw [Nat.add_mul, Nat.one_mul] at h3
      omega
    · obtain rfl : k = 9 := by omega
      have := h9 rfl
      have h2 : (x % 128).toNat ≤ 1 := by omega
      have h3 : (x % 128).toNat * 2 ^ (7 * 9) ≤ 1 * 2 ^ (7 * 9) := Nat.mul_le_mul_right _ h2
      have h4 : (2 : Nat) ^ (7 * 9) = 9223372036854775808 := pow63
      generalize (2 : Nat) ^ (7 * 9) = p at *
      generalize (x % 128).toNat * p = q at *
      omega
  have hs : (shl .u64 (IntKind.u64.wrap (Int.tmod x 128)) (wrap64 (7 * (k : Int)))) = (((x % 128).toNat * 2 ^ (7 * k) : Nat) : Int) := by
    unfold shl
    have e2 : min (((7 * k : Nat) : Int)).toNat IntKind.u64.bits = 7 * k := by
      rw [Int.toNat_natCast]
      show min (7 * k) 64 = 7 * k
      omega
    rw [e1, e2, e0, IntKind.wrap_u64, IntKind.wrap_u64]
    have e3 : x % 128 % 18446744073709551616 = ((x % 128).toNat : Int) := by omega
    rw [e3]
    have e4 : (((x % 128).toNat : Int) * 2 ^ (7 * k)) = (((x % 128).toNat * 2 ^ (7 * k) : Nat) : Int) := by push_cast; rfl
    rw [e4]
    omega
  have hpos : 0 < (2 : Nat) ^ (7 * k) := Nat.pow_pos (by decide)
  rw [hs, u64_or_nat _ _ (by omega) (by omega)]
  refine ⟨?_, by omega⟩
  rw [Nat.or_comm, or_add _ _ _ hc, Nat.add_comm]
theorem step_lt (c k : Nat) (x : Int) (hc : c < 2 ^ (7 * k)) : c + (x % 128).toNat * 2 ^ (7 * k) < 2 ^ (7 * (k + 1)) := by
  have h2 : (x % 128).toNat + 1 ≤ 128 := by omega
  have h3 : ((x % 128).toNat + 1) * 2 ^ (7 * k) ≤ 128 * 2 ^ (7 * k) := Nat.mul_le_mul_right _ h2
  rw [Nat.add_mul, Nat.one_mul] at h3
  rw [show 7 * (k + 1) = 7 * k + 7 from by omega, Nat.pow_add]
  omega
theorem rd_at (l : List Int) (i : Nat) (h : i < l.length) : rd l (i : Int) = l[i] := by
  unfold rd
  rw [Int.toNat_natCast, List.getD_eq_getElem?_getD, List.getElem?_eq_getElem h]
  rfl
/-- The round's end, in the print's shape and in this one. -/
theorem read_round (f k c : Nat) (l : List Int) (x : Int) (B : Option (Int × Int × Int)) (hk9 : k ≤ 9) (ho : Go.bits .or .u64 (c : Int) (shl .u64 (IntKind.u64.wrap (Int.tmod x 128)) (wrap64 (7 * (k : Int)))) = ((c + (x % 128).toNat * 2 ^ (7 * k) : Nat) : Int))
    (hB : 128 ≤ x → wire_read.l0 f ((c + (x % 128).toNat * 2 ^ (7 * k) : Nat) : Int) l (l.length : Int) ((k + 1 : Nat) : Int) = B) :
    wire_read.j1 (f + 1) (c : Int) (k : Int) x l (l.length : Int) (k : Int) false = if x < 128 then (if 0 < k ∧ x = 0 then some (0, 0, 1) else some (((c + (x % 128).toNat * 2 ^ (7 * k) : Nat) : Int), ((k + 1 : Nat) : Int), 2)) else B := by
  have e6 : wrap64 (7 * (k : Int)) = ((7 * k : Nat) : Int) := by clear ho hB; unfold wrap64; omega
  have e7 : (0 : Int) ≤ wrap64 (7 * (k : Int)) := by rw [e6]; omega
  have e8 : wrap64 ((k : Int) + 1) = ((k + 1 : Nat) : Int) := by clear ho hB; unfold wrap64; omega
  simp only [wire_read.j1]
  rw [if_neg (by decide), if_pos e7, ho, e8]
  by_cases h1 : x < 128
  · rw [if_pos h1, if_pos h1]
    by_cases h2 : (k : Int) > 0
    · rw [if_pos h2]
      by_cases h3 : x = 0
      · rw [if_pos h3, if_pos (show 0 < k ∧ x = 0 from ⟨by omega, h3⟩)]
      · rw [if_neg h3, if_neg (show ¬ (0 < k ∧ x = 0) from fun h => h3 h.2)]
    · rw [if_neg h2, if_neg (show ¬ (0 < k ∧ x = 0) from fun h => h2 (by omega))]
  · rw [if_neg h1, if_neg h1]
    exact hB (by omega)
def tri (p : Nat × Nat × Nat) : Option (Int × Int × Int) := some ((p.1 : Int), (p.2.1 : Int), (p.2.2 : Int))
theorem tri_ite (P : Prop) [Decidable P] (a b : Nat × Nat × Nat) : tri (if P then a else b) = if P then tri a else tri b := by split <;> rfl
/-- The loop that reads a number, from its k-th byte on. -/
theorem read_loop (l : List Int) (hb : ∀ x ∈ l, By x) (j : Nat) : ∀ (f k c : Nat), k + j = l.length → (10 - k) * 2 + 2 < f → k ≤ 9 → c < 2 ^ (7 * k) →
    wire_read.l0 f (c : Int) l (l.length : Int) (k : Int) = tri (dec k c (l.drop k)) := by
  induction j with
  | zero =>
    intro f k c hk hf h9 hc
    obtain ⟨f, rfl⟩ : ∃ m, f = m + 1 := ⟨f - 1, by omega⟩
    rw [List.drop_of_length_le (by omega)]
    simp only [wire_read.l0, dec]
    rw [if_neg (by omega)]
    rfl
  | succ j ih =>
    intro f k c hk hf h9 hc
    obtain ⟨f, rfl⟩ : ∃ m, f = m + 2 := ⟨f - 2, by omega⟩
    have hlt : k < l.length := by omega
    have hx := hb _ (List.getElem_mem hlt)
    rw [List.drop_eq_getElem_cons hlt]
    have hrd := rd_at l k hlt
    generalize l[k] = x at *
    simp only [wire_read.l0, dec]
    rw [if_pos (show (k : Int) < (l.length : Int) by omega), if_pos (show (0 : Int) ≤ (k : Int) by omega), if_pos (show (k : Int) < (l.length : Int) by omega), hrd]
    by_cases h91 : k = 9 ∧ 1 < x
    · rw [if_pos (show (k : Int) = 9 by omega), if_pos h91, decide_eq_true (show x > 1 from h91.2)]
      simp only [wire_read.j1]
      rfl
    · rw [if_neg h91]
      obtain ⟨o1, _⟩ := or_step c k x hx h9 (by omega) hc
      have main := read_round f k c l x _ h9 o1 (fun hge => ih f (k + 1) _ (by omega) (by omega) (by omega) (step_lt c k x hc))
      have hd : ∀ b : Bool, b = false → wire_read.j1 (f + 1) (c : Int) (k : Int) x l (l.length : Int) (k : Int) b = tri (if x < 128 then (if 0 < k ∧ x = 0 then ((0, 0, 1) : Nat × Nat × Nat) else (c + (x % 128).toNat * 2 ^ (7 * k), k + 1, 2)) else dec (k + 1) (c + (x % 128).toNat * 2 ^ (7 * k)) (l.drop (k + 1))) := by
        intro b hb
        rw [hb, main, tri_ite, tri_ite]
        rfl
      by_cases hk99 : k = 9
      · rw [if_pos (show (k : Int) = 9 by omega)]
        exact hd _ (decide_eq_false (by omega))
      · rw [if_neg (show ¬ (k : Int) = 9 by omega)]
        exact hd _ rfl
theorem read_eq (l : List Int) (hb : ∀ x ∈ l, By x) (f : Nat) (hf : 22 < f) : wire_read.f f l = tri (dec 0 0 l) := by
  unfold wire_read.f
  have := read_loop l hb l.length f 0 0 (by omega) (by omega) (by omega) (by decide)
  simpa using this
end Go.Proofs.Ytjfikeahafflfaa.Wire
