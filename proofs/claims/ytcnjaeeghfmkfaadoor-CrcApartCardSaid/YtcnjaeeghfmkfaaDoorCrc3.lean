/- The laws of the layer crc about bytes that are turned, and about what differs, in plain Lean. -/
import Derived.Test.YtcnjaeeghfmkfaaDoorCrc2
import Derived.Test.YtcnjaeeghfmkfaaDoorCxf7
import Derived.Test.YtcnjaeeghfmkfaaDoorCxf8
namespace Go.Proofs.YtcnjaeeghfmkfaaDoor.Crc
open Go.RowKit Go.Proofs.YtcnjaeeghfmkfaaDoorW.PrintWords Go.Proofs.YtcnjaeeghfmkfaaDoorW.PrintLast Go.Proofs.YtcnjaeeghfmkfaaDoorW.PrintMore Go.Proofs.YtcnjaeeghfmkfaaDoor.C
theorem xor_by {a b : Int} (ha : By a) (hb : By b) : By (Go.bits .xor .u8 a b) := by
  unfold By at ha hb
  rw [u8_xor a b ha.1 ha.2 hb.1 hb.2]
  have : a.toNat ^^^ b.toNat < 2 ^ 8 := Nat.xor_lt_two_pow (by omega) (by omega)
  unfold By
  omega
theorem bvB_xor {a b : Int} (ha : By a) (hb : By b) : bvB (Go.bits .xor .u8 a b) = bvB a ^^^ bvB b := by
  apply BitVec.eq_of_toNat_eq
  rw [bvB_nat (xor_by ha hb), BitVec.toNat_xor, bvB_nat ha, bvB_nat hb]
  unfold By at ha hb
  rw [u8_xor a b ha.1 ha.2 hb.1 hb.2, Int.toNat_natCast]
theorem bvB_zero {a : Int} (ha : By a) (h : bvB a = 0#8) : a = 0 := bvB_inj ha (by unfold By; decide) h
/-- A row with two bytes turned, side by side. -/
def turn (l : List Int) (i : Nat) (x y : Int) : List Int := (l.set i (Go.bits .xor .u8 (l.getD i 0) x)).set (i + 1) (Go.bits .xor .u8 (l.getD (i + 1) 0) y)
theorem turn_len (l : List Int) (i : Nat) (x y : Int) : (turn l i x y).length = l.length := by unfold turn; simp
theorem getD_by {l : List Int} (hb : ∀ x ∈ l, By x) (i : Nat) (h : i < l.length) : By (l.getD i 0) := by
  rw [List.getD_eq_getElem?_getD, List.getElem?_eq_getElem h]
  exact hb _ (List.getElem_mem _)
theorem turn_by {l : List Int} (hb : ∀ x ∈ l, By x) (i : Nat) (hi : i + 1 < l.length) {x y : Int} (hx : By x) (hy : By y) : ∀ z ∈ turn l i x y, By z := by
  intro z hz
  unfold turn at hz
  rcases List.mem_or_eq_of_mem_set hz with h | rfl
  · rcases List.mem_or_eq_of_mem_set h with h | rfl
    · exact hb z h
    · exact xor_by (getD_by hb i (by omega)) hx
  · exact xor_by (getD_by hb _ hi) hy
theorem turn_map {l : List Int} (hb : ∀ x ∈ l, By x) (i m : Nat) (hl : l.length = i + 2 + m) {x y : Int} (hx : By x) (hy : By y) :
    (turn l i x y).map bvB = List.zipWith (· ^^^ ·) (l.map bvB) (List.replicate i 0#8 ++ (bvB x :: bvB y :: List.replicate m 0#8)) := by
  apply List.ext_getElem
  · rw [List.length_map, turn_len, List.length_zipWith]
    simp [hl]; omega
  · intro j h1 h2
    have hj : j < l.length := by simpa [turn_len] using h1
    rw [List.getElem_zipWith, List.getElem_map, List.getElem_map]
    by_cases e1 : j = i + 1
    · subst e1
      have t1 : (turn l i x y)[i + 1]'(by rw [turn_len]; exact hj) = Go.bits .xor .u8 (l.getD (i + 1) 0) y := by
        unfold turn; rw [List.getElem_set_self]
      have t2 : (List.replicate i 0#8 ++ (bvB x :: bvB y :: List.replicate m 0#8))[i + 1]'(by simp only [List.length_append, List.length_replicate, List.length_cons]; omega) = bvB y := by
        rw [List.getElem_append_right (by simp)]
        simp
      rw [t1, t2, bvB_xor (getD_by hb _ hj) hy]
      congr 1
      rw [List.getD_eq_getElem?_getD, List.getElem?_eq_getElem hj, Option.getD_some]
    · by_cases e2 : j = i
      · subst e2
        have t1 : (turn l j x y)[j]'(by rw [turn_len]; exact hj) = Go.bits .xor .u8 (l.getD j 0) x := by
          unfold turn
          rw [List.getElem_set_ne (by omega), List.getElem_set_self]
        have t2 : (List.replicate j 0#8 ++ (bvB x :: bvB y :: List.replicate m 0#8))[j]'(by simp only [List.length_append, List.length_replicate, List.length_cons]; omega) = bvB x := by
          rw [List.getElem_append_right (by simp)]
          simp
        rw [t1, t2, bvB_xor (getD_by hb _ hj) hx]
        congr 1
        rw [List.getD_eq_getElem?_getD, List.getElem?_eq_getElem hj, Option.getD_some]
      · have t1 : (turn l i x y)[j]'(by rw [turn_len]; exact hj) = l[j] := by
          unfold turn
          rw [List.getElem_set_ne (by omega), List.getElem_set_ne (by omega)]
        have t2 : (List.replicate i 0#8 ++ (bvB x :: bvB y :: List.replicate m 0#8))[j]'(by simp only [List.length_append, List.length_replicate, List.length_cons]; omega) = 0#8 := by
          by_cases e3 : j < i
          · rw [List.getElem_append_left (by simpa using e3)]
            simp
          · rw [List.getElem_append_right (by simp; omega)]
            obtain ⟨d, rfl⟩ : ∃ d, j = i + 2 + d := ⟨j - i - 2, by omega⟩
            simp only [List.length_replicate, show i + 2 + d - i = d + 2 from by omega, List.getElem_cons_succ, List.getElem_replicate]
        rw [t1, t2, BitVec.xor_zero]
theorem wrap_len {n m : Nat} (h : ¬ (n : Int) > 300) (hs : m = n + 2) : wrap64 ((n : Int) + 2) = (m : Int) := by
  subst hs
  unfold wrap64; omega
theorem turned_eq (l : List Int) (a : Int) (x y : Int) (hb : ∀ x ∈ l, By x) (hx : By x) (hy : By y) (k : Nat) (hk : 4000 ≤ k) : newellaw09_CrcTurned.f (k + 1) l a x y = some true := by
  have ha := awake_eq k (by omega)
  have t : newellaw09_CrcTurned.j0 (k + 1) l a true x y = some true := by
    simp only [newellaw09_CrcTurned.j0]
    rw [if_pos trivial, ha]
    rfl
  have main : ¬ (l.length : Int) > 300 → ¬ a < 0 → ¬ a > (l.length : Int) → ¬ (x = 0 ∧ y = 0) → newellaw09_CrcTurned.j0 (k + 1) l a false x y = some true := by
    intro h1 h2 h3 h4
    obtain ⟨i, rfl⟩ := Int.eq_ofNat_of_zero_le (show 0 ≤ a by omega)
    have hs := sealB_len l
    have hsb := sealB_by hb
    simp only [newellaw09_CrcTurned.j0]
    rw [if_neg (by decide), seal_eq l hb (by omega) _ (by omega), Option.bind_some]
    have e1 : wrap64 ((l.length : Int) + 2) = (((sealB l).length : Nat) : Int) := wrap_len h1 hs
    have e2 : wrap64 ((i : Int) + 1) = ((i + 1 : Nat) : Int) := by unfold wrap64; omega
    have hii : i + 1 < (sealB l).length := by rw [hs]; omega
    rw [e1, if_pos rfl, if_pos (by omega), if_pos (by rw [hs]; omega), Option.bind_some, e2, if_pos (by omega), if_pos (by rw [hs]; omega), Int.toNat_natCast, Int.toNat_natCast]
    have r1 : rd (sealB l) (i : Int) = (sealB l).getD i 0 := by unfold rd; rw [Int.toNat_natCast]
    have r2 : rd ((sealB l).set i (Go.bits .xor .u8 (rd (sealB l) (i : Int)) x)) ((i + 1 : Nat) : Int) = (sealB l).getD (i + 1) 0 := by
      unfold rd
      rw [Int.toNat_natCast, Int.toNat_natCast, List.getD_eq_getElem?_getD, List.getElem?_set_ne (by omega)]
      exact (List.getD_eq_getElem?_getD ..).symm
    rw [r2, r1]
    have ht : ((sealB l).set i (Go.bits .xor .u8 ((sealB l).getD i 0) x)).set (i + 1) (Go.bits .xor .u8 ((sealB l).getD (i + 1) 0) y) = turn (sealB l) i x y := rfl
    rw [ht]
    have hne : sumB F (turn (sealB l) i x y) ≠ 0#16 := by
      unfold sumB
      rw [turn_map hsb i (l.length - i) (by rw [hs]; omega) hx hy]
      exact turned F ((sealB l).map bvB) i (l.length - i) (bvB x) (bvB y) (by rw [List.length_map, hs]; omega) (seal_zero l) (fun e => h4 ⟨bvB_zero hx e.1, bvB_zero hy e.2⟩)
    rw [open_eq _ (turn_by hsb i hii hx hy) (by rw [turn_len]; omega) _ (by rw [turn_len]; omega), open_is _ (turn_by hsb i hii hx hy) (by rw [turn_len]; omega), if_neg hne, ha, Option.bind_some, Option.bind_some, if_pos rfl]
    exact congrArg some (by decide : ((91 : Int) == 91) = true)
  unfold newellaw09_CrcTurned.f
  by_cases h1 : (l.length : Int) > 300
  · rw [if_pos h1]; exact t
  · rw [if_neg h1]
    by_cases h2 : a < 0
    · rw [if_pos h2]; exact t
    · rw [if_neg h2]
      by_cases h3 : a > (l.length : Int)
      · rw [if_pos h3]; exact t
      · rw [if_neg h3]
        by_cases h4 : x = 0
        · rw [if_pos h4]
          by_cases h5 : y = 0
          · rw [show (y == 0) = true from by simp [h5]]; exact t
          · rw [show (y == 0) = false from by simp [h5]]; exact main h1 h2 h3 (fun e => h5 e.2)
        · rw [if_neg h4]; exact main h1 h2 h3 (fun e => h4 e.1)
/-! ### What differs -/
def zipX (a b : List Int) : List Int := List.zipWith (fun x y => Go.bits .xor .u8 x y) a b
theorem zipX_map (a : List Int) : ∀ b : List Int, (∀ x ∈ a, By x) → (∀ x ∈ b, By x) → (zipX a b).map bvB = List.zipWith (· ^^^ ·) (a.map bvB) (b.map bvB) := by
  induction a with
  | nil => intro b _ _; simp [zipX]
  | cons x a ih => intro b ha hb; cases b with
    | nil => simp [zipX]
    | cons y b =>
      have := ih b (fun z hz => ha z (List.mem_cons_of_mem _ hz)) (fun z hz => hb z (List.mem_cons_of_mem _ hz))
      unfold zipX at this ⊢
      simp only [List.zipWith_cons_cons, List.map_cons]
      rw [this, bvB_xor (ha x (List.mem_cons_self ..)) (hb y (List.mem_cons_self ..))]
theorem zipX_by (a : List Int) : ∀ b : List Int, (∀ x ∈ a, By x) → (∀ x ∈ b, By x) → ∀ x ∈ zipX a b, By x := by
  induction a with
  | nil => intro b _ _ x hx; simp [zipX] at hx
  | cons x a ih => intro b ha hb; cases b with
    | nil => intro x hx; simp [zipX] at hx
    | cons y b =>
      intro z hz
      unfold zipX at hz
      rw [List.zipWith_cons_cons] at hz
      rcases List.mem_cons.1 hz with rfl | h
      · exact xor_by (ha x (List.mem_cons_self ..)) (hb y (List.mem_cons_self ..))
      · exact ih b (fun z hz => ha z (List.mem_cons_of_mem _ hz)) (fun z hz => hb z (List.mem_cons_of_mem _ hz)) z h
theorem zipX_len (a b : List Int) (h : a.length = b.length) : (zipX a b).length = a.length := by unfold zipX; rw [List.length_zipWith]; omega
theorem zipX_sum (a b : List Int) (s t : W) (h : a.length = b.length) (ha : ∀ x ∈ a, By x) (hb : ∀ x ∈ b, By x) : sumB (s ^^^ t) (zipX a b) = sumB s a ^^^ sumB t b := by
  unfold sumB
  rw [zipX_map a b ha hb]
  exact sumS_xor _ _ s t (by simp [h])
theorem zipX_zeros (a : List Int) (ha : ∀ x ∈ a, By x) : zipX a (List.replicate a.length 0) = a := by
  induction a with
  | nil => rfl
  | cons x a ih =>
    have hx := ha x (List.mem_cons_self ..)
    have := ih (fun z hz => ha z (List.mem_cons_of_mem _ hz))
    unfold zipX at this ⊢
    rw [List.length_cons, List.replicate_succ, List.zipWith_cons_cons, this]
    congr 1
    have h2 := bvB_xor hx (show By 0 by unfold By; decide)
    rw [show bvB 0 = 0#8 from rfl, BitVec.xor_zero] at h2
    exact bvB_inj (xor_by hx (by unfold By; decide)) hx h2
theorem i64_xor_w (s t : W) : Go.bits .xor .i64 ((s.toNat : Nat) : Int) ((t.toNat : Nat) : Int) = (((s ^^^ t).toNat : Nat) : Int) := by
  rw [i64_xor_nat _ _ (tn_lt s) (tn_lt t), BitVec.toNat_xor]
theorem wf_0 : (Lit.int .i64 0).wf = true := by decide
theorem apart_end (a b : List Int) (hl : a.length = b.length) (hm : a.length ≤ 300) (ha : ∀ x ∈ a, By x) (hb : ∀ x ∈ b, By x) (k : Nat) (hk : 4000 ≤ k) :
    newellaw09_CrcApart.l0 (k + 1) a b (zipX a b) (a.length : Int) = some true := by
  have hz := zipX_len a b hl
  have hzb := zipX_by a b ha hb
  have h0 := zipX_sum a b 0#16 0#16 hl ha hb
  have h1 := zipX_sum a b F F hl ha hb
  have h2 := zipX_sum (zipX a b) (List.replicate (zipX a b).length 0) F F (by simp) hzb (fun x hx => by rw [List.eq_of_mem_replicate hx]; unfold By; decide)
  rw [zipX_zeros _ hzb, hz] at h2
  have hr : ∀ x ∈ List.replicate a.length (0 : Int), By x := fun x hx => by rw [List.eq_of_mem_replicate hx]; unfold By; decide
  simp only [newellaw09_CrcApart.l0]
  rw [if_neg (by omega), awake_eq _ (by omega)]
  simp only [Option.bind_some]
  rw [if_pos trivial, more_eq 0 wf_0 _ hzb (by omega) _ (by omega), more_eq 0 wf_0 a ha (by omega) _ (by omega), more_eq 0 wf_0 b hb (by omega) _ (by omega)]
  simp only [Option.bind_some]
  rw [i64_xor_w, show BitVec.ofInt 16 0 = 0#16 from rfl, ← h0, BitVec.xor_self, if_pos rfl]
  rw [sum_eq _ hzb (by omega) _ (by omega)]
  simp only [Option.bind_some]
  rw [if_pos (by omega), if_pos (by omega), Int.toNat_natCast]
  rw [sum_eq _ hr (by simp; omega) _ (by simp; omega), sum_eq a ha (by omega) _ (by omega), sum_eq b hb (by omega) _ (by omega)]
  simp only [Option.bind_some]
  rw [i64_xor_w, i64_xor_w, ← h1, ← h2]
  obtain ⟨k, rfl⟩ : ∃ m, k = m + 1 := ⟨k - 1, by omega⟩
  simp only [newellaw09_CrcApart.j2]
  simp
theorem apart_loop (a b : List Int) (hl : a.length = b.length) (hm : a.length ≤ 300) (ha : ∀ x ∈ a, By x) (hb : ∀ x ∈ b, By x) (j : Nat) : ∀ (f i : Nat), i + j = a.length → 4001 + j ≤ f →
    newellaw09_CrcApart.l0 f a b (zipX (a.take i) (b.take i)) (i : Int) = some true := by
  induction j with
  | zero =>
    intro f i hi hf
    obtain ⟨f, rfl⟩ : ∃ m, f = m + 1 := ⟨f - 1, by omega⟩
    obtain rfl : i = a.length := by omega
    rw [List.take_of_length_le (Nat.le_refl _), List.take_of_length_le (by omega)]
    exact apart_end a b hl hm ha hb f (by omega)
  | succ j ih =>
    intro f i hi hf
    obtain ⟨f, rfl⟩ : ∃ m, f = m + 1 := ⟨f - 1, by omega⟩
    have hia : i < a.length := by omega
    have hib : i < b.length := by omega
    have ei : wrap64 ((i : Int) + 1) = ((i + 1 : Nat) : Int) := by unfold wrap64; omega
    have hz : (zipX (a.take i) (b.take i)).length = i := by rw [zipX_len _ _ (by simp; omega), List.length_take]; omega
    simp only [newellaw09_CrcApart.l0]
    rw [if_pos (by omega), if_pos (by omega), if_pos (by omega), if_pos (by omega), rd_at a i hia, rd_at b i hib, ei]
    have e : zipX (a.take i) (b.take i) ++ [Go.bits .xor .u8 a[i] b[i]] = zipX (a.take (i + 1)) (b.take (i + 1)) := by
      unfold zipX
      rw [List.take_succ_eq_append_getElem hia, List.take_succ_eq_append_getElem hib, List.zipWith_append (by simp; omega)]
      rfl
    rw [e]
    exact ih f (i + 1) (by omega) (by omega)
theorem apart_eq (a b : List Int) (ha : ∀ x ∈ a, By x) (hb : ∀ x ∈ b, By x) (k : Nat) (hk : 5000 ≤ k) : newellaw09_CrcApart.f (k + 1) a b = some true := by
  have haw := awake_eq k (by omega)
  have t : newellaw09_CrcApart.j0 (k + 1) a b true = some true := by
    simp only [newellaw09_CrcApart.j0]
    rw [if_pos trivial, haw]
    rfl
  unfold newellaw09_CrcApart.f
  by_cases h1 : (a.length : Int) > 300
  · rw [if_pos h1]; exact t
  · rw [if_neg h1]
    by_cases h2 : (a.length : Int) = (b.length : Int)
    · rw [show ((a.length : Int) != (b.length : Int)) = false from by simp [h2]]
      simp only [newellaw09_CrcApart.j0]
      rw [if_neg (by decide)]
      have := apart_loop a b (by omega) (by omega) ha hb a.length k 0 (by omega) (by omega)
      simpa [zipX] using this
    · rw [show ((a.length : Int) != (b.length : Int)) = true from by simp [h2]]; exact t
end Go.Proofs.YtcnjaeeghfmkfaaDoor.Crc
