/- What the printed functions of the layer crc come to: the sum of bytes as a word of sixteen bits; plain Lean, no memory. -/
import Derived.Test.YtcnjaeeghfmkfaaDoorCrc0
import Derived.Test.YtcnjaeeghfmkfaaDoorSeal
import Derived.Test.YtcnjaeeghfmkfaaDoorCxf11
import Derived.Test.YtcnjaeeghfmkfaaDoorCxf13
import Derived.Test.YtcnjaeeghfmkfaaDoorCxf14
import Derived.Test.YtcnjaeeghfmkfaaDoorCxf15
import Derived.Test.YtcnjaeeghfmkfaaDoorCxf17
namespace Go.Proofs.YtcnjaeeghfmkfaaDoor.Crc
open Go.RowKit Go.Proofs.YtcnjaeeghfmkfaaDoorW.PrintWords Go.Proofs.YtcnjaeeghfmkfaaDoorW.PrintLast Go.Proofs.YtcnjaeeghfmkfaaDoorW.PrintMore Go.Proofs.YtcnjaeeghfmkfaaDoor.C
def By (n : Int) : Prop := 0 ≤ n ∧ n < 256
theorem wf_by {n : Int} (h : (Lit.int .u8 n).wf = true) : By n := by
  have := bounds_u8 h
  unfold By; omega
theorem rd_at (l : List Int) (i : Nat) (h : i < l.length) : rd l (i : Int) = l[i] := by
  unfold rd
  rw [Int.toNat_natCast, List.getD_eq_getElem?_getD, List.getElem?_eq_getElem h]
  rfl
def bvB (x : Int) : BitVec 8 := BitVec.ofNat 8 x.toNat
theorem bvB_nat {x : Int} (h : By x) : (bvB x).toNat = x.toNat := by
  unfold By at h
  unfold bvB
  rw [BitVec.toNat_ofNat]; omega
theorem bvB_inj {x y : Int} (hx : By x) (hy : By y) (h : bvB x = bvB y) : x = y := by
  have := congrArg BitVec.toNat h
  rw [bvB_nat hx, bvB_nat hy] at this
  unfold By at hx hy
  omega
def sumB (s : W) (l : List Int) : W := sumS s (l.map bvB)
theorem sumB_append (s : W) (a b : List Int) : sumB s (a ++ b) = sumB (sumB s a) b := by unfold sumB; rw [List.map_append, sumS_append]
theorem sumB_cons (s : W) (x : Int) (l : List Int) : sumB s (x :: l) = sumB (byteS s (bvB x)) l := rfl
theorem tn_lt (s : W) : s.toNat < 65536 := s.isLt
/-! ### The table's way -/
theorem next_nat (s : W) (x : BitVec 4) : nextN s.toNat x.toNat = (nextS s x).toNat := by
  unfold nextN nextS tabS at_
  have h1 : (((s >>> 12).setWidth 4 : BitVec 4) ^^^ x).toNat = (s.toNat / 4096) ^^^ x.toNat := by
    rw [BitVec.toNat_xor, BitVec.toNat_setWidth, BitVec.toNat_ushiftRight, Nat.shiftRight_eq_div_pow]
    have := tn_lt s
    congr 1
    omega
  rw [BitVec.toNat_xor, BitVec.toNat_shiftLeft, Nat.shiftLeft_eq, h1, BitVec.toNat_ofNat]
  have h2 : (s.toNat / 4096) ^^^ x.toNat < 16 := Nat.xor_lt_two_pow (n := 4) (by have := tn_lt s; omega) x.isLt
  have h3 := tab_lt _ h2
  congr 1
  exact (Nat.mod_eq_of_lt (by omega)).symm
theorem next_eq (s : W) (x : BitVec 4) : crc_next.f (s.toNat : Int) (x.toNat : Int) = some (((nib s x).toNat : Nat) : Int) := by
  unfold crc_next.f
  have h1 := tn_lt s
  have h2 : x.toNat < 16 := x.isLt
  rw [if_pos ⟨by omega, by omega, by omega, by omega⟩, Int.toNat_natCast, Int.toNat_natCast, next_nat, next_nib]
theorem and15 (x : Nat) (h : x < 256) : x &&& 15 = x % 16 := by rw [show (15 : Nat) = 2 ^ 4 - 1 from rfl, Nat.and_two_pow_sub_one_eq_mod]
theorem hi_nib (x : Int) (h : By x) : x / 16 = (((bvB x).extractLsb' 4 4).toNat : Int) := by
  have hb := bvB_nat h
  unfold By at h
  rw [BitVec.extractLsb'_toNat, hb, Nat.shiftRight_eq_div_pow, show (2 : Nat) ^ 4 = 16 from rfl]
  omega
theorem lo_nib (x : Int) (h : By x) : Go.bits .and .u8 x 15 = (((bvB x).extractLsb' 0 4).toNat : Int) := by
  have hb := bvB_nat h
  unfold By at h
  obtain ⟨n, rfl⟩ := Int.eq_ofNat_of_zero_le h.1
  have e := u8_and_nat n 15 (by omega) (by omega)
  rw [BitVec.extractLsb'_toNat, hb, Int.toNat_natCast, Nat.shiftRight_zero, show (2 : Nat) ^ 4 = 16 from rfl]
  rw [and15 n (by omega)] at e
  exact e
theorem byte_eq (s : W) (x : Int) (h : By x) : (crc_next.f (s.toNat : Int) (x / 16)).bind (fun t => crc_next.f t (Go.bits .and .u8 x 15)) = some (((byteS s (bvB x)).toNat : Nat) : Int) := by
  have e1 := hi_nib x h
  have e2 := lo_nib x h
  unfold byteS
  generalize (bvB x).extractLsb' 4 4 = u at e1 ⊢
  generalize (bvB x).extractLsb' 0 4 = v at e2 ⊢
  rw [e1, e2, next_eq]
  rw [Option.bind_some]
  exact next_eq _ v
theorem more_loop (l : List Int) (hb : ∀ x ∈ l, By x) (hm : l.length ≤ 1000000000) (j : Nat) : ∀ (f i : Nat) (s : W), i + j = l.length → j < f → crc_More.l0 f (s.toNat : Int) l (l.length : Int) (i : Int) = some (((sumB s (l.drop i)).toNat : Nat) : Int) := by
  induction j with
  | zero =>
    intro f i s hi hf
    obtain ⟨f, rfl⟩ : ∃ m, f = m + 1 := ⟨f - 1, by omega⟩
    simp only [crc_More.l0]
    have := tn_lt s
    rw [if_neg (by omega), List.drop_of_length_le (by omega)]
    congr 1
    show wrap64 (s.toNat : Int) = (s.toNat : Int)
    unfold wrap64; omega
  | succ j ih =>
    intro f i s hi hf
    obtain ⟨f, rfl⟩ : ∃ m, f = m + 1 := ⟨f - 1, by omega⟩
    have ha : i < l.length := by omega
    have ei : wrap64 ((i : Int) + 1) = ((i + 1 : Nat) : Int) := by unfold wrap64; omega
    have hx := hb _ (List.getElem_mem ha)
    have he := byte_eq s l[i] hx
    obtain ⟨t, h1, h2⟩ := Option.bind_eq_some_iff.1 he
    simp only [crc_More.l0]
    rw [if_pos (by omega), if_pos (by omega), if_pos (by omega), rd_at l i ha, h1]
    simp only [Option.bind_some]
    rw [h2]
    simp only [Option.bind_some]
    rw [ei, ih f (i + 1) _ (by omega) (by omega), List.drop_eq_getElem_cons ha, sumB_cons]
theorem and_all (a : Int) (h : (Lit.int .i64 a).wf = true) : Go.bits .and .i64 a 65535 = (((BitVec.ofInt 16 a).toNat : Nat) : Int) := by
  have h2 := bounds_i64 h
  show IntKind.i64.wrap ((BitVec.ofInt 64 a &&& BitVec.ofInt 64 65535).toNat : Int) = _
  rw [BitVec.toNat_and, BitVec.toNat_ofInt, BitVec.toNat_ofInt, BitVec.toNat_ofInt]
  have e : (65535 % ((2 ^ 64 : Nat) : Int)).toNat = 2 ^ 16 - 1 := by decide
  rw [e, Nat.and_two_pow_sub_one_eq_mod, IntKind.wrap_i64]
  have e3 : ((2 ^ 64 : Nat) : Int) = 18446744073709551616 := by decide
  have e4 : ((2 ^ 16 : Nat) : Int) = 65536 := by decide
  rw [e3, e4, show (2 : Nat) ^ 16 = 65536 from by decide]
  omega
theorem more_eq (a : Int) (h : (Lit.int .i64 a).wf = true) (l : List Int) (hb : ∀ x ∈ l, By x) (hm : l.length ≤ 1000000000) (k : Nat) (hk : l.length < k) : crc_More.f k a l = some (((sumB (BitVec.ofInt 16 a) l).toNat : Nat) : Int) := by
  unfold crc_More.f
  rw [and_all a h, IntKind.wrap_u16]
  have h1 := tn_lt (BitVec.ofInt 16 a)
  have h2 := more_loop l hb hm l.length k 0 (BitVec.ofInt 16 a) (by omega) hk
  rw [List.drop_zero] at h2
  rw [show ((((BitVec.ofInt 16 a).toNat : Nat) : Int) % 65536) = ((BitVec.ofInt 16 a).toNat : Int) from by omega]
  exact h2
/-! ### Bit by bit -/
theorem i64_xor_nat (a b : Nat) (ha : a < 65536) (hb : b < 65536) : Go.bits .xor .i64 (a : Int) (b : Int) = ((a ^^^ b : Nat) : Int) := by
  have hx : a ^^^ b < 2 ^ 16 := Nat.xor_lt_two_pow (by omega) (by omega)
  show IntKind.i64.wrap ((BitVec.ofInt 64 (a : Int) ^^^ BitVec.ofInt 64 (b : Int)).toNat : Int) = _
  rw [BitVec.toNat_xor, BitVec.ofInt_natCast, BitVec.ofInt_natCast, BitVec.toNat_ofNat, BitVec.toNat_ofNat, Nat.mod_eq_of_lt (by omega), Nat.mod_eq_of_lt (by omega), IntKind.wrap_i64]
  have e : (2 : Nat) ^ 16 = 65536 := by decide
  omega
theorem msb_ge (s : W) : s.msb = decide ((s.toNat : Int) ≥ 32768) := by
  rw [BitVec.msb_eq_decide]
  rw [decide_eq_decide]
  show 2 ^ (16 - 1) ≤ s.toNat ↔ _
  rw [show (2 : Nat) ^ (16 - 1) = 32768 from by decide]
  omega
theorem bit_eq (s : W) (b : Bool) : newelref09_bit.f (s.toNat : Int) b = some (((bstep s b).toNat : Nat) : Int) := by
  unfold newelref09_bit.f bstep
  have h1 := tn_lt s
  have e1 : Int.tmod (wrap64 ((s.toNat : Int) * 2)) 65536 = (((s <<< 1).toNat : Nat) : Int) := by
    rw [BitVec.toNat_shiftLeft, Nat.shiftLeft_eq]
    have : wrap64 ((s.toNat : Int) * 2) = (s.toNat : Int) * 2 := by unfold wrap64; omega
    rw [this, Int.tmod_eq_emod_of_nonneg (by omega)]
    rw [show (2 : Nat) ^ 16 = 65536 from by decide, Nat.pow_one]
    omega
  rw [e1, msb_ge]
  by_cases h : (decide ((s.toNat : Int) ≥ 32768) != b) = true
  · rw [if_pos h, if_pos h, BitVec.toNat_xor, show (4129 : Int) = ((4129 : Nat) : Int) from rfl, i64_xor_nat _ _ (tn_lt _) (by omega)]
    rfl
  · rw [if_neg h, if_neg h, BitVec.xor_zero]
theorem shr_bit (x : Int) (h : By x) (k : Nat) (hk : k ≤ 7) : (Int.tmod (shr .u8 x (IntKind.u64.wrap (k : Int))) 2 == 1) = (bvB x).getLsbD k := by
  have hb := bvB_nat h
  unfold By at h
  have e1 : IntKind.u64.wrap (k : Int) = (k : Int) := by rw [IntKind.wrap_u64]; omega
  have e2 : min (k : Nat) IntKind.u8.bits = k := by show min k 8 = k; omega
  unfold shr
  rw [e1, Int.toNat_natCast, e2]
  obtain ⟨n, rfl⟩ := Int.eq_ofNat_of_zero_le h.1
  rw [show ((n : Int) / 2 ^ k) = ((n / 2 ^ k : Nat) : Int) from by push_cast; rfl, Int.tmod_eq_emod_of_nonneg (Int.natCast_nonneg _)]
  rw [BitVec.getLsbD, hb, Int.toNat_natCast, Nat.testBit_eq_decide_div_mod_eq]
  rw [Bool.eq_iff_iff]
  simp only [beq_iff_eq, decide_eq_true_eq]
  omega
theorem bit_step (l : List Int) (i : Nat) (s : W) (f k : Nat) (ha : i < l.length) (hb : By l[i]) (hk : k ≤ 7) :
    newelref09_More.l1 (f + 1) l (s.toNat : Int) (i : Int) (k : Int) = newelref09_More.l1 f l (((bstep s ((bvB l[i]).getLsbD k)).toNat : Nat) : Int) (i : Int) ((k : Int) - 1) := by
  have hw : (0 : Int) ≤ IntKind.u64.wrap (k : Int) := by rw [IntKind.wrap_u64]; omega
  have he := shr_bit l[i] hb k hk
  have e2 : wrap64 ((k : Int) - 1) = (k : Int) - 1 := by unfold wrap64; omega
  simp only [newelref09_More.l1]
  rw [if_pos (by omega), if_pos (by omega), if_pos (by omega), if_pos hw, rd_at l i ha, he, bit_eq]
  simp only [Option.bind_some]
  rw [e2]
theorem byte_bits (s : W) (x : BitVec 8) : bstep (bstep (bstep (bstep (bstep (bstep (bstep (bstep s (x.getLsbD 7)) (x.getLsbD 6)) (x.getLsbD 5)) (x.getLsbD 4)) (x.getLsbD 3)) (x.getLsbD 2)) (x.getLsbD 1)) (x.getLsbD 0) = byteS s x := by
  unfold byteS nib
  simp
theorem ref_loop (l : List Int) (hb : ∀ x ∈ l, By x) (hm : l.length ≤ 1000000000) (j : Nat) : ∀ (f i : Nat) (s : W), i + j = l.length → 10 * j < f → newelref09_More.l0 f l (s.toNat : Int) (i : Int) = some (((sumB s (l.drop i)).toNat : Nat) : Int) := by
  induction j with
  | zero =>
    intro f i s hi hf
    obtain ⟨f, rfl⟩ : ∃ m, f = m + 1 := ⟨f - 1, by omega⟩
    simp only [newelref09_More.l0]
    rw [if_neg (by omega), List.drop_of_length_le (by omega)]
    rfl
  | succ j ih =>
    intro f i s hi hf
    obtain ⟨f, rfl⟩ : ∃ m, f = m + 10 := ⟨f - 10, by omega⟩
    have ha : i < l.length := by omega
    have hx := hb _ (List.getElem_mem ha)
    have ei : wrap64 ((i : Int) + 1) = ((i + 1 : Nat) : Int) := by unfold wrap64; omega
    simp only [newelref09_More.l0]
    rw [if_pos (by omega)]
    have s7 := bit_step l i s (f + 8) 7 ha hx (by omega)
    have s6 := fun t => bit_step l i t (f + 7) 6 ha hx (by omega)
    have s5 := fun t => bit_step l i t (f + 6) 5 ha hx (by omega)
    have s4 := fun t => bit_step l i t (f + 5) 4 ha hx (by omega)
    have s3 := fun t => bit_step l i t (f + 4) 3 ha hx (by omega)
    have s2 := fun t => bit_step l i t (f + 3) 2 ha hx (by omega)
    have s1 := fun t => bit_step l i t (f + 2) 1 ha hx (by omega)
    have s0 := fun t => bit_step l i t (f + 1) 0 ha hx (by omega)
    have h7 : ((7 : Nat) : Int) - 1 = ((6 : Nat) : Int) := rfl
    have h6 : ((6 : Nat) : Int) - 1 = ((5 : Nat) : Int) := rfl
    have h5 : ((5 : Nat) : Int) - 1 = ((4 : Nat) : Int) := rfl
    have h4 : ((4 : Nat) : Int) - 1 = ((3 : Nat) : Int) := rfl
    have h3 : ((3 : Nat) : Int) - 1 = ((2 : Nat) : Int) := rfl
    have h2 : ((2 : Nat) : Int) - 1 = ((1 : Nat) : Int) := rfl
    have h1 : ((1 : Nat) : Int) - 1 = ((0 : Nat) : Int) := rfl
    rw [show (7 : Int) = ((7 : Nat) : Int) from rfl, s7, h7, s6, h6, s5, h5, s4, h4, s3, h3, s2, h2, s1, h1, s0]
    simp only [newelref09_More.l1]
    rw [if_neg (by decide), ei, byte_bits, ih f (i + 1) _ (by omega) (by omega), List.drop_eq_getElem_cons ha, sumB_cons]
theorem ref_eq (a : Int) (h : (Lit.int .i64 a).wf = true) (l : List Int) (hb : ∀ x ∈ l, By x) (hm : l.length ≤ 1000000000) (k : Nat) (hk : 10 * l.length < k) : newelref09_More.f k a l = some (((sumB (BitVec.ofInt 16 a) l).toNat : Nat) : Int) := by
  unfold newelref09_More.f
  rw [and_all a h]
  have h2 := ref_loop l hb hm l.length k 0 (BitVec.ofInt 16 a) (by omega) (by omega)
  rwa [List.drop_zero] at h2
/-! ### Same -/
theorem same8_loop (a b : List Int) (j : Nat) : ∀ (f i : Nat), i + j = a.length → a.length = b.length → j < f → a.length ≤ 1000000000 → newelref08_Same.l0 f a b (i : Int) = some (decide (a.drop i = b.drop i)) := by
  induction j with
  | zero =>
    intro f i hi hl hf hm
    obtain ⟨f, rfl⟩ : ∃ m, f = m + 1 := ⟨f - 1, by omega⟩
    simp only [newelref08_Same.l0]
    rw [if_neg (by omega), List.drop_of_length_le (by omega), List.drop_of_length_le (by omega)]
    rfl
  | succ j ih =>
    intro f i hi hl hf hm
    obtain ⟨f, rfl⟩ : ∃ m, f = m + 1 := ⟨f - 1, by omega⟩
    have ha : i < a.length := by omega
    have hb : i < b.length := by omega
    have ei : wrap64 ((i : Int) + 1) = ((i + 1 : Nat) : Int) := by unfold wrap64; omega
    simp only [newelref08_Same.l0]
    rw [if_pos (by omega), if_pos (by omega), if_pos (by omega), rd_at a i ha, rd_at b i hb, ei, ih f (i + 1) (by omega) hl (by omega) hm, List.drop_eq_getElem_cons ha, List.drop_eq_getElem_cons hb]
    by_cases h : a[i] = b[i]
    · rw [if_pos h, h]
      congr 1
      rw [decide_eq_decide]
      exact ⟨fun e => by rw [e], fun e => (List.cons.inj e).2⟩
    · rw [if_neg h, decide_eq_false (fun e => h (List.cons.inj e).1)]
theorem same8_eq (a b : List Int) (f : Nat) (hf : a.length < f) (hm : a.length ≤ 1000000000) : newelref08_Same.f f a b = some (decide (a = b)) := by
  unfold newelref08_Same.f
  by_cases h : (a.length : Int) = (b.length : Int)
  · rw [if_pos h]
    have := same8_loop a b a.length f 0 (by omega) (by omega) (by omega) hm
    simpa using this
  · rw [if_neg h]
    have : a ≠ b := fun e => h (by rw [e])
    simp [this]
/-! ### Sealing, opening -/
def F : W := 65535#16
theorem ofInt_F : BitVec.ofInt 16 65535 = F := by decide
theorem wf_F : (Lit.int .i64 65535).wf = true := by decide
theorem sum_eq (l : List Int) (hb : ∀ x ∈ l, By x) (hm : l.length ≤ 1000000000) (k : Nat) (hk : l.length < k) : crc_Sum.f k l = some (((sumB F l).toNat : Nat) : Int) := by
  unfold crc_Sum.f
  rw [more_eq _ wf_F l hb hm k hk, ofInt_F]
  rfl
/-- A word's two bytes. -/
def hiB (s : W) : Int := ((s.toNat / 256 : Nat) : Int)
def loB (s : W) : Int := ((s.toNat % 256 : Nat) : Int)
theorem hiB_by (s : W) : By (hiB s) := by have := tn_lt s; unfold By hiB; omega
theorem loB_by (s : W) : By (loB s) := by have := tn_lt s; unfold By loB; omega
def sealB (l : List Int) : List Int := l ++ [hiB (sumB F l), loB (sumB F l)]
theorem seal_eq (l : List Int) (hb : ∀ x ∈ l, By x) (hm : l.length ≤ 1000000000) (k : Nat) (hk : l.length < k) : crc_Seal.f k l = some (sealB l) := by
  unfold crc_Seal.f
  rw [sum_eq l hb hm k hk]
  simp only [Option.bind_some]
  rw [if_pos (by omega)]
  have h := tn_lt (sumB F l)
  unfold sealB hiB loB
  congr 3
  omega
theorem sealR_eq (l : List Int) (hb : ∀ x ∈ l, By x) (hm : l.length ≤ 1000000000) (k : Nat) (hk : 10 * l.length < k) : newelref09_Seal.f k l = some (sealB l) := by
  unfold newelref09_Seal.f
  rw [ref_eq _ wf_F l hb hm k hk, ofInt_F]
  simp only [Option.bind_some, List.nil_append, List.length_nil, Nat.zero_add, List.length_cons]
  rw [if_pos (by omega), if_pos (by omega)]
  unfold sealB
  have h := tn_lt (sumB F l)
  generalize sumB F l = s at *
  have e1 : wrap64 (Int.tdiv (s.toNat : Int) 256) % 256 = hiB s := by
    have : Int.tdiv (s.toNat : Int) 256 = (s.toNat : Int) / 256 := Int.tdiv_eq_ediv_of_nonneg (by omega)
    rw [this]; unfold wrap64 hiB; omega
  have e2 : Int.tmod (s.toNat : Int) 256 % 256 = loB s := by
    rw [Int.tmod_eq_emod_of_nonneg (by omega)]; unfold loB; omega
  rw [e1, e2]
/-- What Open answers. -/
def openB (l : List Int) : List Int × Int :=
  if l.length < 2 then ([], 90) else
    if hiB (sumB F (l.take (l.length - 2))) = l.getD (l.length - 2) 0 ∧ loB (sumB F (l.take (l.length - 2))) = l.getD (l.length - 1) 0 then (l.take (l.length - 2), 0) else ([], 91)
theorem or_two (a b : Int) (ha : By a) (hb : By b) : Go.bits .or .i64 (wrap64 (wrap64 a * 256)) (wrap64 b) = a * 256 + b := by
  unfold By at ha hb
  obtain ⟨x, rfl⟩ := Int.eq_ofNat_of_zero_le ha.1
  obtain ⟨y, rfl⟩ := Int.eq_ofNat_of_zero_le hb.1
  have e1 : wrap64 (wrap64 (x : Int) * 256) = ((x * 256 : Nat) : Int) := by unfold wrap64; omega
  have e2 : wrap64 (y : Int) = ((y : Nat) : Int) := by unfold wrap64; omega
  have e3 : x * 256 ||| y = x * 256 + y := by
    have := Nat.shiftLeft_add_eq_or_of_lt (show y < 2 ^ 8 by omega) x
    rw [Nat.shiftLeft_eq] at this
    exact this.symm
  rw [e1, e2]
  show IntKind.i64.wrap ((BitVec.ofInt 64 ((x * 256 : Nat) : Int) ||| BitVec.ofInt 64 (y : Int)).toNat : Int) = _
  rw [BitVec.toNat_or, BitVec.ofInt_natCast, BitVec.ofInt_natCast, BitVec.toNat_ofNat, BitVec.toNat_ofNat, Nat.mod_eq_of_lt (by omega), Nat.mod_eq_of_lt (by omega), e3, IntKind.wrap_i64]
  omega
theorem By.take {l : List Int} (hb : ∀ x ∈ l, By x) (n : Nat) : ∀ x ∈ l.take n, By x := fun x hx => hb x (List.mem_of_mem_take hx)
theorem open_eq (l : List Int) (hb : ∀ x ∈ l, By x) (hm : l.length ≤ 1000000000) (k : Nat) (hk : l.length < k) : crc_Open.f k l = some (openB l) := by
  unfold crc_Open.f openB
  have e1 : wrap64 ((l.length : Int) - 2) = (l.length : Int) - 2 := by unfold wrap64; omega
  rw [e1]
  by_cases h2 : l.length < 2
  · rw [if_pos (by omega), if_pos h2]
  · rw [if_neg (by omega), if_neg h2, if_pos (by omega), if_pos (by omega)]
    have e2 : (l.length : Int) - 2 = ((l.length - 2 : Nat) : Int) := by omega
    have e3 : wrap64 (((l.length - 2 : Nat) : Int) + 1) = ((l.length - 1 : Nat) : Int) := by unfold wrap64; omega
    rw [e2, Int.toNat_natCast, e3, sum_eq _ (By.take hb _) (by rw [List.length_take]; omega) k (by rw [List.length_take]; omega)]
    simp only [Option.bind_some]
    rw [if_pos (by omega), if_pos (by omega), if_pos (by omega), rd_at l _ (by omega), rd_at l _ (by omega)]
    have g1 : l.getD (l.length - 2) 0 = l[l.length - 2]'(by omega) := by rw [List.getD_eq_getElem?_getD, List.getElem?_eq_getElem (by omega)]; rfl
    have g2 : l.getD (l.length - 1) 0 = l[l.length - 1]'(by omega) := by rw [List.getD_eq_getElem?_getD, List.getElem?_eq_getElem (by omega)]; rfl
    have b1 := hb _ (List.getElem_mem (show l.length - 2 < l.length by omega))
    have b2 := hb _ (List.getElem_mem (show l.length - 1 < l.length by omega))
    rw [or_two _ _ b1 b2, g1, g2]
    generalize hs : sumB F (l.take (l.length - 2)) = s
    have hlt := tn_lt s
    unfold By at b1 b2
    have hiff : ((s.toNat : Int) = l[l.length - 2]'(by omega) * 256 + l[l.length - 1]'(by omega)) ↔ (hiB s = l[l.length - 2]'(by omega) ∧ loB s = l[l.length - 1]'(by omega)) := by
      unfold hiB loB
      omega
    by_cases h : (s.toNat : Int) = l[l.length - 2]'(by omega) * 256 + l[l.length - 1]'(by omega)
    · rw [if_pos h, if_pos (hiff.1 h)]
      simp only [List.length_nil, Nat.zero_add, List.nil_append]
      rw [if_pos (by rw [List.length_take]; omega)]
    · rw [if_neg h, if_neg (fun e => h (hiff.2 e))]
theorem openR_eq (l : List Int) (hb : ∀ x ∈ l, By x) (hm : l.length ≤ 1000000000) (k : Nat) (hk : 10 * l.length < k) : newelref09_Open.f k l = some (openB l) := by
  unfold newelref09_Open.f openB
  have e1 : wrap64 ((l.length : Int) - 2) = (l.length : Int) - 2 := by unfold wrap64; omega
  rw [e1]
  by_cases h2 : l.length < 2
  · rw [if_pos (by omega), if_pos h2]
  · rw [if_neg (by omega), if_neg h2, if_pos (by omega), if_pos (by omega)]
    have e2 : (l.length : Int) - 2 = ((l.length - 2 : Nat) : Int) := by omega
    have e3 : wrap64 (((l.length - 2 : Nat) : Int) + 1) = ((l.length - 1 : Nat) : Int) := by unfold wrap64; omega
    rw [e2, Int.toNat_natCast, e3, ref_eq _ wf_F _ (By.take hb _) (by rw [List.length_take]; omega) k (by rw [List.length_take]; omega), ofInt_F]
    simp only [Option.bind_some]
    rw [if_pos (by omega), rd_at l _ (by omega), rd_at l _ (by omega)]
    have g1 : l.getD (l.length - 2) 0 = l[l.length - 2]'(by omega) := by rw [List.getD_eq_getElem?_getD, List.getElem?_eq_getElem (by omega)]; rfl
    have g2 : l.getD (l.length - 1) 0 = l[l.length - 1]'(by omega) := by rw [List.getD_eq_getElem?_getD, List.getElem?_eq_getElem (by omega)]; rfl
    have b1 := hb _ (List.getElem_mem (show l.length - 2 < l.length by omega))
    have b2 := hb _ (List.getElem_mem (show l.length - 1 < l.length by omega))
    rw [g1, g2]
    generalize hs : sumB F (l.take (l.length - 2)) = s
    have hlt := tn_lt s
    unfold By at b1 b2
    have t1 : wrap64 (Int.tdiv (s.toNat : Int) 256) = hiB s := by
      rw [Int.tdiv_eq_ediv_of_nonneg (by omega)]; unfold wrap64 hiB; omega
    have t2 : Int.tmod (s.toNat : Int) 256 = loB s := by
      rw [Int.tmod_eq_emod_of_nonneg (by omega)]; unfold loB; omega
    have w1 : wrap64 (l[l.length - 2]'(by omega)) = l[l.length - 2]'(by omega) := by unfold wrap64; omega
    have w2 : wrap64 (l[l.length - 1]'(by omega)) = l[l.length - 1]'(by omega) := by unfold wrap64; omega
    rw [t1, t2, w1, w2]
    by_cases h : l[l.length - 2]'(by omega) = hiB s
    · rw [if_pos h, if_pos (by omega), if_pos (by omega)]
      by_cases h' : l[l.length - 1]'(by omega) = loB s
      · rw [if_pos h', if_pos ⟨h.symm, h'.symm⟩]
      · rw [if_neg h', if_neg (fun e => h' e.2.symm)]
    · rw [if_neg h, if_neg (fun e => h e.1.symm)]
end Go.Proofs.YtcnjaeeghfmkfaaDoor.Crc
