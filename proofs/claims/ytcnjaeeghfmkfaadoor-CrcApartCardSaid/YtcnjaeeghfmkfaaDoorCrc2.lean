/- The laws of the layer crc, in plain Lean: each printed law answers true. -/
import Derived.Test.YtcnjaeeghfmkfaaDoorCrc1
import Derived.Test.YtcnjaeeghfmkfaaDoorCxf3
import Derived.Test.YtcnjaeeghfmkfaaDoorCxf4
import Derived.Test.YtcnjaeeghfmkfaaDoorCxf5
import Derived.Test.YtcnjaeeghfmkfaaDoorCxf6
namespace Go.Proofs.YtcnjaeeghfmkfaaDoor.Crc
open Go.RowKit Go.Proofs.YtcnjaeeghfmkfaaDoorW.PrintWords Go.Proofs.YtcnjaeeghfmkfaaDoorW.PrintLast Go.Proofs.YtcnjaeeghfmkfaaDoorW.PrintMore Go.Proofs.YtcnjaeeghfmkfaaDoor.C
theorem awake_by : (∀ x ∈ ([49, 50, 51, 52, 53, 54, 55, 56, 57, 41, 177] : List Int), By x) ∧ ∀ x ∈ ([49, 50, 51, 52, 53, 54, 55, 56, 57] : List Int), By x := by unfold By; decide
theorem awake_open : openB ([49, 50, 51, 52, 53, 54, 55, 56, 57, 41, 177] : List Int) = ([49, 50, 51, 52, 53, 54, 55, 56, 57], 0) := by decide +kernel
theorem awake_sum : (((sumB F ([49, 50, 51, 52, 53, 54, 55, 56, 57] : List Int)).toNat : Nat) : Int) = 10673 := by decide +kernel
theorem awake_eq (k : Nat) (hk : 100 < k) : newellaw09_awake.f k = some true := by
  unfold newellaw09_awake.f
  rw [open_eq _ awake_by.1 (by decide) k (by simp; omega), awake_open]
  simp only [Option.bind_some]
  rw [sum_eq _ awake_by.2 (by decide) k (by simp; omega), awake_sum]
  simp only [Option.bind_some]
  rw [if_pos trivial, if_pos (by decide), if_pos trivial, seal_eq [] (by simp) (by decide) k (by simp; omega)]
  rfl
theorem tells_eq (a : Int) (l : List Int) (h0 : (Lit.int .i64 a).wf = true) (hb : ∀ x ∈ l, By x) (k : Nat) (hk : 4000 ≤ k) : newellaw09_CrcTells.f (k + 1) a l = some true := by
  unfold newellaw09_CrcTells.f
  rw [awake_eq _ (by omega)]
  simp only [Option.bind_some]
  by_cases h : (l.length : Int) > 300
  · rw [if_pos h]
  · rw [if_neg h, if_pos trivial, more_eq a h0 l hb (by omega) _ (by omega), ref_eq a h0 l hb (by omega) _ (by omega), sum_eq l hb (by omega) _ (by omega), ref_eq _ wf_F l hb (by omega) _ (by omega), ofInt_F]
    simp only [Option.bind_some]
    rw [if_pos trivial]
    simp only [newellaw09_CrcTells.j0]
    simp
theorem openB_by {l : List Int} (hb : ∀ x ∈ l, By x) : ∀ x ∈ (openB l).1, By x := by
  unfold openB
  split
  · simp
  · split
    · exact By.take hb _
    · simp
theorem openB_len (l : List Int) : (openB l).1.length ≤ l.length := by
  unfold openB
  split
  · simp
  · split
    · show (l.take _).length ≤ _
      rw [List.length_take]; omega
    · simp
theorem sealB_len (l : List Int) : (sealB l).length = l.length + 2 := by unfold sealB; simp
theorem sealB_by {l : List Int} (hb : ∀ x ∈ l, By x) : ∀ x ∈ sealB l, By x := by
  intro x hx
  unfold sealB at hx
  rcases List.mem_append.1 hx with h | h
  · exact hb x h
  · simp only [List.mem_cons, List.not_mem_nil, or_false] at h
    rcases h with rfl | rfl
    · exact hiB_by _
    · exact loB_by _
theorem opens_eq (l : List Int) (hb : ∀ x ∈ l, By x) (k : Nat) (hk : 4000 ≤ k) : newellaw09_CrcOpens.f (k + 1) l = some true := by
  unfold newellaw09_CrcOpens.f
  rw [awake_eq _ (by omega)]
  simp only [Option.bind_some]
  by_cases h : (l.length : Int) > 300
  · rw [if_pos h]
  · have hl := openB_len l
    have hs := sealB_len l
    rw [if_neg h, open_eq l hb (by omega) _ (by omega), openR_eq l hb (by omega) _ (by omega)]
    simp only [Option.bind_some]
    rw [if_pos trivial, same8_eq _ _ _ (by omega) (by omega)]
    simp only [Option.bind_some]
    rw [if_pos (by simp), if_pos trivial, seal_eq l hb (by omega) _ (by omega), sealR_eq l hb (by omega) _ (by omega)]
    simp only [Option.bind_some]
    rw [same8_eq _ _ _ (by omega) (by omega)]
    simp only [Option.bind_some, newellaw09_CrcOpens.j0]
    simp
theorem ofInt_nat (s : W) : BitVec.ofInt 16 ((s.toNat : Nat) : Int) = s := by
  rw [BitVec.ofInt_natCast, BitVec.ofNat_toNat]; simp
theorem wf_nat (s : W) : (Lit.int .i64 ((s.toNat : Nat) : Int)).wf = true := by
  have h := tn_lt s
  have : wrap64 ((s.toNat : Nat) : Int) = ((s.toNat : Nat) : Int) := by unfold wrap64; omega
  rw [← this]
  exact wrap64_wf _
theorem parts_eq (a : Int) (l l2 : List Int) (h0 : (Lit.int .i64 a).wf = true) (hb : ∀ x ∈ l, By x) (hb2 : ∀ x ∈ l2, By x) (k : Nat) (hk : 4000 ≤ k) : newellaw09_CrcParts.f (k + 1) a l l2 = some true := by
  have ha := awake_eq k (by omega)
  have t : newellaw09_CrcParts.j0 (k + 1) a l l2 true = some true := by
    simp only [newellaw09_CrcParts.j0]
    rw [if_pos trivial, ha]
    rfl
  unfold newellaw09_CrcParts.f
  by_cases h : (l.length : Int) > 300
  · rw [if_pos h]; exact t
  · rw [if_neg h]
    by_cases h2 : (l2.length : Int) > 300
    · rw [decide_eq_true h2]; exact t
    · rw [decide_eq_false h2]
      have hbb : ∀ x ∈ l ++ l2, By x := fun x hx => (List.mem_append.1 hx).elim (hb x) (hb2 x)
      simp only [newellaw09_CrcParts.j0]
      rw [if_neg (by decide), ha]
      simp only [Option.bind_some]
      rw [if_pos trivial, more_eq a h0 l hb (by omega) _ (by omega)]
      simp only [Option.bind_some]
      rw [more_eq _ (wf_nat _) l2 hb2 (by omega) _ (by omega), ofInt_nat]
      simp only [Option.bind_some, List.length_nil, Nat.zero_add, List.nil_append]
      rw [if_pos (by omega), if_pos (by omega), more_eq a h0 (l ++ l2) hbb (by simp; omega) _ (by simp; omega)]
      simp only [Option.bind_some]
      rw [sumB_append]
      simp
/-! ### Sealed and opened -/
theorem word_append (h l : BitVec 8) : word h l = h ++ l := by
  apply BitVec.eq_of_getLsbD_eq
  intro i hi
  unfold word
  rw [BitVec.getLsbD_xor, BitVec.getLsbD_shiftLeft, BitVec.getLsbD_setWidth, BitVec.getLsbD_setWidth, BitVec.getLsbD_append]
  by_cases h8 : i < 8
  · simp [h8, hi]
  · have : l.getLsbD i = false := BitVec.getLsbD_of_ge _ _ (by omega)
    simp [h8, hi, this]
    intro _; omega
theorem word_nat (h l : BitVec 8) : (word h l).toNat = h.toNat * 256 + l.toNat := by
  rw [word_append, BitVec.toNat_append]
  have := Nat.shiftLeft_add_eq_or_of_lt (show l.toNat < 2 ^ 8 from l.isLt) h.toNat
  rw [← this, Nat.shiftLeft_eq]
theorem word_iff (s : W) (a b : Int) (ha : By a) (hb : By b) : s = word (bvB a) (bvB b) ↔ (hiB s = a ∧ loB s = b) := by
  have h1 := word_nat (bvB a) (bvB b)
  rw [bvB_nat ha, bvB_nat hb] at h1
  have h2 := tn_lt s
  unfold By at ha hb
  unfold hiB loB
  constructor
  · intro e
    rw [← e] at h1
    omega
  · intro e
    apply BitVec.eq_of_toNat_eq
    rw [h1]
    omega
theorem split_two (l : List Int) (h : 2 ≤ l.length) : l = l.take (l.length - 2) ++ [l.getD (l.length - 2) 0, l.getD (l.length - 1) 0] := by
  have e := (List.take_append_drop (l.length - 2) l).symm
  have g1 : l.getD (l.length - 2) 0 = l[l.length - 2]'(by omega) := by rw [List.getD_eq_getElem?_getD, List.getElem?_eq_getElem (by omega)]; rfl
  have g2 : l.getD (l.length - 1) 0 = l[l.length - 1]'(by omega) := by rw [List.getD_eq_getElem?_getD, List.getElem?_eq_getElem (by omega)]; rfl
  rw [g1, g2]
  have d : l.drop (l.length - 2) = [l[l.length - 2]'(by omega), l[l.length - 1]'(by omega)] := by
    rw [List.drop_eq_getElem_cons (by omega)]
    have : l.length - 2 + 1 = l.length - 1 := by omega
    rw [this, List.drop_eq_getElem_cons (by omega)]
    rw [List.drop_of_length_le (by omega)]
  rw [← d]
  exact e
theorem open_zero (l : List Int) (hb : ∀ x ∈ l, By x) (h : 2 ≤ l.length) :
    (hiB (sumB F (l.take (l.length - 2))) = l.getD (l.length - 2) 0 ∧ loB (sumB F (l.take (l.length - 2))) = l.getD (l.length - 1) 0) ↔ sumB F l = 0#16 := by
  have b1 : By (l.getD (l.length - 2) 0) := by
    rw [List.getD_eq_getElem?_getD, List.getElem?_eq_getElem (by omega)]
    exact hb _ (List.getElem_mem _)
  have b2 : By (l.getD (l.length - 1) 0) := by
    rw [List.getD_eq_getElem?_getD, List.getElem?_eq_getElem (by omega)]
    exact hb _ (List.getElem_mem _)
  rw [← word_iff _ _ _ b1 b2, ← two_zero]
  have e : sumB F l = byteS (byteS (sumB F (l.take (l.length - 2))) (bvB (l.getD (l.length - 2) 0))) (bvB (l.getD (l.length - 1) 0)) := by
    conv => lhs; rw [split_two l h]
    rw [sumB_append]
    rfl
  rw [e]
theorem open_is (l : List Int) (hb : ∀ x ∈ l, By x) (h : 2 ≤ l.length) : openB l = if sumB F l = 0#16 then (l.take (l.length - 2), 0) else ([], 91) := by
  unfold openB
  rw [if_neg (by omega)]
  by_cases e : sumB F l = 0#16
  · rw [if_pos e, if_pos ((open_zero l hb h).2 e)]
  · rw [if_neg e, if_neg (fun x => e ((open_zero l hb h).1 x))]
theorem seal_zero (l : List Int) : sumB F (sealB l) = 0#16 := by
  unfold sealB
  rw [sumB_append]
  show byteS (byteS (sumB F l) (bvB _)) (bvB _) = _
  rw [two_zero, word_iff _ _ _ (hiB_by _) (loB_by _)]
  exact ⟨rfl, rfl⟩
theorem open_seal (l : List Int) (hb : ∀ x ∈ l, By x) : openB (sealB l) = (l, 0) := by
  rw [open_is _ (sealB_by hb) (by rw [sealB_len]; omega), if_pos (seal_zero l), sealB_len]
  unfold sealB
  rw [show l.length + 2 - 2 = l.length from by omega, List.take_left']
  rfl
theorem seal_open (l : List Int) (hb : ∀ x ∈ l, By x) (h : (openB l).2 = 0) : sealB (openB l).1 = l := by
  unfold openB at h ⊢
  split at h
  · simp at h
  · rename_i h2
    rw [if_neg h2]
    split at h
    · rename_i hc
      rw [if_pos hc]
      show sealB (l.take (l.length - 2)) = l
      unfold sealB
      rw [hc.1, hc.2]
      exact (split_two l (by omega)).symm
    · simp at h
theorem back_eq (l : List Int) (hb : ∀ x ∈ l, By x) (k : Nat) (hk : 4000 ≤ k) : newellaw09_CrcBack.f (k + 1) l = some true := by
  unfold newellaw09_CrcBack.f
  rw [awake_eq _ (by omega)]
  simp only [Option.bind_some]
  by_cases h : (l.length : Int) > 300
  · rw [if_pos h]
  · have hl := openB_len l
    have hs := sealB_len l
    rw [if_neg h, seal_eq l hb (by omega) _ (by omega)]
    simp only [Option.bind_some]
    rw [open_eq _ (sealB_by hb) (by omega) _ (by omega), open_seal l hb]
    simp only [Option.bind_some]
    rw [open_eq l hb (by omega) _ (by omega)]
    simp only [Option.bind_some]
    rw [if_pos trivial, if_pos trivial, same8_eq _ _ _ (by omega) (by omega)]
    simp only [Option.bind_some]
    rw [if_pos (by simp)]
    by_cases h0 : (openB l).2 = 0
    · rw [if_pos h0, seal_eq _ (openB_by hb) (by omega) _ (by omega)]
      simp only [Option.bind_some]
      rw [seal_open l hb h0, same8_eq _ _ _ (by omega) (by omega)]
      simp only [Option.bind_some, newellaw09_CrcBack.j0]
      simp
    · rw [if_neg h0]
      simp only [newellaw09_CrcBack.j0]
end Go.Proofs.YtcnjaeeghfmkfaaDoor.Crc
