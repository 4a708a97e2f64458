/- Texts of this claim, one behind the other: what the law's functions come to, walked; and what that is, in plain Lean. No conditions of their own. -/
import Derived.Test.YtickbejailcehaaDoorQ1
import Derived.Test.YtickbejailcehaaDoorQ2
import Derived.Test.YtickbejailcehaaDoorQ3
/- What flash's printed functions come to: records as bytes; plain Lean, no memory. -/
namespace Go.Proofs.YtickbejailcehaaDoor.Flash
open Go.RowKit Go.Proofs.YtickbejailcehaaDoorW.PrintWords Go.Proofs.YtickbejailcehaaDoorW.PrintLast Go.Proofs.YtickbejailcehaaDoorW.PrintMore Go.Proofs.YtickbejailcehaaDoor.C
open Go.Proofs.YtickbejailcehaaDoor.Wire (In pt rowB getS getRowS)
open Go.Proofs.YtickbejailcehaaDoor.Crc (sealB openB By)
set_option linter.unusedVariables false

def mayB (g m : Int) (n : Nat) : Bool := decide (1 ≤ g ∧ g ≤ 1099511627776 ∧ 0 ≤ m ∧ m ≤ 5 ∧ n ≤ 4096)
theorem may_eq (g c m : Int) (l : List Int) : flash_may.f g c m l = some (mayB g m l.length) := by
  unfold flash_may.f mayB
  by_cases h1 : g ≥ 1
  · rw [if_pos h1]
    by_cases h2 : g ≤ 1099511627776
    · rw [if_pos h2]
      by_cases h3 : m ≥ 0
      · rw [if_pos h3]
        by_cases h4 : m ≤ 5
        · rw [if_pos h4]
          congr 1
          rw [decide_eq_decide]
          omega
        · rw [if_neg h4, decide_eq_false (by omega)]
      · rw [if_neg h3, decide_eq_false (by omega)]
    · rw [if_neg h2, decide_eq_false (by omega)]
  · rw [if_neg h1, decide_eq_false (by omega)]
theorem mayR_eq (g c m : Int) (l : List Int) : newelref12_May.f g c m l = some (mayB g m l.length) := may_eq g c m l
/-- A record's bytes. -/
def headB (g c m : Int) (n : Nat) : List Int := rowB [g, c, m] ++ pt (n : Int)
def codeB (g c m : Int) (l : List Int) : List Int := sealB (headB g c m l.length ++ l)
theorem head_len (g c m : Int) (n : Nat) : (headB g c m n).length ≤ 50 := by
  have h1 := Wire.rowB_len [g, c, m]
  have h2 := Wire.pt_len (n : Int)
  unfold headB
  simp only [List.length_append, List.length_cons, List.length_nil] at *
  omega
theorem code_len (g c m : Int) (l : List Int) : (codeB g c m l).length = (headB g c m l.length).length + l.length + 2 := by
  unfold codeB
  rw [Crc.sealB_len, List.length_append]
theorem in3 {g c m : Int} (hg : In g) (hc : In c) (hm : In m) : ∀ x ∈ [g, c, m], In x := by
  intro x hx
  simp only [List.mem_cons, List.not_mem_nil, or_false] at hx
  rcases hx with rfl | rfl | rfl <;> assumption
theorem in_len {n : Nat} (h : n ≤ 1000000000) : In (n : Int) := by unfold In; omega
theorem head_by {g c m : Int} {n : Nat} (hg : In g) (hc : In c) (hm : In m) (hn : n ≤ 1000000000) : ∀ x ∈ headB g c m n, By x := by
  intro x hx
  unfold headB at hx
  rcases List.mem_append.1 hx with h | h
  · exact Wire.rowB_by (in3 hg hc hm) (by simp) x h
  · exact Wire.pt_by (in_len hn) x h
theorem body_by {g c m : Int} {l : List Int} (hg : In g) (hc : In c) (hm : In m) (hb : ∀ x ∈ l, By x) (hl : l.length ≤ 1000000) : ∀ x ∈ headB g c m l.length ++ l, By x := by
  intro x hx
  rcases List.mem_append.1 hx with h | h
  · exact head_by hg hc hm (by omega) x h
  · exact hb x h
theorem code_by {g c m : Int} {l : List Int} (hg : In g) (hc : In c) (hm : In m) (hb : ∀ x ∈ l, By x) (hl : l.length ≤ 1000000) : ∀ x ∈ codeB g c m l, By x := Crc.sealB_by (body_by hg hc hm hb hl)
def codeS (g c m : Int) (l : List Int) : List Int × Int := if mayB g m l.length = true then (codeB g c m l, 0) else ([], 120)
theorem code_eq {g c m : Int} {l : List Int} (hg : In g) (hc : In c) (hm : In m) (hb : ∀ x ∈ l, By x) (hl : l.length ≤ 1000000) (k : Nat) (hk : l.length + 100 < k) : flash_Code.f k g c m l = some (codeS g c m l) := by
  unfold flash_Code.f codeS
  rw [may_eq]
  simp only [Option.bind_some]
  by_cases h : mayB g m l.length = true
  · rw [if_pos h, if_pos h, Wire.row_eq _ (in3 hg hc hm) (by simp) k (by simp; omega), Wire.put_eq _ (in_len (by omega))]
    simp only [Option.bind_some]
    have h1 := Wire.rowB_len [g, c, m]
    have h2 := Wire.pt_len (l.length : Int)
    simp only [List.length_cons, List.length_nil] at h1
    rw [show leb 9 (Wire.codeN (l.length : Int)) = pt (l.length : Int) from rfl, if_pos (by omega), if_pos (by simp only [List.length_append]; omega)]
    have hd := head_len g c m l.length
    rw [show rowB [g, c, m] ++ pt (l.length : Int) = headB g c m l.length from rfl, Crc.seal_eq _ (body_by hg hc hm hb hl) (by simp only [List.length_append]; omega) k (by simp only [List.length_append]; omega)]
    rfl
  · rw [if_neg h, if_neg h]

/-! ### Reading -/
def readS (l : List Int) : Int × Int × Int × List Int × Int :=
  if (getRowS l 0 3).2.2 = 0 then
    (if (getRowS l 0 3).1.length = 3 ∧ mayB (rd (getRowS l 0 3).1 0) (rd (getRowS l 0 3).1 2) 0 = true then
      (if (getS l (getRowS l 0 3).2.1).2.2 = 0 then
        (if (getS l (getRowS l 0 3).2.1).1 < 0 ∨ 4096 < (getS l (getRowS l 0 3).2.1).1 then (0, 0, 0, [], 120) else
          if (l.length : Int) - (getS l (getRowS l 0 3).2.1).2.1 - 2 < (getS l (getRowS l 0 3).2.1).1 then (0, 0, 0, [], 121) else
          if (l.length : Int) - (getS l (getRowS l 0 3).2.1).2.1 - 2 > (getS l (getRowS l 0 3).2.1).1 then (0, 0, 0, [], 122) else
          if (openB l).2 = 0 then (rd (getRowS l 0 3).1 0, rd (getRowS l 0 3).1 1, rd (getRowS l 0 3).1 2, (l.drop (getS l (getRowS l 0 3).2.1).2.1.toNat).take (getS l (getRowS l 0 3).2.1).1.toNat, 0) else (0, 0, 0, [], (openB l).2))
      else (0, 0, 0, [], (getS l (getRowS l 0 3).2.1).2.2))
    else (0, 0, 0, [], 120))
  else (0, 0, 0, [], (getRowS l 0 3).2.2)
theorem copy_zeros (l : List Int) (n : Nat) (h : n ≤ l.length) : copyL l (List.replicate n 0) = l.take n := by
  unfold copyL
  rw [List.length_replicate, Nat.min_eq_right h, List.drop_of_length_le (by simp), List.append_nil]
theorem read_eq (l : List Int) (hb : ∀ x ∈ l, By x) (hl : l.length ≤ 1000000) (k : Nat) (hk : l.length + 100 < k) : flash_Read.f k l = some (readS l) := by
  obtain ⟨k, rfl⟩ : ∃ m, k = m + 2 := ⟨k - 2, by omega⟩
  unfold flash_Read.f readS
  rw [Wire.getRow_eq l hb (by omega) 0 3 (by decide) (k + 2) (by omega)]
  simp only [Option.bind_some]
  generalize getRowS l 0 3 = p
  obtain ⟨q, at_, e⟩ := p
  dsimp only
  by_cases h0 : e = 0
  case neg => rw [if_neg h0, if_neg h0]
  rw [if_pos h0, if_pos h0]
  by_cases h1 : q.length = 3
  case neg =>
    rw [if_neg (by omega), if_neg (fun x => h1 x.1)]
    simp only [flash_Read.j0]
    rw [if_pos trivial]
  rw [if_pos (by omega), if_pos (by omega), if_pos (by omega), may_eq]
  simp only [Option.bind_some, List.length_nil, flash_Read.j0]
  cases h2 : mayB (rd q 0) (rd q 2) 0
  case false =>
    rw [if_pos (by decide), if_neg (fun x => Bool.noConfusion x.2)]
  rw [if_neg (by decide), if_pos ⟨h1, rfl⟩, Wire.get_eq l hb (by omega) at_ (k + 1) (by omega)]
  simp only [Option.bind_some]
  have hg := Wire.getS_only l hb at_
  generalize getS l at_ = p at *
  obtain ⟨n, at2, e2⟩ := p
  dsimp only at hg ⊢
  by_cases h3 : e2 = 0
  case neg => rw [if_neg h3, if_neg h3]
  obtain ⟨g1, g2, g3, _, _⟩ := hg h3
  have w1 : wrap64 ((wrap64 ((l.length : Int) - at2)) - 2) = (l.length : Int) - at2 - 2 := by
    rw [show wrap64 ((l.length : Int) - at2) = (l.length : Int) - at2 from by unfold wrap64; omega]
    unfold wrap64; omega
  have w2 : ∀ b : Bool, b = decide (n < 0 ∨ 4096 < n) → flash_Read.j1 (k + 1) l q at2 n ((l.length : Int) - at2 - 2) b = some (if n < 0 ∨ 4096 < n then (0, 0, 0, [], 120) else
          if (l.length : Int) - at2 - 2 < n then (0, 0, 0, [], 121) else
          if (l.length : Int) - at2 - 2 > n then (0, 0, 0, [], 122) else
          if (openB l).2 = 0 then (rd q 0, rd q 1, rd q 2, (l.drop at2.toNat).take n.toNat, 0) else (0, 0, 0, [], (openB l).2)) := by
    intro b hbb
    simp only [flash_Read.j1]
    by_cases c : n < 0 ∨ 4096 < n
    · rw [hbb, decide_eq_true c, if_pos rfl, if_pos c]
    rw [hbb, decide_eq_false c, if_neg (by decide), if_neg c]
    by_cases c1 : (l.length : Int) - at2 - 2 < n
    · rw [if_pos c1, if_pos c1]
    rw [if_neg c1, if_neg c1]
    by_cases c2 : (l.length : Int) - at2 - 2 > n
    · rw [if_pos c2, if_pos c2]
    rw [if_neg c2, if_neg c2, Crc.open_eq l hb (by omega) k (by omega)]
    simp only [Option.bind_some]
    by_cases c3 : (openB l).2 = 0
    · rw [if_pos c3, if_pos c3, if_pos (by omega), if_pos (by omega), if_pos (by omega), if_pos (by omega), if_pos (by omega), if_pos (by omega), if_pos (by omega), copy_zeros _ _ (by rw [List.length_drop]; omega)]
    · rw [if_neg c3, if_neg c3]
  rw [if_pos h3, if_pos h3, w1]
  by_cases c : n < 0
  · rw [if_pos c]
    exact w2 true (decide_eq_true (.inl c)).symm
  · rw [if_neg c]
    refine w2 _ ?_
    rw [decide_eq_decide]
    omega
/-! ### What is written is read -/
theorem may_in {g m : Int} {n : Nat} (h : mayB g m n = true) : 1 ≤ g ∧ g ≤ 1099511627776 ∧ 0 ≤ m ∧ m ≤ 5 ∧ n ≤ 4096 := of_decide_eq_true h
theorem may_zero {g m : Int} {n : Nat} (h : mayB g m n = true) : mayB g m 0 = true := by
  have := may_in h
  exact decide_eq_true ⟨by omega, by omega, by omega, by omega, by omega⟩
theorem head_row {g c m : Int} (hg : In g) (hc : In c) (hm : In m) (tail : List Int) : getRowS (rowB [g, c, m] ++ tail) 0 3 = ([g, c, m], ((rowB [g, c, m]).length : Int), 0) :=
  Wire.getRowS_back [g, c, m] tail (in3 hg hc hm) (by simp) 3 (by simp)
theorem read_code {g c m : Int} {l : List Int} (hg : In g) (hc : In c) (hm : In m) (hb : ∀ x ∈ l, By x) (h : mayB g m l.length = true) : readS (codeB g c m l) = (g, c, m, l, 0) := by
  obtain ⟨_, _, _, _, hl⟩ := may_in h
  have e : codeB g c m l = rowB [g, c, m] ++ (pt (l.length : Int) ++ (l ++ [Crc.hiB (Crc.sumB Crc.F (headB g c m l.length ++ l)), Crc.loB (Crc.sumB Crc.F (headB g c m l.length ++ l))])) := by
    unfold codeB sealB headB
    simp only [List.append_assoc]
  have r1 := head_row hg hc hm (pt (l.length : Int) ++ (l ++ [Crc.hiB (Crc.sumB Crc.F (headB g c m l.length ++ l)), Crc.loB (Crc.sumB Crc.F (headB g c m l.length ++ l))]))
  have r2 := Wire.getS_pt (in_len (show l.length ≤ 1000000000 by omega)) (rowB [g, c, m]) (l ++ [Crc.hiB (Crc.sumB Crc.F (headB g c m l.length ++ l)), Crc.loB (Crc.sumB Crc.F (headB g c m l.length ++ l))])
  rw [← e] at r1 r2
  have r3 : openB (codeB g c m l) = (headB g c m l.length ++ l, 0) := Crc.open_seal _ (body_by hg hc hm hb (by omega))
  have r4 : (codeB g c m l).length = (rowB [g, c, m]).length + (pt (l.length : Int)).length + l.length + 2 := by
    rw [code_len]; unfold headB; rw [List.length_append]
  unfold readS
  rw [r1]
  dsimp only
  rw [if_pos rfl, if_pos ⟨rfl, may_zero h⟩, r2]
  dsimp only
  rw [if_pos rfl, if_neg (by omega), if_neg (by omega), if_neg (by omega), r3]
  dsimp only
  rw [if_pos rfl]
  have d : ((codeB g c m l).drop (((rowB [g, c, m]).length : Int) + ((pt (l.length : Int)).length : Int)).toNat).take ((l.length : Int)).toNat = l := by
    rw [Int.toNat_natCast, show (((rowB [g, c, m]).length : Int) + ((pt (l.length : Int)).length : Int)).toNat = (headB g c m l.length).length from by unfold headB; rw [List.length_append]; omega]
    unfold codeB sealB
    rw [List.append_assoc, List.drop_left, List.take_left']
    rfl
  rw [d]
  rfl
/-- A slot that was cut. -/
theorem read_torn {g c m : Int} {l : List Int} (hg : In g) (hc : In c) (hm : In m) (h : mayB g m l.length = true) (i : Nat) (hi : i < (codeB g c m l).length) : (readS ((codeB g c m l).take i)).2.2.2.2 = 81 ∨ (readS ((codeB g c m l).take i)).2.2.2.2 = 121 := by
  obtain ⟨_, _, _, _, hl⟩ := may_in h
  have e : codeB g c m l = rowB [g, c, m] ++ (pt (l.length : Int) ++ (l ++ [Crc.hiB (Crc.sumB Crc.F (headB g c m l.length ++ l)), Crc.loB (Crc.sumB Crc.F (headB g c m l.length ++ l))])) := by
    unfold codeB sealB headB
    simp only [List.append_assoc]
  have r4 : (codeB g c m l).length = (rowB [g, c, m]).length + (pt (l.length : Int)).length + l.length + 2 := by
    rw [code_len]; unfold headB; rw [List.length_append]
  generalize (l ++ [Crc.hiB (Crc.sumB Crc.F (headB g c m l.length ++ l)), Crc.loB (Crc.sumB Crc.F (headB g c m l.length ++ l))]) = tl at e
  by_cases h1 : i < (rowB [g, c, m]).length
  · have e1 : (codeB g c m l).take i = (rowB [g, c, m]).take i := by rw [e, List.take_append_of_le_length (by omega)]
    have := Wire.getRowS_short [g, c, m] (in3 hg hc hm) (by simp) 3 (by simp) i h1
    rw [e1]
    unfold readS
    rw [this]
    exact .inl rfl
  · have e1 : (codeB g c m l).take i = rowB [g, c, m] ++ (pt (l.length : Int) ++ tl).take (i - (rowB [g, c, m]).length) := by rw [e, List.take_append, List.take_of_length_le (by omega)]
    have r1 := head_row hg hc hm ((pt (l.length : Int) ++ tl).take (i - (rowB [g, c, m]).length))
    rw [← e1] at r1
    by_cases h2 : i - (rowB [g, c, m]).length < (pt (l.length : Int)).length
    · have e2 : (pt (l.length : Int) ++ tl).take (i - (rowB [g, c, m]).length) = (pt (l.length : Int)).take (i - (rowB [g, c, m]).length) := by rw [List.take_append_of_le_length (by omega)]
      have r2 := Wire.getS_short (in_len (show l.length ≤ 1000000000 by omega)) (rowB [g, c, m]) _ h2
      rw [← e2, ← e1] at r2
      unfold readS
      rw [r1]
      dsimp only
      rw [if_pos rfl, if_pos ⟨rfl, may_zero h⟩, r2]
      exact .inl rfl
    · have e2 : (pt (l.length : Int) ++ tl).take (i - (rowB [g, c, m]).length) = pt (l.length : Int) ++ tl.take (i - (rowB [g, c, m]).length - (pt (l.length : Int)).length) := by rw [List.take_append, List.take_of_length_le (by omega)]
      have r2 := Wire.getS_pt (in_len (show l.length ≤ 1000000000 by omega)) (rowB [g, c, m]) (tl.take (i - (rowB [g, c, m]).length - (pt (l.length : Int)).length))
      rw [← e2, ← e1] at r2
      have r5 : ((codeB g c m l).take i).length = i := by rw [List.length_take]; omega
      unfold readS
      rw [r1]
      dsimp only
      rw [if_pos rfl, if_pos ⟨rfl, may_zero h⟩, r2]
      dsimp only
      rw [if_pos rfl, if_neg (by omega), if_pos (by omega)]
      exact .inr rfl
/-! ### What is read is written -/
theorem many_only (l : List Int) (hb : ∀ x ∈ l, By x) (n : Nat) : ∀ (nx : Int) (acc : List Int), 0 ≤ nx → nx ≤ l.length → (Wire.many n l nx acc).2.2 = 0 → ∃ q, (∀ x ∈ q, In x) ∧ q.length = n ∧ (Wire.many n l nx acc).1 = acc ++ q ∧ nx ≤ (Wire.many n l nx acc).2.1 ∧ (Wire.many n l nx acc).2.1 ≤ l.length ∧ l.take (Wire.many n l nx acc).2.1.toNat = l.take nx.toNat ++ Wire.pts q := by
  induction n with
  | zero =>
    intro nx acc h0 h1 _
    exact ⟨[], by simp, rfl, by simp [Wire.many], Int.le_refl _, h1, by simp [Wire.many, Wire.pts]⟩
  | succ n ih =>
    intro nx acc h0 h1 h
    simp only [Wire.many] at h ⊢
    by_cases hg : (getS l nx).2.2 = 0
    · rw [if_pos hg] at h ⊢
      obtain ⟨p1, p2, p3, p4, p5⟩ := Wire.getS_only l hb nx hg
      obtain ⟨q, q1, q2, q3, q4, q5, q6⟩ := ih (getS l nx).2.1 (acc ++ [(getS l nx).1]) (by omega) p3 h
      refine ⟨(getS l nx).1 :: q, ?_, by simp [q2], by rw [q3]; simp, by omega, q5, ?_⟩
      · intro x hx
        rcases List.mem_cons.1 hx with rfl | hx
        · exact p4
        · exact q1 x hx
      · rw [q6, Wire.pts_cons, ← p5, ← List.append_assoc]
        congr 1
        have : (l.take ((getS l nx).2.1).toNat).take nx.toNat = l.take nx.toNat := by rw [List.take_take, Nat.min_eq_left (by omega)]
        rw [← this, List.take_append_drop]
    · rw [if_neg hg] at h
      exact absurd h hg
theorem getRow_only (l : List Int) (hb : ∀ x ∈ l, By x) (h : (getRowS l 0 3).2.2 = 0) : (∀ x ∈ (getRowS l 0 3).1, In x) ∧ 0 ≤ (getRowS l 0 3).2.1 ∧ (getRowS l 0 3).2.1 ≤ l.length ∧ l.take (getRowS l 0 3).2.1.toNat = rowB (getRowS l 0 3).1 := by
  unfold getRowS at h ⊢
  by_cases hg : (getS l 0).2.2 = 0
  case neg => rw [if_neg hg] at h; exact absurd h hg
  rw [if_pos hg] at h ⊢
  by_cases h1 : (getS l 0).1 < 0 ∨ 3 < (getS l 0).1
  · rw [if_pos h1] at h; exact absurd h (by decide)
  rw [if_neg h1] at h ⊢
  obtain ⟨p1, p2, p3, p4, p5⟩ := Wire.getS_only l hb 0 hg
  obtain ⟨q, q1, q2, q3, q4, q5, q6⟩ := many_only l hb (getS l 0).1.toNat (getS l 0).2.1 [] (by omega) p3 h
  rw [List.nil_append] at q3
  rw [q3]
  refine ⟨q1, by omega, q5, ?_⟩
  rw [q6]
  unfold rowB
  rw [q2, show (((getS l 0).1.toNat : Nat) : Int) = (getS l 0).1 from by omega, ← p5]
  simp
/-- What a slot that has a record is. -/
structure Rec (l : List Int) (g c m : Int) (cfg : List Int) : Prop where
  ing : In g
  inc : In c
  inm : In m
  by' : ∀ x ∈ cfg, By x
  may : mayB g m cfg.length = true
  eq : l = codeB g c m cfg
theorem read_only (l : List Int) (hb : ∀ x ∈ l, By x) (hl : l.length ≤ 1000000) (h : (readS l).2.2.2.2 = 0) : Rec l (readS l).1 (readS l).2.1 (readS l).2.2.1 (readS l).2.2.2.1 := by
  have hr := getRow_only l hb
  unfold readS at h ⊢
  generalize getRowS l 0 3 = p at *
  obtain ⟨q, at_, e⟩ := p
  dsimp only at *
  by_cases h0 : e = 0
  case neg => rw [if_neg h0] at h; exact absurd h h0
  obtain ⟨r1, r2, r3, r4⟩ := hr h0
  rw [if_pos h0] at h ⊢
  by_cases h1 : q.length = 3 ∧ mayB (rd q 0) (rd q 2) 0 = true
  case neg => rw [if_neg h1] at h; exact absurd h (by decide)
  rw [if_pos h1] at h ⊢
  have hg := Wire.getS_only l hb at_
  generalize getS l at_ = p at *
  obtain ⟨n, at2, e2⟩ := p
  dsimp only at *
  by_cases h2 : e2 = 0
  case neg => rw [if_neg h2] at h; exact absurd h h2
  obtain ⟨g1, g2, g3, g4, g5⟩ := hg h2
  rw [if_pos h2] at h ⊢
  by_cases h3 : n < 0 ∨ 4096 < n
  · rw [if_pos h3] at h; exact absurd h (by decide)
  rw [if_neg h3] at h ⊢
  by_cases h4 : (l.length : Int) - at2 - 2 < n
  · rw [if_pos h4] at h; exact absurd h (by decide)
  rw [if_neg h4] at h ⊢
  by_cases h5 : (l.length : Int) - at2 - 2 > n
  · rw [if_pos h5] at h; exact absurd h (by decide)
  rw [if_neg h5] at h ⊢
  by_cases h6 : (openB l).2 = 0
  case neg => rw [if_neg h6] at h; exact absurd h h6
  rw [if_pos h6]
  dsimp only
  obtain ⟨hq, hmay⟩ := h1
  have hmay := may_in hmay
  have hq3 : q = [rd q 0, rd q 1, rd q 2] := by
    match q, hq with
    | [a, b, c], _ => rfl
  have hlen : ((l.drop at2.toNat).take n.toNat).length = n.toNat := by rw [List.length_take, List.length_drop]; omega
  have hmem : ∀ j : Nat, j < 3 → In (rd q (j : Int)) := by
    intro j hj
    rw [Wire.rd_at q j (by omega)]
    exact r1 _ (List.getElem_mem _)
  refine ⟨hmem 0 (by omega), hmem 1 (by omega), hmem 2 (by omega), fun x hx => hb x (List.mem_of_mem_drop (List.mem_of_mem_take hx)), ?_, ?_⟩
  · rw [hlen]
    exact decide_eq_true ⟨by omega, by omega, by omega, by omega, by omega⟩
  · have hs := Crc.seal_open l hb h6
    have ho : (openB l).1 = l.take (l.length - 2) := by
      unfold openB at h6 ⊢
      by_cases c1 : l.length < 2
      · rw [if_pos c1] at h6; exact absurd h6 (by decide)
      · rw [if_neg c1] at h6 ⊢
        split
        · rfl
        · rename_i c2
          rw [if_neg c2] at h6
          exact absurd h6 (by decide)
    unfold codeB
    rw [hlen]
    have hb1 : headB (rd q 0) (rd q 1) (rd q 2) n.toNat = l.take at2.toNat := by
      unfold headB
      rw [← hq3, ← r4, show ((n.toNat : Nat) : Int) = n from by omega, ← g5]
      have : (l.take at2.toNat).take at_.toNat = l.take at_.toNat := by rw [List.take_take, Nat.min_eq_left (by omega)]
      rw [← this, List.take_append_drop]
    have hb2 : l.take at2.toNat ++ (l.drop at2.toNat).take n.toNat = l.take (l.length - 2) := by
      rw [show l.length - 2 = at2.toNat + n.toNat from by omega, List.take_add]
    rw [hb1, hb2, ← ho, hs]
theorem read_none (l : List Int) (h : (readS l).2.2.2.2 ≠ 0) : readS l = (0, 0, 0, [], (readS l).2.2.2.2) := by
  unfold readS at h ⊢
  split
  · rename_i h0
    rw [if_pos h0] at h
    split
    · rename_i h1
      rw [if_pos h1] at h
      split
      · rename_i h2
        rw [if_pos h2] at h
        split
        · rfl
        rename_i h3
        rw [if_neg h3] at h
        split
        · rfl
        rename_i h4
        rw [if_neg h4] at h
        split
        · rfl
        rename_i h5
        rw [if_neg h5] at h
        split
        · rename_i h6
          rw [if_pos h6] at h
          exact absurd rfl h
        · rfl
      · rfl
    · rfl
  · rfl
end Go.Proofs.YtickbejailcehaaDoor.Flash

-- Written by a program of this session (wip/pp: the kit's print, changed), out of the translation. Lean checks it.
namespace Go.Proofs.YtickbejailcehaaDoor.C
open Go.RowKit Go.Proofs.YtickbejailcehaaDoorW.PrintWords Go.Proofs.YtickbejailcehaaDoorW.PrintLast Go.Proofs.YtickbejailcehaaDoorW.PrintMore
attribute [local go_sem] max2_int min2_int max_two min_two max_three min_three max_four min_four   -- for this text's walks alone
set_option linter.unusedVariables false
set_option linter.unusedSimpArgs false

/-! ### newellaw12_awake: function 10 -/
def newellaw12_awake.j0 : Nat → List Int → Bool → Int → Int → Int → Option (Bool)
 | 0, _, _, _, _, _ => none
 | k + 1, x2, x24, x186000, x186001, x186002 => if x24 = true then (none) else ((flash_Read.f k x2).bind fun bt190 => ((flash_Write.f k ([] : List Int) ([] : List Int) x186000 x186001 x186002 ([] : List Int) 99).bind fun bt198 => ((flash_Recover.f k bt198.1 bt198.2.1).bind fun bt207 => (if 5 ≤ (x2.length : Int) then ((newelref08_Same.f k (x2.take 5) (([6, 2, 0, 6, 0] : List Int))).bind fun t223 => (if t223 = true then ((flash_Same.f bt190.1 bt190.2.1 bt190.2.2.1 bt190.2.2.2.1 x186000 x186001 x186002 ([] : List Int)).bind fun t224 => (if t224 = true then (if bt190.2.2.2.2 = 0 then (if bt198.2.2.1 = true then (if bt198.2.2.2 = 0 then ((flash_Same.f bt207.1 bt207.2.1 bt207.2.2.1 bt207.2.2.2.1 x186000 x186001 x186002 ([] : List Int)).bind fun t225 => (if t225 = true then (if bt207.2.2.2.2.1 = true then (none) else (if bt207.2.2.2.2.2 = 0 then ((flash_Same.f bt190.1 bt190.2.1 bt190.2.2.1 bt190.2.2.2.1 0 0 0 ([] : List Int)).bind fun t226 => (some (!t226))) else (none))) else (none))) else (none)) else (none)) else (none)) else (none))) else (none))) else (none)))))
def newellaw12_awake.f (k : Nat)  : Option (Bool) := (flash_Code.f k 1 0 3 ([] : List Int)).bind fun bt186 => (if (bt186.1.length : Int) = 7 then (newellaw12_awake.j0 k bt186.1 (bt186.2 != 0) 1 0 3) else (none))
theorem newellaw12_awake.mono_l : ∀ k, (∀ y0 y1 y2 y3 y4, LeO (newellaw12_awake.j0 k y0 y1 y2 y3 y4) (newellaw12_awake.j0 (k + 1) y0 y1 y2 y3 y4))
 | 0 => fun _ _ _ _ _ r h => by simp [newellaw12_awake.j0] at h
 | k + 1 => by
  have ih0 := newellaw12_awake.mono_l k
  ·intro y0 y1 y2 y3 y4
   unfold newellaw12_awake.j0
   repeat' first
   | (with_reducible exact ih0 _ _ _ _ _)
   | (with_reducible exact flash_Code.mono _ _ _ _ _)
   | (with_reducible exact flash_Read.mono _ _)
   | (with_reducible exact flash_Recover.mono _ _ _)
   | (with_reducible exact flash_Write.mono _ _ _ _ _ _ _ _)
   | (with_reducible exact newelref08_Same.mono _ _ _)
   | (with_reducible exact LeO.refl _)
   | (with_reducible exact LeO.none _)
   | (with_reducible refine LeO.ite ?_ ?_)
   | (with_reducible refine LeO.bind ?_ (fun _ => ?_))
   | exact ih0 _ _ _ _ _
   | exact flash_Code.mono _ _ _ _ _
   | exact flash_Read.mono _ _
   | exact flash_Recover.mono _ _ _
   | exact flash_Write.mono _ _ _ _ _ _ _ _
   | exact newelref08_Same.mono _ _ _
   | exact LeO.none _
   | refine LeO.ite ?_ ?_
   | refine LeO.bind ?_ (fun _ => ?_)
theorem newellaw12_awake.mono : ∀ k, LeO (newellaw12_awake.f k ) (newellaw12_awake.f (k + 1) ) := by
 intro  k
 have ih0 := newellaw12_awake.mono_l k
 unfold newellaw12_awake.f
 repeat' first
   | (with_reducible exact ih0 _ _ _ _ _)
   | (with_reducible exact flash_Code.mono _ _ _ _ _)
   | (with_reducible exact flash_Read.mono _ _)
   | (with_reducible exact flash_Recover.mono _ _ _)
   | (with_reducible exact flash_Write.mono _ _ _ _ _ _ _ _)
   | (with_reducible exact newelref08_Same.mono _ _ _)
   | (with_reducible exact LeO.refl _)
   | (with_reducible exact LeO.none _)
   | (with_reducible refine LeO.ite ?_ ?_)
   | (with_reducible refine LeO.bind ?_ (fun _ => ?_))
   | exact ih0 _ _ _ _ _
   | exact flash_Code.mono _ _ _ _ _
   | exact flash_Read.mono _ _
   | exact flash_Recover.mono _ _ _
   | exact flash_Write.mono _ _ _ _ _ _ _ _
   | exact newelref08_Same.mono _ _ _
   | exact LeO.none _
   | refine LeO.ite ?_ ?_
   | refine LeO.bind ?_ (fun _ => ?_)
theorem flash_Same.calls_nil11 (a0_0 : Int) (a0_1 : Int) (a0_2 : Int) (A0_3 : Option Addr) (c0_3 : Nat) (l0_3 : List Int) (a1_0 : Int) (a1_1 : Int) (a1_2 : Int) (r : Bool) (w : World) (hr0_3 : Kd.C (Kd.int .u8) w A0_3 l0_3.length l0_3) (hc0_3 : l0_3.length ≤ c0_3) (h : flash_Same.f a0_0 a0_1 a0_2 l0_3 a1_0 a1_1 a1_2 ([] : List Int) = some r) :
  Calls Tryd.prog 20 #[.agg #[.int .i64 a0_0, .int .i64 a0_1, .int .i64 a0_2, .slice A0_3 l0_3.length c0_3], .agg #[.int .i64 a1_0, .int .i64 a1_1, .int .i64 a1_2, .slice none 0 0]] w fun e w' => e = .returned (.bool r) ∧ Below w.heap.size w w' :=
 flash_Same.calls a0_0 a0_1 a0_2 A0_3 c0_3 l0_3 a1_0 a1_1 a1_2 none 0 [] r w hr0_3 hc0_3 (Kd.C_nil _ _) (Nat.le_refl _) h
set_option maxHeartbeats 8000000 in
set_option maxRecDepth 100000 in
theorem newellaw12_awake.calls (k : Nat)  (r : Bool) (w : World) (h : newellaw12_awake.f k  = some r) (ht_ : Laid.TabAt w) :
  Calls Tryd.prog 10 #[] w fun e w' => e = .returned (.bool r) ∧ Below w.heap.size w w' := by
 have HTAB := Aside0.mk ht_
 clear ht_
 have hu26 := Tryd.underlying26
 have hu24 := Tryd.underlying24
 have HB := Aside0.mk (Below.refl w.heap.size w)
 have H : ((flash_Code.f k 1 0 3 ([] : List Int)).bind fun bt186 => (if (bt186.1.length : Int) = 7 then (newellaw12_awake.j0 k bt186.1 (bt186.2 != 0) 1 0 3) else (none))) = some r := h
 clear h
 replace H := Option.bind_eq_some_iff.mp H
 obtain ⟨⟨t186, t189⟩, A10, H⟩ := H
 replace H : (if (t186.length : Int) = 7 then (newellaw12_awake.j0 k t186 (t189 != 0) 1 0 3) else (none)) = some r := H
 have A1 := Aside0.mk A10
 clear A10
 have HC2 := Aside0.mk H
 clear H
 go_enter Tryd.func10, Tryd.ntmps10
 go_upto_region 3 with (first | ((with_reducible refine gate_dst (N := 1) rfl ?_); refine box_event ?hg (N := 1) ?hd (cs := #[.int .i64 0, .int .i64 0, .int .i64 0, .slice none 0 0]) (t := 26) ?hr ?_; (case hd => rfl); (case hg => rfl); (case hr => first | (go_simp; done) | (go_simp; rfl)); intro gb185 hg w3 hbox hb; have n0_ := Aside0.mk (below_step (by repeat (first | (with_reducible first | exact HB.out | apply below_alloc | apply pw_below_drewN | apply below_drew1) | exact HB.out)) hb); have n1_ := Aside0.mk (hbox); have n2_ := Aside0.mk ((by rw [hg]; exact (below_size (by repeat (first | (with_reducible first | exact HB.out | apply below_alloc | apply pw_below_drewN | apply below_drew1) | exact HB.out))) : w.heap.size ≤ gb185)); have n3_ := Aside0.mk ((by rw [hg]; exact (below_size (by repeat (first | (with_reducible first | exact HB.out | apply below_alloc | apply pw_below_drewN | apply below_drew1) | exact HB.out))) : w.heap.size ≤ gb185)); clear HB; have HB := n0_; have BK185 := n1_; have GW185 := n2_; have GE185 := n3_; clear n0_ n1_ n2_ n3_; clear hb hbox hg; have hcz4_0 : w3.cell? ⟨gb185, 0, none⟩ = some (.int .i64 0) := (blk_cell BK185.out 0).trans rfl; have hcz4_1 : w3.cell? ⟨gb185, 1, none⟩ = some (.int .i64 0) := (blk_cell BK185.out 1).trans rfl; have hcz4_2 : w3.cell? ⟨gb185, 2, none⟩ = some (.int .i64 0) := (blk_cell BK185.out 2).trans rfl; have hcz4_3 : w3.cell? ⟨gb185, 3, none⟩ = some (.slice none 0 0) := (blk_cell BK185.out 3).trans rfl; have hfz4_0 := blk_frozen BK185.out 0; have hfz4_1 := blk_frozen BK185.out 1; have hfz4_2 := blk_frozen BK185.out 2; have hfz4_3 := blk_frozen BK185.out 3) | ((with_reducible refine gate_callee (f := 18) rfl ?_); refine goesL_ (some 15) rfl rfl Tryd.func18 (by kernel_rfl) rfl #[.agg #[.int .i64 1, .int .i64 0, .int .i64 3, .slice none 0 0]] rfl (by (try simp only [List.map_toArray, List.map_cons, List.map_nil]); first | done | rfl | (simp only [List.length_drop, List.length_take]; rfl)) ?_; (refine (flash_Code.calls k 1 0 3 _ _ ([] : List Int) t186 t189 _ ?side1 ?side2 A1.out (by first | exact HTAB.out | ((repeat (first | exact HTAB.out | (with_reducible refine Laid.tab_alloc ?_ _) | (with_reducible refine Laid.tab_drewN ?_ _) | (with_reducible refine Laid.tab_drew ?_))); done) | (refine Laid.tab_below' HTAB.out ?_; (repeat (first | (with_reducible first | exact HB.out | apply below_alloc | apply pw_below_drewN | apply below_drew1) | exact HB.out | (refine below_set ?_ (Aside0.out (by assumption)))))))).mono ?_); (case side1 => exact Kd.C_nil _ _); (case side2 => exact Nat.le_refl _); rintro e w5 ⟨v187, rfl, ho0, hb⟩; refine ⟨_, rfl, ?_⟩; have n0_ := Aside0.mk (Kd.R_lower ho0 (below_size (by repeat (first | (with_reducible first | exact HB.out | apply below_alloc | apply pw_below_drewN | apply below_drew1 | refine below_set ?_ GE185.out) | exact HB.out)))); have n1_ := Aside0.mk (blk_below (g := gb185) (o := .cells #[.int .i64 1, .int .i64 0, .int .i64 3, .slice none 0 0] 26 (0, 0)) (by (with_reducible repeat (first | refine blk_drewN ?_ _ | refine blk_drew ?_ | refine blk_alloc ?_ _)); refine blk_put (cs := #[.int .i64 1, .int .i64 0, .int .i64 3, .slice none 0 0]) ?_ 3 _ rfl; (with_reducible repeat (first | refine blk_drewN ?_ _ | refine blk_drew ?_ | refine blk_alloc ?_ _)); refine blk_put (cs := #[.int .i64 1, .int .i64 0, .int .i64 0, .slice none 0 0]) ?_ 2 _ rfl; (with_reducible repeat (first | refine blk_drewN ?_ _ | refine blk_drew ?_ | refine blk_alloc ?_ _)); refine blk_put (cs := #[.int .i64 1, .int .i64 0, .int .i64 0, .slice none 0 0]) ?_ 1 _ rfl; (with_reducible repeat (first | refine blk_drewN ?_ _ | refine blk_drew ?_ | refine blk_alloc ?_ _)); refine blk_put (cs := #[.int .i64 0, .int .i64 0, .int .i64 0, .slice none 0 0]) ?_ 0 _ rfl; (with_reducible repeat (first | refine blk_drewN ?_ _ | refine blk_drew ?_ | refine blk_alloc ?_ _)); exact BK185.out) hb); have n2_ := Aside0.mk (below_step (by repeat (first | (with_reducible first | exact HB.out | apply below_alloc | apply pw_below_drewN | apply below_drew1 | refine below_set ?_ GE185.out) | exact HB.out)) hb); clear BK185; clear HB; have HO188 := n0_; have BK185 := n1_; have HB := n2_; clear n0_ n1_ n2_; (try clear hb); (try clear hb2); (try clear hk); (try clear hi); (try clear ho0)))
 (try simp only [Act.put, List.setIfInBounds_toArray, List.set_cons_zero, List.set_cons_succ])
 go_cut [24] (fun v24 wc => ∃ (kq : Nat) (x24_1 : Bool), v24 = .bool x24_1 ∧ Aside0 (newellaw12_awake.j0 kq t186 x24_1 1 0 3 = some r) ∧ Aside0 (kq ≤ k) ∧ Aside0 (Kd.R (Kd.int .u8) 5 wc w.heap.size (fun _ => True) v187 t186) ∧ Aside0 (wc.heap[gb185]? = some (.cells #[.int .i64 1, .int .i64 0, .int .i64 3, (.slice none 0 0)] 26 (0, 0))) ∧ Aside0 (Below w.heap.size w wc))
 case first =>
  have H := HC2.out
  clear HC2
  by_cases c6 : (t186.length : Int) = 7
  ·rw [if_pos c6] at H
   have c6b0 : ((t186.length : Int) == 7) = true := beq_iff_eq.mpr c6
   have c6b1 : ((t186.length : Int) != 7) = false := bne_eq_false_iff_eq.mpr c6
   clear c6
   (first | rw [c6b0] | (simp only [i64_w, i32_w]; rw [c6b0]) | skip)
   have H' := Aside0.mk H
   clear H
   obtain ⟨Ao7, co7, eo7⟩ := Kd.R_slice HO188.out
   subst eo7
   go_wp2
   go_meet
   case rel => exact ⟨_, ((t189 != 0)), (by first | rfl | (simp; done) | (simp [*]; done)), H', ⟨by first | omega | exact Nat.le_refl _⟩, ⟨by (with_reducible repeat (first | apply Kd.R_alloc | apply Kd.R_drewN | apply Kd.R_drew)); exact HO188.out⟩, ⟨by (with_reducible repeat (first | refine blk_drewN ?_ _ | refine blk_drew ?_ | refine blk_alloc ?_ _)); exact BK185.out⟩, ⟨by repeat (first | (with_reducible first | exact HB.out | apply below_alloc | apply pw_below_drewN | apply below_drew1 | refine below_set ?_ GE185.out) | exact HB.out)⟩⟩
  ·rw [if_neg c6] at H
   exact absurd H (by simp)
 case rest =>
  clear HC2
  try clear c1
  try clear p2
  try clear c6
  try clear c6b0
  try clear c6b1
  try clear hcz4_0
  try clear hcz4_1
  try clear hcz4_2
  try clear hcz4_3
  try clear hfz4_0
  try clear hfz4_1
  try clear hfz4_2
  try clear hfz4_3
  obtain ⟨kq, x24_1, rfl, HA, HJ1, HO_2, BK185, HB⟩ := hcut
  cases kq with
  | zero => exact absurd HA.out (by simp [newellaw12_awake.j0])
  | succ kj1 =>
   have H := HA.out
   clear HA
   simp only [newellaw12_awake.j0] at H
   by_cases c8 : x24_1 = true
   ·subst c8
    have H1 : (none) = some r := by rw [if_pos rfl] at H; exact H
    clear H
    have H := H1
    clear H1
    exact absurd H (by simp)
   ·replace c8 := Bool.eq_false_iff.mpr c8
    subst c8
    have H1 : ((flash_Read.f kj1 t186).bind fun bt190 => ((flash_Write.f kj1 ([] : List Int) ([] : List Int) 1 0 3 ([] : List Int) 99).bind fun bt198 => ((flash_Recover.f kj1 bt198.1 bt198.2.1).bind fun bt207 => (if 5 ≤ (t186.length : Int) then ((newelref08_Same.f kj1 (t186.take 5) (([6, 2, 0, 6, 0] : List Int))).bind fun t223 => (if t223 = true then ((flash_Same.f bt190.1 bt190.2.1 bt190.2.2.1 bt190.2.2.2.1 1 0 3 ([] : List Int)).bind fun t224 => (if t224 = true then (if bt190.2.2.2.2 = 0 then (if bt198.2.2.1 = true then (if bt198.2.2.2 = 0 then ((flash_Same.f bt207.1 bt207.2.1 bt207.2.2.1 bt207.2.2.2.1 1 0 3 ([] : List Int)).bind fun t225 => (if t225 = true then (if bt207.2.2.2.2.1 = true then (none) else (if bt207.2.2.2.2.2 = 0 then ((flash_Same.f bt190.1 bt190.2.1 bt190.2.2.1 bt190.2.2.2.1 0 0 0 ([] : List Int)).bind fun t226 => (some (!t226))) else (none))) else (none))) else (none)) else (none)) else (none)) else (none))) else (none))) else (none))))) = some r := by rw [if_neg (show ¬ (false = true) by decide)] at H; exact H
    clear H
    have H := H1
    clear H1
    replace H := Option.bind_eq_some_iff.mp H
    obtain ⟨⟨t190, t191, t192, t193, t196⟩, A90, H⟩ := H
    replace H : ((flash_Write.f kj1 ([] : List Int) ([] : List Int) 1 0 3 ([] : List Int) 99).bind fun bt198 => ((flash_Recover.f kj1 bt198.1 bt198.2.1).bind fun bt207 => (if 5 ≤ (t186.length : Int) then ((newelref08_Same.f kj1 (t186.take 5) (([6, 2, 0, 6, 0] : List Int))).bind fun t223 => (if t223 = true then ((flash_Same.f t190 t191 t192 t193 1 0 3 ([] : List Int)).bind fun t224 => (if t224 = true then (if t196 = 0 then (if bt198.2.2.1 = true then (if bt198.2.2.2 = 0 then ((flash_Same.f bt207.1 bt207.2.1 bt207.2.2.1 bt207.2.2.2.1 1 0 3 ([] : List Int)).bind fun t225 => (if t225 = true then (if bt207.2.2.2.2.1 = true then (none) else (if bt207.2.2.2.2.2 = 0 then ((flash_Same.f t190 t191 t192 t193 0 0 0 ([] : List Int)).bind fun t226 => (some (!t226))) else (none))) else (none))) else (none)) else (none)) else (none)) else (none))) else (none))) else (none)))) = some r := H
    have A9 := Aside0.mk A90
    clear A90
    replace H := Option.bind_eq_some_iff.mp H
    obtain ⟨⟨t198, t201, t204, t205⟩, A100, H⟩ := H
    replace H : ((flash_Recover.f kj1 t198 t201).bind fun bt207 => (if 5 ≤ (t186.length : Int) then ((newelref08_Same.f kj1 (t186.take 5) (([6, 2, 0, 6, 0] : List Int))).bind fun t223 => (if t223 = true then ((flash_Same.f t190 t191 t192 t193 1 0 3 ([] : List Int)).bind fun t224 => (if t224 = true then (if t196 = 0 then (if t204 = true then (if t205 = 0 then ((flash_Same.f bt207.1 bt207.2.1 bt207.2.2.1 bt207.2.2.2.1 1 0 3 ([] : List Int)).bind fun t225 => (if t225 = true then (if bt207.2.2.2.2.1 = true then (none) else (if bt207.2.2.2.2.2 = 0 then ((flash_Same.f t190 t191 t192 t193 0 0 0 ([] : List Int)).bind fun t226 => (some (!t226))) else (none))) else (none))) else (none)) else (none)) else (none)) else (none))) else (none))) else (none))) = some r := H
    have A10 := Aside0.mk A100
    clear A100
    replace H := Option.bind_eq_some_iff.mp H
    obtain ⟨⟨t207, t208, t209, t210, t213, t214⟩, A110, H⟩ := H
    replace H : (if 5 ≤ (t186.length : Int) then ((newelref08_Same.f kj1 (t186.take 5) (([6, 2, 0, 6, 0] : List Int))).bind fun t223 => (if t223 = true then ((flash_Same.f t190 t191 t192 t193 1 0 3 ([] : List Int)).bind fun t224 => (if t224 = true then (if t196 = 0 then (if t204 = true then (if t205 = 0 then ((flash_Same.f t207 t208 t209 t210 1 0 3 ([] : List Int)).bind fun t225 => (if t225 = true then (if t213 = true then (none) else (if t214 = 0 then ((flash_Same.f t190 t191 t192 t193 0 0 0 ([] : List Int)).bind fun t226 => (some (!t226))) else (none))) else (none))) else (none)) else (none)) else (none)) else (none))) else (none))) else (none)) = some r := H
    have A11 := Aside0.mk A110
    clear A110
    by_cases c12 : 5 ≤ (t186.length : Int)
    ·rw [if_pos c12] at H
     have c12b0 := eq_true c12
     have c12b1 : decide (5 ≤ (t186.length : Int)) = true := decide_eq_true c12
     clear c12
     obtain ⟨y216, hy216⟩ : ∃ y_ : List Int, y_ = (t186.take 5) := ⟨_, rfl⟩
     replace H : ((newelref08_Same.f kj1 y216 (([6, 2, 0, 6, 0] : List Int))).bind fun t223 => (if t223 = true then ((flash_Same.f t190 t191 t192 t193 1 0 3 ([] : List Int)).bind fun t224 => (if t224 = true then (if t196 = 0 then (if t204 = true then (if t205 = 0 then ((flash_Same.f t207 t208 t209 t210 1 0 3 ([] : List Int)).bind fun t225 => (if t225 = true then (if t213 = true then (none) else (if t214 = 0 then ((flash_Same.f t190 t191 t192 t193 0 0 0 ([] : List Int)).bind fun t226 => (some (!t226))) else (none))) else (none))) else (none)) else (none)) else (none)) else (none))) else (none))) = some r := by first | (rw [hy216]; with_reducible exact H) | (have H2_ := (Option.bind_some _ _).symm.trans H; rw [hy216]; with_reducible exact H2_) | (have H2_ := (Option.bind_some _ _).symm.trans H; with_reducible exact H2_) | with_reducible exact H | (rw [hy216]; exact H) | exact H
     have Ny216 := Aside0.mk hy216
     clear hy216
     obtain ⟨y220, hy220⟩ : ∃ y_ : List Int, y_ = (([6, 2, 0, 6, 0] : List Int)) := ⟨_, rfl⟩
     replace H : ((newelref08_Same.f kj1 y216 y220).bind fun t223 => (if t223 = true then ((flash_Same.f t190 t191 t192 t193 1 0 3 ([] : List Int)).bind fun t224 => (if t224 = true then (if t196 = 0 then (if t204 = true then (if t205 = 0 then ((flash_Same.f t207 t208 t209 t210 1 0 3 ([] : List Int)).bind fun t225 => (if t225 = true then (if t213 = true then (none) else (if t214 = 0 then ((flash_Same.f t190 t191 t192 t193 0 0 0 ([] : List Int)).bind fun t226 => (some (!t226))) else (none))) else (none))) else (none)) else (none)) else (none)) else (none))) else (none))) = some r := by first | (rw [hy220]; with_reducible exact H) | (have H2_ := (Option.bind_some _ _).symm.trans H; rw [hy220]; with_reducible exact H2_) | (have H2_ := (Option.bind_some _ _).symm.trans H; with_reducible exact H2_) | with_reducible exact H | (rw [hy220]; exact H) | exact H
     have Ny220 := Aside0.mk hy220
     clear hy220
     replace H := Option.bind_eq_some_iff.mp H
     obtain ⟨t223, A130, H⟩ := H
     replace H : (if t223 = true then ((flash_Same.f t190 t191 t192 t193 1 0 3 ([] : List Int)).bind fun t224 => (if t224 = true then (if t196 = 0 then (if t204 = true then (if t205 = 0 then ((flash_Same.f t207 t208 t209 t210 1 0 3 ([] : List Int)).bind fun t225 => (if t225 = true then (if t213 = true then (none) else (if t214 = 0 then ((flash_Same.f t190 t191 t192 t193 0 0 0 ([] : List Int)).bind fun t226 => (some (!t226))) else (none))) else (none))) else (none)) else (none)) else (none)) else (none))) else (none)) = some r := H
     have A13 := Aside0.mk A130
     clear A130
     by_cases c14 : t223 = true
     ·subst c14
      have H1 : ((flash_Same.f t190 t191 t192 t193 1 0 3 ([] : List Int)).bind fun t224 => (if t224 = true then (if t196 = 0 then (if t204 = true then (if t205 = 0 then ((flash_Same.f t207 t208 t209 t210 1 0 3 ([] : List Int)).bind fun t225 => (if t225 = true then (if t213 = true then (none) else (if t214 = 0 then ((flash_Same.f t190 t191 t192 t193 0 0 0 ([] : List Int)).bind fun t226 => (some (!t226))) else (none))) else (none))) else (none)) else (none)) else (none)) else (none))) = some r := by rw [if_pos rfl] at H; exact H
      clear H
      have H := H1
      clear H1
      replace H := Option.bind_eq_some_iff.mp H
      obtain ⟨t224, A150, H⟩ := H
      replace H : (if t224 = true then (if t196 = 0 then (if t204 = true then (if t205 = 0 then ((flash_Same.f t207 t208 t209 t210 1 0 3 ([] : List Int)).bind fun t225 => (if t225 = true then (if t213 = true then (none) else (if t214 = 0 then ((flash_Same.f t190 t191 t192 t193 0 0 0 ([] : List Int)).bind fun t226 => (some (!t226))) else (none))) else (none))) else (none)) else (none)) else (none)) else (none)) = some r := H
      have A15 := Aside0.mk A150
      clear A150
      by_cases c16 : t224 = true
      ·subst c16
       have H1 : (if t196 = 0 then (if t204 = true then (if t205 = 0 then ((flash_Same.f t207 t208 t209 t210 1 0 3 ([] : List Int)).bind fun t225 => (if t225 = true then (if t213 = true then (none) else (if t214 = 0 then ((flash_Same.f t190 t191 t192 t193 0 0 0 ([] : List Int)).bind fun t226 => (some (!t226))) else (none))) else (none))) else (none)) else (none)) else (none)) = some r := by rw [if_pos rfl] at H; exact H
       clear H
       have H := H1
       clear H1
       by_cases c17 : t196 = 0
       ·rw [if_pos c17] at H
        have c17b0 : (t196 == 0) = true := beq_iff_eq.mpr c17
        have c17b1 : (t196 != 0) = false := bne_eq_false_iff_eq.mpr c17
        clear c17
        by_cases c18 : t204 = true
        ·subst c18
         have H1 : (if t205 = 0 then ((flash_Same.f t207 t208 t209 t210 1 0 3 ([] : List Int)).bind fun t225 => (if t225 = true then (if t213 = true then (none) else (if t214 = 0 then ((flash_Same.f t190 t191 t192 t193 0 0 0 ([] : List Int)).bind fun t226 => (some (!t226))) else (none))) else (none))) else (none)) = some r := by rw [if_pos rfl] at H; exact H
         clear H
         have H := H1
         clear H1
         by_cases c19 : t205 = 0
         ·rw [if_pos c19] at H
          have c19b0 : (t205 == 0) = true := beq_iff_eq.mpr c19
          have c19b1 : (t205 != 0) = false := bne_eq_false_iff_eq.mpr c19
          clear c19
          replace H := Option.bind_eq_some_iff.mp H
          obtain ⟨t225, A200, H⟩ := H
          replace H : (if t225 = true then (if t213 = true then (none) else (if t214 = 0 then ((flash_Same.f t190 t191 t192 t193 0 0 0 ([] : List Int)).bind fun t226 => (some (!t226))) else (none))) else (none)) = some r := H
          have A20 := Aside0.mk A200
          clear A200
          by_cases c21 : t225 = true
          ·subst c21
           have H1 : (if t213 = true then (none) else (if t214 = 0 then ((flash_Same.f t190 t191 t192 t193 0 0 0 ([] : List Int)).bind fun t226 => (some (!t226))) else (none))) = some r := by rw [if_pos rfl] at H; exact H
           clear H
           have H := H1
           clear H1
           by_cases c22 : t213 = true
           ·subst c22
            have H1 : (none) = some r := by rw [if_pos rfl] at H; exact H
            clear H
            have H := H1
            clear H1
            exact absurd H (by simp)
           ·replace c22 := Bool.eq_false_iff.mpr c22
            subst c22
            have H1 : (if t214 = 0 then ((flash_Same.f t190 t191 t192 t193 0 0 0 ([] : List Int)).bind fun t226 => (some (!t226))) else (none)) = some r := by rw [if_neg (show ¬ (false = true) by decide)] at H; exact H
            clear H
            have H := H1
            clear H1
            by_cases c23 : t214 = 0
            ·rw [if_pos c23] at H
             have c23b0 : (t214 == 0) = true := beq_iff_eq.mpr c23
             have c23b1 : (t214 != 0) = false := bne_eq_false_iff_eq.mpr c23
             clear c23
             replace H := Option.bind_eq_some_iff.mp H
             obtain ⟨t226, A240, H⟩ := H
             replace H : (some (!t226)) = some r := H
             have A24 := Aside0.mk A240
             clear A240
             obtain rfl := Option.some.inj H
             obtain ⟨Ao25, co25, eo25⟩ := Kd.R_slice HO_2.out
             subst eo25
             go_wp2_with (first | ((with_reducible refine gate_callee (f := 19) rfl ?_); refine goesL_ (some 27) rfl rfl Tryd.func19 (by kernel_rfl) rfl #[.slice Ao25 t186.length co25] rfl (by (try simp only [List.map_toArray, List.map_cons, List.map_nil]); first | done | rfl | (simp only [List.length_drop, List.length_take]; rfl)) ?_; (with_reducible refine (flash_Read.calls kj1 _ _ t186 t190 t191 t192 t193 t196 _ ?side1 ?side2 A9.out (by first | exact HTAB.out | ((repeat (first | exact HTAB.out | (with_reducible refine Laid.tab_alloc ?_ _) | (with_reducible refine Laid.tab_drewN ?_ _) | (with_reducible refine Laid.tab_drew ?_))); done) | (refine Laid.tab_below' HTAB.out ?_; (repeat (first | (with_reducible first | exact HB.out | apply below_alloc | apply pw_below_drewN | apply below_drew1) | exact HB.out | (refine below_set ?_ (Aside0.out (by assumption)))))))).mono ?_); (case side1 => repeat (first | exact (Kd.R_reads' HO_2.out).2.2 | (with_reducible refine Kd.C_alloc ?_ _) | (with_reducible refine Kd.C_drewN ?_ _) | (with_reducible refine Kd.C_drew ?_))); (case side2 => exact (Kd.R_reads' HO_2.out).2.1); rintro e w26 ⟨v194, rfl, ho0, hb⟩; refine ⟨_, rfl, ?_⟩; have n0_ := Aside0.mk (Kd.R_elder' (by (with_reducible repeat (first | apply Kd.R_alloc | apply Kd.R_drewN | apply Kd.R_drew)); exact HO_2.out) (Kd.R_base ho0) hb); have n1_ := Aside0.mk (Kd.R_lower (Kd.R_new' ho0 (Kd.R_lt (by (with_reducible repeat (first | apply Kd.R_alloc | apply Kd.R_drewN | apply Kd.R_drew)); exact HO_2.out))) (below_size (by repeat (first | (with_reducible first | exact HB.out | apply below_alloc | apply pw_below_drewN | apply below_drew1 | refine below_set ?_ GE185.out) | exact HB.out)))); have n2_ := Aside0.mk (blk_below (g := gb185) (o := .cells #[.int .i64 1, .int .i64 0, .int .i64 3, .slice none 0 0] 26 (0, 0)) (by (with_reducible repeat (first | refine blk_drewN ?_ _ | refine blk_drew ?_ | refine blk_alloc ?_ _)); exact BK185.out) hb); have n3_ := Aside0.mk (below_step (by repeat (first | (with_reducible first | exact HB.out | apply below_alloc | apply pw_below_drewN | apply below_drew1 | refine below_set ?_ GE185.out) | exact HB.out)) hb); clear HO_2; clear BK185; clear HB; have HO_2 := n0_; have HO195 := n1_; have BK185 := n2_; have HB := n3_; clear n0_ n1_ n2_ n3_; (try clear hb); (try clear hb2); (try clear hk); (try clear hi); (try clear ho0)) | ((with_reducible refine gate_dst (N := 4) rfl ?_); refine box_event ?hg (N := 4) ?hd (cs := #[.int .i64 0, .int .i64 0, .int .i64 0, .slice none 0 0]) (t := 26) ?hr ?_; (case hd => rfl); (case hg => rfl); (case hr => first | (go_simp; done) | (go_simp; rfl)); intro gb197 hg w27 hbox hb; have n0_ := Aside0.mk (Kd.R_below (by (with_reducible repeat (first | apply Kd.R_alloc | apply Kd.R_drewN | apply Kd.R_drew)); exact HO_2.out) hb); have n1_ := Aside0.mk (Kd.R_below (by (with_reducible repeat (first | apply Kd.R_alloc | apply Kd.R_drewN | apply Kd.R_drew)); exact HO195.out) hb); have n2_ := Aside0.mk (blk_below (g := gb185) (o := .cells #[.int .i64 1, .int .i64 0, .int .i64 3, .slice none 0 0] 26 (0, 0)) (by (with_reducible repeat (first | refine blk_drewN ?_ _ | refine blk_drew ?_ | refine blk_alloc ?_ _)); exact BK185.out) hb); have n3_ := Aside0.mk (below_step (by repeat (first | (with_reducible first | exact HB.out | apply below_alloc | apply pw_below_drewN | apply below_drew1 | refine below_set ?_ GE185.out) | exact HB.out)) hb); have n4_ := Aside0.mk (hbox); have n5_ := Aside0.mk ((by rw [hg]; exact (below_size (by repeat (first | (with_reducible first | exact HB.out | apply below_alloc | apply pw_below_drewN | apply below_drew1 | refine below_set ?_ GE185.out) | exact HB.out))) : w.heap.size ≤ gb197)); have n6_ := Aside0.mk ((by rw [hg]; exact (below_size (by repeat (first | (with_reducible first | exact HB.out | apply below_alloc | apply pw_below_drewN | apply below_drew1 | refine below_set ?_ GE185.out) | exact HB.out))) : w.heap.size ≤ gb197)); have n7_ := Aside0.mk ((by rw [hg]; exact Nat.ne_of_lt (blk_lt (g := gb185) (o := .cells #[.int .i64 1, .int .i64 0, .int .i64 3, .slice none 0 0] 26 (0, 0)) (by (with_reducible repeat (first | refine blk_drewN ?_ _ | refine blk_drew ?_ | refine blk_alloc ?_ _)); exact BK185.out)) : gb185 ≠ gb197)); have n8_ := Aside0.mk ((by rw [hg]; exact Nat.ne_of_gt (blk_lt (g := gb185) (o := .cells #[.int .i64 1, .int .i64 0, .int .i64 3, .slice none 0 0] 26 (0, 0)) (by (with_reducible repeat (first | refine blk_drewN ?_ _ | refine blk_drew ?_ | refine blk_alloc ?_ _)); exact BK185.out)) : gb197 ≠ gb185)); clear HO_2; clear HO195; clear BK185; clear HB; have HO_2 := n0_; have HO195 := n1_; have BK185 := n2_; have HB := n3_; have BK197 := n4_; have GW197 := n5_; have GE197 := n6_; have NB185_197 := n7_; have NB197_185 := n8_; clear n0_ n1_ n2_ n3_ n4_ n5_ n6_ n7_ n8_; clear hb hbox hg; have hnb28 := NB197_185.out; have hnc28 := NB185_197.out; have hcz29_0 : w27.cell? ⟨gb197, 0, none⟩ = some (.int .i64 0) := (blk_cell BK197.out 0).trans rfl; have hcz29_1 : w27.cell? ⟨gb197, 1, none⟩ = some (.int .i64 0) := (blk_cell BK197.out 1).trans rfl; have hcz29_2 : w27.cell? ⟨gb197, 2, none⟩ = some (.int .i64 0) := (blk_cell BK197.out 2).trans rfl; have hcz29_3 : w27.cell? ⟨gb197, 3, none⟩ = some (.slice none 0 0) := (blk_cell BK197.out 3).trans rfl; have hfz29_0 := blk_frozen BK197.out 0; have hfz29_1 := blk_frozen BK197.out 1; have hfz29_2 := blk_frozen BK197.out 2; have hfz29_3 := blk_frozen BK197.out 3; obtain ⟨Ao30, co30, eo30⟩ := Kd.R_slice HO195.out; subst eo30; have hcz31_0 : w27.cell? ⟨gb185, 0, none⟩ = some (.int .i64 1) := (blk_cell BK185.out 0).trans rfl; have hcz31_1 : w27.cell? ⟨gb185, 1, none⟩ = some (.int .i64 0) := (blk_cell BK185.out 1).trans rfl; have hcz31_2 : w27.cell? ⟨gb185, 2, none⟩ = some (.int .i64 3) := (blk_cell BK185.out 2).trans rfl; have hcz31_3 : w27.cell? ⟨gb185, 3, none⟩ = some (.slice none 0 0) := (blk_cell BK185.out 3).trans rfl; have hfz31_0 := blk_frozen BK185.out 0; have hfz31_1 := blk_frozen BK185.out 1; have hfz31_2 := blk_frozen BK185.out 2; have hfz31_3 := blk_frozen BK185.out 3) | ((with_reducible refine gate_callee (f := 11) rfl ?_); refine goesL_ (some 33) rfl rfl Tryd.func11 (by kernel_rfl) rfl #[.agg #[.slice none 0 0, .slice none 0 0], .agg #[.int .i64 1, .int .i64 0, .int .i64 3, .slice none 0 0], .int .i64 99] rfl (by (try simp only [List.map_toArray, List.map_cons, List.map_nil]); first | done | rfl | (simp only [List.length_drop, List.length_take]; rfl)) ?_; (refine (flash_Write.calls kj1 _ _ ([] : List Int) _ _ ([] : List Int) 1 0 3 _ _ ([] : List Int) 99 t198 t201 true t205 _ ?side1 ?side2 ?side3 ?side4 ?side5 ?side6 A10.out (by first | exact HTAB.out | ((repeat (first | exact HTAB.out | (with_reducible refine Laid.tab_alloc ?_ _) | (with_reducible refine Laid.tab_drewN ?_ _) | (with_reducible refine Laid.tab_drew ?_))); done) | (refine Laid.tab_below' HTAB.out ?_; (repeat (first | (with_reducible first | exact HB.out | apply below_alloc | apply pw_below_drewN | apply below_drew1) | exact HB.out | (refine below_set ?_ (Aside0.out (by assumption)))))))).mono ?_); (case side1 => exact Kd.C_nil _ _); (case side2 => exact Nat.le_refl _); (case side3 => exact Kd.C_nil _ _); (case side4 => exact Nat.le_refl _); (case side5 => exact Kd.C_nil _ _); (case side6 => exact Nat.le_refl _); rintro e w32 ⟨v199, v202, rfl, ho0, ho1, hb⟩; refine ⟨_, rfl, ?_⟩; have n0_ := Aside0.mk (Kd.R_mono (Kd.R_told (Kd.R_told (Kd.R_old (by (with_reducible repeat (first | apply Kd.R_alloc | apply Kd.R_drewN | apply Kd.R_drew)); exact (Kd.R_mono (Kd.R_far (p := ⟨gb197, 3, none⟩) (Kd.R_far (p := ⟨gb197, 2, none⟩) (Kd.R_far (p := ⟨gb197, 1, none⟩) (Kd.R_far (p := ⟨gb197, 0, none⟩) (Kd.R_types HO_2.out BK197.out (by decide)) (fun _ hk => hk.2) (.int .i64 t190)) (fun _ hk => hk.2) (.int .i64 t191)) (fun _ hk => hk.2) (.int .i64 t192)) (fun _ hk => hk.2) (.slice Ao30 t193.length co30)) (fun _ h_ => h_.1))) hb) (Kd.R_base ho0)) (Kd.R_base ho1)) (fun _ h_ => h_.1)); have n1_ := Aside0.mk (Kd.R_mono (Kd.R_told (Kd.R_told (Kd.R_old (by (with_reducible repeat (first | apply Kd.R_alloc | apply Kd.R_drewN | apply Kd.R_drew)); exact (Kd.R_mono (Kd.R_far (p := ⟨gb197, 3, none⟩) (Kd.R_far (p := ⟨gb197, 2, none⟩) (Kd.R_far (p := ⟨gb197, 1, none⟩) (Kd.R_far (p := ⟨gb197, 0, none⟩) (Kd.R_types HO195.out BK197.out (by decide)) (fun _ hk => hk.2) (.int .i64 t190)) (fun _ hk => hk.2) (.int .i64 t191)) (fun _ hk => hk.2) (.int .i64 t192)) (fun _ hk => hk.2) (.slice Ao30 t193.length co30)) (fun _ h_ => h_.1))) hb) (Kd.R_base ho0)) (Kd.R_base ho1)) (fun _ h_ => h_.1)); have n2_ := Aside0.mk (Kd.R_lower (Kd.R_new' (Kd.R_new' ho0 (Kd.R_lt (by (with_reducible repeat (first | apply Kd.R_alloc | apply Kd.R_drewN | apply Kd.R_drew)); exact (Kd.R_mono (Kd.R_far (p := ⟨gb197, 3, none⟩) (Kd.R_far (p := ⟨gb197, 2, none⟩) (Kd.R_far (p := ⟨gb197, 1, none⟩) (Kd.R_far (p := ⟨gb197, 0, none⟩) (Kd.R_types HO_2.out BK197.out (by decide)) (fun _ hk => hk.2) (.int .i64 t190)) (fun _ hk => hk.2) (.int .i64 t191)) (fun _ hk => hk.2) (.int .i64 t192)) (fun _ hk => hk.2) (.slice Ao30 t193.length co30)) (fun _ h_ => h_.1))))) (Kd.R_lt (by (with_reducible repeat (first | apply Kd.R_alloc | apply Kd.R_drewN | apply Kd.R_drew)); exact (Kd.R_mono (Kd.R_far (p := ⟨gb197, 3, none⟩) (Kd.R_far (p := ⟨gb197, 2, none⟩) (Kd.R_far (p := ⟨gb197, 1, none⟩) (Kd.R_far (p := ⟨gb197, 0, none⟩) (Kd.R_types HO195.out BK197.out (by decide)) (fun _ hk => hk.2) (.int .i64 t190)) (fun _ hk => hk.2) (.int .i64 t191)) (fun _ hk => hk.2) (.int .i64 t192)) (fun _ hk => hk.2) (.slice Ao30 t193.length co30)) (fun _ h_ => h_.1))))) (below_size (by repeat (first | (with_reducible first | exact HB.out | apply below_alloc | apply pw_below_drewN | apply below_drew1 | refine below_set ?_ GE185.out | refine below_set ?_ GE197.out) | exact HB.out)))); have n3_ := Aside0.mk (Kd.R_lower (Kd.R_new' (Kd.R_new' ho1 (Kd.R_lt (by (with_reducible repeat (first | apply Kd.R_alloc | apply Kd.R_drewN | apply Kd.R_drew)); exact (Kd.R_mono (Kd.R_far (p := ⟨gb197, 3, none⟩) (Kd.R_far (p := ⟨gb197, 2, none⟩) (Kd.R_far (p := ⟨gb197, 1, none⟩) (Kd.R_far (p := ⟨gb197, 0, none⟩) (Kd.R_types HO_2.out BK197.out (by decide)) (fun _ hk => hk.2) (.int .i64 t190)) (fun _ hk => hk.2) (.int .i64 t191)) (fun _ hk => hk.2) (.int .i64 t192)) (fun _ hk => hk.2) (.slice Ao30 t193.length co30)) (fun _ h_ => h_.1))))) (Kd.R_lt (by (with_reducible repeat (first | apply Kd.R_alloc | apply Kd.R_drewN | apply Kd.R_drew)); exact (Kd.R_mono (Kd.R_far (p := ⟨gb197, 3, none⟩) (Kd.R_far (p := ⟨gb197, 2, none⟩) (Kd.R_far (p := ⟨gb197, 1, none⟩) (Kd.R_far (p := ⟨gb197, 0, none⟩) (Kd.R_types HO195.out BK197.out (by decide)) (fun _ hk => hk.2) (.int .i64 t190)) (fun _ hk => hk.2) (.int .i64 t191)) (fun _ hk => hk.2) (.int .i64 t192)) (fun _ hk => hk.2) (.slice Ao30 t193.length co30)) (fun _ h_ => h_.1))))) (below_size (by repeat (first | (with_reducible first | exact HB.out | apply below_alloc | apply pw_below_drewN | apply below_drew1 | refine below_set ?_ GE185.out | refine below_set ?_ GE197.out) | exact HB.out)))); have n4_ := Aside0.mk (blk_below (g := gb185) (o := .cells #[.int .i64 1, .int .i64 0, .int .i64 3, .slice none 0 0] 26 (0, 0)) (by (with_reducible repeat (first | refine blk_drewN ?_ _ | refine blk_drew ?_ | refine blk_alloc ?_ _)); refine blk_far ?_ NB185_197.out _; (with_reducible repeat (first | refine blk_drewN ?_ _ | refine blk_drew ?_ | refine blk_alloc ?_ _)); refine blk_far ?_ NB185_197.out _; (with_reducible repeat (first | refine blk_drewN ?_ _ | refine blk_drew ?_ | refine blk_alloc ?_ _)); refine blk_far ?_ NB185_197.out _; (with_reducible repeat (first | refine blk_drewN ?_ _ | refine blk_drew ?_ | refine blk_alloc ?_ _)); refine blk_far ?_ NB185_197.out _; (with_reducible repeat (first | refine blk_drewN ?_ _ | refine blk_drew ?_ | refine blk_alloc ?_ _)); exact BK185.out) hb); have n5_ := Aside0.mk (blk_below (g := gb197) (o := .cells #[.int .i64 t190, .int .i64 t191, .int .i64 t192, .slice Ao30 t193.length co30] 26 (0, 0)) (by (with_reducible repeat (first | refine blk_drewN ?_ _ | refine blk_drew ?_ | refine blk_alloc ?_ _)); refine blk_put (cs := #[.int .i64 t190, .int .i64 t191, .int .i64 t192, .slice none 0 0]) ?_ 3 _ rfl; (with_reducible repeat (first | refine blk_drewN ?_ _ | refine blk_drew ?_ | refine blk_alloc ?_ _)); refine blk_put (cs := #[.int .i64 t190, .int .i64 t191, .int .i64 0, .slice none 0 0]) ?_ 2 _ rfl; (with_reducible repeat (first | refine blk_drewN ?_ _ | refine blk_drew ?_ | refine blk_alloc ?_ _)); refine blk_put (cs := #[.int .i64 t190, .int .i64 0, .int .i64 0, .slice none 0 0]) ?_ 1 _ rfl; (with_reducible repeat (first | refine blk_drewN ?_ _ | refine blk_drew ?_ | refine blk_alloc ?_ _)); refine blk_put (cs := #[.int .i64 0, .int .i64 0, .int .i64 0, .slice none 0 0]) ?_ 0 _ rfl; (with_reducible repeat (first | refine blk_drewN ?_ _ | refine blk_drew ?_ | refine blk_alloc ?_ _)); exact BK197.out) hb); have n6_ := Aside0.mk (below_step (by repeat (first | (with_reducible first | exact HB.out | apply below_alloc | apply pw_below_drewN | apply below_drew1 | refine below_set ?_ GE185.out | refine below_set ?_ GE197.out) | exact HB.out)) hb); clear HO_2; clear HO195; clear BK185; clear BK197; clear HB; have HO_2 := n0_; have HO195 := n1_; have HO200 := n2_; have HO203 := n3_; have BK185 := n4_; have BK197 := n5_; have HB := n6_; clear n0_ n1_ n2_ n3_ n4_ n5_ n6_; (try clear hb); (try clear hb2); (try clear hk); (try clear hi); (try clear ho0); (try clear ho1)) | ((with_reducible refine gate_dst (N := 6) rfl ?_); refine box_event ?hg (N := 6) ?hd (cs := #[.slice none 0 0, .slice none 0 0]) (t := 24) ?hr ?_; (case hd => rfl); (case hg => rfl); (case hr => first | (go_simp; done) | (go_simp; rfl)); intro gb206 hg w33 hbox hb; have n0_ := Aside0.mk (Kd.R_below (by (with_reducible repeat (first | apply Kd.R_alloc | apply Kd.R_drewN | apply Kd.R_drew)); exact HO_2.out) hb); have n1_ := Aside0.mk (Kd.R_below (by (with_reducible repeat (first | apply Kd.R_alloc | apply Kd.R_drewN | apply Kd.R_drew)); exact HO195.out) hb); have n2_ := Aside0.mk (Kd.R_below (by (with_reducible repeat (first | apply Kd.R_alloc | apply Kd.R_drewN | apply Kd.R_drew)); exact HO200.out) hb); have n3_ := Aside0.mk (Kd.R_below (by (with_reducible repeat (first | apply Kd.R_alloc | apply Kd.R_drewN | apply Kd.R_drew)); exact HO203.out) hb); have n4_ := Aside0.mk (blk_below (g := gb185) (o := .cells #[.int .i64 1, .int .i64 0, .int .i64 3, .slice none 0 0] 26 (0, 0)) (by (with_reducible repeat (first | refine blk_drewN ?_ _ | refine blk_drew ?_ | refine blk_alloc ?_ _)); exact BK185.out) hb); have n5_ := Aside0.mk (blk_below (g := gb197) (o := .cells #[.int .i64 t190, .int .i64 t191, .int .i64 t192, .slice Ao30 t193.length co30] 26 (0, 0)) (by (with_reducible repeat (first | refine blk_drewN ?_ _ | refine blk_drew ?_ | refine blk_alloc ?_ _)); exact BK197.out) hb); have n6_ := Aside0.mk (below_step (by repeat (first | (with_reducible first | exact HB.out | apply below_alloc | apply pw_below_drewN | apply below_drew1 | refine below_set ?_ GE185.out | refine below_set ?_ GE197.out) | exact HB.out)) hb); have n7_ := Aside0.mk (hbox); have n8_ := Aside0.mk ((by rw [hg]; exact (below_size (by repeat (first | (with_reducible first | exact HB.out | apply below_alloc | apply pw_below_drewN | apply below_drew1 | refine below_set ?_ GE185.out | refine below_set ?_ GE197.out) | exact HB.out))) : w.heap.size ≤ gb206)); have n9_ := Aside0.mk ((by rw [hg]; exact (below_size (by repeat (first | (with_reducible first | exact HB.out | apply below_alloc | apply pw_below_drewN | apply below_drew1 | refine below_set ?_ GE185.out | refine below_set ?_ GE197.out) | exact HB.out))) : w.heap.size ≤ gb206)); have n10_ := Aside0.mk ((by rw [hg]; exact Nat.ne_of_lt (blk_lt (g := gb185) (o := .cells #[.int .i64 1, .int .i64 0, .int .i64 3, .slice none 0 0] 26 (0, 0)) (by (with_reducible repeat (first | refine blk_drewN ?_ _ | refine blk_drew ?_ | refine blk_alloc ?_ _)); exact BK185.out)) : gb185 ≠ gb206)); have n11_ := Aside0.mk ((by rw [hg]; exact Nat.ne_of_gt (blk_lt (g := gb185) (o := .cells #[.int .i64 1, .int .i64 0, .int .i64 3, .slice none 0 0] 26 (0, 0)) (by (with_reducible repeat (first | refine blk_drewN ?_ _ | refine blk_drew ?_ | refine blk_alloc ?_ _)); exact BK185.out)) : gb206 ≠ gb185)); have n12_ := Aside0.mk ((by rw [hg]; exact Nat.ne_of_lt (blk_lt (g := gb197) (o := .cells #[.int .i64 t190, .int .i64 t191, .int .i64 t192, .slice Ao30 t193.length co30] 26 (0, 0)) (by (with_reducible repeat (first | refine blk_drewN ?_ _ | refine blk_drew ?_ | refine blk_alloc ?_ _)); exact BK197.out)) : gb197 ≠ gb206)); have n13_ := Aside0.mk ((by rw [hg]; exact Nat.ne_of_gt (blk_lt (g := gb197) (o := .cells #[.int .i64 t190, .int .i64 t191, .int .i64 t192, .slice Ao30 t193.length co30] 26 (0, 0)) (by (with_reducible repeat (first | refine blk_drewN ?_ _ | refine blk_drew ?_ | refine blk_alloc ?_ _)); exact BK197.out)) : gb206 ≠ gb197)); clear HO_2; clear HO195; clear HO200; clear HO203; clear BK185; clear BK197; clear HB; have HO_2 := n0_; have HO195 := n1_; have HO200 := n2_; have HO203 := n3_; have BK185 := n4_; have BK197 := n5_; have HB := n6_; have BK206 := n7_; have GW206 := n8_; have GE206 := n9_; have NB185_206 := n10_; have NB206_185 := n11_; have NB197_206 := n12_; have NB206_197 := n13_; clear n0_ n1_ n2_ n3_ n4_ n5_ n6_ n7_ n8_ n9_ n10_ n11_ n12_ n13_; clear hb hbox hg; obtain ⟨Ao34, co34, eo34⟩ := Kd.R_slice HO200.out; subst eo34; have hnb35 := NB206_185.out; have hnc35 := NB185_206.out; have hnb36 := NB206_197.out; have hnc36 := NB197_206.out; have hcz37_0 : w33.cell? ⟨gb206, 0, none⟩ = some (.slice none 0 0) := (blk_cell BK206.out 0).trans rfl; have hcz37_1 : w33.cell? ⟨gb206, 1, none⟩ = some (.slice none 0 0) := (blk_cell BK206.out 1).trans rfl; have hfz37_0 := blk_frozen BK206.out 0; have hfz37_1 := blk_frozen BK206.out 1; obtain ⟨Ao38, co38, eo38⟩ := Kd.R_slice HO203.out; subst eo38) | ((with_reducible refine gate_callee (f := 14) rfl ?_); refine goesL_ (some 39) rfl rfl Tryd.func14 (by kernel_rfl) rfl #[.agg #[.slice Ao34 t198.length co34, .slice Ao38 t201.length co38]] rfl (by (try simp only [List.map_toArray, List.map_cons, List.map_nil]); first | done | rfl | (simp only [List.length_drop, List.length_take]; rfl)) ?_; (with_reducible refine (flash_Recover.calls kj1 _ _ t198 _ _ t201 t207 t208 t209 t210 false t214 _ ?side1 ?side2 ?side3 ?side4 A11.out (by first | exact HTAB.out | ((repeat (first | exact HTAB.out | (with_reducible refine Laid.tab_alloc ?_ _) | (with_reducible refine Laid.tab_drewN ?_ _) | (with_reducible refine Laid.tab_drew ?_))); done) | (refine Laid.tab_below' HTAB.out ?_; (repeat (first | (with_reducible first | exact HB.out | apply below_alloc | apply pw_below_drewN | apply below_drew1) | exact HB.out | (refine below_set ?_ (Aside0.out (by assumption)))))))).mono ?_); (case side1 => refine (Kd.R_reads' (e := 5) (base := w.heap.size) (ok := fun k_ => ((some k_ ≠ (.slice Ao38 t201.length co38 : Value).ownBlock ∧ some k_ ≠ (.slice Ao25 t186.length co25 : Value).ownBlock) ∧ some k_ ≠ (.slice Ao30 t193.length co30 : Value).ownBlock)) (n := t198.length) (c := co34) ?_).2.2; exact (by (with_reducible repeat (first | apply Kd.R_alloc | apply Kd.R_drewN | apply Kd.R_drew)); exact (Kd.R_mono (Kd.R_far (p := ⟨gb206, 1, none⟩) (Kd.R_far (p := ⟨gb206, 0, none⟩) (Kd.R_types HO200.out BK206.out (by decide)) (fun _ hk => hk.2) (.slice Ao34 t198.length co34)) (fun _ hk => hk.2) (.slice Ao38 t201.length co38)) (fun _ h_ => h_.1)))); (case side2 => exact (Kd.R_reads' HO200.out).2.1); (case side3 => refine (Kd.R_reads' (e := 5) (base := w.heap.size) (ok := fun k_ => ((some k_ ≠ (.slice Ao34 t198.length co34 : Value).ownBlock ∧ some k_ ≠ (.slice Ao25 t186.length co25 : Value).ownBlock) ∧ some k_ ≠ (.slice Ao30 t193.length co30 : Value).ownBlock)) (n := t201.length) (c := co38) ?_).2.2; exact (by (with_reducible repeat (first | apply Kd.R_alloc | apply Kd.R_drewN | apply Kd.R_drew)); exact (Kd.R_mono (Kd.R_far (p := ⟨gb206, 1, none⟩) (Kd.R_far (p := ⟨gb206, 0, none⟩) (Kd.R_types HO203.out BK206.out (by decide)) (fun _ hk => hk.2) (.slice Ao34 t198.length co34)) (fun _ hk => hk.2) (.slice Ao38 t201.length co38)) (fun _ h_ => h_.1)))); (case side4 => exact (Kd.R_reads' HO203.out).2.1); rintro e w39 ⟨v211, rfl, ho0, hb⟩; refine ⟨_, rfl, ?_⟩; have n0_ := Aside0.mk (Kd.R_elder' (by (with_reducible repeat (first | apply Kd.R_alloc | apply Kd.R_drewN | apply Kd.R_drew)); exact (Kd.R_mono (Kd.R_far (p := ⟨gb206, 1, none⟩) (Kd.R_far (p := ⟨gb206, 0, none⟩) (Kd.R_types HO_2.out BK206.out (by decide)) (fun _ hk => hk.2) (.slice Ao34 t198.length co34)) (fun _ hk => hk.2) (.slice Ao38 t201.length co38)) (fun _ h_ => h_.1))) (Kd.R_base ho0) hb); have n1_ := Aside0.mk (Kd.R_elder' (by (with_reducible repeat (first | apply Kd.R_alloc | apply Kd.R_drewN | apply Kd.R_drew)); exact (Kd.R_mono (Kd.R_far (p := ⟨gb206, 1, none⟩) (Kd.R_far (p := ⟨gb206, 0, none⟩) (Kd.R_types HO195.out BK206.out (by decide)) (fun _ hk => hk.2) (.slice Ao34 t198.length co34)) (fun _ hk => hk.2) (.slice Ao38 t201.length co38)) (fun _ h_ => h_.1))) (Kd.R_base ho0) hb); have n2_ := Aside0.mk (Kd.R_elder' (by (with_reducible repeat (first | apply Kd.R_alloc | apply Kd.R_drewN | apply Kd.R_drew)); exact (Kd.R_mono (Kd.R_far (p := ⟨gb206, 1, none⟩) (Kd.R_far (p := ⟨gb206, 0, none⟩) (Kd.R_types HO200.out BK206.out (by decide)) (fun _ hk => hk.2) (.slice Ao34 t198.length co34)) (fun _ hk => hk.2) (.slice Ao38 t201.length co38)) (fun _ h_ => h_.1))) (Kd.R_base ho0) hb); have n3_ := Aside0.mk (Kd.R_elder' (by (with_reducible repeat (first | apply Kd.R_alloc | apply Kd.R_drewN | apply Kd.R_drew)); exact (Kd.R_mono (Kd.R_far (p := ⟨gb206, 1, none⟩) (Kd.R_far (p := ⟨gb206, 0, none⟩) (Kd.R_types HO203.out BK206.out (by decide)) (fun _ hk => hk.2) (.slice Ao34 t198.length co34)) (fun _ hk => hk.2) (.slice Ao38 t201.length co38)) (fun _ h_ => h_.1))) (Kd.R_base ho0) hb); have n4_ := Aside0.mk (Kd.R_lower (Kd.R_new' (Kd.R_new' (Kd.R_new' (Kd.R_new' ho0 (Kd.R_lt (by (with_reducible repeat (first | apply Kd.R_alloc | apply Kd.R_drewN | apply Kd.R_drew)); exact (Kd.R_mono (Kd.R_far (p := ⟨gb206, 1, none⟩) (Kd.R_far (p := ⟨gb206, 0, none⟩) (Kd.R_types HO_2.out BK206.out (by decide)) (fun _ hk => hk.2) (.slice Ao34 t198.length co34)) (fun _ hk => hk.2) (.slice Ao38 t201.length co38)) (fun _ h_ => h_.1))))) (Kd.R_lt (by (with_reducible repeat (first | apply Kd.R_alloc | apply Kd.R_drewN | apply Kd.R_drew)); exact (Kd.R_mono (Kd.R_far (p := ⟨gb206, 1, none⟩) (Kd.R_far (p := ⟨gb206, 0, none⟩) (Kd.R_types HO195.out BK206.out (by decide)) (fun _ hk => hk.2) (.slice Ao34 t198.length co34)) (fun _ hk => hk.2) (.slice Ao38 t201.length co38)) (fun _ h_ => h_.1))))) (Kd.R_lt (by (with_reducible repeat (first | apply Kd.R_alloc | apply Kd.R_drewN | apply Kd.R_drew)); exact (Kd.R_mono (Kd.R_far (p := ⟨gb206, 1, none⟩) (Kd.R_far (p := ⟨gb206, 0, none⟩) (Kd.R_types HO200.out BK206.out (by decide)) (fun _ hk => hk.2) (.slice Ao34 t198.length co34)) (fun _ hk => hk.2) (.slice Ao38 t201.length co38)) (fun _ h_ => h_.1))))) (Kd.R_lt (by (with_reducible repeat (first | apply Kd.R_alloc | apply Kd.R_drewN | apply Kd.R_drew)); exact (Kd.R_mono (Kd.R_far (p := ⟨gb206, 1, none⟩) (Kd.R_far (p := ⟨gb206, 0, none⟩) (Kd.R_types HO203.out BK206.out (by decide)) (fun _ hk => hk.2) (.slice Ao34 t198.length co34)) (fun _ hk => hk.2) (.slice Ao38 t201.length co38)) (fun _ h_ => h_.1))))) (below_size (by repeat (first | (with_reducible first | exact HB.out | apply below_alloc | apply pw_below_drewN | apply below_drew1 | refine below_set ?_ GE185.out | refine below_set ?_ GE197.out | refine below_set ?_ GE206.out) | exact HB.out)))); have n5_ := Aside0.mk (blk_below (g := gb185) (o := .cells #[.int .i64 1, .int .i64 0, .int .i64 3, .slice none 0 0] 26 (0, 0)) (by (with_reducible repeat (first | refine blk_drewN ?_ _ | refine blk_drew ?_ | refine blk_alloc ?_ _)); refine blk_far ?_ NB185_206.out _; (with_reducible repeat (first | refine blk_drewN ?_ _ | refine blk_drew ?_ | refine blk_alloc ?_ _)); refine blk_far ?_ NB185_206.out _; (with_reducible repeat (first | refine blk_drewN ?_ _ | refine blk_drew ?_ | refine blk_alloc ?_ _)); exact BK185.out) hb); have n6_ := Aside0.mk (blk_below (g := gb197) (o := .cells #[.int .i64 t190, .int .i64 t191, .int .i64 t192, .slice Ao30 t193.length co30] 26 (0, 0)) (by (with_reducible repeat (first | refine blk_drewN ?_ _ | refine blk_drew ?_ | refine blk_alloc ?_ _)); refine blk_far ?_ NB197_206.out _; (with_reducible repeat (first | refine blk_drewN ?_ _ | refine blk_drew ?_ | refine blk_alloc ?_ _)); refine blk_far ?_ NB197_206.out _; (with_reducible repeat (first | refine blk_drewN ?_ _ | refine blk_drew ?_ | refine blk_alloc ?_ _)); exact BK197.out) hb); have n7_ := Aside0.mk (blk_below (g := gb206) (o := .cells #[.slice Ao34 t198.length co34, .slice Ao38 t201.length co38] 24 (0, 0)) (by (with_reducible repeat (first | refine blk_drewN ?_ _ | refine blk_drew ?_ | refine blk_alloc ?_ _)); refine blk_put (cs := #[.slice Ao34 t198.length co34, .slice none 0 0]) ?_ 1 _ rfl; (with_reducible repeat (first | refine blk_drewN ?_ _ | refine blk_drew ?_ | refine blk_alloc ?_ _)); refine blk_put (cs := #[.slice none 0 0, .slice none 0 0]) ?_ 0 _ rfl; (with_reducible repeat (first | refine blk_drewN ?_ _ | refine blk_drew ?_ | refine blk_alloc ?_ _)); exact BK206.out) hb); have n8_ := Aside0.mk (below_step (by repeat (first | (with_reducible first | exact HB.out | apply below_alloc | apply pw_below_drewN | apply below_drew1 | refine below_set ?_ GE185.out | refine below_set ?_ GE197.out | refine below_set ?_ GE206.out) | exact HB.out)) hb); clear HO_2; clear HO195; clear HO200; clear HO203; clear BK185; clear BK197; clear BK206; clear HB; have HO_2 := n0_; have HO195 := n1_; have HO200 := n2_; have HO203 := n3_; have HO212 := n4_; have BK185 := n5_; have BK197 := n6_; have BK206 := n7_; have HB := n8_; clear n0_ n1_ n2_ n3_ n4_ n5_ n6_ n7_ n8_; (try clear hb); (try clear hb2); (try clear hk); (try clear hi); (try clear ho0)) | ((with_reducible refine gate_dst (N := 9) rfl ?_); refine box_event ?hg (N := 9) ?hd (cs := #[.int .i64 0, .int .i64 0, .int .i64 0, .slice none 0 0]) (t := 26) ?hr ?_; (case hd => rfl); (case hg => rfl); (case hr => first | (go_simp; done) | (go_simp; rfl)); intro gb215 hg w40 hbox hb; have n0_ := Aside0.mk (Kd.R_below (by (with_reducible repeat (first | apply Kd.R_alloc | apply Kd.R_drewN | apply Kd.R_drew)); exact HO_2.out) hb); have n1_ := Aside0.mk (Kd.R_below (by (with_reducible repeat (first | apply Kd.R_alloc | apply Kd.R_drewN | apply Kd.R_drew)); exact HO195.out) hb); have n2_ := Aside0.mk (Kd.R_below (by (with_reducible repeat (first | apply Kd.R_alloc | apply Kd.R_drewN | apply Kd.R_drew)); exact HO200.out) hb); have n3_ := Aside0.mk (Kd.R_below (by (with_reducible repeat (first | apply Kd.R_alloc | apply Kd.R_drewN | apply Kd.R_drew)); exact HO203.out) hb); have n4_ := Aside0.mk (Kd.R_below (by (with_reducible repeat (first | apply Kd.R_alloc | apply Kd.R_drewN | apply Kd.R_drew)); exact HO212.out) hb); have n5_ := Aside0.mk (blk_below (g := gb185) (o := .cells #[.int .i64 1, .int .i64 0, .int .i64 3, .slice none 0 0] 26 (0, 0)) (by (with_reducible repeat (first | refine blk_drewN ?_ _ | refine blk_drew ?_ | refine blk_alloc ?_ _)); exact BK185.out) hb); have n6_ := Aside0.mk (blk_below (g := gb197) (o := .cells #[.int .i64 t190, .int .i64 t191, .int .i64 t192, .slice Ao30 t193.length co30] 26 (0, 0)) (by (with_reducible repeat (first | refine blk_drewN ?_ _ | refine blk_drew ?_ | refine blk_alloc ?_ _)); exact BK197.out) hb); have n7_ := Aside0.mk (blk_below (g := gb206) (o := .cells #[.slice Ao34 t198.length co34, .slice Ao38 t201.length co38] 24 (0, 0)) (by (with_reducible repeat (first | refine blk_drewN ?_ _ | refine blk_drew ?_ | refine blk_alloc ?_ _)); exact BK206.out) hb); have n8_ := Aside0.mk (below_step (by repeat (first | (with_reducible first | exact HB.out | apply below_alloc | apply pw_below_drewN | apply below_drew1 | refine below_set ?_ GE185.out | refine below_set ?_ GE197.out | refine below_set ?_ GE206.out) | exact HB.out)) hb); have n9_ := Aside0.mk (hbox); have n10_ := Aside0.mk ((by rw [hg]; exact (below_size (by repeat (first | (with_reducible first | exact HB.out | apply below_alloc | apply pw_below_drewN | apply below_drew1 | refine below_set ?_ GE185.out | refine below_set ?_ GE197.out | refine below_set ?_ GE206.out) | exact HB.out))) : w.heap.size ≤ gb215)); have n11_ := Aside0.mk ((by rw [hg]; exact (below_size (by repeat (first | (with_reducible first | exact HB.out | apply below_alloc | apply pw_below_drewN | apply below_drew1 | refine below_set ?_ GE185.out | refine below_set ?_ GE197.out | refine below_set ?_ GE206.out) | exact HB.out))) : w.heap.size ≤ gb215)); have n12_ := Aside0.mk ((by rw [hg]; exact Nat.ne_of_lt (blk_lt (g := gb185) (o := .cells #[.int .i64 1, .int .i64 0, .int .i64 3, .slice none 0 0] 26 (0, 0)) (by (with_reducible repeat (first | refine blk_drewN ?_ _ | refine blk_drew ?_ | refine blk_alloc ?_ _)); exact BK185.out)) : gb185 ≠ gb215)); have n13_ := Aside0.mk ((by rw [hg]; exact Nat.ne_of_gt (blk_lt (g := gb185) (o := .cells #[.int .i64 1, .int .i64 0, .int .i64 3, .slice none 0 0] 26 (0, 0)) (by (with_reducible repeat (first | refine blk_drewN ?_ _ | refine blk_drew ?_ | refine blk_alloc ?_ _)); exact BK185.out)) : gb215 ≠ gb185)); have n14_ := Aside0.mk ((by rw [hg]; exact Nat.ne_of_lt (blk_lt (g := gb197) (o := .cells #[.int .i64 t190, .int .i64 t191, .int .i64 t192, .slice Ao30 t193.length co30] 26 (0, 0)) (by (with_reducible repeat (first | refine blk_drewN ?_ _ | refine blk_drew ?_ | refine blk_alloc ?_ _)); exact BK197.out)) : gb197 ≠ gb215)); have n15_ := Aside0.mk ((by rw [hg]; exact Nat.ne_of_gt (blk_lt (g := gb197) (o := .cells #[.int .i64 t190, .int .i64 t191, .int .i64 t192, .slice Ao30 t193.length co30] 26 (0, 0)) (by (with_reducible repeat (first | refine blk_drewN ?_ _ | refine blk_drew ?_ | refine blk_alloc ?_ _)); exact BK197.out)) : gb215 ≠ gb197)); have n16_ := Aside0.mk ((by rw [hg]; exact Nat.ne_of_lt (blk_lt (g := gb206) (o := .cells #[.slice Ao34 t198.length co34, .slice Ao38 t201.length co38] 24 (0, 0)) (by (with_reducible repeat (first | refine blk_drewN ?_ _ | refine blk_drew ?_ | refine blk_alloc ?_ _)); exact BK206.out)) : gb206 ≠ gb215)); have n17_ := Aside0.mk ((by rw [hg]; exact Nat.ne_of_gt (blk_lt (g := gb206) (o := .cells #[.slice Ao34 t198.length co34, .slice Ao38 t201.length co38] 24 (0, 0)) (by (with_reducible repeat (first | refine blk_drewN ?_ _ | refine blk_drew ?_ | refine blk_alloc ?_ _)); exact BK206.out)) : gb215 ≠ gb206)); clear HO_2; clear HO195; clear HO200; clear HO203; clear HO212; clear BK185; clear BK197; clear BK206; clear HB; have HO_2 := n0_; have HO195 := n1_; have HO200 := n2_; have HO203 := n3_; have HO212 := n4_; have BK185 := n5_; have BK197 := n6_; have BK206 := n7_; have HB := n8_; have BK215 := n9_; have GW215 := n10_; have GE215 := n11_; have NB185_215 := n12_; have NB215_185 := n13_; have NB197_215 := n14_; have NB215_197 := n15_; have NB206_215 := n16_; have NB215_206 := n17_; clear n0_ n1_ n2_ n3_ n4_ n5_ n6_ n7_ n8_ n9_ n10_ n11_ n12_ n13_ n14_ n15_ n16_ n17_; clear hb hbox hg; have hnb41 := NB215_185.out; have hnc41 := NB185_215.out; have hnb42 := NB215_197.out; have hnc42 := NB197_215.out; have hnb43 := NB215_206.out; have hnc43 := NB206_215.out; have hcz44_0 : w40.cell? ⟨gb215, 0, none⟩ = some (.int .i64 0) := (blk_cell BK215.out 0).trans rfl; have hcz44_1 : w40.cell? ⟨gb215, 1, none⟩ = some (.int .i64 0) := (blk_cell BK215.out 1).trans rfl; have hcz44_2 : w40.cell? ⟨gb215, 2, none⟩ = some (.int .i64 0) := (blk_cell BK215.out 2).trans rfl; have hcz44_3 : w40.cell? ⟨gb215, 3, none⟩ = some (.slice none 0 0) := (blk_cell BK215.out 3).trans rfl; have hfz44_0 := blk_frozen BK215.out 0; have hfz44_1 := blk_frozen BK215.out 1; have hfz44_2 := blk_frozen BK215.out 2; have hfz44_3 := blk_frozen BK215.out 3; obtain ⟨Ao45, co45, eo45⟩ := Kd.R_slice HO212.out; subst eo45) | ((with_reducible refine gate_store (t := 26) (p := 9) rfl ?_); refine store_event (t := 26) (p := 9) (v := ?vo_w46) (w1 := ((((w40.setCell ⟨gb215, 0, none⟩ (.int .i64 t207)).setCell ⟨gb215, 1, none⟩ (.int .i64 t208)).setCell ⟨gb215, 2, none⟩ (.int .i64 t209)).setCell ⟨gb215, 3, none⟩ (.slice Ao45 t210.length co45))) ?hg ?ho ?hn ?hr ?_; (case ho => rfl); (case hg => rfl); (case hn => rfl); (case hr => first | (go_simp; done) | (go_simp; rfl)); intro w46 hw; have n0_ : Aside0 (Kd.R (Kd.int .u8) 5 w46 w.heap.size (fun k_ => some k_ ≠ (.slice Ao30 t193.length co30 : Value).ownBlock ∧ some k_ ≠ (.slice Ao34 t198.length co34 : Value).ownBlock ∧ some k_ ≠ (.slice Ao38 t201.length co38 : Value).ownBlock ∧ some k_ ≠ (.slice Ao45 t210.length co45 : Value).ownBlock) (.slice Ao25 t186.length co25) t186) := ⟨(by rw [hw]; exact (by (with_reducible repeat (first | apply Kd.R_alloc | apply Kd.R_drewN | apply Kd.R_drew)); exact Kd.R_mono (Kd.R_far (p := ⟨gb215, 3, none⟩) (Kd.R_far (p := ⟨gb215, 2, none⟩) (Kd.R_far (p := ⟨gb215, 1, none⟩) (Kd.R_far (p := ⟨gb215, 0, none⟩) (Kd.R_types HO_2.out BK215.out (by decide)) (fun _ hk => hk.2) (.int .i64 t207)) (fun _ hk => hk.2) (.int .i64 t208)) (fun _ hk => hk.2) (.int .i64 t209)) (fun _ hk => hk.2) (.slice Ao45 t210.length co45)) (fun _ hk => ⟨hk.1.1.1.1.2, ⟨hk.1.1.1.2, ⟨hk.1.1.2, hk.1.2⟩⟩⟩)))⟩; have n1_ : Aside0 (Kd.R (Kd.int .u8) 5 w46 w.heap.size (fun k_ => some k_ ≠ (.slice Ao25 t186.length co25 : Value).ownBlock ∧ some k_ ≠ (.slice Ao34 t198.length co34 : Value).ownBlock ∧ some k_ ≠ (.slice Ao38 t201.length co38 : Value).ownBlock ∧ some k_ ≠ (.slice Ao45 t210.length co45 : Value).ownBlock) (.slice Ao30 t193.length co30) t193) := ⟨(by rw [hw]; exact (by (with_reducible repeat (first | apply Kd.R_alloc | apply Kd.R_drewN | apply Kd.R_drew)); exact Kd.R_mono (Kd.R_far (p := ⟨gb215, 3, none⟩) (Kd.R_far (p := ⟨gb215, 2, none⟩) (Kd.R_far (p := ⟨gb215, 1, none⟩) (Kd.R_far (p := ⟨gb215, 0, none⟩) (Kd.R_types HO195.out BK215.out (by decide)) (fun _ hk => hk.2) (.int .i64 t207)) (fun _ hk => hk.2) (.int .i64 t208)) (fun _ hk => hk.2) (.int .i64 t209)) (fun _ hk => hk.2) (.slice Ao45 t210.length co45)) (fun _ hk => ⟨hk.1.1.1.1.2, ⟨hk.1.1.1.2, ⟨hk.1.1.2, hk.1.2⟩⟩⟩)))⟩; have n2_ : Aside0 (Kd.R (Kd.int .u8) 5 w46 w.heap.size (fun k_ => some k_ ≠ (.slice Ao25 t186.length co25 : Value).ownBlock ∧ some k_ ≠ (.slice Ao30 t193.length co30 : Value).ownBlock ∧ some k_ ≠ (.slice Ao38 t201.length co38 : Value).ownBlock ∧ some k_ ≠ (.slice Ao45 t210.length co45 : Value).ownBlock) (.slice Ao34 t198.length co34) t198) := ⟨(by rw [hw]; exact (by (with_reducible repeat (first | apply Kd.R_alloc | apply Kd.R_drewN | apply Kd.R_drew)); exact Kd.R_mono (Kd.R_far (p := ⟨gb215, 3, none⟩) (Kd.R_far (p := ⟨gb215, 2, none⟩) (Kd.R_far (p := ⟨gb215, 1, none⟩) (Kd.R_far (p := ⟨gb215, 0, none⟩) (Kd.R_types HO200.out BK215.out (by decide)) (fun _ hk => hk.2) (.int .i64 t207)) (fun _ hk => hk.2) (.int .i64 t208)) (fun _ hk => hk.2) (.int .i64 t209)) (fun _ hk => hk.2) (.slice Ao45 t210.length co45)) (fun _ hk => ⟨hk.1.1.1.2, ⟨hk.1.1.2, ⟨hk.1.1.1.1, hk.1.2⟩⟩⟩)))⟩; have n3_ : Aside0 (Kd.R (Kd.int .u8) 5 w46 w.heap.size (fun k_ => some k_ ≠ (.slice Ao25 t186.length co25 : Value).ownBlock ∧ some k_ ≠ (.slice Ao30 t193.length co30 : Value).ownBlock ∧ some k_ ≠ (.slice Ao34 t198.length co34 : Value).ownBlock ∧ some k_ ≠ (.slice Ao45 t210.length co45 : Value).ownBlock) (.slice Ao38 t201.length co38) t201) := ⟨(by rw [hw]; exact (by (with_reducible repeat (first | apply Kd.R_alloc | apply Kd.R_drewN | apply Kd.R_drew)); exact Kd.R_mono (Kd.R_far (p := ⟨gb215, 3, none⟩) (Kd.R_far (p := ⟨gb215, 2, none⟩) (Kd.R_far (p := ⟨gb215, 1, none⟩) (Kd.R_far (p := ⟨gb215, 0, none⟩) (Kd.R_types HO203.out BK215.out (by decide)) (fun _ hk => hk.2) (.int .i64 t207)) (fun _ hk => hk.2) (.int .i64 t208)) (fun _ hk => hk.2) (.int .i64 t209)) (fun _ hk => hk.2) (.slice Ao45 t210.length co45)) (fun _ hk => ⟨hk.1.1.1.2, ⟨hk.1.1.2, ⟨hk.1.1.1.1, hk.1.2⟩⟩⟩)))⟩; have n4_ : Aside0 (Kd.R (Kd.int .u8) 5 w46 w.heap.size (fun k_ => some k_ ≠ (.slice Ao25 t186.length co25 : Value).ownBlock ∧ some k_ ≠ (.slice Ao30 t193.length co30 : Value).ownBlock ∧ some k_ ≠ (.slice Ao34 t198.length co34 : Value).ownBlock ∧ some k_ ≠ (.slice Ao38 t201.length co38 : Value).ownBlock) (.slice Ao45 t210.length co45) t210) := ⟨(by rw [hw]; exact (by (with_reducible repeat (first | apply Kd.R_alloc | apply Kd.R_drewN | apply Kd.R_drew)); exact Kd.R_mono (Kd.R_far (p := ⟨gb215, 3, none⟩) (Kd.R_far (p := ⟨gb215, 2, none⟩) (Kd.R_far (p := ⟨gb215, 1, none⟩) (Kd.R_far (p := ⟨gb215, 0, none⟩) (Kd.R_types HO212.out BK215.out (by decide)) (fun _ hk => hk.2) (.int .i64 t207)) (fun _ hk => hk.2) (.int .i64 t208)) (fun _ hk => hk.2) (.int .i64 t209)) (fun _ hk => hk.2) (.slice Ao45 t210.length co45)) (fun _ hk => ⟨hk.1.1.1.1.2, ⟨hk.1.1.1.2, ⟨hk.1.1.2, hk.1.2⟩⟩⟩)))⟩; have n5_ : Aside0 (w46.heap[gb185]? = some (.cells #[.int .i64 1, .int .i64 0, .int .i64 3, .slice none 0 0] 26 (0, 0))) := ⟨(by rw [hw]; exact (by (with_reducible repeat (first | refine blk_drewN ?_ _ | refine blk_drew ?_ | refine blk_alloc ?_ _)); refine blk_far ?_ NB185_215.out _; (with_reducible repeat (first | refine blk_drewN ?_ _ | refine blk_drew ?_ | refine blk_alloc ?_ _)); refine blk_far ?_ NB185_215.out _; (with_reducible repeat (first | refine blk_drewN ?_ _ | refine blk_drew ?_ | refine blk_alloc ?_ _)); refine blk_far ?_ NB185_215.out _; (with_reducible repeat (first | refine blk_drewN ?_ _ | refine blk_drew ?_ | refine blk_alloc ?_ _)); refine blk_far ?_ NB185_215.out _; (with_reducible repeat (first | refine blk_drewN ?_ _ | refine blk_drew ?_ | refine blk_alloc ?_ _)); exact BK185.out))⟩; have n6_ : Aside0 (w46.heap[gb197]? = some (.cells #[.int .i64 t190, .int .i64 t191, .int .i64 t192, .slice Ao30 t193.length co30] 26 (0, 0))) := ⟨(by rw [hw]; exact (by (with_reducible repeat (first | refine blk_drewN ?_ _ | refine blk_drew ?_ | refine blk_alloc ?_ _)); refine blk_far ?_ NB197_215.out _; (with_reducible repeat (first | refine blk_drewN ?_ _ | refine blk_drew ?_ | refine blk_alloc ?_ _)); refine blk_far ?_ NB197_215.out _; (with_reducible repeat (first | refine blk_drewN ?_ _ | refine blk_drew ?_ | refine blk_alloc ?_ _)); refine blk_far ?_ NB197_215.out _; (with_reducible repeat (first | refine blk_drewN ?_ _ | refine blk_drew ?_ | refine blk_alloc ?_ _)); refine blk_far ?_ NB197_215.out _; (with_reducible repeat (first | refine blk_drewN ?_ _ | refine blk_drew ?_ | refine blk_alloc ?_ _)); exact BK197.out))⟩; have n7_ : Aside0 (w46.heap[gb206]? = some (.cells #[.slice Ao34 t198.length co34, .slice Ao38 t201.length co38] 24 (0, 0))) := ⟨(by rw [hw]; exact (by (with_reducible repeat (first | refine blk_drewN ?_ _ | refine blk_drew ?_ | refine blk_alloc ?_ _)); refine blk_far ?_ NB206_215.out _; (with_reducible repeat (first | refine blk_drewN ?_ _ | refine blk_drew ?_ | refine blk_alloc ?_ _)); refine blk_far ?_ NB206_215.out _; (with_reducible repeat (first | refine blk_drewN ?_ _ | refine blk_drew ?_ | refine blk_alloc ?_ _)); refine blk_far ?_ NB206_215.out _; (with_reducible repeat (first | refine blk_drewN ?_ _ | refine blk_drew ?_ | refine blk_alloc ?_ _)); refine blk_far ?_ NB206_215.out _; (with_reducible repeat (first | refine blk_drewN ?_ _ | refine blk_drew ?_ | refine blk_alloc ?_ _)); exact BK206.out))⟩; have n8_ : Aside0 (w46.heap[gb215]? = some (.cells #[.int .i64 t207, .int .i64 t208, .int .i64 t209, .slice Ao45 t210.length co45] 26 (0, 0))) := ⟨(by rw [hw]; exact (by (with_reducible repeat (first | refine blk_drewN ?_ _ | refine blk_drew ?_ | refine blk_alloc ?_ _)); refine blk_put (cs := #[.int .i64 t207, .int .i64 t208, .int .i64 t209, .slice none 0 0]) ?_ 3 _ rfl; (with_reducible repeat (first | refine blk_drewN ?_ _ | refine blk_drew ?_ | refine blk_alloc ?_ _)); refine blk_put (cs := #[.int .i64 t207, .int .i64 t208, .int .i64 0, .slice none 0 0]) ?_ 2 _ rfl; (with_reducible repeat (first | refine blk_drewN ?_ _ | refine blk_drew ?_ | refine blk_alloc ?_ _)); refine blk_put (cs := #[.int .i64 t207, .int .i64 0, .int .i64 0, .slice none 0 0]) ?_ 1 _ rfl; (with_reducible repeat (first | refine blk_drewN ?_ _ | refine blk_drew ?_ | refine blk_alloc ?_ _)); refine blk_put (cs := #[.int .i64 0, .int .i64 0, .int .i64 0, .slice none 0 0]) ?_ 0 _ rfl; (with_reducible repeat (first | refine blk_drewN ?_ _ | refine blk_drew ?_ | refine blk_alloc ?_ _)); exact BK215.out))⟩; have n9_ : Aside0 (Below w.heap.size w w46) := ⟨(by rw [hw]; exact (by repeat (first | (with_reducible first | exact HB.out | apply below_alloc | apply pw_below_drewN | apply below_drew1 | refine below_set ?_ GE185.out | refine below_set ?_ GE197.out | refine below_set ?_ GE206.out | refine below_set ?_ GE215.out) | exact HB.out)))⟩; clear hw; clear HO_2; clear HO195; clear HO200; clear HO203; clear HO212; clear BK185; clear BK197; clear BK206; clear BK215; clear HB; have HO_2 := n0_; have HO195 := n1_; have HO200 := n2_; have HO203 := n3_; have HO212 := n4_; have BK185 := n5_; have BK197 := n6_; have BK206 := n7_; have BK215 := n8_; have HB := n9_; clear n0_ n1_ n2_ n3_ n4_ n5_ n6_ n7_ n8_ n9_; have q47 : (5 : Int) ≤ ((t186.length : Int) : Int) := of_decide_eq_true (by first | (with_reducible assumption) | assumption); obtain ⟨i047, hi047, _, hsz47, _⟩ := info_parts info5; have hroom47 : t186.length ≤ co25 := (Kd.R_reads' HO_2.out).2.1; have hC47 : Kd.C (Kd.int .u8) _ Ao25 t186.length t186 := (Kd.R_reads' HO_2.out).2.2; have hcut47 := cut_to (P := Tryd.prog) 22 5 .i64 Tryd.underlying22 hi047 Ao25 t186.length co25 5 (by omega) q47 hroom47; have hr47 := Kd.C_take (m := 5) hC47 (by omega); have hy47 : y216.length = (5 : Int).toNat := (by rw [Ny216.out, List.length_take]; omega); rw [← Ny216.out] at hr47; rw [← hy47] at hcut47; have HR219 := Aside0.mk hr47; have HC219 := Aside0.mk (show y216.length ≤ co25 from by omega); clear hr47 hC47 hroom47 hi047 hsz47; have KY47 := Aside0.mk hy47; clear hy47; have KL47 := Aside0.mk (show 5 ≤ t186.length from by omega); replace q47 := eq_true q47) | ((with_reducible refine gate_dst (N := 45) rfl ?_); refine Kd.R_lit (Kd.int .u8) _ 5 ?hg (N := 45) ?hd (xs := ([6, 2, 0, 6, 0] : List Int)) (inner := [.int .u8 6, .int .u8 2, .int .u8 0, .int .u8 6, .int .u8 0]) (ok := fun _ => True) (okp := fun _ => True) ?hr ?hp (fun _ hk => hk) trivial (Below.refl _ _) (Nat.le_refl _) (by simp) ?_; (case hd => rfl); (case hg => rfl); (case hr => first | (go_simp; done) | (go_simp; rfl)); (case hp => exact (Reps.one (show Kd.M (Kd.int .u8) _ _ _ 6 [.int .u8 6] from rfl) (Reps.one (show Kd.M (Kd.int .u8) _ _ _ 2 [.int .u8 2] from rfl) (Reps.one (show Kd.M (Kd.int .u8) _ _ _ 0 [.int .u8 0] from rfl) (Reps.one (show Kd.M (Kd.int .u8) _ _ _ 6 [.int .u8 6] from rfl) (Reps.one (show Kd.M (Kd.int .u8) _ _ _ 0 [.int .u8 0] from rfl) (Reps.none _ _))))))); intro v221 w48 ho49 hb hg_ hnew_; clear hg_ hnew_; (first | rw [← Ny220.out] at ho49 | (simp only [Int.reduceToNat] at ho49; rw [← Ny220.out] at ho49)); have n0_ := Aside0.mk (Kd.R_elder' (by (with_reducible repeat (first | apply Kd.R_alloc | apply Kd.R_drewN | apply Kd.R_drew)); exact HO_2.out) (Kd.R_base ho49) hb); have n1_ := Aside0.mk (Kd.R_elder' (by (with_reducible repeat (first | apply Kd.R_alloc | apply Kd.R_drewN | apply Kd.R_drew)); exact HO195.out) (Kd.R_base ho49) hb); have n2_ := Aside0.mk (Kd.R_elder' (by (with_reducible repeat (first | apply Kd.R_alloc | apply Kd.R_drewN | apply Kd.R_drew)); exact HO200.out) (Kd.R_base ho49) hb); have n3_ := Aside0.mk (Kd.R_elder' (by (with_reducible repeat (first | apply Kd.R_alloc | apply Kd.R_drewN | apply Kd.R_drew)); exact HO203.out) (Kd.R_base ho49) hb); have n4_ := Aside0.mk (Kd.R_elder' (by (with_reducible repeat (first | apply Kd.R_alloc | apply Kd.R_drewN | apply Kd.R_drew)); exact HO212.out) (Kd.R_base ho49) hb); have n5_ := Aside0.mk (Kd.R_lower (Kd.R_new' (Kd.R_new' (Kd.R_new' (Kd.R_new' (Kd.R_new' ho49 (Kd.R_lt (by (with_reducible repeat (first | apply Kd.R_alloc | apply Kd.R_drewN | apply Kd.R_drew)); exact HO_2.out))) (Kd.R_lt (by (with_reducible repeat (first | apply Kd.R_alloc | apply Kd.R_drewN | apply Kd.R_drew)); exact HO195.out))) (Kd.R_lt (by (with_reducible repeat (first | apply Kd.R_alloc | apply Kd.R_drewN | apply Kd.R_drew)); exact HO200.out))) (Kd.R_lt (by (with_reducible repeat (first | apply Kd.R_alloc | apply Kd.R_drewN | apply Kd.R_drew)); exact HO203.out))) (Kd.R_lt (by (with_reducible repeat (first | apply Kd.R_alloc | apply Kd.R_drewN | apply Kd.R_drew)); exact HO212.out))) (below_size (by repeat (first | (with_reducible first | exact HB.out | apply below_alloc | apply pw_below_drewN | apply below_drew1 | refine below_set ?_ GE185.out | refine below_set ?_ GE197.out | refine below_set ?_ GE206.out | refine below_set ?_ GE215.out) | exact HB.out)))); have n6_ := Aside0.mk (blk_below (g := gb185) (o := .cells #[.int .i64 1, .int .i64 0, .int .i64 3, .slice none 0 0] 26 (0, 0)) (by (with_reducible repeat (first | refine blk_drewN ?_ _ | refine blk_drew ?_ | refine blk_alloc ?_ _)); exact BK185.out) hb); have n7_ := Aside0.mk (blk_below (g := gb197) (o := .cells #[.int .i64 t190, .int .i64 t191, .int .i64 t192, .slice Ao30 t193.length co30] 26 (0, 0)) (by (with_reducible repeat (first | refine blk_drewN ?_ _ | refine blk_drew ?_ | refine blk_alloc ?_ _)); exact BK197.out) hb); have n8_ := Aside0.mk (blk_below (g := gb206) (o := .cells #[.slice Ao34 t198.length co34, .slice Ao38 t201.length co38] 24 (0, 0)) (by (with_reducible repeat (first | refine blk_drewN ?_ _ | refine blk_drew ?_ | refine blk_alloc ?_ _)); exact BK206.out) hb); have n9_ := Aside0.mk (blk_below (g := gb215) (o := .cells #[.int .i64 t207, .int .i64 t208, .int .i64 t209, .slice Ao45 t210.length co45] 26 (0, 0)) (by (with_reducible repeat (first | refine blk_drewN ?_ _ | refine blk_drew ?_ | refine blk_alloc ?_ _)); exact BK215.out) hb); have n10_ := Aside0.mk (Kd.C_below (by repeat (first | (with_reducible exact HR219.out) | (with_reducible refine Kd.C_alloc ?_ _) | (with_reducible refine Kd.C_drewN ?_ _) | (with_reducible refine Kd.C_drew ?_) | exact HR219.out)) hb); have n11_ := Aside0.mk (below_step (by repeat (first | (with_reducible first | exact HB.out | apply below_alloc | apply pw_below_drewN | apply below_drew1 | refine below_set ?_ GE185.out | refine below_set ?_ GE197.out | refine below_set ?_ GE206.out | refine below_set ?_ GE215.out) | exact HB.out)) hb); clear HO_2; clear HO195; clear HO200; clear HO203; clear HO212; clear BK185; clear BK197; clear BK206; clear BK215; clear HR219; clear HB; have HO_2 := n0_; have HO195 := n1_; have HO200 := n2_; have HO203 := n3_; have HO212 := n4_; have HO222 := n5_; have BK185 := n6_; have BK197 := n7_; have BK206 := n8_; have BK215 := n9_; have HR219 := n10_; have HB := n11_; clear n0_ n1_ n2_ n3_ n4_ n5_ n6_ n7_ n8_ n9_ n10_ n11_; clear hb ho49; obtain ⟨Ao50, co50, eo50⟩ := Kd.R_slice HO222.out; subst eo50) | ((with_reducible refine gate_callee (f := 17) rfl ?_); refine goesL_ (some 46) rfl rfl Tryd.func17 (by kernel_rfl) rfl #[.slice Ao25 y216.length co25, .slice Ao50 y220.length co50] rfl (by (try simp only [List.map_toArray, List.map_cons, List.map_nil]); first | done | rfl | (simp only [List.length_drop, List.length_take]; rfl)) ?_; (with_reducible refine (newelref08_Same.calls kj1 _ _ y216 _ _ y220 true _ ?side1 ?side2 ?side3 ?side4 A13.out).mono ?_); (case side1 => repeat (first | exact (by repeat (first | (with_reducible exact HR219.out) | (with_reducible refine Kd.C_alloc ?_ _) | (with_reducible refine Kd.C_drewN ?_ _) | (with_reducible refine Kd.C_drew ?_) | exact HR219.out)) | (with_reducible refine Kd.C_alloc ?_ _) | (with_reducible refine Kd.C_drewN ?_ _) | (with_reducible refine Kd.C_drew ?_))); (case side2 => exact HC219.out); (case side3 => repeat (first | exact (Kd.R_reads' HO222.out).2.2 | (with_reducible refine Kd.C_alloc ?_ _) | (with_reducible refine Kd.C_drewN ?_ _) | (with_reducible refine Kd.C_drew ?_))); (case side4 => exact (Kd.R_reads' HO222.out).2.1); rintro e w' ⟨rfl, ⟨nd, rfl⟩⟩; refine ⟨_, rfl, ?_⟩; have hcz51_0 : w48.cell? ⟨gb197, 0, none⟩ = some (.int .i64 t190) := (blk_cell BK197.out 0).trans rfl; have hcz51_1 : w48.cell? ⟨gb197, 1, none⟩ = some (.int .i64 t191) := (blk_cell BK197.out 1).trans rfl; have hcz51_2 : w48.cell? ⟨gb197, 2, none⟩ = some (.int .i64 t192) := (blk_cell BK197.out 2).trans rfl; have hcz51_3 : w48.cell? ⟨gb197, 3, none⟩ = some (.slice Ao30 t193.length co30) := (blk_cell BK197.out 3).trans rfl; have hfz51_0 := blk_frozen BK197.out 0; have hfz51_1 := blk_frozen BK197.out 1; have hfz51_2 := blk_frozen BK197.out 2; have hfz51_3 := blk_frozen BK197.out 3; have hcz52_0 : w48.cell? ⟨gb185, 0, none⟩ = some (.int .i64 1) := (blk_cell BK185.out 0).trans rfl; have hcz52_1 : w48.cell? ⟨gb185, 1, none⟩ = some (.int .i64 0) := (blk_cell BK185.out 1).trans rfl; have hcz52_2 : w48.cell? ⟨gb185, 2, none⟩ = some (.int .i64 3) := (blk_cell BK185.out 2).trans rfl; have hcz52_3 : w48.cell? ⟨gb185, 3, none⟩ = some (.slice none 0 0) := (blk_cell BK185.out 3).trans rfl; have hfz52_0 := blk_frozen BK185.out 0; have hfz52_1 := blk_frozen BK185.out 1; have hfz52_2 := blk_frozen BK185.out 2; have hfz52_3 := blk_frozen BK185.out 3) | (go_at_call 20; (with_reducible refine (flash_Same.calls_nil11 t190 t191 t192 _ _ t193 1 0 3 true _ ?side1 ?side2 A15.out).mono ?_); (case side1 => repeat (first | exact (Kd.R_reads' HO195.out).2.2 | (with_reducible refine Kd.C_alloc ?_ _) | (with_reducible refine Kd.C_drewN ?_ _) | (with_reducible refine Kd.C_drew ?_))); (case side2 => exact (Kd.R_reads' HO195.out).2.1);  rintro e w53 ⟨rfl, hb⟩; have n0_ := Aside0.mk (Kd.R_below (by (with_reducible repeat (first | apply Kd.R_alloc | apply Kd.R_drewN | apply Kd.R_drew)); exact HO_2.out) hb); have n1_ := Aside0.mk (Kd.R_below (by (with_reducible repeat (first | apply Kd.R_alloc | apply Kd.R_drewN | apply Kd.R_drew)); exact HO195.out) hb); have n2_ := Aside0.mk (Kd.R_below (by (with_reducible repeat (first | apply Kd.R_alloc | apply Kd.R_drewN | apply Kd.R_drew)); exact HO200.out) hb); have n3_ := Aside0.mk (Kd.R_below (by (with_reducible repeat (first | apply Kd.R_alloc | apply Kd.R_drewN | apply Kd.R_drew)); exact HO203.out) hb); have n4_ := Aside0.mk (Kd.R_below (by (with_reducible repeat (first | apply Kd.R_alloc | apply Kd.R_drewN | apply Kd.R_drew)); exact HO212.out) hb); have n5_ := Aside0.mk (Kd.R_below (by (with_reducible repeat (first | apply Kd.R_alloc | apply Kd.R_drewN | apply Kd.R_drew)); exact HO222.out) hb); have n6_ := Aside0.mk (blk_below (g := gb185) (o := .cells #[.int .i64 1, .int .i64 0, .int .i64 3, .slice none 0 0] 26 (0, 0)) (by (with_reducible repeat (first | refine blk_drewN ?_ _ | refine blk_drew ?_ | refine blk_alloc ?_ _)); exact BK185.out) hb); have n7_ := Aside0.mk (blk_below (g := gb197) (o := .cells #[.int .i64 t190, .int .i64 t191, .int .i64 t192, .slice Ao30 t193.length co30] 26 (0, 0)) (by (with_reducible repeat (first | refine blk_drewN ?_ _ | refine blk_drew ?_ | refine blk_alloc ?_ _)); exact BK197.out) hb); have n8_ := Aside0.mk (blk_below (g := gb206) (o := .cells #[.slice Ao34 t198.length co34, .slice Ao38 t201.length co38] 24 (0, 0)) (by (with_reducible repeat (first | refine blk_drewN ?_ _ | refine blk_drew ?_ | refine blk_alloc ?_ _)); exact BK206.out) hb); have n9_ := Aside0.mk (blk_below (g := gb215) (o := .cells #[.int .i64 t207, .int .i64 t208, .int .i64 t209, .slice Ao45 t210.length co45] 26 (0, 0)) (by (with_reducible repeat (first | refine blk_drewN ?_ _ | refine blk_drew ?_ | refine blk_alloc ?_ _)); exact BK215.out) hb); have n10_ := Aside0.mk (Kd.C_below (by repeat (first | (with_reducible exact HR219.out) | (with_reducible refine Kd.C_alloc ?_ _) | (with_reducible refine Kd.C_drewN ?_ _) | (with_reducible refine Kd.C_drew ?_) | exact HR219.out)) hb); have n11_ := Aside0.mk (below_step (by repeat (first | (with_reducible first | exact HB.out | apply below_alloc | apply pw_below_drewN | apply below_drew1 | refine below_set ?_ GE185.out | refine below_set ?_ GE197.out | refine below_set ?_ GE206.out | refine below_set ?_ GE215.out) | exact HB.out)) hb); clear HO_2; clear HO195; clear HO200; clear HO203; clear HO212; clear HO222; clear BK185; clear BK197; clear BK206; clear BK215; clear HR219; clear HB; have HO_2 := n0_; have HO195 := n1_; have HO200 := n2_; have HO203 := n3_; have HO212 := n4_; have HO222 := n5_; have BK185 := n6_; have BK197 := n7_; have BK206 := n8_; have BK215 := n9_; have HR219 := n10_; have HB := n11_; clear n0_ n1_ n2_ n3_ n4_ n5_ n6_ n7_ n8_ n9_ n10_ n11_; (try clear hb); (try clear hb2); (try clear hk); (try clear hi); have hcz54_0 : w53.cell? ⟨gb215, 0, none⟩ = some (.int .i64 t207) := (blk_cell BK215.out 0).trans rfl; have hcz54_1 : w53.cell? ⟨gb215, 1, none⟩ = some (.int .i64 t208) := (blk_cell BK215.out 1).trans rfl; have hcz54_2 : w53.cell? ⟨gb215, 2, none⟩ = some (.int .i64 t209) := (blk_cell BK215.out 2).trans rfl; have hcz54_3 : w53.cell? ⟨gb215, 3, none⟩ = some (.slice Ao45 t210.length co45) := (blk_cell BK215.out 3).trans rfl; have hfz54_0 := blk_frozen BK215.out 0; have hfz54_1 := blk_frozen BK215.out 1; have hfz54_2 := blk_frozen BK215.out 2; have hfz54_3 := blk_frozen BK215.out 3; have hcz55_0 : w53.cell? ⟨gb185, 0, none⟩ = some (.int .i64 1) := (blk_cell BK185.out 0).trans rfl; have hcz55_1 : w53.cell? ⟨gb185, 1, none⟩ = some (.int .i64 0) := (blk_cell BK185.out 1).trans rfl; have hcz55_2 : w53.cell? ⟨gb185, 2, none⟩ = some (.int .i64 3) := (blk_cell BK185.out 2).trans rfl; have hcz55_3 : w53.cell? ⟨gb185, 3, none⟩ = some (.slice none 0 0) := (blk_cell BK185.out 3).trans rfl; have hfz55_0 := blk_frozen BK185.out 0; have hfz55_1 := blk_frozen BK185.out 1; have hfz55_2 := blk_frozen BK185.out 2; have hfz55_3 := blk_frozen BK185.out 3) | (go_at_call 20; (with_reducible refine (flash_Same.calls_nil11 t207 t208 t209 _ _ t210 1 0 3 true _ ?side1 ?side2 A20.out).mono ?_); (case side1 => repeat (first | exact (Kd.R_reads' HO212.out).2.2 | (with_reducible refine Kd.C_alloc ?_ _) | (with_reducible refine Kd.C_drewN ?_ _) | (with_reducible refine Kd.C_drew ?_))); (case side2 => exact (Kd.R_reads' HO212.out).2.1);  rintro e w56 ⟨rfl, hb⟩; have n0_ := Aside0.mk (Kd.R_below (by (with_reducible repeat (first | apply Kd.R_alloc | apply Kd.R_drewN | apply Kd.R_drew)); exact HO_2.out) hb); have n1_ := Aside0.mk (Kd.R_below (by (with_reducible repeat (first | apply Kd.R_alloc | apply Kd.R_drewN | apply Kd.R_drew)); exact HO195.out) hb); have n2_ := Aside0.mk (Kd.R_below (by (with_reducible repeat (first | apply Kd.R_alloc | apply Kd.R_drewN | apply Kd.R_drew)); exact HO200.out) hb); have n3_ := Aside0.mk (Kd.R_below (by (with_reducible repeat (first | apply Kd.R_alloc | apply Kd.R_drewN | apply Kd.R_drew)); exact HO203.out) hb); have n4_ := Aside0.mk (Kd.R_below (by (with_reducible repeat (first | apply Kd.R_alloc | apply Kd.R_drewN | apply Kd.R_drew)); exact HO212.out) hb); have n5_ := Aside0.mk (Kd.R_below (by (with_reducible repeat (first | apply Kd.R_alloc | apply Kd.R_drewN | apply Kd.R_drew)); exact HO222.out) hb); have n6_ := Aside0.mk (blk_below (g := gb185) (o := .cells #[.int .i64 1, .int .i64 0, .int .i64 3, .slice none 0 0] 26 (0, 0)) (by (with_reducible repeat (first | refine blk_drewN ?_ _ | refine blk_drew ?_ | refine blk_alloc ?_ _)); exact BK185.out) hb); have n7_ := Aside0.mk (blk_below (g := gb197) (o := .cells #[.int .i64 t190, .int .i64 t191, .int .i64 t192, .slice Ao30 t193.length co30] 26 (0, 0)) (by (with_reducible repeat (first | refine blk_drewN ?_ _ | refine blk_drew ?_ | refine blk_alloc ?_ _)); exact BK197.out) hb); have n8_ := Aside0.mk (blk_below (g := gb206) (o := .cells #[.slice Ao34 t198.length co34, .slice Ao38 t201.length co38] 24 (0, 0)) (by (with_reducible repeat (first | refine blk_drewN ?_ _ | refine blk_drew ?_ | refine blk_alloc ?_ _)); exact BK206.out) hb); have n9_ := Aside0.mk (blk_below (g := gb215) (o := .cells #[.int .i64 t207, .int .i64 t208, .int .i64 t209, .slice Ao45 t210.length co45] 26 (0, 0)) (by (with_reducible repeat (first | refine blk_drewN ?_ _ | refine blk_drew ?_ | refine blk_alloc ?_ _)); exact BK215.out) hb); have n10_ := Aside0.mk (Kd.C_below (by repeat (first | (with_reducible exact HR219.out) | (with_reducible refine Kd.C_alloc ?_ _) | (with_reducible refine Kd.C_drewN ?_ _) | (with_reducible refine Kd.C_drew ?_) | exact HR219.out)) hb); have n11_ := Aside0.mk (below_step (by repeat (first | (with_reducible first | exact HB.out | apply below_alloc | apply pw_below_drewN | apply below_drew1 | refine below_set ?_ GE185.out | refine below_set ?_ GE197.out | refine below_set ?_ GE206.out | refine below_set ?_ GE215.out) | exact HB.out)) hb); clear HO_2; clear HO195; clear HO200; clear HO203; clear HO212; clear HO222; clear BK185; clear BK197; clear BK206; clear BK215; clear HR219; clear HB; have HO_2 := n0_; have HO195 := n1_; have HO200 := n2_; have HO203 := n3_; have HO212 := n4_; have HO222 := n5_; have BK185 := n6_; have BK197 := n7_; have BK206 := n8_; have BK215 := n9_; have HR219 := n10_; have HB := n11_; clear n0_ n1_ n2_ n3_ n4_ n5_ n6_ n7_ n8_ n9_ n10_ n11_; (try clear hb); (try clear hb2); (try clear hk); (try clear hi); have hcz57_0 : w56.cell? ⟨gb197, 0, none⟩ = some (.int .i64 t190) := (blk_cell BK197.out 0).trans rfl; have hcz57_1 : w56.cell? ⟨gb197, 1, none⟩ = some (.int .i64 t191) := (blk_cell BK197.out 1).trans rfl; have hcz57_2 : w56.cell? ⟨gb197, 2, none⟩ = some (.int .i64 t192) := (blk_cell BK197.out 2).trans rfl; have hcz57_3 : w56.cell? ⟨gb197, 3, none⟩ = some (.slice Ao30 t193.length co30) := (blk_cell BK197.out 3).trans rfl; have hfz57_0 := blk_frozen BK197.out 0; have hfz57_1 := blk_frozen BK197.out 1; have hfz57_2 := blk_frozen BK197.out 2; have hfz57_3 := blk_frozen BK197.out 3) | (go_at_call 20; (with_reducible refine (flash_Same.calls_nil11 t190 t191 t192 _ _ t193 0 0 0 t226 _ ?side1 ?side2 A24.out).mono ?_); (case side1 => repeat (first | exact (Kd.R_reads' HO195.out).2.2 | (with_reducible refine Kd.C_alloc ?_ _) | (with_reducible refine Kd.C_drewN ?_ _) | (with_reducible refine Kd.C_drew ?_))); (case side2 => exact (Kd.R_reads' HO195.out).2.1);  rintro e w58 ⟨rfl, hb⟩; have n0_ := Aside0.mk (Kd.R_below (by (with_reducible repeat (first | apply Kd.R_alloc | apply Kd.R_drewN | apply Kd.R_drew)); exact HO_2.out) hb); have n1_ := Aside0.mk (Kd.R_below (by (with_reducible repeat (first | apply Kd.R_alloc | apply Kd.R_drewN | apply Kd.R_drew)); exact HO195.out) hb); have n2_ := Aside0.mk (Kd.R_below (by (with_reducible repeat (first | apply Kd.R_alloc | apply Kd.R_drewN | apply Kd.R_drew)); exact HO200.out) hb); have n3_ := Aside0.mk (Kd.R_below (by (with_reducible repeat (first | apply Kd.R_alloc | apply Kd.R_drewN | apply Kd.R_drew)); exact HO203.out) hb); have n4_ := Aside0.mk (Kd.R_below (by (with_reducible repeat (first | apply Kd.R_alloc | apply Kd.R_drewN | apply Kd.R_drew)); exact HO212.out) hb); have n5_ := Aside0.mk (Kd.R_below (by (with_reducible repeat (first | apply Kd.R_alloc | apply Kd.R_drewN | apply Kd.R_drew)); exact HO222.out) hb); have n6_ := Aside0.mk (blk_below (g := gb185) (o := .cells #[.int .i64 1, .int .i64 0, .int .i64 3, .slice none 0 0] 26 (0, 0)) (by (with_reducible repeat (first | refine blk_drewN ?_ _ | refine blk_drew ?_ | refine blk_alloc ?_ _)); exact BK185.out) hb); have n7_ := Aside0.mk (blk_below (g := gb197) (o := .cells #[.int .i64 t190, .int .i64 t191, .int .i64 t192, .slice Ao30 t193.length co30] 26 (0, 0)) (by (with_reducible repeat (first | refine blk_drewN ?_ _ | refine blk_drew ?_ | refine blk_alloc ?_ _)); exact BK197.out) hb); have n8_ := Aside0.mk (blk_below (g := gb206) (o := .cells #[.slice Ao34 t198.length co34, .slice Ao38 t201.length co38] 24 (0, 0)) (by (with_reducible repeat (first | refine blk_drewN ?_ _ | refine blk_drew ?_ | refine blk_alloc ?_ _)); exact BK206.out) hb); have n9_ := Aside0.mk (blk_below (g := gb215) (o := .cells #[.int .i64 t207, .int .i64 t208, .int .i64 t209, .slice Ao45 t210.length co45] 26 (0, 0)) (by (with_reducible repeat (first | refine blk_drewN ?_ _ | refine blk_drew ?_ | refine blk_alloc ?_ _)); exact BK215.out) hb); have n10_ := Aside0.mk (Kd.C_below (by repeat (first | (with_reducible exact HR219.out) | (with_reducible refine Kd.C_alloc ?_ _) | (with_reducible refine Kd.C_drewN ?_ _) | (with_reducible refine Kd.C_drew ?_) | exact HR219.out)) hb); have n11_ := Aside0.mk (below_step (by repeat (first | (with_reducible first | exact HB.out | apply below_alloc | apply pw_below_drewN | apply below_drew1 | refine below_set ?_ GE185.out | refine below_set ?_ GE197.out | refine below_set ?_ GE206.out | refine below_set ?_ GE215.out) | exact HB.out)) hb); clear HO_2; clear HO195; clear HO200; clear HO203; clear HO212; clear HO222; clear BK185; clear BK197; clear BK206; clear BK215; clear HR219; clear HB; have HO_2 := n0_; have HO195 := n1_; have HO200 := n2_; have HO203 := n3_; have HO212 := n4_; have HO222 := n5_; have BK185 := n6_; have BK197 := n7_; have BK206 := n8_; have BK215 := n9_; have HR219 := n10_; have HB := n11_; clear n0_ n1_ n2_ n3_ n4_ n5_ n6_ n7_ n8_ n9_ n10_ n11_; (try clear hb); (try clear hb2); (try clear hk); (try clear hi)))
             go_ret
             exact ⟨by first | rfl | (simp [errW_none, errW_some] <;> rfl) | (simp [*, errW_none, errW_some] <;> rfl), by repeat (first | (with_reducible first | exact HB.out | apply below_alloc | apply pw_below_drewN | apply below_drew1 | refine below_set ?_ GE185.out | refine below_set ?_ GE197.out | refine below_set ?_ GE206.out | refine below_set ?_ GE215.out) | exact HB.out)⟩
            ·rw [if_neg c23] at H
             exact absurd H (by simp)
          ·replace c21 := Bool.eq_false_iff.mpr c21
           subst c21
           have H1 : (none) = some r := by rw [if_neg (show ¬ (false = true) by decide)] at H; exact H
           clear H
           have H := H1
           clear H1
           exact absurd H (by simp)
         ·rw [if_neg c19] at H
          exact absurd H (by simp)
        ·replace c18 := Bool.eq_false_iff.mpr c18
         subst c18
         have H1 : (none) = some r := by rw [if_neg (show ¬ (false = true) by decide)] at H; exact H
         clear H
         have H := H1
         clear H1
         exact absurd H (by simp)
       ·rw [if_neg c17] at H
        exact absurd H (by simp)
      ·replace c16 := Bool.eq_false_iff.mpr c16
       subst c16
       have H1 : (none) = some r := by rw [if_neg (show ¬ (false = true) by decide)] at H; exact H
       clear H
       have H := H1
       clear H1
       exact absurd H (by simp)
     ·replace c14 := Bool.eq_false_iff.mpr c14
      subst c14
      have H1 : (none) = some r := by rw [if_neg (show ¬ (false = true) by decide)] at H; exact H
      clear H
      have H := H1
      clear H1
      exact absurd H (by simp)
    ·rw [if_neg c12] at H
     exact absurd H (by simp)

end Go.Proofs.YtickbejailcehaaDoor.C

/- What flash's printed functions come to, further: Recover, Write, awake; plain Lean, no memory. -/
namespace Go.Proofs.YtickbejailcehaaDoor.Flash
open Go.RowKit Go.Proofs.YtickbejailcehaaDoorW.PrintWords Go.Proofs.YtickbejailcehaaDoorW.PrintLast Go.Proofs.YtickbejailcehaaDoorW.PrintMore Go.Proofs.YtickbejailcehaaDoor.C
open Go.Proofs.YtickbejailcehaaDoor.Wire (In pt rowB getS getRowS)
open Go.Proofs.YtickbejailcehaaDoor.Crc (sealB openB By)
set_option linter.unusedVariables false
def err (p : Int × Int × Int × List Int × Int) : Int := p.2.2.2.2
def recoverS (a b : List Int) : Int × Int × Int × List Int × Bool × Int :=
  if err (readS a) ≠ 0 ∧ err (readS b) ≠ 0 then (0, 0, 0, [], false, 123) else
  if err (readS a) ≠ 0 ∨ (err (readS b) = 0 ∧ (readS b).1 > (readS a).1) then ((readS b).1, (readS b).2.1, (readS b).2.2.1, (readS b).2.2.2.1, true, 0)
  else ((readS a).1, (readS a).2.1, (readS a).2.2.1, (readS a).2.2.2.1, false, 0)
theorem recover_eq (a b : List Int) (ha : ∀ x ∈ a, By x) (hb : ∀ x ∈ b, By x) (la : a.length ≤ 1000000) (lb : b.length ≤ 1000000) (k : Nat) (hk : a.length + b.length + 100 < k) : flash_Recover.f k a b = some (recoverS a b) := by
  obtain ⟨k, rfl⟩ : ∃ m, k = m + 1 := ⟨k - 1, by omega⟩
  unfold flash_Recover.f recoverS err
  rw [read_eq a ha la _ (by omega), read_eq b hb lb _ (by omega)]
  simp only [Option.bind_some]
  generalize readS a = x
  generalize readS b = y
  by_cases h1 : x.2.2.2.2 = 0
  · rw [if_pos h1, if_neg (fun h => h.1 h1)]
    simp only [flash_Recover.j0]
    rw [if_neg (by decide), if_pos h1]
    by_cases h2 : y.2.2.2.2 = 0
    · rw [if_pos h2]
      by_cases h3 : y.1 > x.1
      · rw [if_pos h3, if_pos (.inr ⟨h2, h3⟩)]
      · rw [if_neg h3, if_neg (fun h => h.elim (fun g => g h1) (fun g => h3 g.2))]
    · rw [if_neg h2, if_neg (fun h => h.elim (fun g => g h1) (fun g => h2 g.1))]
  · rw [if_neg h1]
    simp only [flash_Recover.j0]
    by_cases h2 : y.2.2.2.2 = 0
    · rw [if_neg (by simp [h2]), if_neg h1, if_neg (fun h => h.2 h2), if_pos (.inl h1)]
    · rw [if_pos (by simp [h2]), if_pos ⟨h1, h2⟩]
def cutN (cut : Int) (n : Nat) : Nat := if cut ≤ 0 then 0 else if (n : Int) ≤ cut then n else cut.toNat
theorem cutN_le (cut : Int) (n : Nat) : cutN cut n ≤ n := by unfold cutN; split <;> (try split) <;> omega
theorem cutN_all (cut : Int) (n : Nat) (h : cut ≥ (n : Int)) : cutN cut n = n := by unfold cutN; split <;> (try split) <;> omega
theorem cutN_lt (cut : Int) (n : Nat) (hn : 0 < n) (h : ¬ cut ≥ (n : Int)) : cutN cut n < n := by unfold cutN; split <;> (try split) <;> omega
theorem cut_mn (cut : Int) (n : Nat) : mn (mx cut 0) (n : Int) = (cutN cut n : Int) := by
  unfold mn mx cutN
  split <;> split <;> (try split) <;> (try split) <;> omega
theorem clone_eq (l : List Int) (h : l.length ≤ 1000000) : bytes_Clone.f l = some l := by
  unfold bytes_Clone.f
  rw [if_pos (by omega)]
/-- Is the first slot written? -/
def firstB (a b : List Int) : Bool := if (recoverS a b).2.2.2.2.2 = 0 then (recoverS a b).2.2.2.2.1 else true
def writeS (a b : List Int) (g c m : Int) (l : List Int) (cut : Int) : List Int × List Int × Bool × Int :=
  if mayB g m l.length = true then
    if (recoverS a b).2.2.2.2.2 = 0 ∧ g ≤ (recoverS a b).1 then ([], [], false, 124) else
    (pickR (firstB a b) ((codeB g c m l).take (cutN cut (codeB g c m l).length)) a, pickR (firstB a b) b ((codeB g c m l).take (cutN cut (codeB g c m l).length)), decide (cut ≥ ((codeB g c m l).length : Int)), 0)
  else ([], [], false, 120)
theorem write_eq (a b : List Int) (ha : ∀ x ∈ a, By x) (hb : ∀ x ∈ b, By x) (la : a.length ≤ 1000000) (lb : b.length ≤ 1000000) {g c m : Int} {l : List Int} (hg : In g) (hc : In c) (hm : In m) (hl : ∀ x ∈ l, By x) (ll : l.length ≤ 1000000) (cut : Int) (k : Nat) (hk : a.length + b.length + l.length + 200 < k) :
    flash_Write.f k a b g c m l cut = some (writeS a b g c m l cut) := by
  obtain ⟨k, rfl⟩ : ∃ m, k = m + 3 := ⟨k - 3, by omega⟩
  unfold flash_Write.f writeS
  rw [code_eq hg hc hm hl ll _ (by omega)]
  simp only [Option.bind_some]
  unfold codeS
  by_cases h1 : mayB g m l.length = true
  case neg =>
    rw [if_neg h1, if_neg h1]
    rfl
  rw [if_pos h1, if_pos h1, recover_eq a b ha hb la lb _ (by omega)]
  simp only [Option.bind_some]
  unfold firstB
  generalize recoverS a b = R
  generalize codeB g c m l = q
  have j2 : ∀ x : Bool, flash_Write.j2 (k + 1) cut q x a b = some (pickR x (q.take (cutN cut q.length)) a, pickR x b (q.take (cutN cut q.length)), decide (cut ≥ (q.length : Int)), 0) := by
    intro x
    simp only [flash_Write.j2]
    have := cutN_le cut q.length
    rw [clone_eq a la, clone_eq b lb, cut_mn]
    simp only [Option.bind_some]
    rw [if_pos (by omega), if_pos (by omega), Int.toNat_natCast]
  have j1 : ∀ x : Bool, flash_Write.j1 (k + 2) cut q false x a b = some (pickR x (q.take (cutN cut q.length)) a, pickR x b (q.take (cutN cut q.length)), decide (cut ≥ (q.length : Int)), 0) := by
    intro x
    simp only [flash_Write.j1]
    cases x
    · rw [if_neg (by decide), j2]
    · rw [if_pos rfl, j2]
  have j0 : ∀ x : Bool, flash_Write.j0 (k + 3) cut q R.2.2.2.2.1 R.2.2.2.2.2 x a b = some (if x = true then ([], [], false, 124) else (pickR (if R.2.2.2.2.2 = 0 then R.2.2.2.2.1 else true) (q.take (cutN cut q.length)) a, pickR (if R.2.2.2.2.2 = 0 then R.2.2.2.2.1 else true) b (q.take (cutN cut q.length)), decide (cut ≥ (q.length : Int)), 0)) := by
    intro x
    simp only [flash_Write.j0]
    cases x
    · have e : ¬ ((false : Bool) = true) := by decide
      rw [if_neg e, if_neg e]
      by_cases h : R.2.2.2.2.2 = 0
      · rw [if_pos h, if_pos h, j1]
      · rw [if_neg h, if_neg h, j1]
    · rw [if_pos rfl, if_pos rfl]
  rw [if_pos trivial]
  by_cases h2 : R.2.2.2.2.2 = 0
  · rw [if_pos h2, j0]
    by_cases h3 : g ≤ R.1
    · rw [decide_eq_true h3, if_pos rfl, if_pos ⟨h2, h3⟩]
    · have e : ¬ ((false : Bool) = true) := by decide
      have e2 : ¬ (R.2.2.2.2.2 = 0 ∧ g ≤ R.1) := fun h => h3 h.2
      rw [decide_eq_false h3, if_neg e, if_neg e2]
  · have e : ¬ ((false : Bool) = true) := by decide
    have e2 : ¬ (R.2.2.2.2.2 = 0 ∧ g ≤ R.1) := fun h => h2 h.1
    rw [if_neg h2, j0, if_neg e, if_neg e2]
theorem sameF_refl (g c m : Int) (l : List Int) : flash_Same.f g c m l g c m l = some true := by
  unfold flash_Same.f bytes_Equal.f
  rw [if_pos rfl, if_pos rfl, if_pos rfl]
  simp
theorem sameR_eq (g c m : Int) (l : List Int) (g2 c2 m2 : Int) (l2 : List Int) (h : l.length ≤ 1000000) (k : Nat) (hk : l.length < k) : newelref12_Same.f k g c m l g2 c2 m2 l2 = some (decide (g = g2 ∧ c = c2 ∧ m = m2 ∧ l = l2)) := by
  unfold newelref12_Same.f
  by_cases h1 : g = g2
  · rw [if_pos h1]
    by_cases h2 : c = c2
    · rw [if_pos h2]
      by_cases h3 : m = m2
      · rw [if_pos h3, Wire.same8_eq l l2 k hk (by omega)]
        simp [h1, h2, h3]
      · rw [if_neg h3, decide_eq_false (fun h => h3 h.2.2.1)]
    · rw [if_neg h2, decide_eq_false (fun h => h2 h.2.1)]
  · rw [if_neg h1, decide_eq_false (fun h => h1 h.1)]
/-! ### The chapter's example -/
theorem in_1 : In 1 := by unfold In; decide
theorem in_0 : In 0 := by unfold In; decide
theorem in_3 : In 3 := by unfold In; decide
theorem may_1 : mayB 1 3 ([] : List Int).length = true := by decide
theorem head_1 : headB 1 0 3 ([] : List Int).length = [6, 2, 0, 6, 0] := by decide +kernel
theorem code_1 : (codeB 1 0 3 []).take 5 = [6, 2, 0, 6, 0] ∧ (codeB 1 0 3 []).length = 7 := by
  have h := head_1
  constructor
  · unfold codeB
    rw [h, List.append_nil]
    unfold sealB
    rw [List.take_left']
    rfl
  · rw [code_len, h]
    rfl
theorem read_nil : readS [] = (0, 0, 0, [], 81) := by decide +kernel
theorem awake_eq (k : Nat) (hk : 1000 ≤ k) : newellaw12_awake.f k = some true := by
  obtain ⟨k, rfl⟩ : ∃ m, k = m + 1 := ⟨k - 1, by omega⟩
  have hn : ∀ x ∈ ([] : List Int), By x := fun x hx => absurd hx (by simp)
  have hc := code_by in_1 in_0 in_3 hn (show ([] : List Int).length ≤ 1000000 by decide)
  have h7 := code_1.2
  have h5 := code_1.1
  have hr := read_code in_1 in_0 in_3 hn may_1
  have hl : (codeB 1 0 3 []).length = 7 := h7
  have hR : recoverS [] [] = (0, 0, 0, [], false, 123) := by
    unfold recoverS
    rw [read_nil]
    exact if_pos ⟨by decide, by decide⟩
  have hW : writeS [] [] 1 0 3 [] 99 = (codeB 1 0 3 [], [], true, 0) := by
    unfold writeS firstB
    rw [if_pos may_1, hR, h7]
    dsimp only
    rw [if_neg (by decide), if_neg (by decide), show cutN 99 7 = 7 from by decide, List.take_of_length_le (by omega)]
    rfl
  have hR2 : recoverS (codeB 1 0 3 []) [] = (1, 0, 3, [], false, 0) := by
    unfold recoverS err
    rw [hr, read_nil]
    dsimp only
    rw [if_neg (by decide), if_neg (by decide)]
  unfold newellaw12_awake.f
  rw [code_eq in_1 in_0 in_3 hn (by decide) _ (by simp; omega)]
  simp only [Option.bind_some]
  unfold codeS
  rw [if_pos may_1]
  dsimp only
  rw [if_pos (by omega)]
  simp only [newellaw12_awake.j0]
  rw [if_neg (by decide), read_eq _ hc (by omega) k (by omega), hr, write_eq [] [] hn hn (by decide) (by decide) in_1 in_0 in_3 hn (by decide) 99 k (by simp; omega), hW]
  simp only [Option.bind_some]
  rw [recover_eq _ _ hc hn (by omega) (by decide) k (by simp; omega), hR2]
  simp only [Option.bind_some]
  rw [if_pos (by omega), h5, Wire.same8_eq _ _ k (by simp; omega) (by decide)]
  simp only [Option.bind_some, decide_true, if_true]
  rw [sameF_refl]
  simp only [Option.bind_some, if_true]
  rw [show flash_Same.f 1 0 3 [] 0 0 0 [] = some false from rfl]
  simp
end Go.Proofs.YtickbejailcehaaDoor.Flash
