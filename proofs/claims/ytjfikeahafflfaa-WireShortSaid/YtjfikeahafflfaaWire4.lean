/- The five laws of the wire's bytes: plain Lean, no memory. -/
import Derived.Test.YtjfikeahafflfaaWire3
import Derived.Test.YtjfikeahafflfaaCxf3
import Derived.Test.YtjfikeahafflfaaCxf4
import Derived.Test.YtjfikeahafflfaaCxf5
import Derived.Test.YtjfikeahafflfaaCxf6
import Derived.Test.YtjfikeahafflfaaCxf7
namespace Go.Proofs.Ytjfikeahafflfaa.Wire
open Go.RowKit Go.Proofs.YtjfikeahafflfaaW.PrintWords Go.Proofs.YtjfikeahafflfaaW.PrintLast Go.Proofs.YtjfikeahafflfaaW.PrintMore Go.Proofs.Ytjfikeahafflfaa.C

theorem same6_loop (a b : List Int) (j : Nat) : ∀ (f i : Nat), i + j = a.length → a.length = b.length → j < f → a.length ≤ 1000000000 → newelref06_Same.l0 f a b (i : Int) = some (decide (a.drop i = b.drop i)) := by
  induction j with
  | zero =>
    intro f i hi hl hf hm
    obtain ⟨f, rfl⟩ : ∃ m, f = m + 1 := ⟨f - 1, by omega⟩
    simp only [newelref06_Same.l0]
    rw [if_neg (by omega), List.drop_of_length_le (by omega), List.drop_of_length_le (by omega)]
    rfl
  | succ j ih =>
    intro f i hi hl hf hm
    obtain ⟨f, rfl⟩ : ∃ m, f = m + 1 := ⟨f - 1, by omega⟩
    have ha : i < a.length := by omega
    have hb : i < b.length := by omega
    have ei : wrap64 ((i : Int) + 1) = ((i + 1 : Nat) : Int) := by unfold wrap64; omega
    simp only [newelref06_Same.l0]
    rw [if_pos (by omega), if_pos (by omega), if_pos (by omega), rd_at a i ha, rd_at b i hb, ei, ih f (i + 1) (by omega) hl (by omega) hm, List.drop_eq_getElem_cons ha, List.drop_eq_getElem_cons hb]
    by_cases h : a[i] = b[i]
    · rw [if_pos h, h]
      congr 1
      rw [decide_eq_decide]
      exact ⟨fun e => by rw [e], fun e => (List.cons.inj e).2⟩
    · rw [if_neg h, decide_eq_false (fun e => h (List.cons.inj e).1)]
theorem same6_eq (a b : List Int) (f : Nat) (hf : a.length < f) (hm : a.length ≤ 1000000000) : newelref06_Same.f f a b = some (decide (a = b)) := by
  unfold newelref06_Same.f
  by_cases h : (a.length : Int) = (b.length : Int)
  · rw [if_pos h]
    have := same6_loop a b a.length f 0 (by omega) (by omega) (by omega) hm
    simpa using this
  · rw [if_neg h]
    have : a ≠ b := fun e => h (by rw [e])
    simp [this]
theorem refCode_eq (n : Int) (h : In n) : newelref08_Code.f n = some (codeN n : Int) := by
  unfold newelref08_Code.f codeN
  unfold In at h
  by_cases h0 : n < 0
  · have e : wrap64 (-1 - n) = -1 - n := by unfold wrap64; omega
    rw [if_neg (by omega), if_pos h0, e, IntKind.wrap_u64, IntKind.wrap_u64, IntKind.wrap_u64]
    congr 1
    omega
  · rw [if_pos (by omega), if_neg h0, IntKind.wrap_u64, IntKind.wrap_u64]
    congr 1
    omega
theorem refPut_loop (g : Nat) : ∀ (c f : Nat) (acc : List Int), c < 2 ^ (7 * g + 1) → g ≤ 9 → g < f → acc.length + g ≤ 1000 → newelref08_Put.l0 f (c : Int) acc = some (acc ++ leb g c) := by
  induction g with
  | zero =>
    intro c f acc hc hg hf ha
    obtain ⟨f, rfl⟩ : ∃ m, f = m + 1 := ⟨f - 1, by omega⟩
    simp only [Nat.mul_zero, Nat.zero_add, Nat.pow_one] at hc
    have e : (c : Int) % 256 = (c : Int) := by omega
    simp only [newelref08_Put.l0]
    rw [if_neg (by omega), if_pos (by omega), e]
    rfl
  | succ g ih =>
    intro c f acc hc hg hf ha
    obtain ⟨f, rfl⟩ : ∃ m, f = m + 1 := ⟨f - 1, by omega⟩
    have hp : (2 : Nat) ^ (7 * (g + 1) + 1) ≤ 2 ^ 64 := Nat.pow_le_pow_right (by decide) (by omega)
    have hp' : (2 : Nat) ^ 64 = 18446744073709551616 := by decide
    have hlt : c < 18446744073709551616 := by omega
    rw [show 7 * (g + 1) + 1 = (7 * g + 1) + 7 from by omega, Nat.pow_add] at hc
    simp only [newelref08_Put.l0]
    by_cases h : 128 ≤ c
    · have e1 : IntKind.u64.wrap (Int.tdiv (c : Int) 128) = ((c / 128 : Nat) : Int) := by
        have : Int.tdiv (c : Int) 128 = ((c / 128 : Nat) : Int) := rfl
        rw [this, IntKind.wrap_u64]; omega
      have e2 : (IntKind.u64.wrap (Int.tmod (c : Int) 128 + 128)) % 256 = ((c % 128 + 128 : Nat) : Int) := by
        have : Int.tmod (c : Int) 128 = ((c % 128 : Nat) : Int) := rfl
        rw [this, IntKind.wrap_u64]; omega
      rw [if_pos (by omega), if_pos (by omega), e1, e2, ih (c / 128) f _ (by omega) (by omega) (by omega) (by simp only [List.length_append, List.length_cons, List.length_nil]; omega)]
      simp only [leb, if_pos h, List.append_assoc, List.cons_append, List.nil_append]
    · have e : (c : Int) % 256 = (c : Int) := by omega
      rw [if_neg (by omega), if_pos (by omega), e]
      simp only [leb, if_neg h]
theorem refPut_eq (n : Int) (h : In n) (f : Nat) (hf : 10 < f) : newelref08_Put.f f n = some (pt n) := by
  unfold newelref08_Put.f
  rw [refCode_eq n h]
  simp only [Option.bind_some]
  exact refPut_loop 9 (codeN n) f [] (codeN_lt h) (by omega) (by omega) (by simp)
theorem refRow_loop (l : List Int) (hi : ∀ x ∈ l, In x) (hl : l.length ≤ 1000000) (j : Nat) : ∀ (f i : Nat) (acc : List Int), i + j = l.length → j + 12 < f → acc.length ≤ 10 * (i + 1) → newelref08_Row.l0 f l acc (i : Int) = some (acc ++ pts (l.drop i)) := by
  induction j with
  | zero =>
    intro f i acc h hf ha
    obtain ⟨f, rfl⟩ : ∃ m, f = m + 1 := ⟨f - 1, by omega⟩
    simp only [newelref08_Row.l0]
    rw [if_neg (by omega), List.drop_of_length_le (by omega)]
    simp [pts]
  | succ j ih =>
    intro f i acc h hf ha
    obtain ⟨f, rfl⟩ : ∃ m, f = m + 1 := ⟨f - 1, by omega⟩
    have hlt : i < l.length := by omega
    have ei : wrap64 ((i : Int) + 1) = ((i + 1 : Nat) : Int) := by unfold wrap64; omega
    have hp := pt_len l[i]
    simp only [newelref08_Row.l0]
    rw [if_pos (by omega), if_pos (by omega), rd_at l i hlt, refPut_eq _ (hi _ (List.getElem_mem hlt)) f (by omega)]
    simp only [Option.bind_some]
    rw [if_pos (by omega), ei, ih f (i + 1) _ (by omega) (by omega) (by simp only [List.length_append]; omega), List.drop_eq_getElem_cons hlt, pts_cons, List.append_assoc]
theorem refRow_eq (l : List Int) (hi : ∀ x ∈ l, In x) (hl : l.length ≤ 1000000) (f : Nat) (hf : l.length + 12 < f) : newelref08_Row.f f l = some (rowB l) := by
  unfold newelref08_Row.f
  rw [refPut_eq _ (by unfold In; omega) f (by omega)]
  simp only [Option.bind_some]
  have := refRow_loop l hi hl l.length f 0 (pt (l.length : Int)) (by omega) hf (pt_len (l.length : Int))
  simpa [rowB] using this
theorem by2 (l : List Int) (h : l.all (fun x => decide (0 ≤ x) && decide (x < 256)) = true) : ∀ x ∈ l, By x := by
  intro x hx
  have := List.all_eq_true.1 h x hx
  simp only [Bool.and_eq_true, decide_eq_true_eq] at this
  exact this
theorem awake_eq (f : Nat) (hf : 100 < f) : newellaw08_awake.f f = some true := by
  unfold newellaw08_awake.f
  rw [get_eq _ (by2 _ (by decide)) (by decide) 0 f (by omega), getRow_eq _ (by2 _ (by decide)) (by decide) 0 9 (by decide) f (by simp; omega), put_eq 300 (by unfold In; omega), put_eq (-1) (by unfold In; omega)]
  have e1 : getS [216, 4, 1] 0 = (300, 2, 0) := by decide
  have e2 : getRowS [2, 1] 0 9 = ([-1], 2, 0) := by decide
  have e3 : leb 9 (codeN 300) = [216, 4] := by decide
  have e4 : leb 9 (codeN (-1)) = [1] := by decide
  rw [e1, e2, e3, e4]
  simp only [Option.bind_some]
  rw [same8_eq _ _ f (by simp; omega) (by decide), same8_eq _ _ f (by simp; omega) (by decide), same6_eq _ _ f (by simp; omega) (by decide)]
  rfl
theorem puts_pure : newellaw08_WirePuts.Pure := by
  intro a0 l1 h0 _ _ h1
  refine ⟨1000, ?_⟩
  have i0 := wf_in h0
  have i1 : ∀ x ∈ l1, In x := fun x hx => wf_in (h1 x hx)
  unfold newellaw08_WirePuts.f
  rw [awake_eq 1000 (by decide)]
  simp only [Option.bind_some]
  by_cases h : (l1.length : Int) > 60
  · rw [if_pos h]
  · have hp := pt_len a0
    have hr := rowB_len l1
    rw [if_neg h, put_eq a0 i0, refPut_eq a0 i0 1000 (by decide), row_eq l1 i1 (by omega) 1000 (by omega), refRow_eq l1 i1 (by omega) 1000 (by omega)]
    simp only [Option.bind_some]
    rw [show leb 9 (codeN a0) = pt a0 from rfl, same8_eq _ _ 1000 (by omega) (by omega), same8_eq _ _ 1000 (by omega) (by omega)]
    simp [newellaw08_WirePuts.j0]
theorem back_loop (l0 l1 b : List Int) (hb : b = rowB l0 ++ l1) (i0 : ∀ x ∈ l0, In x) (b1 : ∀ x ∈ l1, By x) (h0 : l0.length ≤ 60) (h1 : l1.length ≤ 60) (j : Nat) : ∀ (f i : Nat), i + j = l0.length → 2 * j + 300 < f → newellaw08_WireBack.l0 f l0 l1 b (i : Int) = some true := by
  have bb : ∀ x ∈ b, By x := by
    intro x hx
    rw [hb] at hx
    rcases List.mem_append.1 hx with hx | hx
    · exact rowB_by i0 (by omega) x hx
    · exact b1 x hx
  have lb : b.length ≤ 1000000 := by
    have := rowB_len l0
    rw [hb, List.length_append]; omega
  induction j with
  | zero =>
    intro f i h hf
    obtain ⟨f, rfl⟩ : ∃ m, f = m + 1 := ⟨f - 1, by omega⟩
    have e : wrap64 ((l0.length : Int) - 1) = (l0.length : Int) - 1 := by unfold wrap64; omega
    simp only [newellaw08_WireBack.l0]
    rw [if_neg (by omega), e, getRow_eq b bb (by omega) 0 _ (by omega) f (by omega), awake_eq f (by omega), hb, getRowS_many l0 l1 (by omega) _ (by omega)]
    rfl
  | succ j ih =>
    intro f i h hf
    obtain ⟨f, rfl⟩ : ∃ m, f = m + 2 := ⟨f - 2, by omega⟩
    have hlt : i < l0.length := by omega
    have ii := i0 _ (List.getElem_mem hlt)
    have ei : wrap64 ((i : Int) + 1) = ((i + 1 : Nat) : Int) := by unfold wrap64; omega
    have hp := pt_len l0[i]
    have bg : ∀ x ∈ pt l0[i] ++ l1, By x := by
      intro x hx
      rcases List.mem_append.1 hx with hx | hx
      · exact pt_by ii x hx
      · exact b1 x hx
    have g := getS_pt ii [] l1
    simp only [List.nil_append, List.length_nil, Int.ofNat_zero, Int.zero_add, Int.natCast_zero] at g
    simp only [newellaw08_WireBack.l0]
    rw [if_pos (by omega), if_pos (by omega), rd_at l0 i hlt, put_eq _ ii]
    simp only [Option.bind_some, List.nil_append, List.length_nil, Nat.zero_add]
    rw [show leb 9 (codeN l0[i]) = pt l0[i] from rfl, if_pos (by omega), if_pos (by omega), get_eq _ bg (by rw [List.length_append]; omega) 0 (f + 1) (by omega), g]
    simp only [Option.bind_some]
    rw [if_pos trivial, if_pos trivial, if_pos trivial, decide_eq_false (by omega)]
    simp only [newellaw08_WireBack.j3]
    rw [if_neg (by decide), ei]
    exact ih f (i + 1) (by omega) (by omega)
theorem back_pure : newellaw08_WireBack.Pure := by
  intro l0 l1 _ _ h0 _ _ h1
  refine ⟨1000, ?_⟩
  have i0 : ∀ x ∈ l0, In x := fun x hx => wf_in (h0 x hx)
  have b1 : ∀ x ∈ l1, By x := fun x hx => wf_by (h1 x hx)
  have hj : newellaw08_WireBack.j0 1000 l0 l1 true = some true := by
    simp only [newellaw08_WireBack.j0]
    rw [if_pos trivial, awake_eq 999 (by decide)]
    rfl
  unfold newellaw08_WireBack.f
  by_cases c0 : (l0.length : Int) > 60
  · rw [if_pos c0, hj]
  · rw [if_neg c0]
    by_cases c1 : (l1.length : Int) > 60
    · rw [decide_eq_true c1, hj]
    · rw [decide_eq_false c1]
      have hr := rowB_len l0
      have bb : ∀ x ∈ rowB l0 ++ l1, By x := by
        intro x hx
        rcases List.mem_append.1 hx with hx | hx
        · exact rowB_by i0 (by omega) x hx
        · exact b1 x hx
      simp only [newellaw08_WireBack.j0]
      rw [if_neg (by decide), row_eq l0 i0 (by omega) 999 (by omega)]
      simp only [Option.bind_some, List.nil_append, List.length_nil, Nat.zero_add]
      rw [if_pos (by omega), if_pos (by omega), getRow_eq _ bb (by rw [List.length_append]; omega) 0 _ (by omega) 999 (by omega), getRowS_back l0 l1 i0 (by omega) _ (by omega)]
      simp only [Option.bind_some]
      rw [if_pos trivial, if_pos trivial, same6_eq _ _ 999 (by omega) (by omega)]
      simp only [Option.bind_some, decide_true, Bool.not_true, newellaw08_WireBack.j1]
      rw [if_neg (by decide)]
      exact back_loop l0 l1 _ rfl i0 b1 (by omega) (by omega) l0.length 998 0 (by omega) (by omega)
theorem short_pure : newellaw08_WireShort.Pure := by
  intro l0 a1 _ _ h0 h1
  refine ⟨1000, ?_⟩
  have i0 : ∀ x ∈ l0, In x := fun x hx => wf_in (h0 x hx)
  unfold newellaw08_WireShort.f
  by_cases c0 : (l0.length : Int) > 60
  · rw [if_pos c0, awake_eq 1000 (by decide)]
    rfl
  · have hr := rowB_len l0
    have hj : newellaw08_WireShort.j0 1000 l0 a1 (rowB l0) true = some true := by
      simp only [newellaw08_WireShort.j0]
      rw [if_pos trivial, awake_eq 999 (by decide)]
      rfl
    rw [if_neg c0, row_eq l0 i0 (by omega) 1000 (by omega)]
    simp only [Option.bind_some]
    by_cases c1 : a1 < 0
    · rw [if_pos c1, hj]
    · rw [if_neg c1]
      by_cases c2 : a1 ≥ ((rowB l0).length : Int)
      · rw [decide_eq_true c2, hj]
      · rw [decide_eq_false c2]
        have bb : ∀ x ∈ (rowB l0).take a1.toNat, By x := fun x hx => rowB_by i0 (by omega) x (List.mem_of_mem_take hx)
        simp only [newellaw08_WireShort.j0]
        rw [if_neg (by decide), if_pos (by omega), if_pos (by omega), getRow_eq _ bb (by rw [List.length_take]; omega) 0 _ (by omega) 999 (by omega), getRowS_short l0 i0 (by omega) _ (by omega) _ (by omega), awake_eq 999 (by decide)]
        rfl
theorem getS_only (l : List Int) (hb : ∀ x ∈ l, By x) (at_ : Int) (h : (getS l at_).2.2 = 0) : 0 ≤ at_ ∧ at_ < (getS l at_).2.1 ∧ (getS l at_).2.1 ≤ (l.length : Int) ∧ In (getS l at_).1 ∧ (l.take ((getS l at_).2.1).toNat).drop at_.toNat = pt (getS l at_).1 := by
  unfold getS at h ⊢
  by_cases h0 : at_ < 0 ∨ (l.length : Int) < at_
  · rw [if_pos h0] at h
    exact absurd h (by decide)
  · rw [if_neg h0] at h ⊢
    by_cases h1 : (dec 0 0 (l.drop at_.toNat)).2.2 = 0
    · rw [if_pos h1] at h
      exact absurd h (by decide)
    · rw [if_neg h1] at h ⊢
      by_cases h2 : (dec 0 0 (l.drop at_.toNat)).2.2 = 1
      · rw [if_pos h2] at h
        exact absurd h (by decide)
      · rw [if_neg h2]
        have hbd : ∀ x ∈ l.drop at_.toNat, By x := fun x hx => hb x (List.mem_of_mem_drop hx)
        have h3 : (dec 0 0 (l.drop at_.toNat)).2.2 = 2 := by
          have := dec_came 0 0 (l.drop at_.toNat)
          omega
        obtain ⟨q1, q2, q3⟩ := dec_lt _ hbd h3
        obtain ⟨m, m1, m2, m3, m4, m5, _⟩ := dec_only 9 0 0 _ (dec 0 0 (l.drop at_.toNat)).1 (dec 0 0 (l.drop at_.toNat)).2.1 rfl hbd (by rw [← h3])
        simp only [Nat.mul_zero, Nat.pow_zero, Nat.mul_one, Nat.zero_add, Nat.sub_zero] at m2 m5
        rw [List.length_drop] at q2
        refine ⟨by omega, by dsimp only; omega, by dsimp only; omega, dec_in q1, ?_⟩
        dsimp only
        rw [List.drop_take]
        unfold pt
        rw [code_dec, m2, ← m5]
        congr 1
        omega
theorem getS_none (l : List Int) (at_ : Int) (h : ¬ (getS l at_).2.2 = 0) : (getS l at_).1 = 0 ∧ (getS l at_).2.1 = 0 := by
  unfold getS at h ⊢
  by_cases h0 : at_ < 0 ∨ (l.length : Int) < at_
  · rw [if_pos h0]; exact ⟨rfl, rfl⟩
  · rw [if_neg h0] at h ⊢
    by_cases h1 : (dec 0 0 (l.drop at_.toNat)).2.2 = 0
    · rw [if_pos h1]; exact ⟨rfl, rfl⟩
    · rw [if_neg h1] at h ⊢
      by_cases h2 : (dec 0 0 (l.drop at_.toNat)).2.2 = 1
      · rw [if_pos h2]; exact ⟨rfl, rfl⟩
      · rw [if_neg h2] at h
        exact absurd rfl h
theorem only_pure : newellaw08_WireOnly.Pure := by
  intro l0 a1 _ _ h0 h1
  refine ⟨1000, ?_⟩
  have b0 : ∀ x ∈ l0, By x := fun x hx => wf_by (h0 x hx)
  unfold newellaw08_WireOnly.f
  rw [awake_eq 1000 (by decide)]
  simp only [Option.bind_some]
  by_cases c0 : (l0.length : Int) > 300
  · rw [if_pos c0]
  · rw [if_neg c0, get_eq l0 b0 (by omega) a1 1000 (by decide)]
    simp only [Option.bind_some]
    by_cases h : (getS l0 a1).2.2 = 0
    · obtain ⟨p1, p2, p3, p4, p5⟩ := getS_only l0 b0 a1 h
      have hp := pt_len (getS l0 a1).1
      rw [if_pos h, if_pos trivial, if_pos p2, if_pos p3, put_eq _ p4]
      simp only [Option.bind_some]
      rw [if_pos p1, if_pos (by omega), p5, show leb 9 (codeN (getS l0 a1).1) = pt (getS l0 a1).1 from rfl, same8_eq _ _ 1000 (by omega) (by omega)]
      simp [newellaw08_WireOnly.j1]
    · obtain ⟨p1, p2⟩ := getS_none l0 a1 h
      rw [if_neg h, if_pos trivial, if_pos p1, p2]
      rfl
theorem apart_pure : newellaw08_WireApart.Pure := by
  intro a0 a1 h0 h1
  refine ⟨1000, ?_⟩
  have i0 := wf_in h0
  have i1 := wf_in h1
  have l0 := pt_len a0
  have l1 := pt_len a1
  have p0 := pt_pos a0
  have p1 := pt_pos a1
  unfold newellaw08_WireApart.f
  rw [put_eq _ i0, put_eq _ i1]
  simp only [Option.bind_some]
  rw [show leb 9 (codeN a0) = pt a0 from rfl, show leb 9 (codeN a1) = pt a1 from rfl, if_neg (by omega)]
  have e : (((pt a1).length : Int) == 0) = false := by rw [beq_eq_false_iff_ne]; omega
  rw [e]
  simp only [newellaw08_WireApart.j0]
  rw [if_neg (by decide), awake_eq 999 (by decide)]
  simp only [Option.bind_some, Int.toNat_natCast]
  by_cases c : ((pt a0).length : Int) > ((pt a1).length : Int)
  · rw [if_pos c, if_pos trivial, if_pos (by omega), if_pos (by omega), same8_eq _ _ 999 (by omega) (by omega)]
    have : pt a1 ≠ (pt a0).take (pt a1).length := by
      intro h
      have h2 : pt a0 = pt a1 ++ (pt a0).drop (pt a1).length := by
        rw [← List.take_append_drop (pt a1).length (pt a0)]
        congr 1
        · exact h.symm
        · simp
      have := pt_apart i0 i1 _ h2
      rw [this] at c
      omega
    simp [this]
  · rw [if_neg c, if_pos trivial, if_pos (by omega), if_pos (by omega), same8_eq _ _ 999 (by omega) (by omega)]
    simp only [Option.bind_some]
    by_cases h : a0 = a1
    · subst h
      simp
    · have : pt a0 ≠ (pt a1).take (pt a0).length := by
        intro h'
        have h2 : pt a1 = pt a0 ++ (pt a1).drop (pt a0).length := by
          rw [← List.take_append_drop (pt a0).length (pt a1)]
          congr 1
          · exact h'.symm
          · simp
        exact h (pt_apart i1 i0 _ h2).symm
      simp [this, h]
end Go.Proofs.Ytjfikeahafflfaa.Wire
