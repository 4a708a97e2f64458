/- What the plain functions of the calls answer, in plain Lean: rows that rise, membership, what lies ahead. No memory. -/
import Derived.Test.YtlfgdcgjndjdgaaCxf9
import Derived.Test.YtlfgdcgjndjdgaaCxf10
import Derived.Test.YtlfgdcgjndjdgaaCxf12
import Derived.Test.YtlfgdcgjndjdgaaNext2
namespace Go.Proofs.Ytlfgdcgjndjdgaa.ColPure
open Go.RowKit Go.Proofs.YtlfgdcgjndjdgaaW.PrintWords Go.Proofs.YtlfgdcgjndjdgaaW.PrintLast Go.Proofs.YtlfgdcgjndjdgaaW.PrintMore Go.Proofs.Ytlfgdcgjndjdgaa.C
set_option linter.unusedVariables false
theorem up1 {i : Nat} (h : i ≤ 1000000) : wrap64 ((i : Int) + 1) = ((i + 1 : Nat) : Int) := by unfold wrap64; omega
theorem w64 {n : Int} (h : -1000000 ≤ n) (h2 : n ≤ 1000000) : wrap64 n = n := by unfold wrap64; omega
theorem drop_get (l : List Int) (i : Nat) (h : i < l.length) : l.drop i = l[i] :: l.drop (i + 1) := List.drop_eq_getElem_cons h
/-- A row rises strictly, above a floor and below another. -/
def risF (fl : Int) : Int → List Int → Bool
  | _, [] => true
  | p, x :: xs => decide (p < x ∧ x < fl) && risF fl x xs
theorem ris_iff (fl : Int) : ∀ (l : List Int) (p : Int), risF fl p l = true ↔ l.Pairwise (· < ·) ∧ ∀ x ∈ l, p < x ∧ x < fl := by
  intro l
  induction l with
  | nil => intro p; simp [risF]
  | cons x xs ih =>
    intro p
    rw [risF, Bool.and_eq_true, decide_eq_true_iff, ih, List.pairwise_cons]
    constructor
    · rintro ⟨⟨h1, h2⟩, h3, h4⟩
      refine ⟨⟨fun y hy => (h4 y hy).1, h3⟩, ?_⟩
      intro y hy
      rcases List.mem_cons.1 hy with rfl | hy
      · exact ⟨h1, h2⟩
      · have := h4 y hy
        omega
    · rintro ⟨⟨h1, h2⟩, h3⟩
      exact ⟨h3 x (List.mem_cons_self ..), h2, fun y hy => ⟨h1 y hy, (h3 y (List.mem_cons_of_mem _ hy)).2⟩⟩
/-- The floor ahead of a place in a row. -/
def prevF (l : List Int) (i : Nat) : Int := if i = 0 then -1 else rd l ((i - 1 : Nat) : Int)
theorem prev_succ (l : List Int) (i : Nat) (h : i < l.length) : prevF l (i + 1) = l[i] := by
  unfold prevF
  rw [if_neg (by omega), Nat.add_sub_cancel, rd_at l i h]
theorem rising_loop (l : List Int) (fl : Int) (hm : l.length ≤ 1000) (j : Nat) : ∀ (f i : Nat), i + j = l.length → j < f → -1 ≤ prevF l i → collect_rising.l0 f l fl l (l.length : Int) (i : Int) = some (risF fl (prevF l i) (l.drop i)) := by
  induction j with
  | zero =>
    intro f i hi hf hp
    obtain ⟨f, rfl⟩ : ∃ m, f = m + 1 := ⟨f - 1, by omega⟩
    rw [collect_rising.l0, if_neg (by omega), List.drop_of_length_le (by omega)]
    rfl
  | succ j ih =>
    intro f i hi hf hp
    obtain ⟨f, rfl⟩ : ∃ m, f = m + 1 := ⟨f - 1, by omega⟩
    have ha : i < l.length := by omega
    have go : 0 ≤ l[i] → collect_rising.l0 f l fl l (l.length : Int) (wrap64 ((i : Int) + 1)) = some (risF fl l[i] (l.drop (i + 1))) := by
      intro h0
      rw [up1 (by omega), ih f (i + 1) (by omega) (by omega) (by rw [prev_succ l i ha]; omega), prev_succ l i ha]
    rw [collect_rising.l0, if_pos (by omega), if_pos (by omega), if_pos (by omega), rd_at l i ha, drop_get l i ha, risF]
    by_cases c1 : l[i] < 0
    · rw [if_pos c1, decide_eq_false (by omega), Bool.false_and]
    rw [if_neg c1]
    by_cases c2 : l[i] ≥ fl
    · rw [if_pos c2, decide_eq_false (by omega), Bool.false_and]
    rw [if_neg c2]
    by_cases c3 : i = 0
    · have hv : prevF l i = -1 := by unfold prevF; rw [if_pos c3]
      rw [if_neg (by omega), go (by omega), hv, decide_eq_true (by omega), Bool.true_and]
    · have ew : wrap64 ((i : Int) - 1) = ((i - 1 : Nat) : Int) := by rw [w64 (by omega) (by omega)]; omega
      have hv : prevF l i = rd l ((i - 1 : Nat) : Int) := by unfold prevF; rw [if_neg c3]
      rw [if_pos (by omega), ew, if_pos (by omega), if_pos (by omega), ← hv]
      by_cases c4 : prevF l i ≥ l[i]
      · rw [if_pos c4, decide_eq_false (by omega), Bool.false_and]
      · rw [if_neg c4, go (by omega), decide_eq_true (by omega), Bool.true_and]
theorem rising_eq (l : List Int) (fl : Int) (hm : l.length ≤ 1000) (f : Nat) (hf : l.length < f) : collect_rising.f f l fl = some (risF fl (-1) l) := by
  have := rising_loop l fl hm l.length f 0 (by omega) hf (by unfold prevF; rw [if_pos rfl]; exact Int.le_refl _)
  rw [List.drop_zero] at this
  exact this
theorem has_iff (a : Int) (l : List Int) : hasB a l = true ↔ a ∈ l := by unfold hasB; exact decide_eq_true_iff
/-- All that is called. -/
abbrev allC (I U D : List Int) : List Int := I ++ U ++ D
theorem mem_all (a : Int) (I U D : List Int) : a ∈ allC I U D ↔ a ∈ I ∨ a ∈ U ∨ a ∈ D := by
  unfold allC
  rw [List.mem_append, List.mem_append, or_assoc]
/-- Few calls. -/
structure Few (I U D : List Int) : Prop where
  i : I.length ≤ 80
  u : U.length ≤ 80
  d : D.length ≤ 80
variable {I U D : List Int}
theorem called_eq (h : Few I U D) (a : Int) : collect_Called.f I U D a = some (hasB a (allC I U D)) := by
  have := h.i; have := h.u; have := h.d
  unfold collect_Called.f
  rw [if_pos ⟨by omega, by omega, by omega⟩]
  rfl
/-- The look may be. -/
def mayB (fl f d : Int) (I U D : List Int) : Bool := risF fl (-1) I && risF fl (-1) U && risF fl (-1) D && decide (2 ≤ fl ∧ fl ≤ 64 ∧ 0 ≤ f ∧ f < fl ∧ -1 ≤ d ∧ d ≤ 1)
structure May (fl f d : Int) (I U D : List Int) : Prop where
  pi : I.Pairwise (· < ·)
  pu : U.Pairwise (· < ·)
  pd : D.Pairwise (· < ·)
  bi : ∀ x ∈ I, 0 ≤ x ∧ x < fl
  bu : ∀ x ∈ U, 0 ≤ x ∧ x < fl
  bd : ∀ x ∈ D, 0 ≤ x ∧ x < fl
  fl2 : 2 ≤ fl
  fl64 : fl ≤ 64
  f0 : 0 ≤ f
  ff : f < fl
  d0 : -1 ≤ d
  d1 : d ≤ 1
theorem may_iff (fl f d : Int) (I U D : List Int) : mayB fl f d I U D = true ↔ May fl f d I U D := by
  unfold mayB
  rw [Bool.and_eq_true, Bool.and_eq_true, Bool.and_eq_true, decide_eq_true_iff, ris_iff, ris_iff, ris_iff]
  constructor
  · rintro ⟨⟨⟨⟨a, a'⟩, b, b'⟩, c, c'⟩, h1, h2, h3, h4, h5, h6⟩
    exact ⟨a, b, c, fun x hx => by have := a' x hx; omega, fun x hx => by have := b' x hx; omega, fun x hx => by have := c' x hx; omega, h1, h2, h3, h4, h5, h6⟩
  · intro h
    exact ⟨⟨⟨⟨h.pi, fun x hx => by have := h.bi x hx; omega⟩, h.pu, fun x hx => by have := h.bu x hx; omega⟩, h.pd, fun x hx => by have := h.bd x hx; omega⟩, h.fl2, h.fl64, h.f0, h.ff, h.d0, h.d1⟩
theorem May.all {fl f d : Int} (h : May fl f d I U D) : ∀ x ∈ allC I U D, 0 ≤ x ∧ x < fl := by
  intro x hx
  rcases (mem_all x I U D).1 hx with hx | hx | hx
  · exact h.bi x hx
  · exact h.bu x hx
  · exact h.bd x hx
theorem check_rows (h : Few I U D) (fl f d : Int) (su sd : Bool) (k : Nat) (hk : 200 ≤ k) : collect_Check.j0 k false fl f d su sd I U D = some (if risF fl (-1) I && risF fl (-1) U && risF fl (-1) D then 0 else 200) := by
  have := h.i; have := h.u; have := h.d
  obtain ⟨k, rfl⟩ : ∃ m, k = m + 5 := ⟨k - 5, by omega⟩
  rw [collect_Check.j0, if_neg (by decide), Option.bind_some]
  have e1 : wrap64 (0 + 1) = 1 := w64 (by omega) (by omega)
  have e2 : wrap64 (1 + 1) = 2 := w64 (by omega) (by omega)
  have e3 : wrap64 (2 + 1) = 3 := w64 (by omega) (by omega)
  have el : (([I, U, D] : List (List Int)).length : Int) = 3 := rfl
  have r0 : rd_L1 [I, U, D] 0 = I := rfl
  have r1 : rd_L1 [I, U, D] 1 = U := rfl
  have r2 : rd_L1 [I, U, D] 2 = D := rfl
  rw [el]
  rw [collect_Check.l0, if_pos (by decide), if_pos (by decide), el, if_pos (by decide), r0, rising_eq I fl (by omega) _ (by omega), Option.bind_some]
  cases risF fl (-1) I
  · rfl
  rw [if_pos rfl, e1, collect_Check.l0, if_pos (by decide), if_pos (by decide), el, if_pos (by decide), r1, rising_eq U fl (by omega) _ (by omega), Option.bind_some]
  cases risF fl (-1) U
  · rfl
  rw [if_pos rfl, e2, collect_Check.l0, if_pos (by decide), if_pos (by decide), el, if_pos (by decide), r2, rising_eq D fl (by omega) _ (by omega), Option.bind_some]
  cases risF fl (-1) D
  · rfl
  rw [if_pos rfl, e3, collect_Check.l0, if_neg (by decide)]
  rfl
theorem check_bad (fl f d : Int) (su sd : Bool) (k : Nat) (hk : 200 ≤ k) : collect_Check.j0 k true fl f d su sd I U D = some 200 := by
  obtain ⟨k, rfl⟩ : ∃ m, k = m + 1 := ⟨k - 1, by omega⟩
  rw [collect_Check.j0, if_pos rfl]
theorem check_eq (h : Few I U D) (fl f d : Int) (su sd : Bool) (k : Nat) (hk : 200 ≤ k) : collect_Check.f k fl f d su sd I U D = some (if mayB fl f d I U D then 0 else 200) := by
  unfold collect_Check.f
  have bad := check_bad (I := I) (U := U) (D := D) fl f d su sd k hk
  by_cases c1 : fl < 2
  · rw [if_pos c1, bad]
    unfold mayB
    rw [decide_eq_false (by omega), Bool.and_false]
    rfl
  rw [if_neg c1]
  by_cases c2 : fl > 64
  · rw [if_pos c2, bad]
    unfold mayB
    rw [decide_eq_false (by omega), Bool.and_false]
    rfl
  rw [if_neg c2]
  by_cases c3 : f < 0
  · rw [if_pos c3, bad]
    unfold mayB
    rw [decide_eq_false (by omega), Bool.and_false]
    rfl
  rw [if_neg c3]
  by_cases c4 : f ≥ fl
  · rw [if_pos c4, bad]
    unfold mayB
    rw [decide_eq_false (by omega), Bool.and_false]
    rfl
  rw [if_neg c4]
  by_cases c5 : d < -1
  · rw [if_pos c5, bad]
    unfold mayB
    rw [decide_eq_false (by omega), Bool.and_false]
    rfl
  rw [if_neg c5]
  by_cases c6 : d > 1
  · rw [decide_eq_true c6, bad]
    unfold mayB
    rw [decide_eq_false (by omega), Bool.and_false]
    rfl
  · rw [decide_eq_false c6, check_rows h fl f d su sd k hk]
    unfold mayB
    rw [decide_eq_true (by omega), Bool.and_true]
/-- What is next. -/
def nxt (fl f d : Int) (su sd : Bool) (I U D : List Int) : Int × Int × Int := if mayB fl f d I U D then nextB f d su sd I U D else (0, 0, 200)
theorem next_eq (h : Few I U D) (fl f d : Int) (su sd : Bool) (k : Nat) (hk : 200 ≤ k) : collect_Next.f k fl f d su sd I U D = some (nxt fl f d su sd I U D) := by
  have := h.i; have := h.u; have := h.d
  unfold collect_Next.f nxt
  rw [check_eq h fl f d su sd k hk, Option.bind_some]
  cases mayB fl f d I U D
  · rfl
  · show (if (0 : Int) = 0 then _ else _) = _
    rw [if_pos rfl, if_pos ⟨by omega, by omega, by omega⟩]
    rfl
theorem own_eq (h : Few I U D) (fl f d : Int) (su sd : Bool) : newellaw20_Own.f fl f d su sd I U D = some (fl, f, d, su, sd, I, U, D) := by
  have := h.i; have := h.u; have := h.d
  unfold newellaw20_Own.f
  rw [Option.bind_some, if_pos (by simp only [List.length_nil]; omega), Option.bind_some, if_pos (by simp only [List.length_nil]; omega), Option.bind_some, if_pos (by simp only [List.length_nil]; omega)]
  rfl
theorem few_eq (I U D : List Int) : newellaw20_few.f I U D = some (decide (I.length ≤ 80 ∧ U.length ≤ 80 ∧ D.length ≤ 80)) := by
  unfold newellaw20_few.f
  by_cases c1 : I.length ≤ 80
  · rw [if_pos (by omega)]
    by_cases c2 : U.length ≤ 80
    · rw [if_pos (by omega)]
      congr 1
      rw [decide_eq_decide]
      omega
    · rw [if_neg (by omega), decide_eq_false (by omega)]
  · rw [if_neg (by omega), decide_eq_false (by omega)]
theorem few_of (h : decide (I.length ≤ 80 ∧ U.length ≤ 80 ∧ D.length ≤ 80) = true) : Few I U D := by
  obtain ⟨a, b, c⟩ := of_decide_eq_true h
  exact ⟨a, b, c⟩
theorem awake_eq (k : Nat) (hk : 200 ≤ k) : newellaw20_awake.f k = some true := by
  unfold newellaw20_awake.f
  have h : Few [1] ([] : List Int) [3] := ⟨by decide, by decide, by decide⟩
  have e : nxt 4 2 1 false false [1] [] [3] = (1, 1, 0) := by decide
  have m : mayB 4 2 1 [1] [] [3] = true := by decide
  rw [Option.bind_some, Option.bind_some, next_eq h 4 2 1 false false k hk, Option.bind_some, e]
  rw [if_pos rfl, if_pos rfl, if_pos rfl, check_eq h 4 2 1 false false k hk, m, Option.bind_some, if_pos rfl, called_eq h, Option.bind_some, called_eq h]
  rfl
end Go.Proofs.Ytlfgdcgjndjdgaa.ColPure
