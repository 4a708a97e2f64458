/- Rows of numbers as bytes: plain Lean, no memory. -/
import Derived.Test.YtjfikeahafflfaaWire2
namespace Go.Proofs.Ytjfikeahafflfaa.Wire
open Go.RowKit Go.Proofs.YtjfikeahafflfaaW.PrintWords Go.Proofs.YtjfikeahafflfaaW.PrintLast Go.Proofs.YtjfikeahafflfaaW.PrintMore Go.Proofs.Ytjfikeahafflfaa.C

def pts (l : List Int) : List Int := l.flatMap pt
def rowB (l : List Int) : List Int := pt (l.length : Int) ++ pts l
theorem pts_len (l : List Int) : (pts l).length ≤ 10 * l.length := by
  induction l with
  | nil => simp [pts]
  | cons n l ih =>
    have := pt_len n
    simp only [pts, List.flatMap_cons, List.length_append, List.length_cons] at *
    omega
theorem pts_cons (n : Int) (l : List Int) : pts (n :: l) = pt n ++ pts l := rfl
theorem rowB_len (l : List Int) : (rowB l).length ≤ 10 * (l.length + 1) := by
  have := pts_len l
  have := pt_len (l.length : Int)
  simp only [rowB, List.length_append]; omega
theorem pts_by {l : List Int} (h : ∀ x ∈ l, In x) : ∀ y ∈ pts l, By y := by
  intro y hy
  obtain ⟨x, hx, hy⟩ := List.mem_flatMap.1 hy
  exact pt_by (h x hx) y hy
theorem rowB_by {l : List Int} (h : ∀ x ∈ l, In x) (hl : l.length ≤ 1000000) : ∀ y ∈ rowB l, By y := by
  intro y hy
  rcases List.mem_append.1 hy with hy | hy
  · exact pt_by (by unfold In; omega) y hy
  · exact pts_by h y hy
theorem row_loop (l : List Int) (hi : ∀ x ∈ l, In x) (hl : l.length ≤ 1000000) (j : Nat) : ∀ (f i : Nat) (acc : List Int), i + j = l.length → j < f → acc.length ≤ 10 * (i + 1) → wire_Row.l0 f acc l (l.length : Int) (i : Int) = some (acc ++ pts (l.drop i)) := by
  induction j with
  | zero =>
    intro f i acc h hf ha
    obtain ⟨f, rfl⟩ : ∃ m, f = m + 1 := ⟨f - 1, by omega⟩
    simp only [wire_Row.l0]
    rw [if_neg (by omega), List.drop_of_length_le (by omega)]
    simp [pts]
  | succ j ih =>
    intro f i acc h hf ha
    obtain ⟨f, rfl⟩ : ∃ m, f = m + 1 := ⟨f - 1, by omega⟩
    have hlt : i < l.length := by omega
    have ei : wrap64 ((i : Int) + 1) = ((i + 1 : Nat) : Int) := by unfold wrap64; omega
    have hp := pt_len l[i]
    simp only [wire_Row.l0]
    rw [if_pos (by omega), if_pos (by omega), if_pos (by omega), rd_at l i hlt, put_eq _ (hi _ (List.getElem_mem hlt))]
    simp only [Option.bind_some]
    rw [show leb 9 (codeN l[i]) = pt l[i] from rfl, if_pos (by omega), ei, ih f (i + 1) _ (by omega) (by omega) (by simp only [List.length_append]; omega), List.drop_eq_getElem_cons hlt, pts_cons, List.append_assoc]
theorem row_eq (l : List Int) (hi : ∀ x ∈ l, In x) (hl : l.length ≤ 1000000) (f : Nat) (hf : l.length < f) : wire_Row.f f l = some (rowB l) := by
  unfold wire_Row.f
  rw [put_eq _ (by unfold In; omega)]
  simp only [Option.bind_some]
  have := row_loop l hi hl l.length f 0 (leb 9 (codeN (l.length : Int))) (by omega) hf (pt_len (l.length : Int))
  simpa [rowB, pt] using this

/-! ### Rows are read -/
def many : Nat → List Int → Int → List Int → List Int × Int × Int
  | 0, _, nx, acc => (acc, nx, 0)
  | m + 1, b, nx, acc => if (getS b nx).2.2 = 0 then many m b (getS b nx).2.1 (acc ++ [(getS b nx).1]) else ([], 0, (getS b nx).2.2)
def getRowS (b : List Int) (at_ most : Int) : List Int × Int × Int :=
  if (getS b at_).2.2 = 0 then (if (getS b at_).1 < 0 ∨ most < (getS b at_).1 then ([], 0, 83) else many (getS b at_).1.toNat b (getS b at_).2.1 []) else ([], 0, (getS b at_).2.2)
theorem many_loop (b : List Int) (hb : ∀ x ∈ b, By x) (hl : b.length ≤ 1000000000) (m : Nat) : ∀ (f : Nat) (nx : Int) (acc : List Int), m + 30 < f → acc.length + m ≤ 1000000 → wire_GetRow.l0 f b (m : Int) nx 0 acc = some (many m b nx acc) := by
  induction m with
  | zero =>
    intro f nx acc hf ha
    obtain ⟨f, rfl⟩ : ∃ m, f = m + 1 := ⟨f - 1, by omega⟩
    simp only [wire_GetRow.l0, many]
    rw [if_pos trivial, if_neg (by omega)]
  | succ m ih =>
    intro f nx acc hf ha
    obtain ⟨f, rfl⟩ : ∃ m, f = m + 1 := ⟨f - 1, by omega⟩
    have em : wrap64 (((m + 1 : Nat) : Int) - 1) = (m : Int) := by unfold wrap64; omega
    simp only [wire_GetRow.l0, many]
    rw [if_pos trivial, if_pos (by omega), get_eq b hb hl nx f (by omega)]
    simp only [Option.bind_some]
    rw [if_pos (by omega), em]
    by_cases h : (getS b nx).2.2 = 0
    · rw [if_pos h, h]
      exact ih f _ _ (by omega) (by simp only [List.length_append, List.length_cons, List.length_nil]; omega)
    · rw [if_neg h]
      obtain ⟨f, rfl⟩ : ∃ m, f = m + 1 := ⟨f - 1, by omega⟩
      simp only [wire_GetRow.l0]
      rw [if_neg h]
theorem getRow_eq (b : List Int) (hb : ∀ x ∈ b, By x) (hl : b.length ≤ 1000000000) (at_ most : Int) (hm : most ≤ 100000) (f : Nat) (hf : most.toNat + 40 < f) : wire_GetRow.f f b at_ most = some (getRowS b at_ most) := by
  unfold wire_GetRow.f getRowS
  rw [get_eq b hb hl at_ f (by omega)]
  obtain ⟨f, rfl⟩ : ∃ m, f = m + 2 := ⟨f - 2, by omega⟩
  simp only [Option.bind_some]
  have hj : ∀ (n nx e : Int) (x : Bool), wire_GetRow.j0 (f + 2) b n nx e x = wire_GetRow.l0 f b n nx (if x = true then 83 else e) [] := by
    intro n nx e x
    simp only [wire_GetRow.j0, wire_GetRow.j1]
    cases x <;> rfl
  have he : ∀ (n nx e : Int), e ≠ 0 → wire_GetRow.l0 f b n nx e [] = some ([], 0, e) := by
    intro n nx e h
    obtain ⟨f, rfl⟩ : ∃ m, f = m + 1 := ⟨f - 1, by omega⟩
    simp only [wire_GetRow.l0]
    rw [if_neg h]
  by_cases h : (getS b at_).2.2 = 0
  · rw [if_pos h, if_pos h]
    by_cases h1 : (getS b at_).1 < 0
    · rw [if_pos h1, if_pos (.inl h1), hj, if_pos rfl, he _ _ _ (by decide)]
    · rw [if_neg h1]
      by_cases h2 : (getS b at_).1 > most
      · rw [decide_eq_true h2, if_pos (.inr h2), hj, if_pos rfl, he _ _ _ (by decide)]
      · rw [decide_eq_false h2, if_neg (by omega), hj, if_neg (by decide), h]
        obtain ⟨n, hn⟩ := Int.eq_ofNat_of_zero_le (show 0 ≤ (getS b at_).1 by omega)
        rw [hn, Int.toNat_natCast]
        exact many_loop b hb hl n f _ [] (by omega) (by simp; omega)
  · rw [if_neg h, if_neg h, hj, if_neg (by decide), he _ _ _ h]
theorem many_back (l : List Int) : ∀ (pre tail acc : List Int), (∀ x ∈ l, In x) → many l.length (pre ++ (pts l ++ tail)) (pre.length : Int) acc = (acc ++ l, (pre.length : Int) + ((pts l).length : Int), 0) := by
  induction l with
  | nil => intro pre tail acc _; simp [many, pts]
  | cons n l ih =>
    intro pre tail acc h
    have e : pre ++ (pts (n :: l) ++ tail) = pre ++ (pt n ++ (pts l ++ tail)) := by rw [pts_cons, List.append_assoc]
    simp only [List.length_cons, many]
    rw [e, getS_pt (h n List.mem_cons_self)]
    simp only
    rw [if_pos trivial, ← List.append_assoc]
    have := ih (pre ++ pt n) tail (acc ++ [n]) (fun x hx => h x (List.mem_cons_of_mem _ hx))
    rw [List.length_append] at this
    rw [show (pre.length : Int) + ((pt n).length : Int) = ((pre.length + (pt n).length : Nat) : Int) from by omega, this, pts_cons]
    simp only [List.append_assoc, List.cons_append, List.nil_append, List.length_append]
    congr 2
    omega
theorem many_short (l : List Int) : ∀ (pre acc : List Int) (i : Nat), (∀ x ∈ l, In x) → i < (pts l).length → many l.length (pre ++ (pts l).take i) (pre.length : Int) acc = ([], 0, 81) := by
  induction l with
  | nil => intro pre acc i _ h; simp [pts] at h
  | cons n l ih =>
    intro pre acc i h hi
    simp only [List.length_cons, many]
    by_cases hc : i < (pt n).length
    · rw [pts_cons, List.take_append_of_le_length (by omega), getS_short (h n List.mem_cons_self) pre i hc]
      rfl
    · have e : (pts (n :: l)).take i = pt n ++ (pts l).take (i - (pt n).length) := by
        rw [pts_cons, List.take_append, List.take_of_length_le (by omega)]
      rw [e, getS_pt (h n List.mem_cons_self)]
      simp only
      rw [if_pos trivial, ← List.append_assoc]
      have := ih (pre ++ pt n) (acc ++ [n]) (i - (pt n).length) (fun x hx => h x (List.mem_cons_of_mem _ hx)) (by rw [pts_cons, List.length_append] at hi; omega)
      rw [List.length_append] at this
      rw [show (pre.length : Int) + ((pt n).length : Int) = ((pre.length + (pt n).length : Nat) : Int) from by omega, this]
theorem getRowS_back (l tail : List Int) (h : ∀ x ∈ l, In x) (hl : l.length ≤ 1000000) (most : Int) (hm : (l.length : Int) ≤ most) : getRowS (rowB l ++ tail) 0 most = (l, ((rowB l).length : Int), 0) := by
  have hn : In (l.length : Int) := by unfold In; omega
  have g := getS_pt hn [] (pts l ++ tail)
  have e : rowB l ++ tail = [] ++ (pt (l.length : Int) ++ (pts l ++ tail)) := by simp [rowB]
  have e0 : ((([] : List Int).length : Nat) : Int) = 0 := rfl
  rw [e0, ← e] at g
  unfold getRowS
  rw [g]
  simp only
  rw [if_pos trivial, if_neg (by omega), Int.toNat_natCast]
  have := many_back l (pt (l.length : Int)) tail [] h
  rw [show rowB l ++ tail = pt (l.length : Int) ++ (pts l ++ tail) from by simp [rowB], show (0 : Int) + ((pt (l.length : Int)).length : Int) = ((pt (l.length : Int)).length : Int) from by omega, this]
  simp only [List.nil_append, rowB, List.length_append]
  congr 2
theorem getRowS_many (l tail : List Int) (hl : l.length ≤ 1000000) (most : Int) (hm : most < (l.length : Int)) : getRowS (rowB l ++ tail) 0 most = ([], 0, 83) := by
  have hn : In (l.length : Int) := by unfold In; omega
  have g := getS_pt hn [] (pts l ++ tail)
  have e : rowB l ++ tail = [] ++ (pt (l.length : Int) ++ (pts l ++ tail)) := by simp [rowB]
  have e0 : ((([] : List Int).length : Nat) : Int) = 0 := rfl
  rw [e0, ← e] at g
  unfold getRowS
  rw [g]
  simp only
  rw [if_pos trivial, if_pos (.inr hm)]
theorem getRowS_short (l : List Int) (h : ∀ x ∈ l, In x) (hl : l.length ≤ 1000000) (most : Int) (hm : (l.length : Int) ≤ most) (i : Nat) (hi : i < (rowB l).length) : getRowS ((rowB l).take i) 0 most = ([], 0, 81) := by
  have hn : In (l.length : Int) := by unfold In; omega
  have e0 : ((([] : List Int).length : Nat) : Int) = 0 := rfl
  unfold getRowS
  by_cases hc : i < (pt (l.length : Int)).length
  · have g := getS_short hn [] i hc
    rw [e0, List.nil_append] at g
    have e : (rowB l).take i = (pt (l.length : Int)).take i := by unfold rowB; rw [List.take_append_of_le_length (by omega)]
    rw [e, g]
    rfl
  · have e : (rowB l).take i = pt (l.length : Int) ++ (pts l).take (i - (pt (l.length : Int)).length) := by
      unfold rowB
      rw [List.take_append, List.take_of_length_le (by omega)]
    have g := getS_pt hn [] ((pts l).take (i - (pt (l.length : Int)).length))
    rw [e0, List.nil_append, ← e] at g
    rw [g]
    simp only
    rw [if_pos trivial, if_neg (by omega), Int.toNat_natCast, e, show (0 : Int) + ((pt (l.length : Int)).length : Int) = ((pt (l.length : Int)).length : Int) from by omega]
    exact many_short l _ [] _ h (by simp only [rowB, List.length_append] at hi; omega)
end Go.Proofs.Ytjfikeahafflfaa.Wire
