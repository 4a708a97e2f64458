/- What lies ahead, and what the document says is next: plain Lean, no memory. -/
import Derived.Test.YtlfgdcgjndjdgaaLaw1
namespace Go.Proofs.Ytlfgdcgjndjdgaa.ColPure
open Go.RowKit Go.Proofs.YtlfgdcgjndjdgaaW.PrintWords Go.Proofs.YtlfgdcgjndjdgaaW.PrintLast Go.Proofs.YtlfgdcgjndjdgaaW.PrintMore Go.Proofs.Ytlfgdcgjndjdgaa.C
set_option linter.unusedVariables false
variable {I U D : List Int}
/-- Ahead, in a direction. -/
def ah (d f c : Int) : Prop := (d = 1 ∧ f < c) ∨ (d = -1 ∧ c < f)
theorem up_iff (f : Int) (l : List Int) : anyUp f l = true ↔ ∃ n ∈ l, f < n := by
  unfold anyUp
  rw [List.any_eq_true]
  simp only [decide_eq_true_iff]
theorem down_iff (f : Int) (l : List Int) : anyDown f l = true ↔ ∃ n ∈ l, n < f := by
  unfold anyDown
  rw [List.any_eq_true]
  simp only [decide_eq_true_iff]
/-- Is anything ahead? -/
def anyD (d f : Int) (l : List Int) : Bool := beenB d (anyUp f l) (anyDown f l)
theorem been_one (a b : Bool) : beenB 1 a b = a := rfl
theorem been_neg (a b : Bool) : beenB (-1) a b = b := rfl
theorem anyD_iff {d : Int} (hd : d = 1 ∨ d = -1) (f : Int) (l : List Int) : anyD d f l = true ↔ ∃ n ∈ l, ah d f n := by
  unfold anyD ah
  rcases hd with rfl | rfl
  · rw [been_one, up_iff]
    constructor
    · rintro ⟨n, h, h2⟩
      exact ⟨n, h, .inl ⟨rfl, h2⟩⟩
    · rintro ⟨n, h, h2⟩
      exact ⟨n, h, by omega⟩
  · rw [been_neg, down_iff]
    constructor
    · rintro ⟨n, h, h2⟩
      exact ⟨n, h, .inr ⟨rfl, h2⟩⟩
    · rintro ⟨n, h, h2⟩
      exact ⟨n, h, by omega⟩
theorem any_range {fl f d0 d : Int} (hm : May fl f d0 I U D) (hd : d = 1 ∨ d = -1) (b : Bool) (hb : b = true ↔ ∃ n ∈ allC I U D, ((0 : Nat) : Int) ≤ n ∧ n < fl ∧ ah d f n) : b = anyD d f (allC I U D) := by
  rw [Bool.eq_iff_iff, hb, anyD_iff hd]
  constructor
  · rintro ⟨n, a, _, _, e⟩
    exact ⟨n, a, e⟩
  · rintro ⟨n, a, e⟩
    have := hm.all n a
    exact ⟨n, a, by omega, by omega, e⟩
theorem negw {d : Int} (hd : d = 1 ∨ d = -1) : wrap64 (-d) = -d := by rcases hd with rfl | rfl <;> (unfold wrap64; omega)
theorem neg_pm {d : Int} (hd : d = 1 ∨ d = -1) : -d = 1 ∨ -d = -1 := by omega
theorem been_neg_arg {d : Int} (hd : d = 1 ∨ d = -1) (a b : Bool) : beenB (-d) a b = beenB d b a := by rcases hd with rfl | rfl <;> rfl
theorem all_nil : allC I U D = [] ↔ ∀ x, x ∉ allC I U D := List.eq_nil_iff_forall_not_mem
theorem nextD_cases {f d : Int} {up dn su sd : Bool} (P : Int × Int × Int → Prop)
    (A : beenB d su sd = false → hereB f d I U D = true → P (3, d, 0))
    (B : ¬ (beenB d su sd = false ∧ hereB f d I U D = true) → beenB d up dn = true → P (rideB d, d, 0))
    (C : ¬ (beenB d su sd = false ∧ hereB f d I U D = true) → beenB d up dn = false → beenB (-d) su sd = false → hereB f (-d) I U D = true → P (3, -d, 0))
    (R : ¬ (beenB d su sd = false ∧ hereB f d I U D = true) → beenB d up dn = false → ¬ (beenB (-d) su sd = false ∧ hereB f (-d) I U D = true) → beenB (-d) up dn = true → P (rideB (-d), -d, 0))
    (E : ¬ (beenB d su sd = false ∧ hereB f d I U D = true) → beenB d up dn = false → beenB (-d) up dn = false → hereB f (-d) I U D = true → P (3, -d, 0))
    (F : beenB d up dn = false → beenB (-d) up dn = false → hereB f (-d) I U D = false → P (3, d, 0)) : P (nextD f d up dn su sd I U D) := by
  unfold nextD
  have e1 : (!beenB d su sd && hereB f d I U D) = true ↔ beenB d su sd = false ∧ hereB f d I U D = true := by cases beenB d su sd <;> simp
  have e2 : (!beenB (-d) su sd && hereB f (-d) I U D) = true ↔ beenB (-d) su sd = false ∧ hereB f (-d) I U D = true := by cases beenB (-d) su sd <;> simp
  by_cases c1 : (!beenB d su sd && hereB f d I U D) = true
  · rw [if_pos c1]
    exact A (e1.1 c1).1 (e1.1 c1).2
  rw [if_neg c1]
  have c1' := fun q => c1 (e1.2 q)
  by_cases c2 : beenB d up dn = true
  · rw [if_pos c2]
    exact B c1' c2
  rw [if_neg c2]
  have c2' := Bool.eq_false_iff.2 c2
  by_cases c3 : (!beenB (-d) su sd && hereB f (-d) I U D) = true
  · rw [if_pos c3]
    exact C c1' c2' (e2.1 c3).1 (e2.1 c3).2
  rw [if_neg c3]
  by_cases c4 : beenB (-d) up dn = true
  · rw [if_pos c4]
    exact R c1' c2' (fun q => c3 (e2.2 q)) c4
  rw [if_neg c4]
  have c4' := Bool.eq_false_iff.2 c4
  by_cases c5 : hereB f (-d) I U D = true
  · rw [if_pos c5]
    exact E c1' c2' c4' c5
  · rw [if_neg c5]
    exact F c2' c4' (Bool.eq_false_iff.2 c5)
theorem here_iff {d : Int} (hd : d = 1 ∨ d = -1) (f : Int) : hereB f d I U D = true ↔ f ∈ I ∨ (d = 1 ∧ f ∈ U) ∨ (d = -1 ∧ f ∈ D) := by
  unfold hereB
  rcases hd with rfl | rfl
  · rw [if_pos (by decide), Bool.or_eq_true, has_iff, has_iff]
    simp
  · rw [if_neg (by decide), Bool.or_eq_true, has_iff, has_iff]
    simp
theorem here_mem {d : Int} (hd : d = 1 ∨ d = -1) {f : Int} (h : hereB f d I U D = true) : f ∈ allC I U D := by
  rw [mem_all]
  rcases (here_iff hd f).1 h with h | h | h
  · exact .inl h
  · exact .inr (.inl h.2)
  · exact .inr (.inr h.2)
theorem here_of {d : Int} (hd : d = 1 ∨ d = -1) {f : Int} (h : f ∈ allC I U D) : hereB f d I U D = true ∨ hereB f (-d) I U D = true := by
  rw [here_iff hd, here_iff (neg_pm hd)]
  rw [mem_all] at h
  rcases hd with rfl | rfl <;> rcases h with h | h | h <;> simp [h]
theorem none_ahead {d : Int} (hd : d = 1 ∨ d = -1) {f : Int} (h1 : anyD d f (allC I U D) = false) (h2 : anyD (-d) f (allC I U D) = false) : ∀ x ∈ allC I U D, x = f := by
  intro x hx
  have n1 : ¬ ah d f x := fun q => by rw [(anyD_iff hd _ _).2 ⟨x, hx, q⟩] at h1; cases h1
  have n2 : ¬ ah (-d) f x := fun q => by rw [(anyD_iff (neg_pm hd) _ _).2 ⟨x, hx, q⟩] at h2; cases h2
  unfold ah at n1 n2
  omega
theorem here_end {d : Int} (hd : d = 1 ∨ d = -1) {f : Int} (hC : allC I U D ≠ []) (h1 : anyD d f (allC I U D) = false) (h2 : anyD (-d) f (allC I U D) = false) (h3 : hereB f (-d) I U D = false) : hereB f d I U D = true := by
  obtain ⟨x, hx⟩ := List.exists_mem_of_ne_nil _ hC
  have hf : f ∈ allC I U D := none_ahead hd h1 h2 x hx ▸ hx
  rcases here_of hd hf with h | h
  · exact h
  · rw [h3] at h
    cases h
theorem dirB_pm {f d : Int} {up : Bool} (h0 : -1 ≤ d) (h1 : d ≤ 1) : dirB f d up U = 1 ∨ dirB f d up U = -1 := by
  unfold dirB
  split
  · split
    · exact .inl rfl
    · exact .inr rfl
  · omega
theorem dirB_same {f d : Int} {up : Bool} (hd : d = 1 ∨ d = -1) : dirB f d up U = d := by
  unfold dirB
  rw [if_neg (by omega)]
/-- What is next: said with a direction. -/
def nx (f d : Int) (su sd : Bool) (I U D : List Int) : Int × Int × Int := nextD f d (anyUp f (allC I U D)) (anyDown f (allC I U D)) su sd I U D
theorem nextB_eq {f d : Int} {su sd : Bool} (hC : allC I U D ≠ []) : nextB f d su sd I U D = nx f (dirB f d (anyUp f (allC I U D)) U) su sd I U D := if_neg hC
theorem nextB_nil {f d : Int} {su sd : Bool} (hC : allC I U D = []) : nextB f d su sd I U D = (0, 0, 0) := if_pos hC
theorem nx_facts {f d : Int} {su sd : Bool} (hd : d = 1 ∨ d = -1) (hC : allC I U D ≠ []) :
    (nx f d su sd I U D).2.2 = 0 ∧ ((nx f d su sd I U D).2.1 = 1 ∨ (nx f d su sd I U D).2.1 = -1) ∧
    (((nx f d su sd I U D).1 = 3 ∧ hereB f (nx f d su sd I U D).2.1 I U D = true) ∨ ((nx f d su sd I U D).1 = rideB (nx f d su sd I U D).2.1 ∧ anyD (nx f d su sd I U D).2.1 f (allC I U D) = true)) ∧
    ((nx f d su sd I U D).2.1 = d ∨ ((nx f d su sd I U D).2.1 = -d ∧ anyD d f (allC I U D) = false)) ∧
    (beenB d su sd = true → (nx f d su sd I U D).1 = 3 → (nx f d su sd I U D).2.1 = d → anyD d f (allC I U D) = false ∧ anyD (-d) f (allC I U D) = false) := by
  have hn := neg_pm hd
  have hr : rideB d ≠ 3 := by unfold rideB; split <;> decide
  have hr' : rideB (-d) ≠ 3 := by unfold rideB; split <;> decide
  unfold nx
  refine nextD_cases (fun n => n.2.2 = 0 ∧ (n.2.1 = 1 ∨ n.2.1 = -1) ∧ ((n.1 = 3 ∧ hereB f n.2.1 I U D = true) ∨ (n.1 = rideB n.2.1 ∧ anyD n.2.1 f (allC I U D) = true)) ∧ (n.2.1 = d ∨ (n.2.1 = -d ∧ anyD d f (allC I U D) = false)) ∧ (beenB d su sd = true → n.1 = 3 → n.2.1 = d → anyD d f (allC I U D) = false ∧ anyD (-d) f (allC I U D) = false)) ?_ ?_ ?_ ?_ ?_ ?_
  · intro a b
    exact ⟨rfl, hd, .inl ⟨rfl, b⟩, .inl rfl, fun q => by rw [a] at q; cases q⟩
  · intro a b
    exact ⟨rfl, hd, .inr ⟨rfl, b⟩, .inl rfl, fun _ q => absurd q hr⟩
  · intro a b c e
    exact ⟨rfl, hn, .inl ⟨rfl, e⟩, .inr ⟨rfl, b⟩, fun _ _ q => by have : -d = d := q; omega⟩
  · intro a b c e
    exact ⟨rfl, hn, .inr ⟨rfl, e⟩, .inr ⟨rfl, b⟩, fun _ q => absurd q hr'⟩
  · intro a b c e
    exact ⟨rfl, hn, .inl ⟨rfl, e⟩, .inr ⟨rfl, b⟩, fun _ _ q => by have : -d = d := q; omega⟩
  · intro b c e
    exact ⟨rfl, hd, .inl ⟨rfl, here_end hd hC b c e⟩, .inl rfl, fun _ _ _ => ⟨b, c⟩⟩
theorem sum_eq (h : Few I U D) : wrap64 ((wrap64 ((I.length : Int) + (U.length : Int))) + (D.length : Int)) = ((allC I U D).length : Int) := by
  have := h.i; have := h.u; have := h.d
  rw [w64 (n := (I.length : Int) + U.length) (by omega) (by omega), w64 (by omega) (by omega)]
  simp only [allC, List.length_append]
  omega
end Go.Proofs.Ytlfgdcgjndjdgaa.ColPure
