/- What the document's functions answer, in plain Lean. -/
import Derived.Test.YtlfgdcgjndjdgaaLaw2
import Derived.Test.YtlfgdcgjndjdgaaCxf14
import Derived.Test.YtlfgdcgjndjdgaaCxf15
import Derived.Test.YtlfgdcgjndjdgaaCxf17
namespace Go.Proofs.Ytlfgdcgjndjdgaa.ColPure
open Go.RowKit Go.Proofs.YtlfgdcgjndjdgaaW.PrintWords Go.Proofs.YtlfgdcgjndjdgaaW.PrintLast Go.Proofs.YtlfgdcgjndjdgaaW.PrintMore Go.Proofs.Ytlfgdcgjndjdgaa.C
set_option linter.unusedVariables false
variable {I U D : List Int}
theorem rises_loop (l : List Int) (fl : Int) (hm : l.length ≤ 1000) (j : Nat) : ∀ (f i : Nat), i + j = l.length → 2 * j + 1 < f → -1 ≤ prevF l i → newelref20_rises.l0 f l fl (i : Int) = some (risF fl (prevF l i) (l.drop i)) := by
  induction j with
  | zero =>
    intro f i hi hf hp
    obtain ⟨f, rfl⟩ : ∃ m, f = m + 1 := ⟨f - 1, by omega⟩
    rw [newelref20_rises.l0, if_neg (by omega), List.drop_of_length_le (by omega)]
    rfl
  | succ j ih =>
    intro f i hi hf hp
    obtain ⟨f, rfl⟩ : ∃ m, f = m + 2 := ⟨f - 2, by omega⟩
    have ha : i < l.length := by omega
    have go : 0 ≤ l[i] → newelref20_rises.l0 f l fl (wrap64 ((i : Int) + 1)) = some (risF fl l[i] (l.drop (i + 1))) := by
      intro h0
      rw [up1 (by omega), ih f (i + 1) (by omega) (by omega) (by rw [prev_succ l i ha]; omega), prev_succ l i ha]
    have bad : newelref20_rises.j1 (f + 1) l fl (i : Int) true = some false := by
      rw [newelref20_rises.j1, if_pos rfl]
    have good : 0 ≤ l[i] → l[i] < fl → newelref20_rises.j1 (f + 1) l fl (i : Int) false = some (risF fl (prevF l i) (l.drop i)) := by
      intro h0 h1
      rw [newelref20_rises.j1, if_neg (by decide), drop_get l i ha, risF]
      by_cases c3 : i = 0
      · have hv : prevF l i = -1 := by unfold prevF; rw [if_pos c3]
        rw [if_neg (by omega), go (by omega), hv, decide_eq_true (by omega), Bool.true_and]
      · have ew : wrap64 ((i : Int) - 1) = ((i - 1 : Nat) : Int) := by rw [w64 (by omega) (by omega)]; omega
        have hv : prevF l i = rd l ((i - 1 : Nat) : Int) := by unfold prevF; rw [if_neg c3]
        rw [if_pos (by omega), if_pos (by omega), if_pos (by omega), ew, if_pos (by omega), if_pos (by omega), ← hv, rd_at l i ha]
        by_cases c4 : l[i] ≤ prevF l i
        · rw [if_pos c4, decide_eq_false (by omega), Bool.false_and]
        · rw [if_neg c4, go (by omega), decide_eq_true (by omega), Bool.true_and]
    rw [newelref20_rises.l0, if_pos (by omega), if_pos (by omega), rd_at l i ha]
    by_cases c1 : l[i] < 0
    · rw [if_pos c1, bad, drop_get l i ha, risF, decide_eq_false (by omega), Bool.false_and]
    rw [if_neg c1]
    by_cases c2 : l[i] ≥ fl
    · rw [decide_eq_true c2, bad, drop_get l i ha, risF, decide_eq_false (by omega), Bool.false_and]
    · rw [decide_eq_false c2, good (by omega) (by omega)]
theorem rises_eq (l : List Int) (fl : Int) (hm : l.length ≤ 1000) (f : Nat) (hf : 2 * l.length + 1 < f) : newelref20_rises.f f l fl = some (risF fl (-1) l) := by
  have := rises_loop l fl hm l.length f 0 (by omega) hf (by unfold prevF; rw [if_pos rfl]; exact Int.le_refl _)
  rw [List.drop_zero] at this
  exact this
theorem in_loop (l : List Int) (a : Int) (hm : l.length ≤ 1000) (j : Nat) : ∀ (f i : Nat), i + j = l.length → j < f → newelref20_in.l0 f l a (i : Int) = some (hasB a (l.drop i)) := by
  induction j with
  | zero =>
    intro f i hi hf
    obtain ⟨f, rfl⟩ : ∃ m, f = m + 1 := ⟨f - 1, by omega⟩
    rw [newelref20_in.l0, if_neg (by omega), List.drop_of_length_le (by omega)]
    rfl
  | succ j ih =>
    intro f i hi hf
    obtain ⟨f, rfl⟩ : ∃ m, f = m + 1 := ⟨f - 1, by omega⟩
    have ha : i < l.length := by omega
    rw [newelref20_in.l0, if_pos (by omega), if_pos (by omega), rd_at l i ha, up1 (by omega), ih f (i + 1) (by omega) (by omega), drop_get l i ha]
    unfold hasB
    by_cases c : l[i] = a
    · rw [if_pos c, decide_eq_true (by rw [c]; exact List.mem_cons_self ..)]
    · rw [if_neg c]
      congr 1
      rw [decide_eq_decide, List.mem_cons]
      exact ⟨.inr, fun h => h.resolve_left (fun e => c e.symm)⟩
theorem in_eq (l : List Int) (a : Int) (hm : l.length ≤ 1000) (f : Nat) (hf : l.length < f) : newelref20_in.f f l a = some (hasB a l) := by
  have := in_loop l a hm l.length f 0 (by omega) hf
  rw [List.drop_zero] at this
  exact this
theorem called20_eq (h : Few I U D) (a : Int) (f : Nat) (hf : 100 ≤ f) : newelref20_Called.f f I U D a = some (hasB a (allC I U D)) := by
  have := h.i; have := h.u; have := h.d
  unfold newelref20_Called.f
  rw [in_eq I a (by omega) f (by omega), Option.bind_some, in_eq U a (by omega) f (by omega), Option.bind_some, in_eq D a (by omega) f (by omega), Option.bind_some]
  have e : hasB a (allC I U D) = (hasB a I || hasB a U || hasB a D) := by
    rw [Bool.eq_iff_iff, has_iff, mem_all, Bool.or_eq_true, Bool.or_eq_true, has_iff, has_iff, has_iff, or_assoc]
  rw [e]
  cases hasB a I <;> cases hasB a U <;> simp
theorem may20_eq (h : Few I U D) (fl f d : Int) (su sd : Bool) (k : Nat) (hk : 200 ≤ k) : newelref20_May.f k fl f d su sd I U D = some (mayB fl f d I U D) := by
  have := h.i; have := h.u; have := h.d
  unfold newelref20_May.f newelref20_View.f
  rw [rises_eq I fl (by omega) k (by omega), Option.bind_some, rises_eq U fl (by omega) k (by omega), Option.bind_some, rises_eq D fl (by omega) k (by omega), Option.bind_some]
  unfold mayB
  cases risF fl (-1) I
  · simp
  cases risF fl (-1) U
  · simp
  cases risF fl (-1) D
  · simp
  simp only [if_true, Option.bind_some, Bool.true_and]
  by_cases c1 : fl ≥ 2
  · rw [if_pos c1]
    by_cases c2 : fl ≤ 64
    · rw [if_pos c2]
      by_cases c3 : f ≥ 0
      · rw [if_pos c3]
        by_cases c4 : f < fl
        · rw [if_pos c4]
          by_cases c5 : d ≥ -1
          · rw [if_pos c5]
            congr 1
            rw [decide_eq_decide]
            omega
          · rw [if_neg c5, decide_eq_false (by omega)]
        · rw [if_neg c4, decide_eq_false (by omega)]
      · rw [if_neg c3, decide_eq_false (by omega)]
    · rw [if_neg c2, decide_eq_false (by omega)]
  · rw [if_neg c1, decide_eq_false (by omega)]
theorem beyond_loop (h : Few I U D) {d : Int} (hd : d = 1 ∨ d = -1) (fl f d2 : Int) (su sd : Bool) (hfl : fl ≤ 64) (j : Nat) : ∀ (k i : Nat), (i : Int) + j = fl → j + 150 ≤ k →
    ∃ b, newelref20_Beyond.l0 k d (i : Int) fl f d2 su sd I U D = some b ∧ (b = true ↔ ∃ n ∈ allC I U D, (i : Int) ≤ n ∧ n < fl ∧ ah d f n) := by
  induction j with
  | zero =>
    intro k i hi hk
    obtain ⟨k, rfl⟩ : ∃ m, k = m + 1 := ⟨k - 1, by omega⟩
    rw [newelref20_Beyond.l0, if_neg (by omega)]
    refine ⟨_, rfl, ?_⟩
    constructor
    · intro e
      cases e
    · rintro ⟨n, _, h1, h2, _⟩
      omega
  | succ j ih =>
    intro k i hi hk
    obtain ⟨k, rfl⟩ : ∃ m, k = m + 1 := ⟨k - 1, by omega⟩
    obtain ⟨b, hb, hbi⟩ := ih k (i + 1) (by omega) (by omega)
    have er : wrap64 ((i : Int) + 1) = ((i + 1 : Nat) : Int) := up1 (by omega)
    rw [newelref20_Beyond.l0, if_pos (by omega), called20_eq h _ k (by omega), Option.bind_some, er, hb]
    have skip : (∃ n ∈ allC I U D, ((i + 1 : Nat) : Int) ≤ n ∧ n < fl ∧ ah d f n) → ∃ n ∈ allC I U D, (i : Int) ≤ n ∧ n < fl ∧ ah d f n := by
      rintro ⟨n, a, b, c⟩
      exact ⟨n, a, by omega, c⟩
    have back : ¬ ((i : Int) ∈ allC I U D ∧ ah d f i) → (∃ n ∈ allC I U D, (i : Int) ≤ n ∧ n < fl ∧ ah d f n) → ∃ n ∈ allC I U D, ((i + 1 : Nat) : Int) ≤ n ∧ n < fl ∧ ah d f n := by
      rintro hn ⟨n, a, b, c, e⟩
      by_cases en : n = (i : Int)
      · exact absurd ⟨en ▸ a, en ▸ e⟩ hn
      · exact ⟨n, a, by omega, c, e⟩
    have no : ¬ ((i : Int) ∈ allC I U D ∧ ah d f i) → ∃ b', some b = some b' ∧ (b' = true ↔ ∃ n ∈ allC I U D, (i : Int) ≤ n ∧ n < fl ∧ ah d f n) :=
      fun hn => ⟨b, rfl, hbi.trans ⟨skip, back hn⟩⟩
    by_cases c1 : hasB (i : Int) (allC I U D) = true
    · rw [if_pos c1]
      have c1' := (has_iff _ _).1 c1
      rcases hd with rfl | rfl
      · rw [if_pos (by decide)]
        by_cases c2 : (i : Int) > f
        · rw [if_pos c2]
          exact ⟨true, rfl, iff_of_true rfl ⟨i, c1', by omega, by omega, .inl ⟨rfl, c2⟩⟩⟩
        · rw [if_neg c2, if_neg (by decide)]
          exact no (fun hh => by have := hh.2; unfold ah at this; omega)
      · rw [if_neg (by decide), if_pos (by decide)]
        by_cases c2 : (i : Int) < f
        · rw [if_pos c2]
          exact ⟨true, rfl, iff_of_true rfl ⟨i, c1', by omega, by omega, .inr ⟨rfl, c2⟩⟩⟩
        · rw [if_neg c2]
          exact no (fun hh => by have := hh.2; unfold ah at this; omega)
    · rw [if_neg c1]
      exact no (fun hh => c1 ((has_iff _ _).2 hh.1))
theorem beyond_eq (h : Few I U D) {fl f d0 d : Int} (hm : May fl f d0 I U D) (hd : d = 1 ∨ d = -1) (su sd : Bool) (k : Nat) (hk : 300 ≤ k) : newelref20_Beyond.f k fl f d0 su sd I U D d = some (anyD d f (allC I U D)) := by
  have := hm.fl2
  have := hm.fl64
  obtain ⟨b, e, hb⟩ := beyond_loop h hd fl f d0 su sd hm.fl64 fl.toNat k 0 (by omega) (by omega)
  rw [← any_range hm hd b hb]
  exact e
theorem here_eq (h : Few I U D) (fl f d0 : Int) {d : Int} (hd : d = 1 ∨ d = -1) (su sd : Bool) (k : Nat) (hk : 300 ≤ k) : newelref20_here.f k fl f d0 su sd I U D d = some (hereB f d I U D) := by
  have := h.i; have := h.u; have := h.d
  unfold newelref20_here.f hereB
  rw [in_eq I f (by omega) k (by omega), Option.bind_some]
  rcases hd with rfl | rfl
  · rw [if_pos (show (1 : Int) > 0 by decide), if_pos (show (0 : Int) < 1 by decide), in_eq U f (by omega) k (by omega), Option.bind_some]
    cases hasB f I <;> simp
  · rw [if_neg (show ¬ (-1 : Int) > 0 by decide), if_neg (show ¬ (0 : Int) < -1 by decide), in_eq D f (by omega) k (by omega), Option.bind_some]
    cases hasB f I <;> simp
theorem been_eq (fl f d0 : Int) {d : Int} (hd : d = 1 ∨ d = -1) (su sd : Bool) : newelref20_been.f fl f d0 su sd I U D d = some (beenB d su sd) := by
  unfold newelref20_been.f
  rcases hd with rfl | rfl
  · rw [if_pos (by decide)]
    rfl
  · rw [if_neg (by decide)]
    rfl
theorem ride_eq {d : Int} (hd : d = 1 ∨ d = -1) : newelref20_ride.f d = some (rideB d, d) := by
  rcases hd with rfl | rfl <;> rfl
theorem next20_dir (h : Few I U D) {fl f d0 d : Int} (hd : d = 1 ∨ d = -1) (up dn su sd : Bool) (k : Nat) (hk : 310 ≤ k) : newelref20_Next.j1 k up dn d fl f d0 su sd I U D = some ((nextD f d up dn su sd I U D).1, (nextD f d up dn su sd I U D).2.1) := by
  obtain ⟨k, rfl⟩ : ∃ m, k = m + 6 := ⟨k - 6, by omega⟩
  have hn := neg_pm hd
  rw [newelref20_Next.j1, here_eq h fl f d0 hd su sd _ (by omega), Option.bind_some, negw hd, here_eq h fl f d0 hn su sd _ (by omega), Option.bind_some, been_eq fl f d0 hd, Option.bind_some, been_eq fl f d0 hn, Option.bind_some]
  unfold nextD
  generalize hereB f d I U D = h1
  generalize hereB f (-d) I U D = h2
  generalize hb1 : beenB d su sd = b1
  generalize hb2 : beenB (-d) su sd = b2
  have j2 : ∀ x, newelref20_Next.j2 (k + 5) up dn d h2 b2 x = if x = true then some (3, d) else (if beenB d up dn = true then some (rideB d, d) else if (!b2 && h2) = true then some (3, -d) else if beenB (-d) up dn = true then some (rideB (-d), -d) else if h2 = true then some (3, -d) else some (3, d)) := by
    intro x
    have j5 : ∀ y, newelref20_Next.j5 (k + 2) d h2 y = if y = true then some (rideB (-d), -d) else if h2 = true then some (3, -d) else some (3, d) := by
      intro y
      rw [newelref20_Next.j5, negw hd, ride_eq hn]
      rfl
    have j4 : ∀ y, newelref20_Next.j4 (k + 3) up dn d h2 y = if y = true then some (3, -d) else if beenB (-d) up dn = true then some (rideB (-d), -d) else if h2 = true then some (3, -d) else some (3, d) := by
      intro y
      rw [newelref20_Next.j4, negw hd]
      rcases hd with rfl | rfl
      · cases y
        · cases dn <;> simp [j5, beenB]
        · rfl
      · cases y
        · cases up <;> simp [j5, beenB]
        · rfl
    have j3 : ∀ y, newelref20_Next.j3 (k + 4) up dn d h2 b2 y = if y = true then some (rideB d, d) else if (!b2 && h2) = true then some (3, -d) else if beenB (-d) up dn = true then some (rideB (-d), -d) else if h2 = true then some (3, -d) else some (3, d) := by
      intro y
      rw [newelref20_Next.j3, ride_eq hd, j4, j4]
      cases y <;> cases h2 <;> cases b2 <;> rfl
    rw [newelref20_Next.j2]
    cases x
    · rw [if_neg (show ¬ (false = true) by decide), if_neg (show ¬ (false = true) by decide)]
      rcases hd with rfl | rfl
      · rw [if_pos (show (1 : Int) > 0 by decide), if_neg (show ¬ (1 : Int) < 0 by decide), j3, j3]
        cases up <;> cases dn <;> rfl
      · rw [if_neg (show ¬ (-1 : Int) > 0 by decide), if_pos (show (-1 : Int) < 0 by decide), j3]
        cases up <;> cases dn <;> rfl
    · rfl
  rw [j2, j2]
  cases h1
  · rw [if_neg (show ¬ (false = true) by decide), if_neg (show ¬ (false = true) by decide), Bool.and_false, if_neg (show ¬ (false = true) by decide)]
    split
    · rfl
    split
    · rfl
    split
    · rfl
    split <;> rfl
  · rw [if_pos rfl, Bool.and_true]
    split
    · rfl
    split
    · rfl
    split
    · rfl
    split
    · rfl
    split <;> rfl
theorem next20_eq (h : Few I U D) {fl f d0 : Int} (hm : May fl f d0 I U D) (su sd : Bool) (k : Nat) (hk : 400 ≤ k) : newelref20_Next.f k fl f d0 su sd I U D = some ((nextB f d0 su sd I U D).1, (nextB f d0 su sd I U D).2.1) := by
  obtain ⟨k, rfl⟩ : ∃ m, k = m + 6 := ⟨k - 6, by omega⟩
  unfold newelref20_Next.f nextB
  rw [called20_eq h f _ (by omega), Option.bind_some, beyond_eq h hm (.inl rfl) su sd _ (by omega), Option.bind_some, beyond_eq h hm (.inr rfl) su sd _ (by omega), Option.bind_some]
  show _ = some ((if allC I U D = [] then _ else _ : Int × Int × Int).1, (if allC I U D = [] then _ else _ : Int × Int × Int).2.1)
  have eu : anyD 1 f (allC I U D) = anyUp f (allC I U D) := rfl
  have ed : anyD (-1) f (allC I U D) = anyDown f (allC I U D) := rfl
  rw [eu, ed]
  have e0 : allC I U D = [] ↔ hasB f (allC I U D) = false ∧ anyUp f (allC I U D) = false ∧ anyDown f (allC I U D) = false := by
    constructor
    · intro e
      rw [e]
      exact ⟨rfl, rfl, rfl⟩
    · rintro ⟨e1, e2, e3⟩
      rw [all_nil]
      intro x hx
      have n1 : ¬ f ∈ allC I U D := fun q => by rw [(has_iff _ _).2 q] at e1; cases e1
      have n2 : ¬ f < x := fun q => by rw [(up_iff _ _).2 ⟨x, hx, q⟩] at e2; cases e2
      have n3 : ¬ x < f := fun q => by rw [(down_iff _ _).2 ⟨x, hx, q⟩] at e3; cases e3
      have : x = f := by omega
      exact n1 (this ▸ hx)
  have go : newelref20_Next.j0 (k + 6) (anyUp f (allC I U D)) (anyDown f (allC I U D)) false fl f d0 su sd I U D = some ((nextD f (dirB f d0 (anyUp f (allC I U D)) U) (anyUp f (allC I U D)) (anyDown f (allC I U D)) su sd I U D).1, (nextD f (dirB f d0 (anyUp f (allC I U D)) U) (anyUp f (allC I U D)) (anyDown f (allC I U D)) su sd I U D).2.1) := by
    rw [newelref20_Next.j0, if_neg (by decide)]
    unfold dirB
    by_cases c : d0 = 0
    · rw [if_pos c, if_pos c, in_eq U f (by have := h.u; omega) _ (by have := h.u; omega), Option.bind_some, next20_dir h (.inl rfl) _ _ su sd _ (by omega), next20_dir h (.inr rfl) _ _ su sd _ (by omega)]
      cases hasB f U <;> cases anyUp f (allC I U D) <;> rfl
    · rw [if_neg c, if_neg c, next20_dir h (by have := hm.d0; have := hm.d1; omega) _ _ su sd _ (by omega)]
  by_cases c : allC I U D = []
  · rw [if_pos c]
    obtain ⟨a1, a2, a3⟩ := e0.1 c
    rw [a1, a2, a3, if_neg (show ¬ (false = true) by decide), if_neg (show ¬ (false = true) by decide), newelref20_Next.j0]
    try rfl
  · rw [if_neg c, go]
    cases e1 : hasB f (allC I U D)
    · cases e2 : anyUp f (allC I U D)
      · cases e3 : anyDown f (allC I U D)
        · exact absurd (e0.2 ⟨e1, e2, e3⟩) c
        · rw [if_neg (show ¬ (false = true) by decide), if_neg (show ¬ (false = true) by decide)]
          rw [e2, e3] at go
          exact go
      · rw [if_neg (show ¬ (false = true) by decide), if_pos rfl]
        first | done | (simp only [e2] at go; exact go)
    · rw [if_pos rfl]
end Go.Proofs.Ytlfgdcgjndjdgaa.ColPure
