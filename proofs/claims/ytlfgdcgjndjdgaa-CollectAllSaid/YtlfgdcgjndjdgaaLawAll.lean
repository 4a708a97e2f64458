/- All calls are answered, and in no more rides than three times the house: the law, in plain Lean. -/
import Derived.Test.YtlfgdcgjndjdgaaLaw2
import Derived.Test.YtlfgdcgjndjdgaaCxf7
namespace Go.Proofs.Ytlfgdcgjndjdgaa.ColPure
open Go.RowKit Go.Proofs.YtlfgdcgjndjdgaaW.PrintWords Go.Proofs.YtlfgdcgjndjdgaaW.PrintLast Go.Proofs.YtlfgdcgjndjdgaaW.PrintMore Go.Proofs.Ytlfgdcgjndjdgaa.C
set_option linter.unusedVariables false
variable {I U D : List Int}
/-- A row without a floor. -/
def woL (a : Int) (l : List Int) : List Int := l.filter (fun x => decide (x ≠ a))
theorem wo_cons (a x : Int) (l : List Int) : woL a (x :: l) = if x = a then woL a l else x :: woL a l := by
  unfold woL
  rw [List.filter_cons]
  by_cases c : x = a
  · rw [if_pos c, if_neg (by rw [decide_eq_true_iff]; exact fun q => q c)]
  · rw [if_neg c, if_pos (decide_eq_true c)]
theorem without_loop (l : List Int) (a : Int) (hm : l.length ≤ 1000) (j : Nat) : ∀ (f i : Nat) (acc : List Int), i + j = l.length → j < f → acc.length + j ≤ 2000 →
    newellaw20_without.l0 f l a acc (i : Int) = some (acc ++ woL a (l.drop i)) := by
  induction j with
  | zero =>
    intro f i acc hi hf hc
    obtain ⟨f, rfl⟩ : ∃ m, f = m + 1 := ⟨f - 1, by omega⟩
    rw [newellaw20_without.l0, if_neg (by omega), List.drop_of_length_le (by omega)]
    simp [woL]
  | succ j ih =>
    intro f i acc hi hf hc
    obtain ⟨f, rfl⟩ : ∃ m, f = m + 1 := ⟨f - 1, by omega⟩
    have ha : i < l.length := by omega
    rw [newellaw20_without.l0, if_pos (by omega), if_pos (by omega), rd_at l i ha, up1 (by omega), drop_get l i ha]
    by_cases c : l[i] = a
    · rw [if_pos c, ih f (i + 1) acc (by omega) (by omega) (by omega), wo_cons, if_pos c]
    · rw [if_neg c, if_pos (by omega), ih f (i + 1) _ (by omega) (by omega) (by rw [List.length_append]; simp only [List.length_cons, List.length_nil]; omega), wo_cons, if_neg c, List.append_assoc]
      rfl
theorem without_eq (l : List Int) (a : Int) (hm : l.length ≤ 80) (f : Nat) (hf : 100 ≤ f) : newellaw20_without.f f l a = some (woL a l) := by
  have := without_loop l a (by omega) l.length f 0 [] (by omega) (by omega) (by simp only [List.length_nil]; omega)
  rw [List.drop_zero, List.nil_append] at this
  exact this
theorem mem_wo (a x : Int) (l : List Int) : x ∈ woL a l ↔ x ∈ l ∧ x ≠ a := by
  unfold woL
  rw [List.mem_filter, decide_eq_true_iff]
theorem wo_le (a : Int) (l : List Int) : (woL a l).length ≤ l.length := List.length_filter_le _ _
theorem wo_lt (a : Int) (l : List Int) (h : a ∈ l) : (woL a l).length < l.length := by
  unfold woL
  rcases Nat.lt_or_ge (l.filter (fun x => decide (x ≠ a))).length l.length with q | q
  · exact q
  · have e := (List.length_filter_eq_length_iff.1 (Nat.le_antisymm (List.length_filter_le _ _) q)) a h
    simp at e
theorem wo_pair (a : Int) (l : List Int) (h : l.Pairwise (· < ·)) : (woL a l).Pairwise (· < ·) := h.filter _
/- Where the lift's way stands: how many rides are left, at most. -/
def CC (I S S' : Int → Prop) (c : Int) : Prop := I c ∨ S c ∨ S' c
def Clean (f : Int) (b b' : Bool) (I S S' : Int → Prop) : Prop := (b = true → ¬ I f ∧ ¬ S f) ∧ (b' = true → ¬ I f ∧ ¬ S' f)
def inv0 (f : Int) (I S S' : Int → Prop) : Prop := ∀ c, CC I S S' c → c = f
def inv3 (d f : Int) (b b' : Bool) (I S S' : Int → Prop) : Prop := Clean f b b' I S S' ∧ (∀ c, CC I S S' c → ¬ ah d c f) ∧ (∀ c, S' c → ∀ c', CC I S S' c' → ¬ ah d c c')
def inv2 (d f : Int) (b b' : Bool) (I S S' : Int → Prop) : Prop := (Clean f b b' I S S' ∨ ∀ c, CC I S S' c → ¬ ah d c f) ∧ (∀ c, S c → ah d c f → ∀ c', CC I S S' c' → ¬ ah d c' c)
def rm (T d f : Int) : Int := if 0 < d then T - f else f
def pot (T d f : Int) (b b' : Bool) (I S S' : Int → Prop) (m : Int) : Prop := inv0 f I S S' ∨ (inv3 d f b b' I S S' ∧ rm T d f ≤ m) ∨ (inv2 d f b b' I S S' ∧ rm T d f + T ≤ m) ∨ rm T d f + 2 * T ≤ m
theorem ah_flip {d : Int} (hd : d = 1 ∨ d = -1) {a b : Int} : ah (-d) a b ↔ ah d b a := by unfold ah; omega
theorem ah_step {d : Int} (hd : d = 1 ∨ d = -1) {c f : Int} (h : ah d c (f + d)) : c = f ∨ ah d c f := by unfold ah at *; omega
theorem ah_tri {d : Int} (hd : d = 1 ∨ d = -1) (c f : Int) : c = f ∨ ah d c f ∨ ah d f c := by unfold ah; omega
theorem ah_irr {d c : Int} (h : ah d c c) : False := by unfold ah at h; omega
theorem rm_step {d : Int} (hd : d = 1 ∨ d = -1) (T f : Int) : rm T d (f + d) = rm T d f - 1 := by
  unfold rm
  rcases hd with rfl | rfl
  · rw [if_pos (by decide), if_pos (by decide)]; omega
  · rw [if_neg (by decide), if_neg (by decide)]; omega
theorem rm_flip {d : Int} (hd : d = 1 ∨ d = -1) (T f : Int) : rm T (-d) f = T - rm T d f := by
  unfold rm
  rcases hd with rfl | rfl
  · rw [if_neg (by decide), if_pos (by decide)]; omega
  · rw [if_pos (by decide), if_neg (by decide)]
theorem rm_pos {d : Int} (hd : d = 1 ∨ d = -1) {T f c : Int} (h : ah d f c) (h0 : 0 ≤ c) (h1 : c ≤ T) : 1 ≤ rm T d f := by
  unfold rm
  unfold ah at h
  rcases hd with rfl | rfl
  · rw [if_pos (by decide)]; omega
  · rw [if_neg (by decide)]; omega
theorem rm_in {d : Int} (hd : d = 1 ∨ d = -1) {T f : Int} (h0 : 0 ≤ f) (h1 : f ≤ T) : 0 ≤ rm T d f ∧ rm T d f ≤ T := by
  unfold rm
  rcases hd with rfl | rfl
  · rw [if_pos (by decide)]; omega
  · rw [if_neg (by decide)]; omega
theorem clean_free (f : Int) (I S S' : Int → Prop) : Clean f false false I S S' := ⟨fun q => (by cases q), fun q => (by cases q)⟩
theorem cc_swap {I S S' : Int → Prop} {c : Int} (h : CC I S' S c) : CC I S S' c := h.elim .inl (fun q => q.elim (fun a => .inr (.inr a)) (fun a => .inr (.inl a)))
section
variable {T d f m : Int} {b b' : Bool} {P S S' : Int → Prop}
theorem ride_on (hd : d = 1 ∨ d = -1) (hT : ∀ c, CC P S S' c → 0 ≤ c ∧ c ≤ T) (hf : 0 ≤ f ∧ f ≤ T) (A : ∃ c, CC P S S' c ∧ ah d f c) (n1 : ¬ (b = false ∧ (P f ∨ S f))) (hp : pot T d f b b' P S S' m) :
    1 ≤ m ∧ pot T d (f + d) false false P S S' (m - 1) := by
  obtain ⟨c0, hc0, ha0⟩ := A
  have hr := rm_pos hd ha0 (hT c0 hc0).1 (hT c0 hc0).2
  have hs := rm_step hd T f
  have cl : Clean f b b' P S S' → ¬ P f ∧ ¬ S f := by
    intro q
    cases hb : b with
    | true => exact q.1 hb
    | false => exact ⟨fun a => n1 ⟨hb, .inl a⟩, fun a => n1 ⟨hb, .inr a⟩⟩
  rcases hp with h | ⟨⟨h1, h2, h3⟩, h⟩ | ⟨⟨h1, h2⟩, h⟩ | h
  · have := h c0 hc0
    subst this
    exact (ah_irr ha0).elim
  · refine ⟨by omega, .inr (.inl ⟨⟨clean_free _ _ _ _, ?_, h3⟩, by omega⟩)⟩
    intro c hc hah
    rcases ah_step hd hah with rfl | q
    · rcases hc with a | a | a
      · exact (cl h1).1 a
      · exact (cl h1).2 a
      · exact h3 _ a c0 hc0 ha0
    · exact h2 c hc q
  · have hT0 : 0 ≤ T := by omega
    refine ⟨by omega, .inr (.inr (.inl ⟨⟨.inl (clean_free _ _ _ _), ?_⟩, by omega⟩))⟩
    intro c hc hah c' hc'
    rcases ah_step hd hah with rfl | q
    · rcases h1 with h1 | h1
      · exact absurd hc (cl h1).2
      · exact h1 c' hc'
    · exact h2 c hc q c' hc'
  · have hT0 : 0 ≤ T := by omega
    exact ⟨by omega, .inr (.inr (.inr (by omega)))⟩
theorem ride_back (hd : d = 1 ∨ d = -1) (hT1 : 1 ≤ T) (hf : 0 ≤ f ∧ f ≤ T) (nA : ∀ c, CC P S S' c → ¬ ah d f c) (B : ∃ c, CC P S S' c ∧ ah (-d) f c) (n1 : ¬ (b = false ∧ (P f ∨ S f))) (n2 : ¬ (b' = false ∧ (P f ∨ S' f))) (hp : pot T d f b b' P S S' m) :
    1 ≤ m ∧ pot T (-d) (f + -d) false false P S' S (m - 1) := by
  obtain ⟨c0, hc0, ha0⟩ := B
  have hn := neg_pm hd
  have hr := rm_in hd hf.1 hf.2
  have hs := rm_step hn T f
  have hfl := rm_flip hd T f
  have cl : Clean f b b' P S S' → ¬ P f ∧ ¬ S f ∧ ¬ S' f := by
    intro q
    refine ⟨?_, ?_, ?_⟩
    · cases hb : b with
      | true => exact (q.1 hb).1
      | false => exact fun a => n1 ⟨hb, .inl a⟩
    · cases hb : b with
      | true => exact (q.1 hb).2
      | false => exact fun a => n1 ⟨hb, .inr a⟩
    · cases hb : b' with
      | true => exact (q.2 hb).2
      | false => exact fun a => n2 ⟨hb, .inr a⟩
  rcases hp with h | ⟨⟨h1, h2, h3⟩, h⟩ | ⟨⟨h1, h2⟩, h⟩ | h
  · have := h c0 hc0
    subst this
    exact (ah_irr ha0).elim
  · exact absurd ((ah_flip hd).1 ha0) (h2 c0 hc0)
  · rcases h1 with h1 | h1
    · refine ⟨by omega, .inr (.inl ⟨⟨clean_free _ _ _ _, ?_, ?_⟩, by omega⟩)⟩
      · intro c hc hah
        have hc := cc_swap hc
        rcases ah_step hn hah with rfl | q
        · rcases hc with a | a | a
          · exact (cl h1).1 a
          · exact (cl h1).2.1 a
          · exact (cl h1).2.2 a
        · exact nA c hc ((ah_flip hd).1 q)
      · intro c hc c' hc' hah
        have hc' := cc_swap hc'
        rcases ah_tri hd c f with rfl | q | q
        · exact (cl h1).2.1 hc
        · exact h2 c hc q c' hc' ((ah_flip hd).1 hah)
        · exact nA c (.inr (.inl hc)) q
    · exact absurd ((ah_flip hd).1 ha0) (h1 c0 hc0)
  · refine ⟨by omega, .inr (.inr (.inl ⟨⟨.inl (clean_free _ _ _ _), ?_⟩, by omega⟩))⟩
    intro c hc hah c' hc' hah'
    have hc' := cc_swap hc'
    rcases ah_step hn hah with rfl | q
    · exact nA c' hc' ((ah_flip hd).1 hah')
    · exact nA c (.inr (.inr hc)) ((ah_flip hd).1 q)
variable {J R : Int → Prop}
theorem stop_on (hJ : ∀ c, J c ↔ P c ∧ c ≠ f) (hR : ∀ c, R c ↔ S c ∧ c ≠ f) (hp : pot T d f b b' P S S' m) : pot T d f true b' J R S' m := by
  have sub : ∀ c, CC J R S' c → CC P S S' c := by
    rintro c (a | a | a)
    · exact .inl ((hJ c).1 a).1
    · exact .inr (.inl ((hR c).1 a).1)
    · exact .inr (.inr a)
  have nJ : ¬ J f := fun q => ((hJ f).1 q).2 rfl
  have nR : ¬ R f := fun q => ((hR f).1 q).2 rfl
  have cl : Clean f b b' P S S' → Clean f true b' J R S' := fun q => ⟨fun _ => ⟨nJ, nR⟩, fun e => ⟨nJ, (q.2 e).2⟩⟩
  rcases hp with h | ⟨⟨h1, h2, h3⟩, h⟩ | ⟨⟨h1, h2⟩, h⟩ | h
  · exact .inl (fun c hc => h c (sub c hc))
  · exact .inr (.inl ⟨⟨cl h1, fun c hc => h2 c (sub c hc), fun c hc c' hc' => h3 c hc c' (sub c' hc')⟩, h⟩)
  · refine .inr (.inr (.inl ⟨⟨?_, fun c hc q c' hc' => h2 c ((hR c).1 hc).1 q c' (sub c' hc')⟩, h⟩))
    rcases h1 with h1 | h1
    · exact .inl (cl h1)
    · exact .inr (fun c hc => h1 c (sub c hc))
  · exact .inr (.inr (.inr h))
theorem stop_back (hd : d = 1 ∨ d = -1) (hf : 0 ≤ f ∧ f ≤ T) (nA : ∀ c, CC P S S' c → ¬ ah d f c) (n1 : ¬ (b = false ∧ (P f ∨ S f))) (hJ : ∀ c, J c ↔ P c ∧ c ≠ f) (hR : ∀ c, R c ↔ S' c ∧ c ≠ f) (hp : pot T d f b b' P S S' m) : pot T (-d) f true b J R S m := by
  have hr := rm_in hd hf.1 hf.2
  have hfl := rm_flip hd T f
  have sub : ∀ c, CC J R S c → CC P S S' c := by
    rintro c (a | a | a)
    · exact .inl ((hJ c).1 a).1
    · exact .inr (.inr ((hR c).1 a).1)
    · exact .inr (.inl a)
  have nJ : ¬ J f := fun q => ((hJ f).1 q).2 rfl
  have nR : ¬ R f := fun q => ((hR f).1 q).2 rfl
  have zero : (∀ c, CC P S S' c → ¬ ah d c f) → inv0 f J R S := by
    intro q c hc
    rcases ah_tri hd c f with e | e | e
    · exact e
    · exact absurd e (q c (sub c hc))
    · exact absurd e (nA c (sub c hc))
  rcases hp with h | ⟨⟨h1, h2, h3⟩, h⟩ | ⟨⟨h1, h2⟩, h⟩ | h
  · exact .inl (fun c hc => h c (sub c hc))
  · exact .inl (zero h2)
  · rcases h1 with h1 | h1
    · have nS : ¬ S f := by
        cases hb : b with
        | true => exact (h1.1 hb).2
        | false => exact fun a => n1 ⟨hb, .inr a⟩
      refine .inr (.inl ⟨⟨⟨fun _ => ⟨nJ, nR⟩, fun _ => ⟨nJ, nS⟩⟩, ?_, ?_⟩, by omega⟩)
      · intro c hc hah
        exact nA c (sub c hc) ((ah_flip hd).1 hah)
      · intro c hc c' hc' hah
        rcases ah_tri hd c f with e | e | e
        · exact nS (e ▸ hc)
        · exact h2 c hc e c' (sub c' hc') ((ah_flip hd).1 hah)
        · exact nA c (.inr (.inl hc)) e
    · exact .inl (zero h1)
  · refine .inr (.inr (.inl ⟨⟨.inr ?_, ?_⟩, by omega⟩))
    · intro c hc hah
      exact nA c (sub c hc) ((ah_flip hd).1 hah)
    · intro c hc hah
      exact absurd ((ah_flip hd).1 hah) (nA c (.inr (.inr ((hR c).1 hc).1)))
end
/-- The same of a look. -/
def potL (T d f : Int) (su sd : Bool) (I U D : List Int) (m : Int) : Prop :=
  if 0 < d then pot T d f su sd (fun c => c ∈ I) (fun c => c ∈ U) (fun c => c ∈ D) m else pot T d f sd su (fun c => c ∈ I) (fun c => c ∈ D) (fun c => c ∈ U) m
theorem potL_up (T f : Int) (su sd : Bool) (I U D : List Int) (m : Int) : potL T 1 f su sd I U D m ↔ pot T 1 f su sd (fun c => c ∈ I) (fun c => c ∈ U) (fun c => c ∈ D) m := by
  unfold potL
  rw [if_pos (by decide)]
theorem potL_dn (T f : Int) (su sd : Bool) (I U D : List Int) (m : Int) : potL T (-1) f su sd I U D m ↔ pot T (-1) f sd su (fun c => c ∈ I) (fun c => c ∈ D) (fun c => c ∈ U) m := by
  unfold potL
  rw [if_neg (by decide)]
theorem cc_up (c : Int) : CC (fun c => c ∈ I) (fun c => c ∈ U) (fun c => c ∈ D) c ↔ c ∈ allC I U D := by
  rw [mem_all]
  rfl
theorem cc_dn (c : Int) : CC (fun c => c ∈ I) (fun c => c ∈ D) (fun c => c ∈ U) c ↔ c ∈ allC I U D := ⟨fun h => (cc_up c).1 (cc_swap h), fun h => cc_swap ((cc_up c).2 h)⟩
/-- What a step leaves. -/
def Left (T f m : Int) (su sd : Bool) (I U D : List Int) (n : Int × Int × Int) : Prop :=
  (n.1 = 3 → (n.2.1 = 1 → potL T 1 f true sd (woL f I) (woL f U) D m) ∧ (n.2.1 = -1 → potL T (-1) f su true (woL f I) U (woL f D) m)) ∧
  (n.1 ≠ 3 → 1 ≤ m ∧ potL T n.2.1 (f + n.2.1) false false I U D (m - 1))
theorem any_ex {d f : Int} (hd : d = 1 ∨ d = -1) (h : anyD d f (allC I U D) = true) : ∃ c, c ∈ allC I U D ∧ ah d f c := by
  obtain ⟨c, a, b⟩ := (anyD_iff hd _ _).1 h
  exact ⟨c, a, b⟩
theorem any_no {d f : Int} (hd : d = 1 ∨ d = -1) (h : anyD d f (allC I U D) = false) : ∀ c, c ∈ allC I U D → ¬ ah d f c := by
  intro c a b
  rw [(anyD_iff hd _ _).2 ⟨c, a, b⟩] at h
  cases h
theorem nx_up {T f m : Int} {su sd : Bool} (hT1 : 1 ≤ T) (hf : 0 ≤ f ∧ f ≤ T) (hT : ∀ c ∈ allC I U D, 0 ≤ c ∧ c ≤ T) (hp : potL T 1 f su sd I U D m) : Left T f m su sd I U D (nx f 1 su sd I U D) := by
  rw [potL_up] at hp
  have hd : (1 : Int) = 1 ∨ (1 : Int) = -1 := .inl rfl
  have hn := neg_pm hd
  have hT' : ∀ c, CC (fun c => c ∈ I) (fun c => c ∈ U) (fun c => c ∈ D) c → 0 ≤ c ∧ c ≤ T := fun c hc => hT c ((cc_up c).1 hc)
  have nn : ¬ (beenB 1 su sd = false ∧ hereB f 1 I U D = true) → ¬ (su = false ∧ (f ∈ I ∨ f ∈ U)) := by
    rintro q ⟨a, b⟩
    exact q ⟨a, (here_iff hd f).2 (b.elim .inl (fun b => .inr (.inl ⟨rfl, b⟩)))⟩
  have nn' : ¬ (beenB (-1) su sd = false ∧ hereB f (-1) I U D = true) → ¬ (sd = false ∧ (f ∈ I ∨ f ∈ D)) := by
    rintro q ⟨a, b⟩
    exact q ⟨a, (here_iff hn f).2 (b.elim .inl (fun b => .inr (.inr ⟨rfl, b⟩)))⟩
  have no : anyD 1 f (allC I U D) = false → ∀ c, CC (fun c => c ∈ I) (fun c => c ∈ U) (fun c => c ∈ D) c → ¬ ah 1 f c := fun q c hc => any_no hd q c ((cc_up c).1 hc)
  have onn : Left T f m su sd I U D (3, 1, 0) := by
    refine ⟨fun _ => ⟨fun _ => ?_, fun q => (by cases q)⟩, fun q => absurd rfl q⟩
    rw [potL_up]
    exact stop_on (fun c => mem_wo f c I) (fun c => mem_wo f c U) hp
  have back : anyD 1 f (allC I U D) = false → ¬ (beenB 1 su sd = false ∧ hereB f 1 I U D = true) → Left T f m su sd I U D (3, -1, 0) := by
    intro a b
    refine ⟨fun _ => ⟨fun q => (by cases q), fun _ => ?_⟩, fun q => absurd rfl q⟩
    rw [potL_dn]
    exact stop_back hd hf (no a) (nn b) (fun c => mem_wo f c I) (fun c => mem_wo f c D) hp
  unfold nx
  refine nextD_cases _ ?_ ?_ ?_ ?_ ?_ ?_
  · intro _ _
    exact onn
  · intro a b
    refine ⟨fun q => absurd q (by decide), fun _ => ?_⟩
    obtain ⟨c, hc, hah⟩ := any_ex hd b
    have := ride_on hd hT' hf ⟨c, (cc_up c).2 hc, hah⟩ (nn a) hp
    rw [potL_up]
    exact this
  · intro a b _ _
    exact back b a
  · intro a b c e
    refine ⟨fun q => absurd q (by decide), fun _ => ?_⟩
    obtain ⟨x, hx, hah⟩ := any_ex hn e
    have := ride_back hd hT1 hf (no b) ⟨x, (cc_up x).2 hx, hah⟩ (nn a) (nn' c) hp
    refine ⟨this.1, ?_⟩
    exact (potL_dn T (f + -1) false false I U D (m - 1)).2 this.2
  · intro a b _ _
    exact back b a
  · intro _ _ _
    exact onn
theorem nx_dn {T f m : Int} {su sd : Bool} (hT1 : 1 ≤ T) (hf : 0 ≤ f ∧ f ≤ T) (hT : ∀ c ∈ allC I U D, 0 ≤ c ∧ c ≤ T) (hp : potL T (-1) f su sd I U D m) : Left T f m su sd I U D (nx f (-1) su sd I U D) := by
  rw [potL_dn] at hp
  have hd : (-1 : Int) = 1 ∨ (-1 : Int) = -1 := .inr rfl
  have hn := neg_pm hd
  have hT' : ∀ c, CC (fun c => c ∈ I) (fun c => c ∈ D) (fun c => c ∈ U) c → 0 ≤ c ∧ c ≤ T := fun c hc => hT c ((cc_dn c).1 hc)
  have nn : ¬ (beenB (-1) su sd = false ∧ hereB f (-1) I U D = true) → ¬ (sd = false ∧ (f ∈ I ∨ f ∈ D)) := by
    rintro q ⟨a, b⟩
    exact q ⟨a, (here_iff hd f).2 (b.elim .inl (fun b => .inr (.inr ⟨rfl, b⟩)))⟩
  have nn' : ¬ (beenB (- -1) su sd = false ∧ hereB f (- -1) I U D = true) → ¬ (su = false ∧ (f ∈ I ∨ f ∈ U)) := by
    rintro q ⟨a, b⟩
    exact q ⟨a, (here_iff hn f).2 (b.elim .inl (fun b => .inr (.inl ⟨rfl, b⟩)))⟩
  have no : anyD (-1) f (allC I U D) = false → ∀ c, CC (fun c => c ∈ I) (fun c => c ∈ D) (fun c => c ∈ U) c → ¬ ah (-1) f c := fun q c hc => any_no hd q c ((cc_dn c).1 hc)
  have onn : Left T f m su sd I U D (3, -1, 0) := by
    refine ⟨fun _ => ⟨fun q => (by cases q), fun _ => ?_⟩, fun q => absurd rfl q⟩
    rw [potL_dn]
    exact stop_on (fun c => mem_wo f c I) (fun c => mem_wo f c D) hp
  have back : anyD (-1) f (allC I U D) = false → ¬ (beenB (-1) su sd = false ∧ hereB f (-1) I U D = true) → Left T f m su sd I U D (3, - -1, 0) := by
    intro a b
    refine ⟨fun _ => ⟨fun _ => ?_, fun q => (by cases q)⟩, fun q => absurd rfl q⟩
    rw [potL_up]
    exact stop_back hd hf (no a) (nn b) (fun c => mem_wo f c I) (fun c => mem_wo f c U) hp
  unfold nx
  refine nextD_cases _ ?_ ?_ ?_ ?_ ?_ ?_
  · intro _ _
    exact onn
  · intro a b
    refine ⟨fun q => absurd q (by decide), fun _ => ?_⟩
    obtain ⟨c, hc, hah⟩ := any_ex hd b
    have := ride_on hd hT' hf ⟨c, (cc_dn c).2 hc, hah⟩ (nn a) hp
    rw [potL_dn]
    exact this
  · intro a b _ _
    exact back b a
  · intro a b c e
    refine ⟨fun q => absurd q (by decide), fun _ => ?_⟩
    obtain ⟨x, hx, hah⟩ := any_ex hn e
    have := ride_back hd hT1 hf (no b) ⟨x, (cc_dn x).2 hx, hah⟩ (nn a) (nn' c) hp
    refine ⟨this.1, ?_⟩
    exact (potL_up T (f + - -1) false false I U D (m - 1)).2 this.2
  · intro a b _ _
    exact back b a
  · intro _ _ _
    exact onn
theorem nx_left {d T f m : Int} {su sd : Bool} (hd : d = 1 ∨ d = -1) (hT1 : 1 ≤ T) (hf : 0 ≤ f ∧ f ≤ T) (hT : ∀ c ∈ allC I U D, 0 ≤ c ∧ c ≤ T) (hp : potL T d f su sd I U D m) : Left T f m su sd I U D (nx f d su sd I U D) := by
  rcases hd with rfl | rfl
  · exact nx_up hT1 hf hT hp
  · exact nx_dn hT1 hf hT hp
theorem all_len : (allC I U D).length = I.length + U.length + D.length := by simp only [allC, List.length_append]
set_option maxHeartbeats 1000000 in
theorem all_loop (n fl o1 o2 : Int) (o3 o4 : Bool) (o5 o6 o7 : List Int) (hn : 0 ≤ n ∧ n ≤ 240) : ∀ (j k : Nat) (mv st rd f d : Int) (su sd : Bool) (I U D : List Int) (m : Int), Few I U D → May fl f d I U D → 0 ≤ m →
    potL (fl - 1) (dirB f d (anyUp f (allC I U D)) U) f su sd I U D m → m + ((allC I U D).length : Int) ≤ j → 0 ≤ mv → mv + m ≤ 3 * (fl - 1) → 0 ≤ st → st + ((allC I U D).length : Int) ≤ n → 0 ≤ rd → rd + m + ((allC I U D).length : Int) ≤ 3 * fl + n → 3 * j + 300 ≤ k →
    newellaw20_CollectAll.l0 k n mv st rd fl o1 o2 o3 o4 o5 o6 o7 fl f d su sd I U D = some true := by
  intro j
  induction j with
  | zero =>
    intro k mv st rd f d su sd I U D m h hm hm0 hp hj h1 h2 h3 h4 h5 h6 hk
    obtain ⟨k, rfl⟩ : ∃ m, k = m + 3 := ⟨k - 3, by omega⟩
    have := hm.fl2; have := hm.fl64
    have hC : allC I U D = [] := List.length_eq_zero_iff.1 (by omega)
    have en : nxt fl f d su sd I U D = (0, 0, 0) := by
      unfold nxt
      rw [(may_iff _ _ _ _ _ _).2 hm, if_pos rfl, nextB_nil hC]
    rw [newellaw20_CollectAll.l0, w64 (n := 3 * fl) (by omega) (by omega), w64 (n := 3 * fl + n) (by omega) (by omega), if_pos (by omega), next_eq h fl f d su sd _ (by omega), Option.bind_some, en]
    dsimp only
    rw [if_pos rfl, if_pos rfl, awake_eq _ (by omega), Option.bind_some, if_pos rfl, sum_eq h, hC, if_pos (show ((([] : List Int).length : Nat) : Int) = 0 from rfl), w64 (n := fl - 1) (by omega) (by omega), w64 (n := 3 * (fl - 1)) (by omega) (by omega), if_pos (by omega), decide_eq_true (by omega)]
    rfl
  | succ j ih =>
    intro k mv st rd f d su sd I U D m h hm hm0 hp hj h1 h2 h3 h4 h5 h6 hk
    obtain ⟨k, rfl⟩ : ∃ m, k = m + 3 := ⟨k - 3, by omega⟩
    have := hm.fl2; have := hm.fl64; have := hm.f0; have := hm.ff
    have en : nxt fl f d su sd I U D = nextB f d su sd I U D := by
      unfold nxt
      rw [(may_iff _ _ _ _ _ _).2 hm, if_pos rfl]
    rw [newellaw20_CollectAll.l0, w64 (n := 3 * fl) (by omega) (by omega), w64 (n := 3 * fl + n) (by omega) (by omega), if_pos (by omega), next_eq h fl f d su sd _ (by omega), Option.bind_some, en]
    by_cases hC : allC I U D = []
    · rw [nextB_nil hC]
      dsimp only
      rw [if_pos rfl, if_pos rfl, awake_eq _ (by omega), Option.bind_some, if_pos rfl, sum_eq h, hC, if_pos (show ((([] : List Int).length : Nat) : Int) = 0 from rfl), w64 (n := fl - 1) (by omega) (by omega), w64 (n := 3 * (fl - 1)) (by omega) (by omega), if_pos (by omega), decide_eq_true (by rw [hC] at h4; simp only [List.length_nil] at h4; omega)]
      rfl
    · rw [nextB_eq hC]
      have hd := dirB_pm (U := U) (f := f) (up := anyUp f (allC I U D)) hm.d0 hm.d1
      have hb : ∀ c ∈ allC I U D, 0 ≤ c ∧ c ≤ fl - 1 := fun c hc => by have := hm.all c hc; omega
      have L := nx_left (su := su) (sd := sd) (m := m) hd (by omega) ⟨by omega, by omega⟩ hb hp
      obtain ⟨f1, f2, f3, -, -⟩ := nx_facts (f := f) (su := su) (sd := sd) hd hC
      revert f1 f2 f3 L
      generalize nx f (dirB f d (anyUp f (allC I U D)) U) su sd I U D = nn
      obtain ⟨x, e, z⟩ := nn
      dsimp only
      intro L f1 f2 f3
      subst f1
      have eI := h.i; have eU := h.u; have eD := h.d
      have len := all_len (I := I) (U := U) (D := D)
      rw [if_pos rfl]
      have w1 : wrap64 (rd + 1) = rd + 1 := w64 (by omega) (by omega)
      by_cases c3 : x = 3
      · obtain ⟨l1, l2⟩ := L.1 c3
        have hh : hereB f e I U D = true := by
          rcases f3 with q | q
          · exact q.2
          · rw [c3] at q
            exact absurd q.1 (by unfold rideB; split <;> decide)
        rw [if_neg (by omega), if_pos c3, without_eq I f h.i _ (by omega), Option.bind_some]
        have w2 : wrap64 (st + 1) = st + 1 := w64 (by omega) (by omega)
        have wI := wo_le f I
        have wU := wo_le f U
        have wD := wo_le f D
        have hin := (here_iff f2 f).1 hh
        by_cases ce : e = 1
        · subst ce
          rw [if_pos rfl, without_eq U f h.u _ (by omega), Option.bind_some, newellaw20_CollectAll.j3, newellaw20_CollectAll.j4, w1, w2]
          have h' : Few (woL f I) (woL f U) D := ⟨by omega, by omega, by omega⟩
          have m' : May fl f 1 (woL f I) (woL f U) D := { hm with
            pi := wo_pair f I hm.pi, pu := wo_pair f U hm.pu, bi := fun x hx => hm.bi x ((mem_wo _ _ _).1 hx).1, bu := fun x hx => hm.bu x ((mem_wo _ _ _).1 hx).1, d0 := by decide, d1 := by decide }
          have ll : (allC (woL f I) (woL f U) D).length + 1 ≤ (allC I U D).length := by
            rw [all_len, all_len]
            rcases hin with q | q | q
            · have := wo_lt f I q
              omega
            · have := wo_lt f U q.2
              omega
            · exact absurd q.1 (by decide)
          refine ih k mv (st + 1) (rd + 1) f 1 true sd _ _ _ m h' m' hm0 ?_ (by omega) h1 h2 (by omega) (by omega) (by omega) (by omega) (by omega)
          rw [dirB_same (.inl rfl)]
          exact l1 rfl
        · have ce' : e = -1 := by omega
          subst ce'
          rw [if_neg ce, without_eq D f h.d _ (by omega), Option.bind_some, newellaw20_CollectAll.j3, newellaw20_CollectAll.j4, w1, w2]
          have h' : Few (woL f I) U (woL f D) := ⟨by omega, by omega, by omega⟩
          have m' : May fl f (-1) (woL f I) U (woL f D) := { hm with
            pi := wo_pair f I hm.pi, pd := wo_pair f D hm.pd, bi := fun x hx => hm.bi x ((mem_wo _ _ _).1 hx).1, bd := fun x hx => hm.bd x ((mem_wo _ _ _).1 hx).1, d0 := by decide, d1 := by decide }
          have ll : (allC (woL f I) U (woL f D)).length + 1 ≤ (allC I U D).length := by
            rw [all_len, all_len]
            rcases hin with q | q | q
            · have := wo_lt f I q
              omega
            · exact absurd q.1 (by decide)
            · have := wo_lt f D q.2
              omega
          refine ih k mv (st + 1) (rd + 1) f (-1) su true _ _ _ m h' m' hm0 ?_ (by omega) h1 h2 (by omega) (by omega) (by omega) (by omega) (by omega)
          rw [dirB_same (.inr rfl)]
          exact l2 rfl
      · obtain ⟨l1, l2⟩ := L.2 c3
        have hr : x = rideB e ∧ anyD e f (allC I U D) = true := by
          rcases f3 with q | q
          · exact absurd q.1 c3
          · exact q
        have hx0 : x ≠ 0 := by
          rw [hr.1]
          unfold rideB
          split <;> decide
        obtain ⟨c, hc, hah⟩ := any_ex f2 hr.2
        have hcb := hb c hc
        have hfe : 0 ≤ f + e ∧ f + e ≤ fl - 1 := by unfold ah at hah; omega
        rw [if_neg hx0, if_neg c3, newellaw20_CollectAll.j4, w1, w64 (n := mv + 1) (by omega) (by omega), w64 (n := f + e) (by omega) (by omega)]
        have m' : May fl (f + e) e I U D := { hm with f0 := by omega, ff := by omega, d0 := by omega, d1 := by omega }
        refine ih (k + 1) (mv + 1) st (rd + 1) (f + e) e false false I U D (m - 1) h m' (by omega) ?_ (by omega) (by omega) (by omega) h3 h4 (by omega) (by omega) (by omega)
        rw [dirB_same f2]
        exact l2
theorem all_law (fl f d : Int) (su sd : Bool) (I U D : List Int) : newellaw20_CollectAll.f 5000 fl f d su sd I U D = some true := by
  unfold newellaw20_CollectAll.f
  rw [few_eq, Option.bind_some]
  have skip : newellaw20_CollectAll.j0 5000 true fl f d su sd I U D = some true := by
    rw [newellaw20_CollectAll.j0, if_pos rfl, awake_eq _ (by omega)]
    rfl
  by_cases c : decide (I.length ≤ 80 ∧ U.length ≤ 80 ∧ D.length ≤ 80) = true
  · have h := few_of c
    rw [if_pos c, own_eq h, Option.bind_some]
    dsimp only
    rw [check_eq h fl f d su sd _ (by omega), Option.bind_some]
    cases hm : mayB fl f d I U D
    · exact skip
    · have m := (may_iff fl f d I U D).1 hm
      have := m.fl2; have := m.fl64; have := m.f0; have := m.ff
      have eI := h.i; have eU := h.u; have eD := h.d
      have len := all_len (I := I) (U := U) (D := D)
      show newellaw20_CollectAll.j0 5000 false fl f d su sd I U D = some true
      rw [newellaw20_CollectAll.j0, if_neg (by decide), own_eq h, Option.bind_some]
      dsimp only
      rw [sum_eq h]
      have hd := dirB_pm (U := U) (f := f) (up := anyUp f (allC I U D)) m.d0 m.d1
      refine all_loop _ fl f d su sd I U D ⟨by omega, by omega⟩ 429 4999 0 0 0 f d su sd I U D (3 * (fl - 1)) h m (by omega) ?_ (by omega) (by omega) (by omega) (by omega) (by omega) (by omega) (by omega) (by omega)
      have hr := rm_in (T := fl - 1) (f := f) hd (by omega) (by omega)
      unfold potL
      split
      · exact .inr (.inr (.inr (by omega)))
      · exact .inr (.inr (.inr (by omega)))
  · rw [if_neg c]
    exact skip
end Go.Proofs.Ytlfgdcgjndjdgaa.ColPure
