/- The house turned over: the law, in plain Lean. -/
import Derived.Test.YtlfgdcgjndjdgaaLaw2
import Derived.Test.YtlfgdcgjndjdgaaCxf8
namespace Go.Proofs.Ytlfgdcgjndjdgaa.ColPure
open Go.RowKit Go.Proofs.YtlfgdcgjndjdgaaW.PrintWords Go.Proofs.YtlfgdcgjndjdgaaW.PrintLast Go.Proofs.YtlfgdcgjndjdgaaW.PrintMore Go.Proofs.Ytlfgdcgjndjdgaa.C
set_option linter.unusedVariables false
variable {I U D : List Int}
/-- A row turned over. -/
def turnL (top : Int) (l : List Int) : List Int := (l.map (fun x => top - x)).reverse
theorem turned_loop (l : List Int) (top : Int) (hm : l.length ≤ 1000) (ht : 0 ≤ top ∧ top ≤ 1000) (hb : ∀ x ∈ l, 0 ≤ x ∧ x ≤ 1000) (i : Nat) : ∀ (f : Nat) (acc : List Int), i ≤ l.length → i < f → acc.length + i ≤ 2000 →
    newellaw20_turned.l0 f l top acc ((i : Int) - 1) = some (acc ++ turnL top (l.take i)) := by
  induction i with
  | zero =>
    intro f acc hi hf ha
    obtain ⟨f, rfl⟩ : ∃ m, f = m + 1 := ⟨f - 1, by omega⟩
    rw [newellaw20_turned.l0, if_neg (by omega), List.take_zero]
    simp [turnL]
  | succ i ih =>
    intro f acc hi hf ha
    obtain ⟨f, rfl⟩ : ∃ m, f = m + 1 := ⟨f - 1, by omega⟩
    have e : ((i + 1 : Nat) : Int) - 1 = (i : Int) := by omega
    have hx := hb l[i] (List.getElem_mem _)
    rw [e, newellaw20_turned.l0, if_pos (by omega), if_pos (by omega), if_pos (by omega), if_pos (by omega), rd_at l i (by omega), w64 (n := top - l[i]) (by omega) (by omega), w64 (n := (i : Int) - 1) (by omega) (by omega), ih f _ (by omega) (by omega) (by rw [List.length_append]; simp only [List.length_cons, List.length_nil]; omega)]
    have er : turnL top (l.take i ++ [l[i]]) = (top - l[i]) :: turnL top (l.take i) := by
      unfold turnL
      rw [List.map_append, List.reverse_append]
      rfl
    rw [List.take_succ_eq_append_getElem (by omega), er, List.append_assoc]
    rfl
theorem turned_eq (l : List Int) (top : Int) (hm : l.length ≤ 80) (ht : 0 ≤ top ∧ top ≤ 1000) (hb : ∀ x ∈ l, 0 ≤ x ∧ x ≤ 1000) (f : Nat) (hf : 100 ≤ f) : newellaw20_turned.f f l top = some (turnL top l) := by
  unfold newellaw20_turned.f
  rw [w64 (by omega) (by omega), turned_loop l top (by omega) ht hb l.length f [] (by omega) (by omega) (by simp only [List.length_nil]; omega), List.take_length, List.nil_append]
theorem mem_turn (top x : Int) (l : List Int) : x ∈ turnL top l ↔ top - x ∈ l := by
  unfold turnL
  rw [List.mem_reverse, List.mem_map]
  constructor
  · rintro ⟨y, hy, rfl⟩
    have : top - (top - y) = y := by omega
    rw [this]
    exact hy
  · intro h
    exact ⟨top - x, h, by omega⟩
theorem turn_pair (top : Int) (l : List Int) (h : l.Pairwise (· < ·)) : (turnL top l).Pairwise (· < ·) := by
  unfold turnL
  rw [List.pairwise_reverse, List.pairwise_map]
  exact h.imp (fun q => by omega)
theorem turn_len (top : Int) (l : List Int) : (turnL top l).length = l.length := by
  unfold turnL
  rw [List.length_reverse, List.length_map]
theorem has_turn (top f : Int) (l : List Int) : hasB (top - f) (turnL top l) = hasB f l := by
  rw [Bool.eq_iff_iff, has_iff, has_iff, mem_turn]
  rw [show top - (top - f) = f by omega]
theorem mem_turn_all (top x : Int) (I U D : List Int) : x ∈ allC (turnL top I) (turnL top D) (turnL top U) ↔ top - x ∈ allC I U D := by
  rw [mem_all, mem_all, mem_turn, mem_turn, mem_turn]
  constructor
  · rintro (h | h | h)
    · exact .inl h
    · exact .inr (.inr h)
    · exact .inr (.inl h)
  · rintro (h | h | h)
    · exact .inl h
    · exact .inr (.inr h)
    · exact .inr (.inl h)
theorem up_turn (top f : Int) (I U D : List Int) : anyUp (top - f) (allC (turnL top I) (turnL top D) (turnL top U)) = anyDown f (allC I U D) := by
  rw [Bool.eq_iff_iff, up_iff, down_iff]
  constructor
  · rintro ⟨n, h, h2⟩
    exact ⟨top - n, (mem_turn_all _ _ _ _ _).1 h, by omega⟩
  · rintro ⟨n, h, h2⟩
    refine ⟨top - n, (mem_turn_all _ _ _ _ _).2 ?_, by omega⟩
    rw [show top - (top - n) = n by omega]
    exact h
theorem down_turn (top f : Int) (I U D : List Int) : anyDown (top - f) (allC (turnL top I) (turnL top D) (turnL top U)) = anyUp f (allC I U D) := by
  rw [Bool.eq_iff_iff, up_iff, down_iff]
  constructor
  · rintro ⟨n, h, h2⟩
    exact ⟨top - n, (mem_turn_all _ _ _ _ _).1 h, by omega⟩
  · rintro ⟨n, h, h2⟩
    refine ⟨top - n, (mem_turn_all _ _ _ _ _).2 ?_, by omega⟩
    rw [show top - (top - n) = n by omega]
    exact h
theorem here_turn {d : Int} (hd : d = 1 ∨ d = -1) (top f : Int) (I U D : List Int) : hereB (top - f) (-d) (turnL top I) (turnL top D) (turnL top U) = hereB f d I U D := by
  unfold hereB
  rw [has_turn, has_turn, has_turn]
  rcases hd with rfl | rfl <;> rfl
/-- What is done, seen from the other side. -/
def flip3 (n : Int × Int × Int) : Int × Int × Int := ((if n.1 = 1 ∨ n.1 = 2 then 3 - n.1 else n.1), -n.2.1, n.2.2)
theorem ride_flip {d : Int} (hd : d = 1 ∨ d = -1) : flip3 (rideB d, d, 0) = (rideB (-d), -d, 0) := by rcases hd with rfl | rfl <;> decide
theorem ride_flip2 {d : Int} (hd : d = 1 ∨ d = -1) : flip3 (rideB (-d), -d, 0) = (rideB (- -d), - -d, 0) := by rcases hd with rfl | rfl <;> decide
theorem stop_flip (d : Int) : flip3 (3, d, 0) = (3, -d, 0) := rfl
theorem nextD_turn {d : Int} (hd : d = 1 ∨ d = -1) (top f : Int) (up dn su sd : Bool) (I U D : List Int) :
    nextD (top - f) (-d) dn up sd su (turnL top I) (turnL top D) (turnL top U) = flip3 (nextD f d up dn su sd I U D) := by
  have hn := neg_pm hd
  have hnn : - -d = d := by omega
  unfold nextD
  rw [here_turn hd, here_turn hn, been_neg_arg hd, been_neg_arg hd, been_neg_arg hn sd su, been_neg_arg hn dn up]
  simp only [apply_ite flip3, ride_flip hd, ride_flip2 hd, stop_flip]
theorem mirror_law (fl f d : Int) (su sd : Bool) (I U D : List Int) : newellaw20_CollectMirror.f 3000 fl f d su sd I U D = some true := by
  unfold newellaw20_CollectMirror.f
  rw [few_eq, Option.bind_some]
  have skip : newellaw20_CollectMirror.j0 3000 true fl f d su sd I U D = some true := by
    rw [newellaw20_CollectMirror.j0, if_pos rfl, awake_eq _ (by omega)]
    rfl
  by_cases c : decide (I.length ≤ 80 ∧ U.length ≤ 80 ∧ D.length ≤ 80) = true
  · have h := few_of c
    rw [if_pos c, own_eq h, Option.bind_some]
    dsimp only
    rw [check_eq h fl f d su sd _ (by omega), Option.bind_some]
    cases hm : mayB fl f d I U D
    · rw [if_neg (by decide)]
      exact skip
    · have m := (may_iff fl f d I U D).1 hm
      have := m.fl2; have := m.fl64; have := m.f0; have := m.ff; have := m.d0; have := m.d1
      rw [if_pos (by decide)]
      by_cases c0 : d = 0
      · rw [beq_iff_eq.2 c0]
        exact skip
      · have hd : d = 1 ∨ d = -1 := by omega
        have hn := neg_pm hd
        rw [beq_eq_false_iff_ne.2 c0, newellaw20_CollectMirror.j0, if_neg (by decide), w64 (n := fl - 1) (by omega) (by omega)]
        rw [turned_eq I (fl - 1) h.i (by omega) (fun x hx => by have := m.bi x hx; omega) _ (by omega), Option.bind_some]
        rw [turned_eq D (fl - 1) h.d (by omega) (fun x hx => by have := m.bd x hx; omega) _ (by omega), Option.bind_some]
        rw [turned_eq U (fl - 1) h.u (by omega) (fun x hx => by have := m.bu x hx; omega) _ (by omega), Option.bind_some]
        rw [own_eq h, Option.bind_some]
        dsimp only
        have h' : Few (turnL (fl - 1) I) (turnL (fl - 1) D) (turnL (fl - 1) U) := ⟨by rw [turn_len]; exact h.i, by rw [turn_len]; exact h.d, by rw [turn_len]; exact h.u⟩
        have m' : May fl (fl - 1 - f) (-d) (turnL (fl - 1) I) (turnL (fl - 1) D) (turnL (fl - 1) U) := by
          refine ⟨turn_pair _ _ m.pi, turn_pair _ _ m.pd, turn_pair _ _ m.pu, ?_, ?_, ?_, m.fl2, m.fl64, by omega, by omega, by omega, by omega⟩
          · intro x hx
            have := m.bi _ ((mem_turn _ _ _).1 hx)
            omega
          · intro x hx
            have := m.bd _ ((mem_turn _ _ _).1 hx)
            omega
          · intro x hx
            have := m.bu _ ((mem_turn _ _ _).1 hx)
            omega
        rw [next_eq h fl f d su sd _ (by omega), Option.bind_some, w64 (n := fl - 1 - f) (by omega) (by omega), negw hd, next_eq h' fl (fl - 1 - f) (-d) sd su _ (by omega), Option.bind_some]
        have en : nxt fl f d su sd I U D = nextB f d su sd I U D := by unfold nxt; rw [hm]; rfl
        have en' : nxt fl (fl - 1 - f) (-d) sd su (turnL (fl - 1) I) (turnL (fl - 1) D) (turnL (fl - 1) U) = nextB (fl - 1 - f) (-d) sd su (turnL (fl - 1) I) (turnL (fl - 1) D) (turnL (fl - 1) U) := by unfold nxt; rw [(may_iff _ _ _ _ _ _).2 m']; rfl
        have eC : allC (turnL (fl - 1) I) (turnL (fl - 1) D) (turnL (fl - 1) U) = [] ↔ allC I U D = [] := by
          rw [all_nil, all_nil]
          constructor
          · intro q x hx
            refine q (fl - 1 - x) ((mem_turn_all _ _ _ _ _).2 ?_)
            rw [show fl - 1 - (fl - 1 - x) = x by omega]
            exact hx
          · intro q x hx
            exact q _ ((mem_turn_all _ _ _ _ _).1 hx)
        rw [en, en']
        have tail : ∀ n : Int × Int × Int, n.2.2 = 0 → (n.2.1 = 0 ∨ n.2.1 = 1 ∨ n.2.1 = -1) → (n.1 = 0 ∨ n.1 = 1 ∨ n.1 = 2 ∨ n.1 = 3) → (if n.2.2 = 0 then if (flip3 n).2.2 = 0 then newellaw20_CollectMirror.j1 2999 n.1 (flip3 n).1 ((flip3 n).2.1 != wrap64 (-n.2.1)) else none else none) = some true := by
          rintro ⟨x, e, z⟩ rfl he hx
          have ew : wrap64 (-e) = -e := by unfold wrap64; dsimp only at he; omega
          show (if (0 : Int) = 0 then if (0 : Int) = 0 then newellaw20_CollectMirror.j1 2999 x (if x = 1 ∨ x = 2 then 3 - x else x) (-e != wrap64 (-e)) else none else none) = some true
          rw [ew, bne_self_eq_false, if_pos rfl, if_pos rfl, newellaw20_CollectMirror.j1, if_neg (by decide)]
          dsimp only at hx
          rcases hx with rfl | rfl | rfl | rfl
          · rw [if_neg (show ¬ ((0 : Int) = 1) by decide), newellaw20_CollectMirror.j2, if_neg (by decide), awake_eq _ (by omega)]
            rfl
          · rw [if_pos rfl, newellaw20_CollectMirror.j2, if_pos rfl, awake_eq _ (by omega)]
            have : wrap64 (3 - 1) = 2 := by unfold wrap64; omega
            rw [this]
            rfl
          · rw [if_neg (show ¬ ((2 : Int) = 1) by decide), newellaw20_CollectMirror.j2, if_pos (show ((2 : Int) == 2) = true by decide), awake_eq _ (by omega)]
            have : wrap64 (3 - 2) = 1 := by unfold wrap64; omega
            rw [this]
            rfl
          · rw [if_neg (show ¬ ((3 : Int) = 1) by decide), newellaw20_CollectMirror.j2, if_neg (by decide), awake_eq _ (by omega)]
            rfl
        by_cases hC : allC I U D = []
        · rw [nextB_nil hC, nextB_nil (eC.2 hC)]
          exact tail (0, 0, 0) rfl (.inl rfl) (.inl rfl)
        · rw [nextB_eq hC, nextB_eq (fun q => hC (eC.1 q)), dirB_same hd, dirB_same hn]
          have ex : nx (fl - 1 - f) (-d) sd su (turnL (fl - 1) I) (turnL (fl - 1) D) (turnL (fl - 1) U) = flip3 (nx f d su sd I U D) := by
            unfold nx
            rw [up_turn, down_turn, nextD_turn hd]
          rw [ex]
          obtain ⟨f1, f2, f3, -, -⟩ := nx_facts (f := f) (su := su) (sd := sd) hd hC
          refine tail _ f1 (.inr f2) ?_
          rcases f3 with ⟨q, _⟩ | ⟨q, _⟩
          · exact .inr (.inr (.inr q))
          · rw [q]
            unfold rideB
            split
            · exact .inr (.inl rfl)
            · exact .inr (.inr (.inl rfl))
  · rw [if_neg c]
    exact skip
end Go.Proofs.Ytlfgdcgjndjdgaa.ColPure
