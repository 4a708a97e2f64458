/- However a door is held, it is shut when its rest is over: plain Lean, no memory. -/
import Derived.Test.YtjfikeahafflfaaDoor3a
import Derived.Test.YtjfikeahafflfaaCxf11
namespace Go.Proofs.Ytjfikeahafflfaa.DoorPure
open Go.RowKit Go.Proofs.YtjfikeahafflfaaW.PrintWords Go.Proofs.YtjfikeahafflfaaW.PrintLast Go.Proofs.YtjfikeahafflfaaW.PrintMore Go.Proofs.Ytjfikeahafflfaa.C
theorem ends_loop (g0 g1 g2 g3 g4 g5 g6 g7 g8 g9 : Int) (hgA : Aside0 (gearP g0 g1 g2 g3 g4 g5 g6 g7 g8 g9)) (l : List Bool) (hl : l.length ≤ 60) (n : Nat) (hn : n ≤ 26000) (j : Nat) : ∀ (f i : Nat) (d0 d1 d2 : Int), i + j = n → 3 * j + 100 < f → Aside0 (doorP d0 d1 d2) → restS g3 g6 g8 g9 d0 d1 d2 ≤ j →
    newellaw17_DoorEnds.l0 f l (n : Int) (i : Int) g0 g1 g2 g3 g4 g5 g6 g7 g8 g9 d0 d1 d2 = some true := by
  induction j with
  | zero =>
    intro f i d0 d1 d2 h hf hdA hr
    obtain ⟨f, rfl⟩ : ∃ m, f = m + 1 := ⟨f - 1, by omega⟩
    obtain ⟨n1, n2, n3⟩ := rest_sign hgA.out hdA.out
    have hd := hdA.out
    have e0 : d0 = 0 := n2.1 (by omega)
    have e1 : d1 = 0 := by omega
    have e2 : d2 = 0 := by omega
    simp only [newellaw17_DoorEnds.l0]
    rw [if_neg (by omega), awake_eq f (by omega)]
    simp [e0, e1, e2]
  | succ j ih =>
    intro f i d0 d1 d2 h hf hdA hr
    obtain ⟨f, rfl⟩ : ∃ m, f = m + 3 := ⟨f - 3, by omega⟩
    have ei : wrap64 ((i : Int) + 1) = ((i + 1 : Nat) : Int) := by unfold wrap64; omega
    have go : ∀ b : Bool, ∃ e0 e1 e2 c, door_Step.f (f + 2) g0 g1 g2 g3 g4 g5 g6 g7 g8 g9 d0 d1 d2 b = some (e0, e1, e2, c, 0) ∧ (c = true → d0 = 2) ∧ (e0 = 0 → d0 = 0 ∨ d0 = 3) ∧ newellaw17_DoorEnds.l0 f l (n : Int) ((i + 1 : Nat) : Int) g0 g1 g2 g3 g4 g5 g6 g7 g8 g9 e0 e1 e2 = some true := by
      intro b
      obtain ⟨e0, e1, e2, c, he, hde, hc, hz, hs, hm, hrr⟩ := tick_all b hgA.out hdA.out
      have hdeA := Aside0.mk hde
      clear hde hm
      refine ⟨e0, e1, e2, c, ?_, hc, hz, ?_⟩
      · rw [step_eq _ _ _ _ _ _ _ _ _ _ _ _ _ _ (f + 2) (by omega), if_pos (show gearP g0 g1 g2 g3 g4 g5 g6 g7 g8 g9 ∧ doorP d0 d1 d2 from ⟨hgA.out, hdA.out⟩), he]
      · refine ih f (i + 1) e0 e1 e2 (by omega) (by omega) hdeA ?_
        by_cases e : d0 = 0
        · obtain ⟨z0, z1, z2⟩ := hs e
          have := (rest_sign hgA.out hdeA.out).2.1.2 z0
          omega
        · have := hrr e
          omega
    have tail2 : ∀ e0 e1 e2 : Int, newellaw17_DoorEnds.l0 f l (n : Int) ((i + 1 : Nat) : Int) g0 g1 g2 g3 g4 g5 g6 g7 g8 g9 e0 e1 e2 = some true → newellaw17_DoorEnds.j2 (f + 2) l (n : Int) (i : Int) false g0 g1 g2 g3 g4 g5 g6 g7 g8 g9 e0 e1 e2 = some true := by
      intro e0 e1 e2 hgo
      rw [newellaw17_DoorEnds.j2, if_neg (by decide), newellaw17_DoorEnds.j4, ei]
      exact hgo
    have tail3 : ∀ e0 e1 e2 : Int, newellaw17_DoorEnds.l0 f l (n : Int) ((i + 1 : Nat) : Int) g0 g1 g2 g3 g4 g5 g6 g7 g8 g9 e0 e1 e2 = some true → newellaw17_DoorEnds.j3 (f + 2) l (n : Int) (i : Int) false g0 g1 g2 g3 g4 g5 g6 g7 g8 g9 e0 e1 e2 = some true := by
      intro e0 e1 e2 hgo
      rw [newellaw17_DoorEnds.j3, if_neg (by decide), newellaw17_DoorEnds.j4, ei]
      exact hgo
    clear ih
    rw [newellaw17_DoorEnds.l0, if_pos (by omega)]
    by_cases hi : (i : Int) < (l.length : Int)
    · rw [if_pos hi, if_pos (by omega)]
      obtain ⟨e0, e1, e2, c, he, hc, hz, hgo⟩ := go (rdOf false l (i : Int))
      rw [he, Option.bind_some]
      have T := tail2 e0 e1 e2 hgo
      generalize newellaw17_DoorEnds.j2 (f + 2) l (n : Int) (i : Int) = J at T ⊢
      dsimp only
      rw [if_pos rfl]
      cases c
      · rw [if_neg (by decide)]
        by_cases z : e0 = 0
        · rw [if_pos z]
          rcases hz z with q | q
          · rw [if_neg (by omega), show (d0 != 0) = false from by simp [q]]; exact T
          · rw [if_pos q]; exact T
        · rw [if_neg z]; exact T
      · have q := hc rfl
        have z : ¬ e0 = 0 := fun z => by have := hz z; omega
        rw [if_pos rfl, if_pos q, if_neg z]; exact T
    · rw [if_neg hi]
      obtain ⟨e0, e1, e2, c, he, hc, hz, hgo⟩ := go false
      rw [he, Option.bind_some]
      have T := tail3 e0 e1 e2 hgo
      generalize newellaw17_DoorEnds.j3 (f + 2) l (n : Int) (i : Int) = J at T ⊢
      dsimp only
      rw [if_pos rfl]
      cases c
      · rw [if_neg (by decide)]
        by_cases z : e0 = 0
        · rw [if_pos z]
          rcases hz z with q | q
          · rw [if_neg (by omega), show (d0 != 0) = false from by simp [q]]; exact T
          · rw [if_pos q]; exact T
        · rw [if_neg z]; exact T
      · have q := hc rfl
        have z : ¬ e0 = 0 := fun z => by have := hz z; omega
        rw [if_pos rfl, if_pos q, if_neg z]; exact T
theorem ends_at (g0 g1 g2 g3 g4 g5 g6 g7 g8 g9 d0 d1 d2 : Int) (l : List Bool) (f : Nat) (hf : 80000 < f) : newellaw17_DoorEnds.f f g0 g1 g2 g3 g4 g5 g6 g7 g8 g9 d0 d1 d2 l = some true := by
  unfold newellaw17_DoorEnds.f
  rw [rest_eq _ _ _ _ _ _ _ _ _ _ _ _ _ f (by omega)]
  obtain ⟨f, rfl⟩ : ∃ m, f = m + 1 := ⟨f - 1, by omega⟩
  simp only [Option.bind_some]
  by_cases h : gearP g0 g1 g2 g3 g4 g5 g6 g7 g8 g9 ∧ doorP d0 d1 d2
  · rw [if_pos h]
    dsimp only
    rw [if_pos rfl]
    by_cases hl : (l.length : Int) > 60
    · rw [decide_eq_true hl, newellaw17_DoorEnds.j0, if_pos rfl, awake_eq f (by omega)]
      rfl
    · rw [decide_eq_false hl, newellaw17_DoorEnds.j0, if_neg (by decide)]
      obtain ⟨n1, n2, n3⟩ := rest_sign h.1 h.2
      obtain ⟨n, hn⟩ := Int.eq_ofNat_of_zero_le n1
      have hA := Aside0.mk h.1
      have hB := Aside0.mk h.2
      clear h
      rw [hn]
      have hr : restS g3 g6 g8 g9 d0 d1 d2 ≤ (n : Int) := by omega
      have hn2 : n ≤ 26000 := by omega
      have hl2 : l.length ≤ 60 := by omega
      exact ends_loop g0 g1 g2 g3 g4 g5 g6 g7 g8 g9 hA l hl2 n hn2 n f 0 d0 d1 d2 (by omega) (by omega) hB hr
  · rw [if_neg h]
    dsimp only
    rw [if_neg (by decide), newellaw17_DoorEnds.j0, if_pos rfl, awake_eq f (by omega)]
    rfl
theorem ends_law (g0 g1 g2 g3 g4 g5 g6 g7 g8 g9 d0 d1 d2 : Int) (l : List Bool) : newellaw17_DoorEnds.f 100000 g0 g1 g2 g3 g4 g5 g6 g7 g8 g9 d0 d1 d2 l = some true := ends_at g0 g1 g2 g3 g4 g5 g6 g7 g8 g9 d0 d1 d2 l 100000 (by omega)
end Go.Proofs.Ytjfikeahafflfaa.DoorPure
