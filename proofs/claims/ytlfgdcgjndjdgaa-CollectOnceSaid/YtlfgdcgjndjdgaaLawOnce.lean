/- It stops once: the law, in plain Lean. -/
import Derived.Test.YtlfgdcgjndjdgaaLawTw
import Derived.Test.YtlfgdcgjndjdgaaCxf6
namespace Go.Proofs.Ytlfgdcgjndjdgaa.ColPure
open Go.RowKit Go.Proofs.YtlfgdcgjndjdgaaW.PrintWords Go.Proofs.YtlfgdcgjndjdgaaW.PrintLast Go.Proofs.YtlfgdcgjndjdgaaW.PrintMore Go.Proofs.Ytlfgdcgjndjdgaa.C
set_option linter.unusedVariables false
variable {I U D : List Int}
theorem once_back (h : Few I U D) {fl f d0 : Int} (m : May fl f d0 I U D) {e : Int} (he : e = 1 ∨ e = -1) (su sd su' sd' : Bool) (hC : allC I U D ≠ []) (hb : beenB e su' sd' = true) (k : Nat) (hk : 1000 ≤ k) :
    newellaw20_CollectOnce.j2 k e fl f d0 su sd I U D fl f e su' sd' I U D = some true := by
  obtain ⟨k, rfl⟩ : ∃ m, k = m + 3 := ⟨k - 3, by omega⟩
  have m' : May fl f e I U D := { m with d0 := by omega, d1 := by omega }
  have en : nxt fl f e su' sd' I U D = nextB f e su' sd' I U D := by unfold nxt; rw [(may_iff _ _ _ _ _ _).2 m']; rfl
  rw [newellaw20_CollectOnce.j2, next_eq h fl f e su' sd' _ (by omega), Option.bind_some, en, nextB_eq hC, dirB_same he]
  obtain ⟨f1, f2, -, -, f5⟩ := nx_facts (f := f) (su := su') (sd := sd') he hC
  revert f1 f2 f5
  generalize nx f e su' sd' I U D = n
  obtain ⟨x, e2, z⟩ := n
  dsimp only
  intro f1 f2 f5
  subst f1
  have stop : newellaw20_CollectOnce.j3 (k + 2) false fl f d0 su sd I U D = some true := by
    rw [newellaw20_CollectOnce.j3, if_neg (by decide), awake_eq _ (by omega)]
    rfl
  rw [if_pos rfl]
  by_cases c1 : x = 3
  · rw [if_pos c1]
    by_cases c2 : e2 = e
    · obtain ⟨a, b⟩ := f5 hb c1 c2
      have hu : anyD 1 f (allC I U D) = false ∧ anyD (-1) f (allC I U D) = false := by
        rcases he with rfl | rfl
        · exact ⟨a, b⟩
        · exact ⟨b, a⟩
      rw [beq_iff_eq.2 c2, newellaw20_CollectOnce.j3, if_pos rfl, awake_eq _ (by omega), Option.bind_some, if_pos rfl, toward_eq h m (.inl rfl) su sd _ (by omega), Option.bind_some, hu.1, if_neg (by decide), toward_eq h m (.inr rfl) su sd _ (by omega), Option.bind_some, hu.2]
      rfl
    · rw [beq_eq_false_iff_ne.2 c2]
      exact stop
  · rw [if_neg c1]
    exact stop
theorem once_law (fl f d : Int) (su sd : Bool) (I U D : List Int) : newellaw20_CollectOnce.f 3000 fl f d su sd I U D = some true := by
  unfold newellaw20_CollectOnce.f
  rw [few_eq, Option.bind_some]
  by_cases c : decide (I.length ≤ 80 ∧ U.length ≤ 80 ∧ D.length ≤ 80) = true
  · have h := few_of c
    have skip : ∀ e, newellaw20_CollectOnce.j0 3000 e true fl f d su sd I U D = some true := by
      intro e
      rw [newellaw20_CollectOnce.j0, if_pos rfl, awake_eq _ (by omega)]
      rfl
    rw [if_pos c, own_eq h, Option.bind_some]
    dsimp only
    rw [next_eq h fl f d su sd _ (by omega), Option.bind_some]
    cases hm : mayB fl f d I U D
    · have en : nxt fl f d su sd I U D = (0, 0, 200) := by unfold nxt; rw [hm]; rfl
      rw [en, if_neg (by decide), skip]
    · have m := (may_iff fl f d I U D).1 hm
      have en : nxt fl f d su sd I U D = nextB f d su sd I U D := by unfold nxt; rw [hm]; rfl
      rw [en]
      by_cases hC : allC I U D = []
      · rw [nextB_nil hC, if_pos rfl]
        exact skip 0
      · rw [nextB_eq hC]
        obtain ⟨f1, f2, -, -, -⟩ := nx_facts (f := f) (su := su) (sd := sd) (dirB_pm (U := U) (f := f) (up := anyUp f (allC I U D)) m.d0 m.d1) hC
        revert f1 f2
        generalize nx f (dirB f d (anyUp f (allC I U D)) U) su sd I U D = n
        obtain ⟨x, e, z⟩ := n
        dsimp only
        intro f1 f2
        subst f1
        rw [if_pos rfl]
        by_cases c3 : x = 3
        · have go : ∀ su1 sd1 : Bool, (e = 1 → su1 = true) → (e = -1 → sd1 = true) → newellaw20_CollectOnce.j2 2998 e fl f d su sd I U D fl f e su1 sd1 I U D = some true := by
            intro su1 sd1 h1 h2
            refine once_back h m f2 su sd su1 sd1 hC ?_ _ (by omega)
            rcases f2 with rfl | rfl
            · exact h1 rfl
            · exact h2 rfl
          have go1 : ∀ su1 : Bool, (e = 1 → su1 = true) → newellaw20_CollectOnce.j1 2999 e fl f d su sd I U D fl f e su1 sd I U D = some true := by
            intro su1 h1
            rw [newellaw20_CollectOnce.j1]
            by_cases cs : sd = true
            · rw [if_pos cs]
              exact go su1 true h1 (fun _ => rfl)
            · rw [if_neg cs]
              exact go su1 _ h1 (fun q => by rw [q]; rfl)
          rw [show (x != 3) = false by rw [c3]; rfl, newellaw20_CollectOnce.j0, if_neg (by decide), own_eq h, Option.bind_some]
          dsimp only
          by_cases cs : su = true
          · rw [if_pos cs]
            exact go1 true (fun _ => rfl)
          · rw [if_neg cs]
            exact go1 _ (fun q => by rw [q]; rfl)
        · rw [show (x != 3) = true by rw [bne_iff_ne]; exact c3]
          exact skip e
  · rw [if_neg c, awake_eq _ (by omega)]
    rfl
end Go.Proofs.Ytlfgdcgjndjdgaa.ColPure
