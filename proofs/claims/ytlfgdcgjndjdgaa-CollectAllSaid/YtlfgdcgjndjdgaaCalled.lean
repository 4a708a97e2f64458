/- The function collect.Called, walked by hand (it ranges over a function): whether a floor is among those that are called. -/
import Derived.Test.YtlfgdcgjndjdgaaIter
namespace Go.Proofs.Ytlfgdcgjndjdgaa.C
open Go.RowKit Go.Shelf Go.Proofs.YtlfgdcgjndjdgaaW.PrintWords Go.Proofs.Ytlfgdcgjndjdgaa.Iter
set_option linter.unusedVariables false
attribute [local go_sem] Oper.semAt_some
def collect_Called.f (l0 l1 l2 : List Int) (a1 : Int) : Option Bool := if l0.length ≤ 140737488351232 ∧ l1.length ≤ 140737488351232 ∧ l2.length ≤ 140737488351232 then some (decide (a1 ∈ l0 ++ l1 ++ l2)) else none
set_option maxRecDepth 100000 in
set_option maxHeartbeats 4000000 in
theorem called_wide (F : Fence) (n : Nat) (h13 : F.fn 13) (h21 : F.fn 21) (h34 : F.fn 34) (hro : F.round = none) (hn : 3 ≤ n) (rows : List (Option Addr × Nat × List Int)) (r0 r1 r2 : Option Addr × Nat × List Int) (hrows : rows = [r0, r1, r2]) (want : Int)
    (w : World) (hr : ∀ r ∈ rows, RowAt w.heap.size w r.1 r.2.2) :
    CallsIn F n Try.prog 13 #[.agg #[rowV r0, rowV r1, rowV r2], .int .i64 want] w fun e W' => e = .returned (.bool (decide (want ∈ cat rows 3))) ∧ Below w.heap.size w W' := by
  have h1 : 1 ≤ n := by omega
  refine callsIn_of_wp_marks Try.func13 rfl h13 ?_ hro
  simp only [Try.ntmps13, List.size_toArray, List.length_cons, List.length_nil, Nat.reduceAdd, Nat.reduceSub, Array.replicate_succ, Array.replicate_zero, List.push_toArray, List.append_toArray, List.nil_append, List.cons_append]
  gi_wp2_with (gi_at_call 21; refine (called_in F (n - 1) h21 hro _ _ _ _).mono ?_; rintro e w' ⟨rfl, rfl⟩)
  have hB0 : Below w.heap.size w ((((w.alloc (.cells #[rowV r0, rowV r1, rowV r2] 24)).alloc (.cells #[.int .i64 want] 3)).alloc (.cells #[.bool false] 4)).alloc (.cells #[rowV r0, rowV r1, rowV r2] 24)) :=
    ((((Below.refl _ w).alloc (Nat.le_refl _) _).alloc (by simp) _).alloc (by simp; omega) _).alloc (by simp; omega) _
  have c1 := cell_new_l (w.alloc (.cells #[rowV r0, rowV r1, rowV r2] 24)) (.int .i64 want) 3
  have c2 := cell_new_l ((w.alloc (.cells #[rowV r0, rowV r1, rowV r2] 24)).alloc (.cells #[.int .i64 want] 3)) (.bool false) 4
  have k3 := blk_new (((w.alloc (.cells #[rowV r0, rowV r1, rowV r2] 24)).alloc (.cells #[.int .i64 want] 3)).alloc (.cells #[.bool false] 4)) (.cells #[rowV r0, rowV r1, rowV r2] 24)
  simp only [World.size_alloc] at c1 c2 k3
  have hstops := called_stops F (n - 1) h34 hro (by omega) (w.heap.size + 1 + 1 + 1) w.heap.size (w.heap.size + 1 + 1 + 1) rows r0 r1 r2 hrows _ k3 (by simp) (fun r h => (hr r h).below hB0 (Nat.le_refl _)) (by simp; omega)
  refine wpIn_rangeFunc_ownF hro h1 (gf := 34) (lb := #[.pointer (some ⟨w.heap.size + 1 + 1 + 1, 0, none⟩)]) rfl h34 (enters_of Try.func34 (by kernel_rfl) rfl)
    hstops kp_t kp_b (Below.refl _ _) (fun _ => rfl)
    (fun pre W => ((∀ y ∈ pre, y ≠ want) ∧ W.cell? ⟨w.heap.size + 1, 0, none⟩ = some (.int .i64 want) ∧ W.cell? ⟨w.heap.size + 1 + 1, 0, none⟩ = some (.bool false) ∧ W.frozen? ⟨w.heap.size + 1 + 1, 0, none⟩ = false) ∧ Below w.heap.size w W)
    (fun c pre W => (c = .ret ∧ want ∈ pre ∧ W.cell? ⟨w.heap.size + 1 + 1, 0, none⟩ = some (.bool true)) ∧ Below w.heap.size w W)
    (OwnFrom.and (Own.from (fun s A B row hs hg hr => ⟨hs.1, cell_kept hs.2.1 hg hr, cell_kept hs.2.2.1 hg hr, (frozen_kept hs.2.2.1 hg hr).trans hs.2.2.2⟩) _) (ownFrom_below (Nat.le_refl _) (by simp; omega)))
    (fun c => OwnFrom.and (Own.from (fun s A B row hs hg hr => ⟨hs.1, hs.2.1, cell_kept hs.2.2 hg hr⟩) _) (ownFrom_below (Nat.le_refl _) (by simp; omega)))
    ⟨⟨by simp, cell_alloc_l _ (cell_alloc_l _ c1.1), cell_alloc_l _ c2.1, frozen_alloc_l _ c2.1 c2.2⟩, hB0⟩
    (fun x => { tmps := #[.agg #[rowV r0, rowV r1, rowV r2], .int .i64 want, .pointer (some ⟨w.heap.size, 0, none⟩), .pointer (some ⟨w.heap.size + 1, 0, none⟩), .pointer (some ⟨w.heap.size + 1 + 1, 0, none⟩), .int .i64 x, .agg #[rowV r0, rowV r1, rowV r2], .func (.func 34) #[] #[.pointer (some ⟨w.heap.size + 1 + 1 + 1, 0, none⟩)], .int .i64 x, undef, undef, undef], defers := [] }) ?assign ?body ?done ?stop
  case assign =>
    intro l x W K hK
    gi_wp2
    exact hK
  case body =>
    rintro l pre x W ⟨⟨hp, hcw, hcr, hfr⟩, hB⟩ _
    gi_wp2
    · rename_i hx
      obtain rfl : x = want := eq_of_beq hx
      exact ⟨KeepsOthers.setCell _ _ _, ⟨rfl, List.mem_append.2 (.inr (by simp)), World.cell?_setCell_same' _ _ _ (by rw [hcr]; rfl)⟩, hB.setCell (p := ⟨w.heap.size + 1 + 1, 0, none⟩) (by simp; omega) _⟩
    · rename_i hx
      exact ⟨KeepsOthers.refl _, Kp.refl _ _ _, ⟨fun y hy => (List.mem_append.1 hy).elim (hp y) (fun e e' => by simp at e; subst e; subst e'; simp at hx), hcw, hcr, hfr⟩, hB⟩
  case done =>
    rintro D ys W hD rfl ⟨⟨hne, _, hcr, hfr⟩, hB⟩ hK
    gi_wp2
    have hK' := (KeepsOthers.setCell W ⟨w.heap.size + 1 + 1, 0, none⟩ (.bool false)).same D _ hK rfl
    refine ⟨by simp, .inl ⟨_, _, rfl, run_takeDeferred hK', ?_⟩⟩
    have hc5 := cell_kept (World.cell?_setCell_same' W ⟨w.heap.size + 1 + 1, 0, none⟩ (.bool false) (by rw [hcr]; rfl)) (grownBy_putObj' _ D (.deferred none)) (fun r e => by cases e; exact ⟨_, hK', rfl⟩)
    refine ⟨.bool false, ?_, by rw [decide_eq_false (fun h => hne want h rfl)], (hB.setCell (p := ⟨w.heap.size + 1 + 1, 0, none⟩) (by simp; omega) _).trans (belowK_b (w := w) (Nat.le_refl _) _ D _ _ (by simp at hD; omega) hK' rfl rfl)⟩
    simp [results, Try.f13, go_sem, hc5]
  case stop =>
    rintro D c pre W hD hpre ⟨⟨rfl, hin, hcr⟩, hB⟩ hK
    gi_wp2
    refine ⟨by simp, .inl ⟨_, _, rfl, run_takeDeferred hK, ?_⟩⟩
    have hc5 := cell_kept hcr (grownBy_putObj' _ D (.deferred none)) (fun r e => by cases e; exact ⟨_, hK, rfl⟩)
    refine ⟨.bool true, ?_, by rw [decide_eq_true (hpre _ hin)], hB.trans (belowK_b (w := w) (Nat.le_refl _) W D _ _ (by simp at hD; omega) hK rfl rfl)⟩
    simp [results, Try.f13, go_sem, hc5]
theorem cat_three (A0 A1 A2 : Option Addr) (c0 c1 c2 : Nat) (l0 l1 l2 : List Int) : cat [(A0, c0, l0), (A1, c1, l1), (A2, c2, l2)] 3 = l0 ++ l1 ++ l2 := by simp [cat]
theorem collect_Called.calls (A0_0 : Option Addr) (c0_0 : Nat) (l0_0 : List Int) (A0_1 : Option Addr) (c0_1 : Nat) (l0_1 : List Int) (A0_2 : Option Addr) (c0_2 : Nat) (l0_2 : List Int) (a1 : Int) (r : Bool) (w : World) (hr0_0 : Kd.C (Kd.int .i64) w A0_0 l0_0.length l0_0) (hc0_0 : l0_0.length ≤ c0_0) (hr0_1 : Kd.C (Kd.int .i64) w A0_1 l0_1.length l0_1) (hc0_1 : l0_1.length ≤ c0_1) (hr0_2 : Kd.C (Kd.int .i64) w A0_2 l0_2.length l0_2) (hc0_2 : l0_2.length ≤ c0_2) (h : collect_Called.f l0_0 l0_1 l0_2 a1 = some r) :
  Calls Try.prog 13 #[.agg #[.slice A0_0 l0_0.length c0_0, .slice A0_1 l0_1.length c0_1, .slice A0_2 l0_2.length c0_2], .int .i64 a1] w fun e w' => e = .returned (.bool r) ∧ Below w.heap.size w w' := by
  unfold collect_Called.f at h
  split at h
  case isFalse => cases h
  case isTrue hl =>
  obtain rfl := Option.some.inj h
  have hw := called_wide Fence.wide 3 trivial trivial trivial rfl (Nat.le_refl _) _ (A0_0, c0_0, l0_0) (A0_1, c0_1, l0_1) (A0_2, c0_2, l0_2) rfl a1 w (by
    intro r hr
    simp only [List.mem_cons, List.not_mem_nil, or_false] at hr
    rcases hr with rfl | rfl | rfl
    · exact rowAt_of_C hr0_0 hl.1
    · exact rowAt_of_C hr0_1 hl.2.1
    · exact rowAt_of_C hr0_2 hl.2.2)
  rw [cat_three] at hw
  exact callsIn_wide.1 hw
end Go.Proofs.Ytlfgdcgjndjdgaa.C
