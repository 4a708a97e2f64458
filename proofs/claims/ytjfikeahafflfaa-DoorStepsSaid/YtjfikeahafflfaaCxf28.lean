-- Written by a program of this session (wip/pp: the kit's print, changed), out of the translation. Lean checks it.
import Derived.Test.YtjfikeahafflfaaCx0
namespace Go.Proofs.Ytjfikeahafflfaa.C
open Go.RowKit Go.Proofs.YtjfikeahafflfaaW.PrintWords Go.Proofs.YtjfikeahafflfaaW.PrintLast Go.Proofs.YtjfikeahafflfaaW.PrintMore
attribute [local go_sem] max2_int min2_int max_two min_two max_three min_three max_four min_four   -- for this text's walks alone
set_option linter.unusedVariables false
set_option linter.unusedSimpArgs false

/-! ### newelref17_Rest: function 28 -/
def newelref17_Rest.j0 : Nat → Int → Int → Int → Int → Int → Int → Int → Int → Int → Int → Int → Int → Int → Int → Option (Int)
 | 0, _, _, _, _, _, _, _, _, _, _, _, _, _, _ => none
 | k + 1, x5, x382000, x382001, x382002, x382003, x382004, x382005, x382006, x382007, x382008, x382009, x383000, x383001, x383002 => if x383000 = 2 then (if x382009 > x383002 then (some (wrap64 ((wrap64 (x5 + x382006)) + (wrap64 ((wrap64 (x382009 - x383002)) * (wrap64 ((wrap64 (x382003 + x382008)) + x382006))))))) else (some (wrap64 (x5 + x382006)))) else (if x382009 > x383002 then (some (wrap64 (x5 + (wrap64 ((wrap64 (x382009 - x383002)) * (wrap64 ((wrap64 (x382003 + x382008)) + x382006))))))) else (some x5))
def newelref17_Rest.f (k : Nat) (a0_0 : Int) (a0_1 : Int) (a0_2 : Int) (a0_3 : Int) (a0_4 : Int) (a0_5 : Int) (a0_6 : Int) (a0_7 : Int) (a0_8 : Int) (a0_9 : Int) (a1_0 : Int) (a1_1 : Int) (a1_2 : Int) : Option (Int) := if a1_0 = 0 then (some 0) else (if a1_0 = 1 then (newelref17_Rest.j0 k (wrap64 ((wrap64 (a1_1 + a0_8)) + a0_6)) a0_0 a0_1 a0_2 a0_3 a0_4 a0_5 a0_6 a0_7 a0_8 a0_9 a1_0 a1_1 a1_2) else (newelref17_Rest.j0 k a1_1 a0_0 a0_1 a0_2 a0_3 a0_4 a0_5 a0_6 a0_7 a0_8 a0_9 a1_0 a1_1 a1_2))
theorem newelref17_Rest.mono_l : ∀ k, (∀ y0 y1 y2 y3 y4 y5 y6 y7 y8 y9 y10 y11 y12 y13, LeO (newelref17_Rest.j0 k y0 y1 y2 y3 y4 y5 y6 y7 y8 y9 y10 y11 y12 y13) (newelref17_Rest.j0 (k + 1) y0 y1 y2 y3 y4 y5 y6 y7 y8 y9 y10 y11 y12 y13))
 | 0 => fun _ _ _ _ _ _ _ _ _ _ _ _ _ _ r h => by simp [newelref17_Rest.j0] at h
 | k + 1 => by
  have ih0 := newelref17_Rest.mono_l k
  ·intro y0 y1 y2 y3 y4 y5 y6 y7 y8 y9 y10 y11 y12 y13
   unfold newelref17_Rest.j0
   repeat' first
   | (with_reducible exact ih0 _ _ _ _ _ _ _ _ _ _ _ _ _ _)
   | (with_reducible exact LeO.refl _)
   | (with_reducible exact LeO.none _)
   | (with_reducible refine LeO.ite ?_ ?_)
   | (with_reducible refine LeO.bind ?_ (fun _ => ?_))
   | exact ih0 _ _ _ _ _ _ _ _ _ _ _ _ _ _
   | exact LeO.none _
   | refine LeO.ite ?_ ?_
   | refine LeO.bind ?_ (fun _ => ?_)
theorem newelref17_Rest.mono : ∀ a0 a1 a2 a3 a4 a5 a6 a7 a8 a9 a10 a11 a12 k, LeO (newelref17_Rest.f k a0 a1 a2 a3 a4 a5 a6 a7 a8 a9 a10 a11 a12) (newelref17_Rest.f (k + 1) a0 a1 a2 a3 a4 a5 a6 a7 a8 a9 a10 a11 a12) := by
 intro a0 a1 a2 a3 a4 a5 a6 a7 a8 a9 a10 a11 a12 k
 have ih0 := newelref17_Rest.mono_l k
 unfold newelref17_Rest.f
 repeat' first
   | (with_reducible exact ih0 _ _ _ _ _ _ _ _ _ _ _ _ _ _)
   | (with_reducible exact LeO.refl _)
   | (with_reducible exact LeO.none _)
   | (with_reducible refine LeO.ite ?_ ?_)
   | (with_reducible refine LeO.bind ?_ (fun _ => ?_))
   | exact ih0 _ _ _ _ _ _ _ _ _ _ _ _ _ _
   | exact LeO.none _
   | refine LeO.ite ?_ ?_
   | refine LeO.bind ?_ (fun _ => ?_)
set_option maxHeartbeats 8000000 in
set_option maxRecDepth 100000 in
theorem newelref17_Rest.calls (k : Nat) (a0_0 : Int) (a0_1 : Int) (a0_2 : Int) (a0_3 : Int) (a0_4 : Int) (a0_5 : Int) (a0_6 : Int) (a0_7 : Int) (a0_8 : Int) (a0_9 : Int) (a1_0 : Int) (a1_1 : Int) (a1_2 : Int) (r : Int) (w : World) (h : newelref17_Rest.f k a0_0 a0_1 a0_2 a0_3 a0_4 a0_5 a0_6 a0_7 a0_8 a0_9 a1_0 a1_1 a1_2 = some r) :
  Calls Try.prog 28 #[.agg #[.int .i64 a0_0, .int .i64 a0_1, .int .i64 a0_2, .int .i64 a0_3, .int .i64 a0_4, .int .i64 a0_5, .int .i64 a0_6, .int .i64 a0_7, .int .i64 a0_8, .int .i64 a0_9], .agg #[.int .i64 a1_0, .int .i64 a1_1, .int .i64 a1_2]] w fun e w' => e = .returned (.int .i64 r) ∧ Below w.heap.size w w' := by
 have hu42 := Try.underlying42
 have hu44 := Try.underlying44
 have HB := Aside0.mk (Below.refl w.heap.size w)
 have H : (if a1_0 = 0 then (some 0) else (if a1_0 = 1 then (newelref17_Rest.j0 k (wrap64 ((wrap64 (a1_1 + a0_8)) + a0_6)) a0_0 a0_1 a0_2 a0_3 a0_4 a0_5 a0_6 a0_7 a0_8 a0_9 a1_0 a1_1 a1_2) else (newelref17_Rest.j0 k a1_1 a0_0 a0_1 a0_2 a0_3 a0_4 a0_5 a0_6 a0_7 a0_8 a0_9 a1_0 a1_1 a1_2))) = some r := h
 clear h
 by_cases c3 : a1_0 = 0
 ·rw [if_pos c3] at H
  have c3b0 : (a1_0 == 0) = true := beq_iff_eq.mpr c3
  have c3b1 : (a1_0 != 0) = false := bne_eq_false_iff_eq.mpr c3
  clear c3
  obtain rfl := Option.some.inj H
  go_enter Try.func28, Try.ntmps28
  go_wp2_with (first | ((with_reducible refine gate_dst (N := 2) rfl ?_); refine box_event ?hg (N := 2) ?hd (cs := #[.int .i64 a0_0, .int .i64 a0_1, .int .i64 a0_2, .int .i64 a0_3, .int .i64 a0_4, .int .i64 a0_5, .int .i64 a0_6, .int .i64 a0_7, .int .i64 a0_8, .int .i64 a0_9]) (t := 42) ?hr ?_; (case hd => rfl); (case hg => rfl); (case hr => first | (go_simp; done) | (go_simp; rfl)); intro gb381 hg w4 hbox hb; have n0_ := Aside0.mk (below_step (by repeat (first | (with_reducible first | exact HB.out | apply below_alloc | apply pw_below_drewN | apply below_drew1) | exact HB.out)) hb); have n1_ := Aside0.mk (hbox); have n2_ := Aside0.mk ((by rw [hg]; exact (below_size (by repeat (first | (with_reducible first | exact HB.out | apply below_alloc | apply pw_below_drewN | apply below_drew1) | exact HB.out))) : w.heap.size ≤ gb381)); have n3_ := Aside0.mk ((by rw [hg]; exact (below_size (by repeat (first | (with_reducible first | exact HB.out | apply below_alloc | apply pw_below_drewN | apply below_drew1) | exact HB.out))) : w.heap.size ≤ gb381)); clear HB; have HB := n0_; have BK381 := n1_; have GW381 := n2_; have GE381 := n3_; clear n0_ n1_ n2_ n3_; clear hb hbox hg) | ((with_reducible refine gate_dst (N := 3) rfl ?_); refine box_event ?hg (N := 3) ?hd (cs := #[.int .i64 a1_0, .int .i64 a1_1, .int .i64 a1_2]) (t := 44) ?hr ?_; (case hd => rfl); (case hg => rfl); (case hr => first | (go_simp; done) | (go_simp; rfl)); intro gb382 hg w5 hbox hb; have n0_ := Aside0.mk (blk_below (g := gb381) (o := .cells #[.int .i64 a0_0, .int .i64 a0_1, .int .i64 a0_2, .int .i64 a0_3, .int .i64 a0_4, .int .i64 a0_5, .int .i64 a0_6, .int .i64 a0_7, .int .i64 a0_8, .int .i64 a0_9] 42 (0, 0)) (by (with_reducible repeat (first | refine blk_drewN ?_ _ | refine blk_drew ?_ | refine blk_alloc ?_ _)); exact BK381.out) hb); have n1_ := Aside0.mk (below_step (by repeat (first | (with_reducible first | exact HB.out | apply below_alloc | apply pw_below_drewN | apply below_drew1 | refine below_set ?_ GE381.out) | exact HB.out)) hb); have n2_ := Aside0.mk (hbox); have n3_ := Aside0.mk ((by rw [hg]; exact (below_size (by repeat (first | (with_reducible first | exact HB.out | apply below_alloc | apply pw_below_drewN | apply below_drew1 | refine below_set ?_ GE381.out) | exact HB.out))) : w.heap.size ≤ gb382)); have n4_ := Aside0.mk ((by rw [hg]; exact (below_size (by repeat (first | (with_reducible first | exact HB.out | apply below_alloc | apply pw_below_drewN | apply below_drew1 | refine below_set ?_ GE381.out) | exact HB.out))) : w.heap.size ≤ gb382)); have n5_ := Aside0.mk ((by rw [hg]; exact Nat.ne_of_lt (blk_lt (g := gb381) (o := .cells #[.int .i64 a0_0, .int .i64 a0_1, .int .i64 a0_2, .int .i64 a0_3, .int .i64 a0_4, .int .i64 a0_5, .int .i64 a0_6, .int .i64 a0_7, .int .i64 a0_8, .int .i64 a0_9] 42 (0, 0)) (by (with_reducible repeat (first | refine blk_drewN ?_ _ | refine blk_drew ?_ | refine blk_alloc ?_ _)); exact BK381.out)) : gb381 ≠ gb382)); have n6_ := Aside0.mk ((by rw [hg]; exact Nat.ne_of_gt (blk_lt (g := gb381) (o := .cells #[.int .i64 a0_0, .int .i64 a0_1, .int .i64 a0_2, .int .i64 a0_3, .int .i64 a0_4, .int .i64 a0_5, .int .i64 a0_6, .int .i64 a0_7, .int .i64 a0_8, .int .i64 a0_9] 42 (0, 0)) (by (with_reducible repeat (first | refine blk_drewN ?_ _ | refine blk_drew ?_ | refine blk_alloc ?_ _)); exact BK381.out)) : gb382 ≠ gb381)); clear BK381; clear HB; have BK381 := n0_; have HB := n1_; have BK382 := n2_; have GW382 := n3_; have GE382 := n4_; have NB381_382 := n5_; have NB382_381 := n6_; clear n0_ n1_ n2_ n3_ n4_ n5_ n6_; clear hb hbox hg; have hnb6 := NB382_381.out; have hnc6 := NB381_382.out; have hcz7_0 : w5.cell? ⟨gb382, 0, none⟩ = some (.int .i64 a1_0) := (blk_cell BK382.out 0).trans rfl; have hcz7_1 : w5.cell? ⟨gb382, 1, none⟩ = some (.int .i64 a1_1) := (blk_cell BK382.out 1).trans rfl; have hcz7_2 : w5.cell? ⟨gb382, 2, none⟩ = some (.int .i64 a1_2) := (blk_cell BK382.out 2).trans rfl; have hfz7_0 := blk_frozen BK382.out 0; have hfz7_1 := blk_frozen BK382.out 1; have hfz7_2 := blk_frozen BK382.out 2))
  go_ret
  exact ⟨by first | rfl | (simp [errW_none, errW_some] <;> rfl) | (simp [*, errW_none, errW_some] <;> rfl), by repeat (first | (with_reducible first | exact HB.out | apply below_alloc | apply pw_below_drewN | apply below_drew1 | refine below_set ?_ GE381.out | refine below_set ?_ GE382.out) | exact HB.out)⟩
 ·rw [if_neg c3] at H
  have c3b0 : (a1_0 == 0) = false := beq_eq_false_iff_ne.mpr c3
  have c3b1 : (a1_0 != 0) = true := bne_iff_ne.mpr c3
  have HC8 := Aside0.mk H
  clear H
  go_enter Try.func28, Try.ntmps28
  go_upto_if 13 with (first | ((with_reducible refine gate_dst (N := 2) rfl ?_); refine box_event ?hg (N := 2) ?hd (cs := #[.int .i64 a0_0, .int .i64 a0_1, .int .i64 a0_2, .int .i64 a0_3, .int .i64 a0_4, .int .i64 a0_5, .int .i64 a0_6, .int .i64 a0_7, .int .i64 a0_8, .int .i64 a0_9]) (t := 42) ?hr ?_; (case hd => rfl); (case hg => rfl); (case hr => first | (go_simp; done) | (go_simp; rfl)); intro gb381 hg w9 hbox hb; have n0_ := Aside0.mk (below_step (by repeat (first | (with_reducible first | exact HB.out | apply below_alloc | apply pw_below_drewN | apply below_drew1) | exact HB.out)) hb); have n1_ := Aside0.mk (hbox); have n2_ := Aside0.mk ((by rw [hg]; exact (below_size (by repeat (first | (with_reducible first | exact HB.out | apply below_alloc | apply pw_below_drewN | apply below_drew1) | exact HB.out))) : w.heap.size ≤ gb381)); have n3_ := Aside0.mk ((by rw [hg]; exact (below_size (by repeat (first | (with_reducible first | exact HB.out | apply below_alloc | apply pw_below_drewN | apply below_drew1) | exact HB.out))) : w.heap.size ≤ gb381)); clear HB; have HB := n0_; have BK381 := n1_; have GW381 := n2_; have GE381 := n3_; clear n0_ n1_ n2_ n3_; clear hb hbox hg) | ((with_reducible refine gate_dst (N := 3) rfl ?_); refine box_event ?hg (N := 3) ?hd (cs := #[.int .i64 a1_0, .int .i64 a1_1, .int .i64 a1_2]) (t := 44) ?hr ?_; (case hd => rfl); (case hg => rfl); (case hr => first | (go_simp; done) | (go_simp; rfl)); intro gb382 hg w10 hbox hb; have n0_ := Aside0.mk (blk_below (g := gb381) (o := .cells #[.int .i64 a0_0, .int .i64 a0_1, .int .i64 a0_2, .int .i64 a0_3, .int .i64 a0_4, .int .i64 a0_5, .int .i64 a0_6, .int .i64 a0_7, .int .i64 a0_8, .int .i64 a0_9] 42 (0, 0)) (by (with_reducible repeat (first | refine blk_drewN ?_ _ | refine blk_drew ?_ | refine blk_alloc ?_ _)); exact BK381.out) hb); have n1_ := Aside0.mk (below_step (by repeat (first | (with_reducible first | exact HB.out | apply below_alloc | apply pw_below_drewN | apply below_drew1 | refine below_set ?_ GE381.out) | exact HB.out)) hb); have n2_ := Aside0.mk (hbox); have n3_ := Aside0.mk ((by rw [hg]; exact (below_size (by repeat (first | (with_reducible first | exact HB.out | apply below_alloc | apply pw_below_drewN | apply below_drew1 | refine below_set ?_ GE381.out) | exact HB.out))) : w.heap.size ≤ gb382)); have n4_ := Aside0.mk ((by rw [hg]; exact (below_size (by repeat (first | (with_reducible first | exact HB.out | apply below_alloc | apply pw_below_drewN | apply below_drew1 | refine below_set ?_ GE381.out) | exact HB.out))) : w.heap.size ≤ gb382)); have n5_ := Aside0.mk ((by rw [hg]; exact Nat.ne_of_lt (blk_lt (g := gb381) (o := .cells #[.int .i64 a0_0, .int .i64 a0_1, .int .i64 a0_2, .int .i64 a0_3, .int .i64 a0_4, .int .i64 a0_5, .int .i64 a0_6, .int .i64 a0_7, .int .i64 a0_8, .int .i64 a0_9] 42 (0, 0)) (by (with_reducible repeat (first | refine blk_drewN ?_ _ | refine blk_drew ?_ | refine blk_alloc ?_ _)); exact BK381.out)) : gb381 ≠ gb382)); have n6_ := Aside0.mk ((by rw [hg]; exact Nat.ne_of_gt (blk_lt (g := gb381) (o := .cells #[.int .i64 a0_0, .int .i64 a0_1, .int .i64 a0_2, .int .i64 a0_3, .int .i64 a0_4, .int .i64 a0_5, .int .i64 a0_6, .int .i64 a0_7, .int .i64 a0_8, .int .i64 a0_9] 42 (0, 0)) (by (with_reducible repeat (first | refine blk_drewN ?_ _ | refine blk_drew ?_ | refine blk_alloc ?_ _)); exact BK381.out)) : gb382 ≠ gb381)); clear BK381; clear HB; have BK381 := n0_; have HB := n1_; have BK382 := n2_; have GW382 := n3_; have GE382 := n4_; have NB381_382 := n5_; have NB382_381 := n6_; clear n0_ n1_ n2_ n3_ n4_ n5_ n6_; clear hb hbox hg; have hnb11 := NB382_381.out; have hnc11 := NB381_382.out; have hcz12_0 : w10.cell? ⟨gb382, 0, none⟩ = some (.int .i64 a1_0) := (blk_cell BK382.out 0).trans rfl; have hcz12_1 : w10.cell? ⟨gb382, 1, none⟩ = some (.int .i64 a1_1) := (blk_cell BK382.out 1).trans rfl; have hcz12_2 : w10.cell? ⟨gb382, 2, none⟩ = some (.int .i64 a1_2) := (blk_cell BK382.out 2).trans rfl; have hfz12_0 := blk_frozen BK382.out 0; have hfz12_1 := blk_frozen BK382.out 1; have hfz12_2 := blk_frozen BK382.out 2))
  (try simp only [Act.put, List.setIfInBounds_toArray, List.set_cons_zero, List.set_cons_succ])
  go_cut [5] (fun v5 wc => ∃ (kq : Nat) (x5_7 : Int), v5 = .int .i64 x5_7 ∧ Aside0 (newelref17_Rest.j0 kq x5_7 a0_0 a0_1 a0_2 a0_3 a0_4 a0_5 a0_6 a0_7 a0_8 a0_9 a1_0 a1_1 a1_2 = some r) ∧ Aside0 (kq ≤ k) ∧ Aside0 (wc.heap[gb381]? = some (.cells #[.int .i64 a0_0, .int .i64 a0_1, .int .i64 a0_2, .int .i64 a0_3, .int .i64 a0_4, .int .i64 a0_5, .int .i64 a0_6, .int .i64 a0_7, .int .i64 a0_8, .int .i64 a0_9] 42 (0, 0))) ∧ Aside0 (wc.heap[gb382]? = some (.cells #[.int .i64 a1_0, .int .i64 a1_1, .int .i64 a1_2] 44 (0, 0))) ∧ Aside0 (Below w.heap.size w wc))
  case first =>
   have H := HC8.out
   clear HC8
   by_cases c13 : a1_0 = 1
   ·rw [if_pos c13] at H
    have c13b0 : (a1_0 == 1) = true := beq_iff_eq.mpr c13
    have c13b1 : (a1_0 != 1) = false := bne_eq_false_iff_eq.mpr c13
    clear c13
    (first | rw [c13b0] | (simp only [i64_w, i32_w]; rw [c13b0]) | skip)
    have H' := Aside0.mk H
    clear H
    have hnb14 := NB381_382.out
    have hnc14 := NB382_381.out
    have hcz15_0 : w10.cell? ⟨gb381, 0, none⟩ = some (.int .i64 a0_0) := (blk_cell BK381.out 0).trans rfl
    have hcz15_1 : w10.cell? ⟨gb381, 1, none⟩ = some (.int .i64 a0_1) := (blk_cell BK381.out 1).trans rfl
    have hcz15_2 : w10.cell? ⟨gb381, 2, none⟩ = some (.int .i64 a0_2) := (blk_cell BK381.out 2).trans rfl
    have hcz15_3 : w10.cell? ⟨gb381, 3, none⟩ = some (.int .i64 a0_3) := (blk_cell BK381.out 3).trans rfl
    have hcz15_4 : w10.cell? ⟨gb381, 4, none⟩ = some (.int .i64 a0_4) := (blk_cell BK381.out 4).trans rfl
    have hcz15_5 : w10.cell? ⟨gb381, 5, none⟩ = some (.int .i64 a0_5) := (blk_cell BK381.out 5).trans rfl
    have hcz15_6 : w10.cell? ⟨gb381, 6, none⟩ = some (.int .i64 a0_6) := (blk_cell BK381.out 6).trans rfl
    have hcz15_7 : w10.cell? ⟨gb381, 7, none⟩ = some (.int .i64 a0_7) := (blk_cell BK381.out 7).trans rfl
    have hcz15_8 : w10.cell? ⟨gb381, 8, none⟩ = some (.int .i64 a0_8) := (blk_cell BK381.out 8).trans rfl
    have hcz15_9 : w10.cell? ⟨gb381, 9, none⟩ = some (.int .i64 a0_9) := (blk_cell BK381.out 9).trans rfl
    have hfz15_0 := blk_frozen BK381.out 0
    have hfz15_1 := blk_frozen BK381.out 1
    have hfz15_2 := blk_frozen BK381.out 2
    have hfz15_3 := blk_frozen BK381.out 3
    have hfz15_4 := blk_frozen BK381.out 4
    have hfz15_5 := blk_frozen BK381.out 5
    have hfz15_6 := blk_frozen BK381.out 6
    have hfz15_7 := blk_frozen BK381.out 7
    have hfz15_8 := blk_frozen BK381.out 8
    have hfz15_9 := blk_frozen BK381.out 9
    go_wp2
    go_meet
    case rel => exact ⟨_, (wrap64 ((wrap64 (a1_1 + a0_8)) + a0_6)), (by first | rfl | (simp; done) | (simp [*]; done)), H', ⟨by first | omega | exact Nat.le_refl _⟩, ⟨by (with_reducible repeat (first | refine blk_drewN ?_ _ | refine blk_drew ?_ | refine blk_alloc ?_ _)); exact BK381.out⟩, ⟨by (with_reducible repeat (first | refine blk_drewN ?_ _ | refine blk_drew ?_ | refine blk_alloc ?_ _)); exact BK382.out⟩, ⟨by repeat (first | (with_reducible first | exact HB.out | apply below_alloc | apply pw_below_drewN | apply below_drew1 | refine below_set ?_ GE381.out | refine below_set ?_ GE382.out) | exact HB.out)⟩⟩
   ·rw [if_neg c13] at H
    have c13b0 : (a1_0 == 1) = false := beq_eq_false_iff_ne.mpr c13
    have c13b1 : (a1_0 != 1) = true := bne_iff_ne.mpr c13
    (first | rw [c13b0] | (simp only [i64_w, i32_w]; rw [c13b0]) | skip)
    have H' := Aside0.mk H
    clear H
    go_wp2
    go_meet
    case rel => exact ⟨_, (a1_1), (by first | rfl | (simp; done) | (simp [*]; done)), H', ⟨by first | omega | exact Nat.le_refl _⟩, ⟨by (with_reducible repeat (first | refine blk_drewN ?_ _ | refine blk_drew ?_ | refine blk_alloc ?_ _)); exact BK381.out⟩, ⟨by (with_reducible repeat (first | refine blk_drewN ?_ _ | refine blk_drew ?_ | refine blk_alloc ?_ _)); exact BK382.out⟩, ⟨by repeat (first | (with_reducible first | exact HB.out | apply below_alloc | apply pw_below_drewN | apply below_drew1 | refine below_set ?_ GE381.out | refine below_set ?_ GE382.out) | exact HB.out)⟩⟩
  case rest =>
   clear HC8
   try clear c1
   try clear c2
   try clear p2
   try clear c3
   try clear c3b0
   try clear c3b1
   try clear c6
   try clear p6
   try clear c11
   try clear c13
   try clear c13b0
   try clear c13b1
   try clear c14
   try clear hcz12_0
   try clear hcz12_1
   try clear hcz12_2
   try clear hcz15_0
   try clear hcz15_1
   try clear hcz15_2
   try clear hcz15_3
   try clear hcz15_4
   try clear hcz15_5
   try clear hcz15_6
   try clear hcz15_7
   try clear hcz15_8
   try clear hcz15_9
   try clear hcz7_0
   try clear hcz7_1
   try clear hcz7_2
   try clear hfz12_0
   try clear hfz12_1
   try clear hfz12_2
   try clear hfz15_0
   try clear hfz15_1
   try clear hfz15_2
   try clear hfz15_3
   try clear hfz15_4
   try clear hfz15_5
   try clear hfz15_6
   try clear hfz15_7
   try clear hfz15_8
   try clear hfz15_9
   try clear hfz7_0
   try clear hfz7_1
   try clear hfz7_2
   obtain ⟨kq, x5_7, rfl, HA, HJ7, BK381, BK382, HB⟩ := hcut
   cases kq with
   | zero => exact absurd HA.out (by simp [newelref17_Rest.j0])
   | succ kj7 =>
    have H := HA.out
    clear HA
    simp only [newelref17_Rest.j0] at H
    by_cases c16 : a1_0 = 2
    ·rw [if_pos c16] at H
     have c16b0 : (a1_0 == 2) = true := beq_iff_eq.mpr c16
     have c16b1 : (a1_0 != 2) = false := bne_eq_false_iff_eq.mpr c16
     clear c16
     by_cases c17 : a0_9 > a1_2
     ·rw [if_pos c17] at H
      have c17b0 : decide (a1_2 < a0_9) = true := decide_eq_true c17
      clear c17
      obtain rfl := Option.some.inj H
      have hnb18 := NB382_381.out
      have hnc18 := NB381_382.out
      have hcz19_0 : wc.cell? ⟨gb382, 0, none⟩ = some (.int .i64 a1_0) := (blk_cell BK382.out 0).trans rfl
      have hcz19_1 : wc.cell? ⟨gb382, 1, none⟩ = some (.int .i64 a1_1) := (blk_cell BK382.out 1).trans rfl
      have hcz19_2 : wc.cell? ⟨gb382, 2, none⟩ = some (.int .i64 a1_2) := (blk_cell BK382.out 2).trans rfl
      have hfz19_0 := blk_frozen BK382.out 0
      have hfz19_1 := blk_frozen BK382.out 1
      have hfz19_2 := blk_frozen BK382.out 2
      have hcz20_0 : wc.cell? ⟨gb381, 0, none⟩ = some (.int .i64 a0_0) := (blk_cell BK381.out 0).trans rfl
      have hcz20_1 : wc.cell? ⟨gb381, 1, none⟩ = some (.int .i64 a0_1) := (blk_cell BK381.out 1).trans rfl
      have hcz20_2 : wc.cell? ⟨gb381, 2, none⟩ = some (.int .i64 a0_2) := (blk_cell BK381.out 2).trans rfl
      have hcz20_3 : wc.cell? ⟨gb381, 3, none⟩ = some (.int .i64 a0_3) := (blk_cell BK381.out 3).trans rfl
      have hcz20_4 : wc.cell? ⟨gb381, 4, none⟩ = some (.int .i64 a0_4) := (blk_cell BK381.out 4).trans rfl
      have hcz20_5 : wc.cell? ⟨gb381, 5, none⟩ = some (.int .i64 a0_5) := (blk_cell BK381.out 5).trans rfl
      have hcz20_6 : wc.cell? ⟨gb381, 6, none⟩ = some (.int .i64 a0_6) := (blk_cell BK381.out 6).trans rfl
      have hcz20_7 : wc.cell? ⟨gb381, 7, none⟩ = some (.int .i64 a0_7) := (blk_cell BK381.out 7).trans rfl
      have hcz20_8 : wc.cell? ⟨gb381, 8, none⟩ = some (.int .i64 a0_8) := (blk_cell BK381.out 8).trans rfl
      have hcz20_9 : wc.cell? ⟨gb381, 9, none⟩ = some (.int .i64 a0_9) := (blk_cell BK381.out 9).trans rfl
      have hfz20_0 := blk_frozen BK381.out 0
      have hfz20_1 := blk_frozen BK381.out 1
      have hfz20_2 := blk_frozen BK381.out 2
      have hfz20_3 := blk_frozen BK381.out 3
      have hfz20_4 := blk_frozen BK381.out 4
      have hfz20_5 := blk_frozen BK381.out 5
      have hfz20_6 := blk_frozen BK381.out 6
      have hfz20_7 := blk_frozen BK381.out 7
      have hfz20_8 := blk_frozen BK381.out 8
      have hfz20_9 := blk_frozen BK381.out 9
      go_wp2
      go_ret
      exact ⟨by first | rfl | (simp [errW_none, errW_some] <;> rfl) | (simp [*, errW_none, errW_some] <;> rfl), by repeat (first | (with_reducible first | exact HB.out | apply below_alloc | apply pw_below_drewN | apply below_drew1 | refine below_set ?_ GE381.out | refine below_set ?_ GE382.out) | exact HB.out)⟩
     ·rw [if_neg c17] at H
      have c17b0 : decide (a1_2 < a0_9) = false := decide_eq_false c17
      clear c17
      obtain rfl := Option.some.inj H
      have hnb21 := NB382_381.out
      have hnc21 := NB381_382.out
      have hcz22_0 : wc.cell? ⟨gb382, 0, none⟩ = some (.int .i64 a1_0) := (blk_cell BK382.out 0).trans rfl
      have hcz22_1 : wc.cell? ⟨gb382, 1, none⟩ = some (.int .i64 a1_1) := (blk_cell BK382.out 1).trans rfl
      have hcz22_2 : wc.cell? ⟨gb382, 2, none⟩ = some (.int .i64 a1_2) := (blk_cell BK382.out 2).trans rfl
      have hfz22_0 := blk_frozen BK382.out 0
      have hfz22_1 := blk_frozen BK382.out 1
      have hfz22_2 := blk_frozen BK382.out 2
      have hcz23_0 : wc.cell? ⟨gb381, 0, none⟩ = some (.int .i64 a0_0) := (blk_cell BK381.out 0).trans rfl
      have hcz23_1 : wc.cell? ⟨gb381, 1, none⟩ = some (.int .i64 a0_1) := (blk_cell BK381.out 1).trans rfl
      have hcz23_2 : wc.cell? ⟨gb381, 2, none⟩ = some (.int .i64 a0_2) := (blk_cell BK381.out 2).trans rfl
      have hcz23_3 : wc.cell? ⟨gb381, 3, none⟩ = some (.int .i64 a0_3) := (blk_cell BK381.out 3).trans rfl
      have hcz23_4 : wc.cell? ⟨gb381, 4, none⟩ = some (.int .i64 a0_4) := (blk_cell BK381.out 4).trans rfl
      have hcz23_5 : wc.cell? ⟨gb381, 5, none⟩ = some (.int .i64 a0_5) := (blk_cell BK381.out 5).trans rfl
      have hcz23_6 : wc.cell? ⟨gb381, 6, none⟩ = some (.int .i64 a0_6) := (blk_cell BK381.out 6).trans rfl
      have hcz23_7 : wc.cell? ⟨gb381, 7, none⟩ = some (.int .i64 a0_7) := (blk_cell BK381.out 7).trans rfl
      have hcz23_8 : wc.cell? ⟨gb381, 8, none⟩ = some (.int .i64 a0_8) := (blk_cell BK381.out 8).trans rfl
      have hcz23_9 : wc.cell? ⟨gb381, 9, none⟩ = some (.int .i64 a0_9) := (blk_cell BK381.out 9).trans rfl
      have hfz23_0 := blk_frozen BK381.out 0
      have hfz23_1 := blk_frozen BK381.out 1
      have hfz23_2 := blk_frozen BK381.out 2
      have hfz23_3 := blk_frozen BK381.out 3
      have hfz23_4 := blk_frozen BK381.out 4
      have hfz23_5 := blk_frozen BK381.out 5
      have hfz23_6 := blk_frozen BK381.out 6
      have hfz23_7 := blk_frozen BK381.out 7
      have hfz23_8 := blk_frozen BK381.out 8
      have hfz23_9 := blk_frozen BK381.out 9
      go_wp2
      go_ret
      exact ⟨by first | rfl | (simp [errW_none, errW_some] <;> rfl) | (simp [*, errW_none, errW_some] <;> rfl), by repeat (first | (with_reducible first | exact HB.out | apply below_alloc | apply pw_below_drewN | apply below_drew1 | refine below_set ?_ GE381.out | refine below_set ?_ GE382.out) | exact HB.out)⟩
    ·rw [if_neg c16] at H
     have c16b0 : (a1_0 == 2) = false := beq_eq_false_iff_ne.mpr c16
     have c16b1 : (a1_0 != 2) = true := bne_iff_ne.mpr c16
     by_cases c24 : a0_9 > a1_2
     ·rw [if_pos c24] at H
      have c24b0 : decide (a1_2 < a0_9) = true := decide_eq_true c24
      clear c24
      obtain rfl := Option.some.inj H
      have hnb25 := NB382_381.out
      have hnc25 := NB381_382.out
      have hcz26_0 : wc.cell? ⟨gb382, 0, none⟩ = some (.int .i64 a1_0) := (blk_cell BK382.out 0).trans rfl
      have hcz26_1 : wc.cell? ⟨gb382, 1, none⟩ = some (.int .i64 a1_1) := (blk_cell BK382.out 1).trans rfl
      have hcz26_2 : wc.cell? ⟨gb382, 2, none⟩ = some (.int .i64 a1_2) := (blk_cell BK382.out 2).trans rfl
      have hfz26_0 := blk_frozen BK382.out 0
      have hfz26_1 := blk_frozen BK382.out 1
      have hfz26_2 := blk_frozen BK382.out 2
      have hcz27_0 : wc.cell? ⟨gb381, 0, none⟩ = some (.int .i64 a0_0) := (blk_cell BK381.out 0).trans rfl
      have hcz27_1 : wc.cell? ⟨gb381, 1, none⟩ = some (.int .i64 a0_1) := (blk_cell BK381.out 1).trans rfl
      have hcz27_2 : wc.cell? ⟨gb381, 2, none⟩ = some (.int .i64 a0_2) := (blk_cell BK381.out 2).trans rfl
      have hcz27_3 : wc.cell? ⟨gb381, 3, none⟩ = some (.int .i64 a0_3) := (blk_cell BK381.out 3).trans rfl
      have hcz27_4 : wc.cell? ⟨gb381, 4, none⟩ = some (.int .i64 a0_4) := (blk_cell BK381.out 4).trans rfl
      have hcz27_5 : wc.cell? ⟨gb381, 5, none⟩ = some (.int .i64 a0_5) := (blk_cell BK381.out 5).trans rfl
      have hcz27_6 : wc.cell? ⟨gb381, 6, none⟩ = some (.int .i64 a0_6) := (blk_cell BK381.out 6).trans rfl
      have hcz27_7 : wc.cell? ⟨gb381, 7, none⟩ = some (.int .i64 a0_7) := (blk_cell BK381.out 7).trans rfl
      have hcz27_8 : wc.cell? ⟨gb381, 8, none⟩ = some (.int .i64 a0_8) := (blk_cell BK381.out 8).trans rfl
      have hcz27_9 : wc.cell? ⟨gb381, 9, none⟩ = some (.int .i64 a0_9) := (blk_cell BK381.out 9).trans rfl
      have hfz27_0 := blk_frozen BK381.out 0
      have hfz27_1 := blk_frozen BK381.out 1
      have hfz27_2 := blk_frozen BK381.out 2
      have hfz27_3 := blk_frozen BK381.out 3
      have hfz27_4 := blk_frozen BK381.out 4
      have hfz27_5 := blk_frozen BK381.out 5
      have hfz27_6 := blk_frozen BK381.out 6
      have hfz27_7 := blk_frozen BK381.out 7
      have hfz27_8 := blk_frozen BK381.out 8
      have hfz27_9 := blk_frozen BK381.out 9
      go_wp2
      go_ret
      exact ⟨by first | rfl | (simp [errW_none, errW_some] <;> rfl) | (simp [*, errW_none, errW_some] <;> rfl), by repeat (first | (with_reducible first | exact HB.out | apply below_alloc | apply pw_below_drewN | apply below_drew1 | refine below_set ?_ GE381.out | refine below_set ?_ GE382.out) | exact HB.out)⟩
     ·rw [if_neg c24] at H
      have c24b0 : decide (a1_2 < a0_9) = false := decide_eq_false c24
      clear c24
      obtain rfl := Option.some.inj H
      have hnb28 := NB382_381.out
      have hnc28 := NB381_382.out
      have hcz29_0 : wc.cell? ⟨gb382, 0, none⟩ = some (.int .i64 a1_0) := (blk_cell BK382.out 0).trans rfl
      have hcz29_1 : wc.cell? ⟨gb382, 1, none⟩ = some (.int .i64 a1_1) := (blk_cell BK382.out 1).trans rfl
      have hcz29_2 : wc.cell? ⟨gb382, 2, none⟩ = some (.int .i64 a1_2) := (blk_cell BK382.out 2).trans rfl
      have hfz29_0 := blk_frozen BK382.out 0
      have hfz29_1 := blk_frozen BK382.out 1
      have hfz29_2 := blk_frozen BK382.out 2
      have hcz30_0 : wc.cell? ⟨gb381, 0, none⟩ = some (.int .i64 a0_0) := (blk_cell BK381.out 0).trans rfl
      have hcz30_1 : wc.cell? ⟨gb381, 1, none⟩ = some (.int .i64 a0_1) := (blk_cell BK381.out 1).trans rfl
      have hcz30_2 : wc.cell? ⟨gb381, 2, none⟩ = some (.int .i64 a0_2) := (blk_cell BK381.out 2).trans rfl
      have hcz30_3 : wc.cell? ⟨gb381, 3, none⟩ = some (.int .i64 a0_3) := (blk_cell BK381.out 3).trans rfl
      have hcz30_4 : wc.cell? ⟨gb381, 4, none⟩ = some (.int .i64 a0_4) := (blk_cell BK381.out 4).trans rfl
      have hcz30_5 : wc.cell? ⟨gb381, 5, none⟩ = some (.int .i64 a0_5) := (blk_cell BK381.out 5).trans rfl
      have hcz30_6 : wc.cell? ⟨gb381, 6, none⟩ = some (.int .i64 a0_6) := (blk_cell BK381.out 6).trans rfl
      have hcz30_7 : wc.cell? ⟨gb381, 7, none⟩ = some (.int .i64 a0_7) := (blk_cell BK381.out 7).trans rfl
      have hcz30_8 : wc.cell? ⟨gb381, 8, none⟩ = some (.int .i64 a0_8) := (blk_cell BK381.out 8).trans rfl
      have hcz30_9 : wc.cell? ⟨gb381, 9, none⟩ = some (.int .i64 a0_9) := (blk_cell BK381.out 9).trans rfl
      have hfz30_0 := blk_frozen BK381.out 0
      have hfz30_1 := blk_frozen BK381.out 1
      have hfz30_2 := blk_frozen BK381.out 2
      have hfz30_3 := blk_frozen BK381.out 3
      have hfz30_4 := blk_frozen BK381.out 4
      have hfz30_5 := blk_frozen BK381.out 5
      have hfz30_6 := blk_frozen BK381.out 6
      have hfz30_7 := blk_frozen BK381.out 7
      have hfz30_8 := blk_frozen BK381.out 8
      have hfz30_9 := blk_frozen BK381.out 9
      go_wp2
      go_ret
      exact ⟨by first | rfl | (simp [errW_none, errW_some] <;> rfl) | (simp [*, errW_none, errW_some] <;> rfl), by repeat (first | (with_reducible first | exact HB.out | apply below_alloc | apply pw_below_drewN | apply below_drew1 | refine below_set ?_ GE381.out | refine below_set ?_ GE382.out) | exact HB.out)⟩

end Go.Proofs.Ytjfikeahafflfaa.C
