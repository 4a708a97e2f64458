-- Written by a program of this session (wip/pp: the kit's print, changed), out of the translation. Lean checks it.
import Derived.Test.YtjfikeahafflfaaCx0
import Derived.Test.YtjfikeahafflfaaCxf36
import Derived.Test.YtjfikeahafflfaaCheck
namespace Go.Proofs.Ytjfikeahafflfaa.C
open Go.RowKit Go.Proofs.YtjfikeahafflfaaW.PrintWords Go.Proofs.YtjfikeahafflfaaW.PrintLast Go.Proofs.YtjfikeahafflfaaW.PrintMore
attribute [local go_sem] max2_int min2_int max_two min_two max_three min_three max_four min_four   -- for this text's walks alone
set_option linter.unusedVariables false
set_option linter.unusedSimpArgs false

/-! ### door_Rest: function 23 -/
def door_Rest.j0 : Nat → Bool → Int → Int → Int → Int → Int → Int → Int → Int → Int → Int → Int → Int → Int → Option (Int × Int)
 | 0, _, _, _, _, _, _, _, _, _, _, _, _, _, _ => none
 | k + 1, x14, x307000, x307001, x307002, x307003, x307004, x307005, x307006, x307007, x307008, x307009, x308000, x308001, x308002 => if x14 = true then (some (0, 170)) else (if x308000 = 0 then (some (0, 0)) else (if x308000 = 1 then (some (wrap64 ((wrap64 (x308001 + (wrap64 (x307008 + x307006)))) + (wrap64 ((mx (wrap64 (x307009 - x308002)) 0) * (wrap64 ((wrap64 (x307003 + x307008)) + x307006))))), 0)) else (if x308000 = 2 then (some (wrap64 ((wrap64 (x308001 + x307006)) + (wrap64 ((mx (wrap64 (x307009 - x308002)) 0) * (wrap64 ((wrap64 (x307003 + x307008)) + x307006))))), 0)) else (some (wrap64 (x308001 + (wrap64 ((mx (wrap64 (x307009 - x308002)) 0) * (wrap64 ((wrap64 (x307003 + x307008)) + x307006))))), 0)))))
def door_Rest.f (k : Nat) (a0_0 : Int) (a0_1 : Int) (a0_2 : Int) (a0_3 : Int) (a0_4 : Int) (a0_5 : Int) (a0_6 : Int) (a0_7 : Int) (a0_8 : Int) (a0_9 : Int) (a1_0 : Int) (a1_1 : Int) (a1_2 : Int) : Option (Int × Int) := (door_gear.f k a0_0 a0_1 a0_2 a0_3 a0_4 a0_5 a0_6 a0_7 a0_8 a0_9).bind fun t308 => (if t308 = true then ((door_Check.f a1_0 a1_1 a1_2).bind fun t309 => (door_Rest.j0 k (t309 != 0) a0_0 a0_1 a0_2 a0_3 a0_4 a0_5 a0_6 a0_7 a0_8 a0_9 a1_0 a1_1 a1_2)) else (door_Rest.j0 k true a0_0 a0_1 a0_2 a0_3 a0_4 a0_5 a0_6 a0_7 a0_8 a0_9 a1_0 a1_1 a1_2))
theorem door_Rest.mono_l : ∀ k, (∀ y0 y1 y2 y3 y4 y5 y6 y7 y8 y9 y10 y11 y12 y13, LeO (door_Rest.j0 k y0 y1 y2 y3 y4 y5 y6 y7 y8 y9 y10 y11 y12 y13) (door_Rest.j0 (k + 1) y0 y1 y2 y3 y4 y5 y6 y7 y8 y9 y10 y11 y12 y13))
 | 0 => fun _ _ _ _ _ _ _ _ _ _ _ _ _ _ r h => by simp [door_Rest.j0] at h
 | k + 1 => by
  have ih0 := door_Rest.mono_l k
  ·intro y0 y1 y2 y3 y4 y5 y6 y7 y8 y9 y10 y11 y12 y13
   unfold door_Rest.j0
   repeat' first
   | (with_reducible exact ih0 _ _ _ _ _ _ _ _ _ _ _ _ _ _)
   | (with_reducible exact door_gear.mono _ _ _ _ _ _ _ _ _ _ _)
   | (with_reducible exact LeO.refl _)
   | (with_reducible exact LeO.none _)
   | (with_reducible refine LeO.ite ?_ ?_)
   | (with_reducible refine LeO.bind ?_ (fun _ => ?_))
   | exact ih0 _ _ _ _ _ _ _ _ _ _ _ _ _ _
   | exact door_gear.mono _ _ _ _ _ _ _ _ _ _ _
   | exact LeO.none _
   | refine LeO.ite ?_ ?_
   | refine LeO.bind ?_ (fun _ => ?_)
theorem door_Rest.mono : ∀ a0 a1 a2 a3 a4 a5 a6 a7 a8 a9 a10 a11 a12 k, LeO (door_Rest.f k a0 a1 a2 a3 a4 a5 a6 a7 a8 a9 a10 a11 a12) (door_Rest.f (k + 1) a0 a1 a2 a3 a4 a5 a6 a7 a8 a9 a10 a11 a12) := by
 intro a0 a1 a2 a3 a4 a5 a6 a7 a8 a9 a10 a11 a12 k
 have ih0 := door_Rest.mono_l k
 unfold door_Rest.f
 repeat' first
   | (with_reducible exact ih0 _ _ _ _ _ _ _ _ _ _ _ _ _ _)
   | (with_reducible exact door_gear.mono _ _ _ _ _ _ _ _ _ _ _)
   | (with_reducible exact LeO.refl _)
   | (with_reducible exact LeO.none _)
   | (with_reducible refine LeO.ite ?_ ?_)
   | (with_reducible refine LeO.bind ?_ (fun _ => ?_))
   | exact ih0 _ _ _ _ _ _ _ _ _ _ _ _ _ _
   | exact door_gear.mono _ _ _ _ _ _ _ _ _ _ _
   | exact LeO.none _
   | refine LeO.ite ?_ ?_
   | refine LeO.bind ?_ (fun _ => ?_)
set_option maxHeartbeats 8000000 in
set_option maxRecDepth 100000 in
theorem door_Rest.calls (k : Nat) (a0_0 : Int) (a0_1 : Int) (a0_2 : Int) (a0_3 : Int) (a0_4 : Int) (a0_5 : Int) (a0_6 : Int) (a0_7 : Int) (a0_8 : Int) (a0_9 : Int) (a1_0 : Int) (a1_1 : Int) (a1_2 : Int) (r1 : Int) (r2 : Int) (w : World) (h : door_Rest.f k a0_0 a0_1 a0_2 a0_3 a0_4 a0_5 a0_6 a0_7 a0_8 a0_9 a1_0 a1_1 a1_2 = some (r1, r2)) :
  Calls Try.prog 23 #[.agg #[.int .i64 a0_0, .int .i64 a0_1, .int .i64 a0_2, .int .i64 a0_3, .int .i64 a0_4, .int .i64 a0_5, .int .i64 a0_6, .int .i64 a0_7, .int .i64 a0_8, .int .i64 a0_9], .agg #[.int .i64 a1_0, .int .i64 a1_1, .int .i64 a1_2]] w fun e w' => e = .returned (.tuple #[.int .i64 r1, .int .i64 r2]) ∧ Below w.heap.size w w' := by
 have hu42 := Try.underlying42
 have hu44 := Try.underlying44
 have HB := Aside0.mk (Below.refl w.heap.size w)
 have H : ((door_gear.f k a0_0 a0_1 a0_2 a0_3 a0_4 a0_5 a0_6 a0_7 a0_8 a0_9).bind fun t308 => (if t308 = true then ((door_Check.f a1_0 a1_1 a1_2).bind fun t309 => (door_Rest.j0 k (t309 != 0) a0_0 a0_1 a0_2 a0_3 a0_4 a0_5 a0_6 a0_7 a0_8 a0_9 a1_0 a1_1 a1_2)) else (door_Rest.j0 k true a0_0 a0_1 a0_2 a0_3 a0_4 a0_5 a0_6 a0_7 a0_8 a0_9 a1_0 a1_1 a1_2))) = some (r1, r2) := h
 clear h
 have HC3 := Aside0.mk H
 clear H
 go_enter Try.func23, Try.ntmps23
 go_upto_region 1 with (first | ((with_reducible refine gate_dst (N := 2) rfl ?_); refine box_event ?hg (N := 2) ?hd (cs := #[.int .i64 a0_0, .int .i64 a0_1, .int .i64 a0_2, .int .i64 a0_3, .int .i64 a0_4, .int .i64 a0_5, .int .i64 a0_6, .int .i64 a0_7, .int .i64 a0_8, .int .i64 a0_9]) (t := 42) ?hr ?_; (case hd => rfl); (case hg => rfl); (case hr => first | (go_simp; done) | (go_simp; rfl)); intro gb306 hg w4 hbox hb; have n0_ := Aside0.mk (below_step (by repeat (first | (with_reducible first | exact HB.out | apply below_alloc | apply pw_below_drewN | apply below_drew1) | exact HB.out)) hb); have n1_ := Aside0.mk (hbox); have n2_ := Aside0.mk ((by rw [hg]; exact (below_size (by repeat (first | (with_reducible first | exact HB.out | apply below_alloc | apply pw_below_drewN | apply below_drew1) | exact HB.out))) : w.heap.size ≤ gb306)); have n3_ := Aside0.mk ((by rw [hg]; exact (below_size (by repeat (first | (with_reducible first | exact HB.out | apply below_alloc | apply pw_below_drewN | apply below_drew1) | exact HB.out))) : w.heap.size ≤ gb306)); clear HB; have HB := n0_; have BK306 := n1_; have GW306 := n2_; have GE306 := n3_; clear n0_ n1_ n2_ n3_; clear hb hbox hg) | ((with_reducible refine gate_dst (N := 3) rfl ?_); refine box_event ?hg (N := 3) ?hd (cs := #[.int .i64 a1_0, .int .i64 a1_1, .int .i64 a1_2]) (t := 44) ?hr ?_; (case hd => rfl); (case hg => rfl); (case hr => first | (go_simp; done) | (go_simp; rfl)); intro gb307 hg w5 hbox hb; have n0_ := Aside0.mk (blk_below (g := gb306) (o := .cells #[.int .i64 a0_0, .int .i64 a0_1, .int .i64 a0_2, .int .i64 a0_3, .int .i64 a0_4, .int .i64 a0_5, .int .i64 a0_6, .int .i64 a0_7, .int .i64 a0_8, .int .i64 a0_9] 42 (0, 0)) (by (with_reducible repeat (first | refine blk_drewN ?_ _ | refine blk_drew ?_ | refine blk_alloc ?_ _)); exact BK306.out) hb); have n1_ := Aside0.mk (below_step (by repeat (first | (with_reducible first | exact HB.out | apply below_alloc | apply pw_below_drewN | apply below_drew1 | refine below_set ?_ GE306.out) | exact HB.out)) hb); have n2_ := Aside0.mk (hbox); have n3_ := Aside0.mk ((by rw [hg]; exact (below_size (by repeat (first | (with_reducible first | exact HB.out | apply below_alloc | apply pw_below_drewN | apply below_drew1 | refine below_set ?_ GE306.out) | exact HB.out))) : w.heap.size ≤ gb307)); have n4_ := Aside0.mk ((by rw [hg]; exact (below_size (by repeat (first | (with_reducible first | exact HB.out | apply below_alloc | apply pw_below_drewN | apply below_drew1 | refine below_set ?_ GE306.out) | exact HB.out))) : w.heap.size ≤ gb307)); have n5_ := Aside0.mk ((by rw [hg]; exact Nat.ne_of_lt (blk_lt (g := gb306) (o := .cells #[.int .i64 a0_0, .int .i64 a0_1, .int .i64 a0_2, .int .i64 a0_3, .int .i64 a0_4, .int .i64 a0_5, .int .i64 a0_6, .int .i64 a0_7, .int .i64 a0_8, .int .i64 a0_9] 42 (0, 0)) (by (with_reducible repeat (first | refine blk_drewN ?_ _ | refine blk_drew ?_ | refine blk_alloc ?_ _)); exact BK306.out)) : gb306 ≠ gb307)); have n6_ := Aside0.mk ((by rw [hg]; exact Nat.ne_of_gt (blk_lt (g := gb306) (o := .cells #[.int .i64 a0_0, .int .i64 a0_1, .int .i64 a0_2, .int .i64 a0_3, .int .i64 a0_4, .int .i64 a0_5, .int .i64 a0_6, .int .i64 a0_7, .int .i64 a0_8, .int .i64 a0_9] 42 (0, 0)) (by (with_reducible repeat (first | refine blk_drewN ?_ _ | refine blk_drew ?_ | refine blk_alloc ?_ _)); exact BK306.out)) : gb307 ≠ gb306)); clear BK306; clear HB; have BK306 := n0_; have HB := n1_; have BK307 := n2_; have GW307 := n3_; have GE307 := n4_; have NB306_307 := n5_; have NB307_306 := n6_; clear n0_ n1_ n2_ n3_ n4_ n5_ n6_; clear hb hbox hg))
 (try simp only [Act.put, List.setIfInBounds_toArray, List.set_cons_zero, List.set_cons_succ])
 go_cut [14] (fun v14 wc => ∃ (kq : Nat) (x14_2 : Bool), v14 = .bool x14_2 ∧ Aside0 (door_Rest.j0 kq x14_2 a0_0 a0_1 a0_2 a0_3 a0_4 a0_5 a0_6 a0_7 a0_8 a0_9 a1_0 a1_1 a1_2 = some (r1, r2)) ∧ Aside0 (kq ≤ k) ∧ Aside0 (wc.heap[gb306]? = some (.cells #[.int .i64 a0_0, .int .i64 a0_1, .int .i64 a0_2, .int .i64 a0_3, .int .i64 a0_4, .int .i64 a0_5, .int .i64 a0_6, .int .i64 a0_7, .int .i64 a0_8, .int .i64 a0_9] 42 (0, 0))) ∧ Aside0 (wc.heap[gb307]? = some (.cells #[.int .i64 a1_0, .int .i64 a1_1, .int .i64 a1_2] 44 (0, 0))) ∧ Aside0 (Below w.heap.size w wc))
 case first =>
  have H := HC3.out
  clear HC3
  replace H := Option.bind_eq_some_iff.mp H
  obtain ⟨t308, A60, H⟩ := H
  replace H : (if t308 = true then ((door_Check.f a1_0 a1_1 a1_2).bind fun t309 => (door_Rest.j0 k (t309 != 0) a0_0 a0_1 a0_2 a0_3 a0_4 a0_5 a0_6 a0_7 a0_8 a0_9 a1_0 a1_1 a1_2)) else (door_Rest.j0 k true a0_0 a0_1 a0_2 a0_3 a0_4 a0_5 a0_6 a0_7 a0_8 a0_9 a1_0 a1_1 a1_2)) = some (r1, r2) := H
  have A6 := Aside0.mk A60
  clear A60
  by_cases c7 : t308 = true
  ·subst c7
   have H1 : ((door_Check.f a1_0 a1_1 a1_2).bind fun t309 => (door_Rest.j0 k (t309 != 0) a0_0 a0_1 a0_2 a0_3 a0_4 a0_5 a0_6 a0_7 a0_8 a0_9 a1_0 a1_1 a1_2)) = some (r1, r2) := by rw [if_pos rfl] at H; exact H
   clear H
   have H := H1
   clear H1
   replace H := Option.bind_eq_some_iff.mp H
   obtain ⟨t309, A80, H⟩ := H
   replace H : (door_Rest.j0 k (t309 != 0) a0_0 a0_1 a0_2 a0_3 a0_4 a0_5 a0_6 a0_7 a0_8 a0_9 a1_0 a1_1 a1_2) = some (r1, r2) := H
   have A8 := Aside0.mk A80
   clear A80
   have H' := Aside0.mk H
   clear H
   have hnb9 := NB306_307.out
   have hnc9 := NB307_306.out
   have hcz10_0 : w5.cell? ⟨gb306, 0, none⟩ = some (.int .i64 a0_0) := (blk_cell BK306.out 0).trans rfl
   have hcz10_1 : w5.cell? ⟨gb306, 1, none⟩ = some (.int .i64 a0_1) := (blk_cell BK306.out 1).trans rfl
   have hcz10_2 : w5.cell? ⟨gb306, 2, none⟩ = some (.int .i64 a0_2) := (blk_cell BK306.out 2).trans rfl
   have hcz10_3 : w5.cell? ⟨gb306, 3, none⟩ = some (.int .i64 a0_3) := (blk_cell BK306.out 3).trans rfl
   have hcz10_4 : w5.cell? ⟨gb306, 4, none⟩ = some (.int .i64 a0_4) := (blk_cell BK306.out 4).trans rfl
   have hcz10_5 : w5.cell? ⟨gb306, 5, none⟩ = some (.int .i64 a0_5) := (blk_cell BK306.out 5).trans rfl
   have hcz10_6 : w5.cell? ⟨gb306, 6, none⟩ = some (.int .i64 a0_6) := (blk_cell BK306.out 6).trans rfl
   have hcz10_7 : w5.cell? ⟨gb306, 7, none⟩ = some (.int .i64 a0_7) := (blk_cell BK306.out 7).trans rfl
   have hcz10_8 : w5.cell? ⟨gb306, 8, none⟩ = some (.int .i64 a0_8) := (blk_cell BK306.out 8).trans rfl
   have hcz10_9 : w5.cell? ⟨gb306, 9, none⟩ = some (.int .i64 a0_9) := (blk_cell BK306.out 9).trans rfl
   have hfz10_0 := blk_frozen BK306.out 0
   have hfz10_1 := blk_frozen BK306.out 1
   have hfz10_2 := blk_frozen BK306.out 2
   have hfz10_3 := blk_frozen BK306.out 3
   have hfz10_4 := blk_frozen BK306.out 4
   have hfz10_5 := blk_frozen BK306.out 5
   have hfz10_6 := blk_frozen BK306.out 6
   have hfz10_7 := blk_frozen BK306.out 7
   have hfz10_8 := blk_frozen BK306.out 8
   have hfz10_9 := blk_frozen BK306.out 9
   go_wp2_with (first | ((with_reducible refine gate_callee (f := 36) rfl ?_); refine goesL_ (some 8) rfl rfl Try.func36 (by kernel_rfl) rfl #[.agg #[.int .i64 a0_0, .int .i64 a0_1, .int .i64 a0_2, .int .i64 a0_3, .int .i64 a0_4, .int .i64 a0_5, .int .i64 a0_6, .int .i64 a0_7, .int .i64 a0_8, .int .i64 a0_9]] rfl (by (try simp only [List.map_toArray, List.map_cons, List.map_nil]); first | done | rfl | (simp only [List.length_drop, List.length_take]; rfl)) ?_; (with_reducible refine (door_gear.calls k a0_0 a0_1 a0_2 a0_3 a0_4 a0_5 a0_6 a0_7 a0_8 a0_9 true _ A6.out).mono ?_); rintro e w11 ⟨rfl, hb⟩; refine ⟨_, rfl, ?_⟩; have n0_ := Aside0.mk (blk_below (g := gb306) (o := .cells #[.int .i64 a0_0, .int .i64 a0_1, .int .i64 a0_2, .int .i64 a0_3, .int .i64 a0_4, .int .i64 a0_5, .int .i64 a0_6, .int .i64 a0_7, .int .i64 a0_8, .int .i64 a0_9] 42 (0, 0)) (by (with_reducible repeat (first | refine blk_drewN ?_ _ | refine blk_drew ?_ | refine blk_alloc ?_ _)); exact BK306.out) hb); have n1_ := Aside0.mk (blk_below (g := gb307) (o := .cells #[.int .i64 a1_0, .int .i64 a1_1, .int .i64 a1_2] 44 (0, 0)) (by (with_reducible repeat (first | refine blk_drewN ?_ _ | refine blk_drew ?_ | refine blk_alloc ?_ _)); exact BK307.out) hb); have n2_ := Aside0.mk (below_step (by repeat (first | (with_reducible first | exact HB.out | apply below_alloc | apply pw_below_drewN | apply below_drew1 | refine below_set ?_ GE306.out | refine below_set ?_ GE307.out) | exact HB.out)) hb); clear BK306; clear BK307; clear HB; have BK306 := n0_; have BK307 := n1_; have HB := n2_; clear n0_ n1_ n2_; (try clear hb); (try clear hb2); (try clear hk); (try clear hi); have hcz12_0 : w11.cell? ⟨gb307, 0, none⟩ = some (.int .i64 a1_0) := (blk_cell BK307.out 0).trans rfl; have hcz12_1 : w11.cell? ⟨gb307, 1, none⟩ = some (.int .i64 a1_1) := (blk_cell BK307.out 1).trans rfl; have hcz12_2 : w11.cell? ⟨gb307, 2, none⟩ = some (.int .i64 a1_2) := (blk_cell BK307.out 2).trans rfl; have hfz12_0 := blk_frozen BK307.out 0; have hfz12_1 := blk_frozen BK307.out 1; have hfz12_2 := blk_frozen BK307.out 2) | (go_at_call 30; (with_reducible refine (door_Check.calls a1_0 a1_1 a1_2 t309 _ A8.out).mono ?_); rintro e w13 ⟨rfl, hb⟩; have n0_ := Aside0.mk (blk_below (g := gb306) (o := .cells #[.int .i64 a0_0, .int .i64 a0_1, .int .i64 a0_2, .int .i64 a0_3, .int .i64 a0_4, .int .i64 a0_5, .int .i64 a0_6, .int .i64 a0_7, .int .i64 a0_8, .int .i64 a0_9] 42 (0, 0)) (by (with_reducible repeat (first | refine blk_drewN ?_ _ | refine blk_drew ?_ | refine blk_alloc ?_ _)); exact BK306.out) hb); have n1_ := Aside0.mk (blk_below (g := gb307) (o := .cells #[.int .i64 a1_0, .int .i64 a1_1, .int .i64 a1_2] 44 (0, 0)) (by (with_reducible repeat (first | refine blk_drewN ?_ _ | refine blk_drew ?_ | refine blk_alloc ?_ _)); exact BK307.out) hb); have n2_ := Aside0.mk (below_step (by repeat (first | (with_reducible first | exact HB.out | apply below_alloc | apply pw_below_drewN | apply below_drew1 | refine below_set ?_ GE306.out | refine below_set ?_ GE307.out) | exact HB.out)) hb); clear BK306; clear BK307; clear HB; have BK306 := n0_; have BK307 := n1_; have HB := n2_; clear n0_ n1_ n2_; (try clear hb); (try clear hb2); (try clear hk); (try clear hi)))
   go_meet
   case rel => exact ⟨_, ((t309 != 0)), (by first | rfl | (simp; done) | (simp [*]; done)), H', ⟨by first | omega | exact Nat.le_refl _⟩, ⟨by (with_reducible repeat (first | refine blk_drewN ?_ _ | refine blk_drew ?_ | refine blk_alloc ?_ _)); exact BK306.out⟩, ⟨by (with_reducible repeat (first | refine blk_drewN ?_ _ | refine blk_drew ?_ | refine blk_alloc ?_ _)); exact BK307.out⟩, ⟨by repeat (first | (with_reducible first | exact HB.out | apply below_alloc | apply pw_below_drewN | apply below_drew1 | refine below_set ?_ GE306.out | refine below_set ?_ GE307.out) | exact HB.out)⟩⟩
  ·replace c7 := Bool.eq_false_iff.mpr c7
   subst c7
   have H1 : (door_Rest.j0 k true a0_0 a0_1 a0_2 a0_3 a0_4 a0_5 a0_6 a0_7 a0_8 a0_9 a1_0 a1_1 a1_2) = some (r1, r2) := by rw [if_neg (show ¬ (false = true) by decide)] at H; exact H
   clear H
   have H := H1
   clear H1
   have H' := Aside0.mk H
   clear H
   have hnb14 := NB306_307.out
   have hnc14 := NB307_306.out
   have hcz15_0 : w5.cell? ⟨gb306, 0, none⟩ = some (.int .i64 a0_0) := (blk_cell BK306.out 0).trans rfl
   have hcz15_1 : w5.cell? ⟨gb306, 1, none⟩ = some (.int .i64 a0_1) := (blk_cell BK306.out 1).trans rfl
   have hcz15_2 : w5.cell? ⟨gb306, 2, none⟩ = some (.int .i64 a0_2) := (blk_cell BK306.out 2).trans rfl
   have hcz15_3 : w5.cell? ⟨gb306, 3, none⟩ = some (.int .i64 a0_3) := (blk_cell BK306.out 3).trans rfl
   have hcz15_4 : w5.cell? ⟨gb306, 4, none⟩ = some (.int .i64 a0_4) := (blk_cell BK306.out 4).trans rfl
   have hcz15_5 : w5.cell? ⟨gb306, 5, none⟩ = some (.int .i64 a0_5) := (blk_cell BK306.out 5).trans rfl
   have hcz15_6 : w5.cell? ⟨gb306, 6, none⟩ = some (.int .i64 a0_6) := (blk_cell BK306.out 6).trans rfl
   have hcz15_7 : w5.cell? ⟨gb306, 7, none⟩ = some (.int .i64 a0_7) := (blk_cell BK306.out 7).trans rfl
   have hcz15_8 : w5.cell? ⟨gb306, 8, none⟩ = some (.int .i64 a0_8) := (blk_cell BK306.out 8).trans rfl
   have hcz15_9 : w5.cell? ⟨gb306, 9, none⟩ = some (.int .i64 a0_9) := (blk_cell BK306.out 9).trans rfl
   have hfz15_0 := blk_frozen BK306.out 0
   have hfz15_1 := blk_frozen BK306.out 1
   have hfz15_2 := blk_frozen BK306.out 2
   have hfz15_3 := blk_frozen BK306.out 3
   have hfz15_4 := blk_frozen BK306.out 4
   have hfz15_5 := blk_frozen BK306.out 5
   have hfz15_6 := blk_frozen BK306.out 6
   have hfz15_7 := blk_frozen BK306.out 7
   have hfz15_8 := blk_frozen BK306.out 8
   have hfz15_9 := blk_frozen BK306.out 9
   go_wp2_with (first | ((with_reducible refine gate_callee (f := 36) rfl ?_); refine goesL_ (some 8) rfl rfl Try.func36 (by kernel_rfl) rfl #[.agg #[.int .i64 a0_0, .int .i64 a0_1, .int .i64 a0_2, .int .i64 a0_3, .int .i64 a0_4, .int .i64 a0_5, .int .i64 a0_6, .int .i64 a0_7, .int .i64 a0_8, .int .i64 a0_9]] rfl (by (try simp only [List.map_toArray, List.map_cons, List.map_nil]); first | done | rfl | (simp only [List.length_drop, List.length_take]; rfl)) ?_; (with_reducible refine (door_gear.calls k a0_0 a0_1 a0_2 a0_3 a0_4 a0_5 a0_6 a0_7 a0_8 a0_9 false _ A6.out).mono ?_); rintro e w16 ⟨rfl, hb⟩; refine ⟨_, rfl, ?_⟩; have n0_ := Aside0.mk (blk_below (g := gb306) (o := .cells #[.int .i64 a0_0, .int .i64 a0_1, .int .i64 a0_2, .int .i64 a0_3, .int .i64 a0_4, .int .i64 a0_5, .int .i64 a0_6, .int .i64 a0_7, .int .i64 a0_8, .int .i64 a0_9] 42 (0, 0)) (by (with_reducible repeat (first | refine blk_drewN ?_ _ | refine blk_drew ?_ | refine blk_alloc ?_ _)); exact BK306.out) hb); have n1_ := Aside0.mk (blk_below (g := gb307) (o := .cells #[.int .i64 a1_0, .int .i64 a1_1, .int .i64 a1_2] 44 (0, 0)) (by (with_reducible repeat (first | refine blk_drewN ?_ _ | refine blk_drew ?_ | refine blk_alloc ?_ _)); exact BK307.out) hb); have n2_ := Aside0.mk (below_step (by repeat (first | (with_reducible first | exact HB.out | apply below_alloc | apply pw_below_drewN | apply below_drew1 | refine below_set ?_ GE306.out | refine below_set ?_ GE307.out) | exact HB.out)) hb); clear BK306; clear BK307; clear HB; have BK306 := n0_; have BK307 := n1_; have HB := n2_; clear n0_ n1_ n2_; (try clear hb); (try clear hb2); (try clear hk); (try clear hi)))
   go_meet
   case rel => exact ⟨_, (true), (by first | rfl | (simp; done) | (simp [*]; done)), H', ⟨by first | omega | exact Nat.le_refl _⟩, ⟨by (with_reducible repeat (first | refine blk_drewN ?_ _ | refine blk_drew ?_ | refine blk_alloc ?_ _)); exact BK306.out⟩, ⟨by (with_reducible repeat (first | refine blk_drewN ?_ _ | refine blk_drew ?_ | refine blk_alloc ?_ _)); exact BK307.out⟩, ⟨by repeat (first | (with_reducible first | exact HB.out | apply below_alloc | apply pw_below_drewN | apply below_drew1 | refine below_set ?_ GE306.out | refine below_set ?_ GE307.out) | exact HB.out)⟩⟩
 case rest =>
  clear HC3
  try clear c1
  try clear c2
  try clear p2
  try clear c3
  try clear c7
  try clear c9
  try clear c14
  try clear hcz10_0
  try clear hcz10_1
  try clear hcz10_2
  try clear hcz10_3
  try clear hcz10_4
  try clear hcz10_5
  try clear hcz10_6
  try clear hcz10_7
  try clear hcz10_8
  try clear hcz10_9
  try clear hcz12_0
  try clear hcz12_1
  try clear hcz12_2
  try clear hcz15_0
  try clear hcz15_1
  try clear hcz15_2
  try clear hcz15_3
  try clear hcz15_4
  try clear hcz15_5
  try clear hcz15_6
  try clear hcz15_7
  try clear hcz15_8
  try clear hcz15_9
  try clear hfz10_0
  try clear hfz10_1
  try clear hfz10_2
  try clear hfz10_3
  try clear hfz10_4
  try clear hfz10_5
  try clear hfz10_6
  try clear hfz10_7
  try clear hfz10_8
  try clear hfz10_9
  try clear hfz12_0
  try clear hfz12_1
  try clear hfz12_2
  try clear hfz15_0
  try clear hfz15_1
  try clear hfz15_2
  try clear hfz15_3
  try clear hfz15_4
  try clear hfz15_5
  try clear hfz15_6
  try clear hfz15_7
  try clear hfz15_8
  try clear hfz15_9
  obtain ⟨kq, x14_2, rfl, HA, HJ2, BK306, BK307, HB⟩ := hcut
  cases kq with
  | zero => exact absurd HA.out (by simp [door_Rest.j0])
  | succ kj2 =>
   have H := HA.out
   clear HA
   simp only [door_Rest.j0] at H
   by_cases c17 : x14_2 = true
   ·subst c17
    have H1 : (some (0, 170)) = some (r1, r2) := by rw [if_pos rfl] at H; exact H
    clear H
    have H := H1
    clear H1
    simp only [Option.some.injEq, Prod.mk.injEq] at H
    obtain ⟨rfl, rfl⟩ := H
    go_wp2
    go_ret2
    exact ⟨by first | rfl | (simp [errW_none, errW_some] <;> rfl) | (simp [*, errW_none, errW_some] <;> rfl), by repeat (first | (with_reducible first | exact HB.out | apply below_alloc | apply pw_below_drewN | apply below_drew1 | refine below_set ?_ GE306.out | refine below_set ?_ GE307.out) | exact HB.out)⟩
   ·replace c17 := Bool.eq_false_iff.mpr c17
    subst c17
    have H1 : (if a1_0 = 0 then (some (0, 0)) else (if a1_0 = 1 then (some (wrap64 ((wrap64 (a1_1 + (wrap64 (a0_8 + a0_6)))) + (wrap64 ((mx (wrap64 (a0_9 - a1_2)) 0) * (wrap64 ((wrap64 (a0_3 + a0_8)) + a0_6))))), 0)) else (if a1_0 = 2 then (some (wrap64 ((wrap64 (a1_1 + a0_6)) + (wrap64 ((mx (wrap64 (a0_9 - a1_2)) 0) * (wrap64 ((wrap64 (a0_3 + a0_8)) + a0_6))))), 0)) else (some (wrap64 (a1_1 + (wrap64 ((mx (wrap64 (a0_9 - a1_2)) 0) * (wrap64 ((wrap64 (a0_3 + a0_8)) + a0_6))))), 0))))) = some (r1, r2) := by rw [if_neg (show ¬ (false = true) by decide)] at H; exact H
    clear H
    have H := H1
    clear H1
    by_cases c18 : a1_0 = 0
    ·rw [if_pos c18] at H
     have c18b0 : (a1_0 == 0) = true := beq_iff_eq.mpr c18
     have c18b1 : (a1_0 != 0) = false := bne_eq_false_iff_eq.mpr c18
     clear c18
     simp only [Option.some.injEq, Prod.mk.injEq] at H
     obtain ⟨rfl, rfl⟩ := H
     have hnb19 := NB307_306.out
     have hnc19 := NB306_307.out
     have hcz20_0 : wc.cell? ⟨gb307, 0, none⟩ = some (.int .i64 a1_0) := (blk_cell BK307.out 0).trans rfl
     have hcz20_1 : wc.cell? ⟨gb307, 1, none⟩ = some (.int .i64 a1_1) := (blk_cell BK307.out 1).trans rfl
     have hcz20_2 : wc.cell? ⟨gb307, 2, none⟩ = some (.int .i64 a1_2) := (blk_cell BK307.out 2).trans rfl
     have hfz20_0 := blk_frozen BK307.out 0
     have hfz20_1 := blk_frozen BK307.out 1
     have hfz20_2 := blk_frozen BK307.out 2
     go_wp2
     go_ret2
     exact ⟨by first | rfl | (simp [errW_none, errW_some] <;> rfl) | (simp [*, errW_none, errW_some] <;> rfl), by repeat (first | (with_reducible first | exact HB.out | apply below_alloc | apply pw_below_drewN | apply below_drew1 | refine below_set ?_ GE306.out | refine below_set ?_ GE307.out) | exact HB.out)⟩
    ·rw [if_neg c18] at H
     have c18b0 : (a1_0 == 0) = false := beq_eq_false_iff_ne.mpr c18
     have c18b1 : (a1_0 != 0) = true := bne_iff_ne.mpr c18
     by_cases c21 : a1_0 = 1
     ·rw [if_pos c21] at H
      have c21b0 : (a1_0 == 1) = true := beq_iff_eq.mpr c21
      have c21b1 : (a1_0 != 1) = false := bne_eq_false_iff_eq.mpr c21
      clear c21
      obtain ⟨ji22, hji22⟩ : ∃ j_ : Int, (mx (wrap64 (a0_9 - a1_2)) 0) = j_ := ⟨_, rfl⟩
      replace H : (some (wrap64 ((wrap64 (a1_1 + (wrap64 (a0_8 + a0_6)))) + (wrap64 ((ji22) * (wrap64 ((wrap64 (a0_3 + a0_8)) + a0_6))))), 0)) = some (r1, r2) := by first | (rw [hji22] at H; exact H) | (simp only [hji22] at H ⊢; exact H)
      have hji22_ : (if (wrap64 (a0_9 - a1_2)) < 0 then 0 else (wrap64 (a0_9 - a1_2))) = ji22 := hji22
      simp only [Option.some.injEq, Prod.mk.injEq] at H
      obtain ⟨rfl, rfl⟩ := H
      have hnb23 := NB307_306.out
      have hnc23 := NB306_307.out
      have hcz24_0 : wc.cell? ⟨gb307, 0, none⟩ = some (.int .i64 a1_0) := (blk_cell BK307.out 0).trans rfl
      have hcz24_1 : wc.cell? ⟨gb307, 1, none⟩ = some (.int .i64 a1_1) := (blk_cell BK307.out 1).trans rfl
      have hcz24_2 : wc.cell? ⟨gb307, 2, none⟩ = some (.int .i64 a1_2) := (blk_cell BK307.out 2).trans rfl
      have hfz24_0 := blk_frozen BK307.out 0
      have hfz24_1 := blk_frozen BK307.out 1
      have hfz24_2 := blk_frozen BK307.out 2
      have hcz25_0 : wc.cell? ⟨gb306, 0, none⟩ = some (.int .i64 a0_0) := (blk_cell BK306.out 0).trans rfl
      have hcz25_1 : wc.cell? ⟨gb306, 1, none⟩ = some (.int .i64 a0_1) := (blk_cell BK306.out 1).trans rfl
      have hcz25_2 : wc.cell? ⟨gb306, 2, none⟩ = some (.int .i64 a0_2) := (blk_cell BK306.out 2).trans rfl
      have hcz25_3 : wc.cell? ⟨gb306, 3, none⟩ = some (.int .i64 a0_3) := (blk_cell BK306.out 3).trans rfl
      have hcz25_4 : wc.cell? ⟨gb306, 4, none⟩ = some (.int .i64 a0_4) := (blk_cell BK306.out 4).trans rfl
      have hcz25_5 : wc.cell? ⟨gb306, 5, none⟩ = some (.int .i64 a0_5) := (blk_cell BK306.out 5).trans rfl
      have hcz25_6 : wc.cell? ⟨gb306, 6, none⟩ = some (.int .i64 a0_6) := (blk_cell BK306.out 6).trans rfl
      have hcz25_7 : wc.cell? ⟨gb306, 7, none⟩ = some (.int .i64 a0_7) := (blk_cell BK306.out 7).trans rfl
      have hcz25_8 : wc.cell? ⟨gb306, 8, none⟩ = some (.int .i64 a0_8) := (blk_cell BK306.out 8).trans rfl
      have hcz25_9 : wc.cell? ⟨gb306, 9, none⟩ = some (.int .i64 a0_9) := (blk_cell BK306.out 9).trans rfl
      have hfz25_0 := blk_frozen BK306.out 0
      have hfz25_1 := blk_frozen BK306.out 1
      have hfz25_2 := blk_frozen BK306.out 2
      have hfz25_3 := blk_frozen BK306.out 3
      have hfz25_4 := blk_frozen BK306.out 4
      have hfz25_5 := blk_frozen BK306.out 5
      have hfz25_6 := blk_frozen BK306.out 6
      have hfz25_7 := blk_frozen BK306.out 7
      have hfz25_8 := blk_frozen BK306.out 8
      have hfz25_9 := blk_frozen BK306.out 9
      go_wp2
      go_ret2
      exact ⟨by first | rfl | (simp [errW_none, errW_some] <;> rfl) | (simp only [← hji22]; first | rfl | (simp [errW_none, errW_some] <;> rfl)) | (simp [*, errW_none, errW_some] <;> rfl), by repeat (first | (with_reducible first | exact HB.out | apply below_alloc | apply pw_below_drewN | apply below_drew1 | refine below_set ?_ GE306.out | refine below_set ?_ GE307.out) | exact HB.out)⟩
     ·rw [if_neg c21] at H
      have c21b0 : (a1_0 == 1) = false := beq_eq_false_iff_ne.mpr c21
      have c21b1 : (a1_0 != 1) = true := bne_iff_ne.mpr c21
      by_cases c26 : a1_0 = 2
      ·rw [if_pos c26] at H
       have c26b0 : (a1_0 == 2) = true := beq_iff_eq.mpr c26
       have c26b1 : (a1_0 != 2) = false := bne_eq_false_iff_eq.mpr c26
       clear c26
       obtain ⟨ji27, hji27⟩ : ∃ j_ : Int, (mx (wrap64 (a0_9 - a1_2)) 0) = j_ := ⟨_, rfl⟩
       replace H : (some (wrap64 ((wrap64 (a1_1 + a0_6)) + (wrap64 ((ji27) * (wrap64 ((wrap64 (a0_3 + a0_8)) + a0_6))))), 0)) = some (r1, r2) := by first | (rw [hji27] at H; exact H) | (simp only [hji27] at H ⊢; exact H)
       have hji27_ : (if (wrap64 (a0_9 - a1_2)) < 0 then 0 else (wrap64 (a0_9 - a1_2))) = ji27 := hji27
       simp only [Option.some.injEq, Prod.mk.injEq] at H
       obtain ⟨rfl, rfl⟩ := H
       have hnb28 := NB307_306.out
       have hnc28 := NB306_307.out
       have hcz29_0 : wc.cell? ⟨gb307, 0, none⟩ = some (.int .i64 a1_0) := (blk_cell BK307.out 0).trans rfl
       have hcz29_1 : wc.cell? ⟨gb307, 1, none⟩ = some (.int .i64 a1_1) := (blk_cell BK307.out 1).trans rfl
       have hcz29_2 : wc.cell? ⟨gb307, 2, none⟩ = some (.int .i64 a1_2) := (blk_cell BK307.out 2).trans rfl
       have hfz29_0 := blk_frozen BK307.out 0
       have hfz29_1 := blk_frozen BK307.out 1
       have hfz29_2 := blk_frozen BK307.out 2
       have hcz30_0 : wc.cell? ⟨gb306, 0, none⟩ = some (.int .i64 a0_0) := (blk_cell BK306.out 0).trans rfl
       have hcz30_1 : wc.cell? ⟨gb306, 1, none⟩ = some (.int .i64 a0_1) := (blk_cell BK306.out 1).trans rfl
       have hcz30_2 : wc.cell? ⟨gb306, 2, none⟩ = some (.int .i64 a0_2) := (blk_cell BK306.out 2).trans rfl
       have hcz30_3 : wc.cell? ⟨gb306, 3, none⟩ = some (.int .i64 a0_3) := (blk_cell BK306.out 3).trans rfl
       have hcz30_4 : wc.cell? ⟨gb306, 4, none⟩ = some (.int .i64 a0_4) := (blk_cell BK306.out 4).trans rfl
       have hcz30_5 : wc.cell? ⟨gb306, 5, none⟩ = some (.int .i64 a0_5) := (blk_cell BK306.out 5).trans rfl
       have hcz30_6 : wc.cell? ⟨gb306, 6, none⟩ = some (.int .i64 a0_6) := (blk_cell BK306.out 6).trans rfl
       have hcz30_7 : wc.cell? ⟨gb306, 7, none⟩ = some (.int .i64 a0_7) := (blk_cell BK306.out 7).trans rfl
       have hcz30_8 : wc.cell? ⟨gb306, 8, none⟩ = some (.int .i64 a0_8) := (blk_cell BK306.out 8).trans rfl
       have hcz30_9 : wc.cell? ⟨gb306, 9, none⟩ = some (.int .i64 a0_9) := (blk_cell BK306.out 9).trans rfl
       have hfz30_0 := blk_frozen BK306.out 0
       have hfz30_1 := blk_frozen BK306.out 1
       have hfz30_2 := blk_frozen BK306.out 2
       have hfz30_3 := blk_frozen BK306.out 3
       have hfz30_4 := blk_frozen BK306.out 4
       have hfz30_5 := blk_frozen BK306.out 5
       have hfz30_6 := blk_frozen BK306.out 6
       have hfz30_7 := blk_frozen BK306.out 7
       have hfz30_8 := blk_frozen BK306.out 8
       have hfz30_9 := blk_frozen BK306.out 9
       go_wp2
       go_ret2
       exact ⟨by first | rfl | (simp [errW_none, errW_some] <;> rfl) | (simp only [← hji27]; first | rfl | (simp [errW_none, errW_some] <;> rfl)) | (simp [*, errW_none, errW_some] <;> rfl), by repeat (first | (with_reducible first | exact HB.out | apply below_alloc | apply pw_below_drewN | apply below_drew1 | refine below_set ?_ GE306.out | refine below_set ?_ GE307.out) | exact HB.out)⟩
      ·rw [if_neg c26] at H
       have c26b0 : (a1_0 == 2) = false := beq_eq_false_iff_ne.mpr c26
       have c26b1 : (a1_0 != 2) = true := bne_iff_ne.mpr c26
       obtain ⟨ji31, hji31⟩ : ∃ j_ : Int, (mx (wrap64 (a0_9 - a1_2)) 0) = j_ := ⟨_, rfl⟩
       replace H : (some (wrap64 (a1_1 + (wrap64 ((ji31) * (wrap64 ((wrap64 (a0_3 + a0_8)) + a0_6))))), 0)) = some (r1, r2) := by first | (rw [hji31] at H; exact H) | (simp only [hji31] at H ⊢; exact H)
       have hji31_ : (if (wrap64 (a0_9 - a1_2)) < 0 then 0 else (wrap64 (a0_9 - a1_2))) = ji31 := hji31
       simp only [Option.some.injEq, Prod.mk.injEq] at H
       obtain ⟨rfl, rfl⟩ := H
       have hnb32 := NB307_306.out
       have hnc32 := NB306_307.out
       have hcz33_0 : wc.cell? ⟨gb307, 0, none⟩ = some (.int .i64 a1_0) := (blk_cell BK307.out 0).trans rfl
       have hcz33_1 : wc.cell? ⟨gb307, 1, none⟩ = some (.int .i64 a1_1) := (blk_cell BK307.out 1).trans rfl
       have hcz33_2 : wc.cell? ⟨gb307, 2, none⟩ = some (.int .i64 a1_2) := (blk_cell BK307.out 2).trans rfl
       have hfz33_0 := blk_frozen BK307.out 0
       have hfz33_1 := blk_frozen BK307.out 1
       have hfz33_2 := blk_frozen BK307.out 2
       have hcz34_0 : wc.cell? ⟨gb306, 0, none⟩ = some (.int .i64 a0_0) := (blk_cell BK306.out 0).trans rfl
       have hcz34_1 : wc.cell? ⟨gb306, 1, none⟩ = some (.int .i64 a0_1) := (blk_cell BK306.out 1).trans rfl
       have hcz34_2 : wc.cell? ⟨gb306, 2, none⟩ = some (.int .i64 a0_2) := (blk_cell BK306.out 2).trans rfl
       have hcz34_3 : wc.cell? ⟨gb306, 3, none⟩ = some (.int .i64 a0_3) := (blk_cell BK306.out 3).trans rfl
       have hcz34_4 : wc.cell? ⟨gb306, 4, none⟩ = some (.int .i64 a0_4) := (blk_cell BK306.out 4).trans rfl
       have hcz34_5 : wc.cell? ⟨gb306, 5, none⟩ = some (.int .i64 a0_5) := (blk_cell BK306.out 5).trans rfl
       have hcz34_6 : wc.cell? ⟨gb306, 6, none⟩ = some (.int .i64 a0_6) := (blk_cell BK306.out 6).trans rfl
       have hcz34_7 : wc.cell? ⟨gb306, 7, none⟩ = some (.int .i64 a0_7) := (blk_cell BK306.out 7).trans rfl
       have hcz34_8 : wc.cell? ⟨gb306, 8, none⟩ = some (.int .i64 a0_8) := (blk_cell BK306.out 8).trans rfl
       have hcz34_9 : wc.cell? ⟨gb306, 9, none⟩ = some (.int .i64 a0_9) := (blk_cell BK306.out 9).trans rfl
       have hfz34_0 := blk_frozen BK306.out 0
       have hfz34_1 := blk_frozen BK306.out 1
       have hfz34_2 := blk_frozen BK306.out 2
       have hfz34_3 := blk_frozen BK306.out 3
       have hfz34_4 := blk_frozen BK306.out 4
       have hfz34_5 := blk_frozen BK306.out 5
       have hfz34_6 := blk_frozen BK306.out 6
       have hfz34_7 := blk_frozen BK306.out 7
       have hfz34_8 := blk_frozen BK306.out 8
       have hfz34_9 := blk_frozen BK306.out 9
       go_wp2
       go_ret2
       exact ⟨by first | rfl | (simp [errW_none, errW_some] <;> rfl) | (simp only [← hji31]; first | rfl | (simp [errW_none, errW_some] <;> rfl)) | (simp [*, errW_none, errW_some] <;> rfl), by repeat (first | (with_reducible first | exact HB.out | apply below_alloc | apply pw_below_drewN | apply below_drew1 | refine below_set ?_ GE306.out | refine below_set ?_ GE307.out) | exact HB.out)⟩

end Go.Proofs.Ytjfikeahafflfaa.C
