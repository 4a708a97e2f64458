-- Written by a program of this session (wip/pp: the kit's print, changed), out of the translation. Lean checks it.
import Derived.Test.YtjfikeahafflfaaCx0
import Derived.Test.YtjfikeahafflfaaCxf40
import Derived.Test.YtjfikeahafflfaaCheck
namespace Go.Proofs.Ytjfikeahafflfaa.C
open Go.RowKit Go.Proofs.YtjfikeahafflfaaW.PrintWords Go.Proofs.YtjfikeahafflfaaW.PrintLast Go.Proofs.YtjfikeahafflfaaW.PrintMore
attribute [local go_sem] max2_int min2_int max_two min_two max_three min_three max_four min_four   -- for this text's walks alone
set_option linter.unusedVariables false
set_option linter.unusedSimpArgs false

/-! ### door_Ask: function 29 -/
def door_Ask.j0 : Nat → Bool → Int → Int → Int → Int → Int → Int → Int → Int → Int → Int → Option (Int × Int × Int × Int)
 | 0, _, _, _, _, _, _, _, _, _, _, _ => none
 | k + 1, x13, x321000, x321001, x321002, x321003, x321004, x321005, x321006, x322000, x322001, x322002 => if x13 = true then (some (0, 0, 0, 170)) else (if x322000 = 0 then (some (1, x321002, 0, 0)) else (some (x322000, x322001, x322002, 0)))
def door_Ask.f (k : Nat) (a0_0 : Int) (a0_1 : Int) (a0_2 : Int) (a0_3 : Int) (a0_4 : Int) (a0_5 : Int) (a0_6 : Int) (a1_0 : Int) (a1_1 : Int) (a1_2 : Int) : Option (Int × Int × Int × Int) := (door_times.f k a0_0 a0_1 a0_2 a0_3 a0_4 a0_5 a0_6).bind fun t323 => (if t323 = true then ((door_Check.f a1_0 a1_1 a1_2).bind fun t324 => (door_Ask.j0 k (t324 != 0) a0_0 a0_1 a0_2 a0_3 a0_4 a0_5 a0_6 a1_0 a1_1 a1_2)) else (door_Ask.j0 k true a0_0 a0_1 a0_2 a0_3 a0_4 a0_5 a0_6 a1_0 a1_1 a1_2))
theorem door_Ask.mono_l : ∀ k, (∀ y0 y1 y2 y3 y4 y5 y6 y7 y8 y9 y10, LeO (door_Ask.j0 k y0 y1 y2 y3 y4 y5 y6 y7 y8 y9 y10) (door_Ask.j0 (k + 1) y0 y1 y2 y3 y4 y5 y6 y7 y8 y9 y10))
 | 0 => fun _ _ _ _ _ _ _ _ _ _ _ r h => by simp [door_Ask.j0] at h
 | k + 1 => by
  have ih0 := door_Ask.mono_l k
  ·intro y0 y1 y2 y3 y4 y5 y6 y7 y8 y9 y10
   unfold door_Ask.j0
   repeat' first
   | (with_reducible exact ih0 _ _ _ _ _ _ _ _ _ _ _)
   | (with_reducible exact door_times.mono _ _ _ _ _ _ _ _)
   | (with_reducible exact LeO.refl _)
   | (with_reducible exact LeO.none _)
   | (with_reducible refine LeO.ite ?_ ?_)
   | (with_reducible refine LeO.bind ?_ (fun _ => ?_))
   | exact ih0 _ _ _ _ _ _ _ _ _ _ _
   | exact door_times.mono _ _ _ _ _ _ _ _
   | exact LeO.none _
   | refine LeO.ite ?_ ?_
   | refine LeO.bind ?_ (fun _ => ?_)
theorem door_Ask.mono : ∀ a0 a1 a2 a3 a4 a5 a6 a7 a8 a9 k, LeO (door_Ask.f k a0 a1 a2 a3 a4 a5 a6 a7 a8 a9) (door_Ask.f (k + 1) a0 a1 a2 a3 a4 a5 a6 a7 a8 a9) := by
 intro a0 a1 a2 a3 a4 a5 a6 a7 a8 a9 k
 have ih0 := door_Ask.mono_l k
 unfold door_Ask.f
 repeat' first
   | (with_reducible exact ih0 _ _ _ _ _ _ _ _ _ _ _)
   | (with_reducible exact door_times.mono _ _ _ _ _ _ _ _)
   | (with_reducible exact LeO.refl _)
   | (with_reducible exact LeO.none _)
   | (with_reducible refine LeO.ite ?_ ?_)
   | (with_reducible refine LeO.bind ?_ (fun _ => ?_))
   | exact ih0 _ _ _ _ _ _ _ _ _ _ _
   | exact door_times.mono _ _ _ _ _ _ _ _
   | exact LeO.none _
   | refine LeO.ite ?_ ?_
   | refine LeO.bind ?_ (fun _ => ?_)
set_option maxHeartbeats 8000000 in
set_option maxRecDepth 100000 in
theorem door_Ask.calls (k : Nat) (a0_0 : Int) (a0_1 : Int) (a0_2 : Int) (a0_3 : Int) (a0_4 : Int) (a0_5 : Int) (a0_6 : Int) (a1_0 : Int) (a1_1 : Int) (a1_2 : Int) (r1 : Int) (r2 : Int) (r3 : Int) (r4 : Int) (w : World) (h : door_Ask.f k a0_0 a0_1 a0_2 a0_3 a0_4 a0_5 a0_6 a1_0 a1_1 a1_2 = some (r1, r2, r3, r4)) :
  Calls Try.prog 29 #[.agg #[.int .i64 a0_0, .int .i64 a0_1, .int .i64 a0_2, .int .i64 a0_3, .int .i64 a0_4, .int .i64 a0_5, .int .i64 a0_6], .agg #[.int .i64 a1_0, .int .i64 a1_1, .int .i64 a1_2]] w fun e w' => e = .returned (.tuple #[.agg #[.int .i64 r1, .int .i64 r2, .int .i64 r3], .int .i64 r4]) ∧ Below w.heap.size w w' := by
 have hu40 := Try.underlying40
 have hu44 := Try.underlying44
 have HB := Aside0.mk (Below.refl w.heap.size w)
 have H : ((door_times.f k a0_0 a0_1 a0_2 a0_3 a0_4 a0_5 a0_6).bind fun t323 => (if t323 = true then ((door_Check.f a1_0 a1_1 a1_2).bind fun t324 => (door_Ask.j0 k (t324 != 0) a0_0 a0_1 a0_2 a0_3 a0_4 a0_5 a0_6 a1_0 a1_1 a1_2)) else (door_Ask.j0 k true a0_0 a0_1 a0_2 a0_3 a0_4 a0_5 a0_6 a1_0 a1_1 a1_2))) = some (r1, r2, r3, r4) := h
 clear h
 have HC3 := Aside0.mk H
 clear H
 go_enter Try.func29, Try.ntmps29
 go_upto_region 1 with (first | ((with_reducible refine gate_dst (N := 2) rfl ?_); refine box_event ?hg (N := 2) ?hd (cs := #[.int .i64 a0_0, .int .i64 a0_1, .int .i64 a0_2, .int .i64 a0_3, .int .i64 a0_4, .int .i64 a0_5, .int .i64 a0_6]) (t := 40) ?hr ?_; (case hd => rfl); (case hg => rfl); (case hr => first | (go_simp; done) | (go_simp; rfl)); intro gb320 hg w4 hbox hb; have n0_ := Aside0.mk (below_step (by repeat (first | (with_reducible first | exact HB.out | apply below_alloc | apply pw_below_drewN | apply below_drew1) | exact HB.out)) hb); have n1_ := Aside0.mk (hbox); have n2_ := Aside0.mk ((by rw [hg]; exact (below_size (by repeat (first | (with_reducible first | exact HB.out | apply below_alloc | apply pw_below_drewN | apply below_drew1) | exact HB.out))) : w.heap.size ≤ gb320)); have n3_ := Aside0.mk ((by rw [hg]; exact (below_size (by repeat (first | (with_reducible first | exact HB.out | apply below_alloc | apply pw_below_drewN | apply below_drew1) | exact HB.out))) : w.heap.size ≤ gb320)); clear HB; have HB := n0_; have BK320 := n1_; have GW320 := n2_; have GE320 := n3_; clear n0_ n1_ n2_ n3_; clear hb hbox hg) | ((with_reducible refine gate_dst (N := 3) rfl ?_); refine box_event ?hg (N := 3) ?hd (cs := #[.int .i64 a1_0, .int .i64 a1_1, .int .i64 a1_2]) (t := 44) ?hr ?_; (case hd => rfl); (case hg => rfl); (case hr => first | (go_simp; done) | (go_simp; rfl)); intro gb321 hg w5 hbox hb; have n0_ := Aside0.mk (blk_below (g := gb320) (o := .cells #[.int .i64 a0_0, .int .i64 a0_1, .int .i64 a0_2, .int .i64 a0_3, .int .i64 a0_4, .int .i64 a0_5, .int .i64 a0_6] 40 (0, 0)) (by (with_reducible repeat (first | refine blk_drewN ?_ _ | refine blk_drew ?_ | refine blk_alloc ?_ _)); exact BK320.out) hb); have n1_ := Aside0.mk (below_step (by repeat (first | (with_reducible first | exact HB.out | apply below_alloc | apply pw_below_drewN | apply below_drew1 | refine below_set ?_ GE320.out) | exact HB.out)) hb); have n2_ := Aside0.mk (hbox); have n3_ := Aside0.mk ((by rw [hg]; exact (below_size (by repeat (first | (with_reducible first | exact HB.out | apply below_alloc | apply pw_below_drewN | apply below_drew1 | refine below_set ?_ GE320.out) | exact HB.out))) : w.heap.size ≤ gb321)); have n4_ := Aside0.mk ((by rw [hg]; exact (below_size (by repeat (first | (with_reducible first | exact HB.out | apply below_alloc | apply pw_below_drewN | apply below_drew1 | refine below_set ?_ GE320.out) | exact HB.out))) : w.heap.size ≤ gb321)); have n5_ := Aside0.mk ((by rw [hg]; exact Nat.ne_of_lt (blk_lt (g := gb320) (o := .cells #[.int .i64 a0_0, .int .i64 a0_1, .int .i64 a0_2, .int .i64 a0_3, .int .i64 a0_4, .int .i64 a0_5, .int .i64 a0_6] 40 (0, 0)) (by (with_reducible repeat (first | refine blk_drewN ?_ _ | refine blk_drew ?_ | refine blk_alloc ?_ _)); exact BK320.out)) : gb320 ≠ gb321)); have n6_ := Aside0.mk ((by rw [hg]; exact Nat.ne_of_gt (blk_lt (g := gb320) (o := .cells #[.int .i64 a0_0, .int .i64 a0_1, .int .i64 a0_2, .int .i64 a0_3, .int .i64 a0_4, .int .i64 a0_5, .int .i64 a0_6] 40 (0, 0)) (by (with_reducible repeat (first | refine blk_drewN ?_ _ | refine blk_drew ?_ | refine blk_alloc ?_ _)); exact BK320.out)) : gb321 ≠ gb320)); clear BK320; clear HB; have BK320 := n0_; have HB := n1_; have BK321 := n2_; have GW321 := n3_; have GE321 := n4_; have NB320_321 := n5_; have NB321_320 := n6_; clear n0_ n1_ n2_ n3_ n4_ n5_ n6_; clear hb hbox hg) | ((with_reducible refine gate_dst (N := 4) rfl ?_); refine box_event ?hg (N := 4) ?hd (cs := #[.int .i64 0, .int .i64 0, .int .i64 0]) (t := 44) ?hr ?_; (case hd => rfl); (case hg => rfl); (case hr => first | (go_simp; done) | (go_simp; rfl)); intro gb322 hg w6 hbox hb; have n0_ := Aside0.mk (blk_below (g := gb320) (o := .cells #[.int .i64 a0_0, .int .i64 a0_1, .int .i64 a0_2, .int .i64 a0_3, .int .i64 a0_4, .int .i64 a0_5, .int .i64 a0_6] 40 (0, 0)) (by (with_reducible repeat (first | refine blk_drewN ?_ _ | refine blk_drew ?_ | refine blk_alloc ?_ _)); exact BK320.out) hb); have n1_ := Aside0.mk (blk_below (g := gb321) (o := .cells #[.int .i64 a1_0, .int .i64 a1_1, .int .i64 a1_2] 44 (0, 0)) (by (with_reducible repeat (first | refine blk_drewN ?_ _ | refine blk_drew ?_ | refine blk_alloc ?_ _)); exact BK321.out) hb); have n2_ := Aside0.mk (below_step (by repeat (first | (with_reducible first | exact HB.out | apply below_alloc | apply pw_below_drewN | apply below_drew1 | refine below_set ?_ GE320.out | refine below_set ?_ GE321.out) | exact HB.out)) hb); have n3_ := Aside0.mk (hbox); have n4_ := Aside0.mk ((by rw [hg]; exact (below_size (by repeat (first | (with_reducible first | exact HB.out | apply below_alloc | apply pw_below_drewN | apply below_drew1 | refine below_set ?_ GE320.out | refine below_set ?_ GE321.out) | exact HB.out))) : w.heap.size ≤ gb322)); have n5_ := Aside0.mk ((by rw [hg]; exact (below_size (by repeat (first | (with_reducible first | exact HB.out | apply below_alloc | apply pw_below_drewN | apply below_drew1 | refine below_set ?_ GE320.out | refine below_set ?_ GE321.out) | exact HB.out))) : w.heap.size ≤ gb322)); have n6_ := Aside0.mk ((by rw [hg]; exact Nat.ne_of_lt (blk_lt (g := gb320) (o := .cells #[.int .i64 a0_0, .int .i64 a0_1, .int .i64 a0_2, .int .i64 a0_3, .int .i64 a0_4, .int .i64 a0_5, .int .i64 a0_6] 40 (0, 0)) (by (with_reducible repeat (first | refine blk_drewN ?_ _ | refine blk_drew ?_ | refine blk_alloc ?_ _)); exact BK320.out)) : gb320 ≠ gb322)); have n7_ := Aside0.mk ((by rw [hg]; exact Nat.ne_of_gt (blk_lt (g := gb320) (o := .cells #[.int .i64 a0_0, .int .i64 a0_1, .int .i64 a0_2, .int .i64 a0_3, .int .i64 a0_4, .int .i64 a0_5, .int .i64 a0_6] 40 (0, 0)) (by (with_reducible repeat (first | refine blk_drewN ?_ _ | refine blk_drew ?_ | refine blk_alloc ?_ _)); exact BK320.out)) : gb322 ≠ gb320)); have n8_ := Aside0.mk ((by rw [hg]; exact Nat.ne_of_lt (blk_lt (g := gb321) (o := .cells #[.int .i64 a1_0, .int .i64 a1_1, .int .i64 a1_2] 44 (0, 0)) (by (with_reducible repeat (first | refine blk_drewN ?_ _ | refine blk_drew ?_ | refine blk_alloc ?_ _)); exact BK321.out)) : gb321 ≠ gb322)); have n9_ := Aside0.mk ((by rw [hg]; exact Nat.ne_of_gt (blk_lt (g := gb321) (o := .cells #[.int .i64 a1_0, .int .i64 a1_1, .int .i64 a1_2] 44 (0, 0)) (by (with_reducible repeat (first | refine blk_drewN ?_ _ | refine blk_drew ?_ | refine blk_alloc ?_ _)); exact BK321.out)) : gb322 ≠ gb321)); clear BK320; clear BK321; clear HB; have BK320 := n0_; have BK321 := n1_; have HB := n2_; have BK322 := n3_; have GW322 := n4_; have GE322 := n5_; have NB320_322 := n6_; have NB322_320 := n7_; have NB321_322 := n8_; have NB322_321 := n9_; clear n0_ n1_ n2_ n3_ n4_ n5_ n6_ n7_ n8_ n9_; clear hb hbox hg))
 (try simp only [Act.put, List.setIfInBounds_toArray, List.set_cons_zero, List.set_cons_succ])
 go_cut [13] (fun v13 wc => ∃ (kq : Nat) (x13_2 : Bool), v13 = .bool x13_2 ∧ Aside0 (door_Ask.j0 kq x13_2 a0_0 a0_1 a0_2 a0_3 a0_4 a0_5 a0_6 a1_0 a1_1 a1_2 = some (r1, r2, r3, r4)) ∧ Aside0 (kq ≤ k) ∧ Aside0 (wc.heap[gb320]? = some (.cells #[.int .i64 a0_0, .int .i64 a0_1, .int .i64 a0_2, .int .i64 a0_3, .int .i64 a0_4, .int .i64 a0_5, .int .i64 a0_6] 40 (0, 0))) ∧ Aside0 (wc.heap[gb321]? = some (.cells #[.int .i64 a1_0, .int .i64 a1_1, .int .i64 a1_2] 44 (0, 0))) ∧ Aside0 (wc.heap[gb322]? = some (.cells #[.int .i64 0, .int .i64 0, .int .i64 0] 44 (0, 0))) ∧ Aside0 (Below w.heap.size w wc))
 case first =>
  have H := HC3.out
  clear HC3
  replace H := Option.bind_eq_some_iff.mp H
  obtain ⟨t323, A70, H⟩ := H
  replace H : (if t323 = true then ((door_Check.f a1_0 a1_1 a1_2).bind fun t324 => (door_Ask.j0 k (t324 != 0) a0_0 a0_1 a0_2 a0_3 a0_4 a0_5 a0_6 a1_0 a1_1 a1_2)) else (door_Ask.j0 k true a0_0 a0_1 a0_2 a0_3 a0_4 a0_5 a0_6 a1_0 a1_1 a1_2)) = some (r1, r2, r3, r4) := H
  have A7 := Aside0.mk A70
  clear A70
  by_cases c8 : t323 = true
  ·subst c8
   have H1 : ((door_Check.f a1_0 a1_1 a1_2).bind fun t324 => (door_Ask.j0 k (t324 != 0) a0_0 a0_1 a0_2 a0_3 a0_4 a0_5 a0_6 a1_0 a1_1 a1_2)) = some (r1, r2, r3, r4) := by rw [if_pos rfl] at H; exact H
   clear H
   have H := H1
   clear H1
   replace H := Option.bind_eq_some_iff.mp H
   obtain ⟨t324, A90, H⟩ := H
   replace H : (door_Ask.j0 k (t324 != 0) a0_0 a0_1 a0_2 a0_3 a0_4 a0_5 a0_6 a1_0 a1_1 a1_2) = some (r1, r2, r3, r4) := H
   have A9 := Aside0.mk A90
   clear A90
   have H' := Aside0.mk H
   clear H
   have hnb10 := NB320_321.out
   have hnc10 := NB321_320.out
   have hnb11 := NB320_322.out
   have hnc11 := NB322_320.out
   have hcz12_0 : w6.cell? ⟨gb320, 0, none⟩ = some (.int .i64 a0_0) := (blk_cell BK320.out 0).trans rfl
   have hcz12_1 : w6.cell? ⟨gb320, 1, none⟩ = some (.int .i64 a0_1) := (blk_cell BK320.out 1).trans rfl
   have hcz12_2 : w6.cell? ⟨gb320, 2, none⟩ = some (.int .i64 a0_2) := (blk_cell BK320.out 2).trans rfl
   have hcz12_3 : w6.cell? ⟨gb320, 3, none⟩ = some (.int .i64 a0_3) := (blk_cell BK320.out 3).trans rfl
   have hcz12_4 : w6.cell? ⟨gb320, 4, none⟩ = some (.int .i64 a0_4) := (blk_cell BK320.out 4).trans rfl
   have hcz12_5 : w6.cell? ⟨gb320, 5, none⟩ = some (.int .i64 a0_5) := (blk_cell BK320.out 5).trans rfl
   have hcz12_6 : w6.cell? ⟨gb320, 6, none⟩ = some (.int .i64 a0_6) := (blk_cell BK320.out 6).trans rfl
   have hfz12_0 := blk_frozen BK320.out 0
   have hfz12_1 := blk_frozen BK320.out 1
   have hfz12_2 := blk_frozen BK320.out 2
   have hfz12_3 := blk_frozen BK320.out 3
   have hfz12_4 := blk_frozen BK320.out 4
   have hfz12_5 := blk_frozen BK320.out 5
   have hfz12_6 := blk_frozen BK320.out 6
   go_wp2_with (first | ((with_reducible refine gate_callee (f := 40) rfl ?_); refine goesL_ (some 7) rfl rfl Try.func40 (by kernel_rfl) rfl #[.agg #[.int .i64 a0_0, .int .i64 a0_1, .int .i64 a0_2, .int .i64 a0_3, .int .i64 a0_4, .int .i64 a0_5, .int .i64 a0_6]] rfl (by (try simp only [List.map_toArray, List.map_cons, List.map_nil]); first | done | rfl | (simp only [List.length_drop, List.length_take]; rfl)) ?_; (with_reducible refine (door_times.calls k a0_0 a0_1 a0_2 a0_3 a0_4 a0_5 a0_6 true _ A7.out).mono ?_); rintro e w13 ⟨rfl, hb⟩; refine ⟨_, rfl, ?_⟩; have n0_ := Aside0.mk (blk_below (g := gb320) (o := .cells #[.int .i64 a0_0, .int .i64 a0_1, .int .i64 a0_2, .int .i64 a0_3, .int .i64 a0_4, .int .i64 a0_5, .int .i64 a0_6] 40 (0, 0)) (by (with_reducible repeat (first | refine blk_drewN ?_ _ | refine blk_drew ?_ | refine blk_alloc ?_ _)); exact BK320.out) hb); have n1_ := Aside0.mk (blk_below (g := gb321) (o := .cells #[.int .i64 a1_0, .int .i64 a1_1, .int .i64 a1_2] 44 (0, 0)) (by (with_reducible repeat (first | refine blk_drewN ?_ _ | refine blk_drew ?_ | refine blk_alloc ?_ _)); exact BK321.out) hb); have n2_ := Aside0.mk (blk_below (g := gb322) (o := .cells #[.int .i64 0, .int .i64 0, .int .i64 0] 44 (0, 0)) (by (with_reducible repeat (first | refine blk_drewN ?_ _ | refine blk_drew ?_ | refine blk_alloc ?_ _)); exact BK322.out) hb); have n3_ := Aside0.mk (below_step (by repeat (first | (with_reducible first | exact HB.out | apply below_alloc | apply pw_below_drewN | apply below_drew1 | refine below_set ?_ GE320.out | refine below_set ?_ GE321.out | refine below_set ?_ GE322.out) | exact HB.out)) hb); clear BK320; clear BK321; clear BK322; clear HB; have BK320 := n0_; have BK321 := n1_; have BK322 := n2_; have HB := n3_; clear n0_ n1_ n2_ n3_; (try clear hb); (try clear hb2); (try clear hk); (try clear hi); have hnb14 := NB321_322.out; have hnc14 := NB322_321.out; have hcz15_0 : w13.cell? ⟨gb321, 0, none⟩ = some (.int .i64 a1_0) := (blk_cell BK321.out 0).trans rfl; have hcz15_1 : w13.cell? ⟨gb321, 1, none⟩ = some (.int .i64 a1_1) := (blk_cell BK321.out 1).trans rfl; have hcz15_2 : w13.cell? ⟨gb321, 2, none⟩ = some (.int .i64 a1_2) := (blk_cell BK321.out 2).trans rfl; have hfz15_0 := blk_frozen BK321.out 0; have hfz15_1 := blk_frozen BK321.out 1; have hfz15_2 := blk_frozen BK321.out 2) | (go_at_call 30; (with_reducible refine (door_Check.calls a1_0 a1_1 a1_2 t324 _ A9.out).mono ?_); rintro e w16 ⟨rfl, hb⟩; have n0_ := Aside0.mk (blk_below (g := gb320) (o := .cells #[.int .i64 a0_0, .int .i64 a0_1, .int .i64 a0_2, .int .i64 a0_3, .int .i64 a0_4, .int .i64 a0_5, .int .i64 a0_6] 40 (0, 0)) (by (with_reducible repeat (first | refine blk_drewN ?_ _ | refine blk_drew ?_ | refine blk_alloc ?_ _)); exact BK320.out) hb); have n1_ := Aside0.mk (blk_below (g := gb321) (o := .cells #[.int .i64 a1_0, .int .i64 a1_1, .int .i64 a1_2] 44 (0, 0)) (by (with_reducible repeat (first | refine blk_drewN ?_ _ | refine blk_drew ?_ | refine blk_alloc ?_ _)); exact BK321.out) hb); have n2_ := Aside0.mk (blk_below (g := gb322) (o := .cells #[.int .i64 0, .int .i64 0, .int .i64 0] 44 (0, 0)) (by (with_reducible repeat (first | refine blk_drewN ?_ _ | refine blk_drew ?_ | refine blk_alloc ?_ _)); exact BK322.out) hb); have n3_ := Aside0.mk (below_step (by repeat (first | (with_reducible first | exact HB.out | apply below_alloc | apply pw_below_drewN | apply below_drew1 | refine below_set ?_ GE320.out | refine below_set ?_ GE321.out | refine below_set ?_ GE322.out) | exact HB.out)) hb); clear BK320; clear BK321; clear BK322; clear HB; have BK320 := n0_; have BK321 := n1_; have BK322 := n2_; have HB := n3_; clear n0_ n1_ n2_ n3_; (try clear hb); (try clear hb2); (try clear hk); (try clear hi)))
   go_meet
   case rel => exact ⟨_, ((t324 != 0)), (by first | rfl | (simp; done) | (simp [*]; done)), H', ⟨by first | omega | exact Nat.le_refl _⟩, ⟨by (with_reducible repeat (first | refine blk_drewN ?_ _ | refine blk_drew ?_ | refine blk_alloc ?_ _)); exact BK320.out⟩, ⟨by (with_reducible repeat (first | refine blk_drewN ?_ _ | refine blk_drew ?_ | refine blk_alloc ?_ _)); exact BK321.out⟩, ⟨by (with_reducible repeat (first | refine blk_drewN ?_ _ | refine blk_drew ?_ | refine blk_alloc ?_ _)); exact BK322.out⟩, ⟨by repeat (first | (with_reducible first | exact HB.out | apply below_alloc | apply pw_below_drewN | apply below_drew1 | refine below_set ?_ GE320.out | refine below_set ?_ GE321.out | refine below_set ?_ GE322.out) | exact HB.out)⟩⟩
  ·replace c8 := Bool.eq_false_iff.mpr c8
   subst c8
   have H1 : (door_Ask.j0 k true a0_0 a0_1 a0_2 a0_3 a0_4 a0_5 a0_6 a1_0 a1_1 a1_2) = some (r1, r2, r3, r4) := by rw [if_neg (show ¬ (false = true) by decide)] at H; exact H
   clear H
   have H := H1
   clear H1
   have H' := Aside0.mk H
   clear H
   have hnb17 := NB320_321.out
   have hnc17 := NB321_320.out
   have hnb18 := NB320_322.out
   have hnc18 := NB322_320.out
   have hcz19_0 : w6.cell? ⟨gb320, 0, none⟩ = some (.int .i64 a0_0) := (blk_cell BK320.out 0).trans rfl
   have hcz19_1 : w6.cell? ⟨gb320, 1, none⟩ = some (.int .i64 a0_1) := (blk_cell BK320.out 1).trans rfl
   have hcz19_2 : w6.cell? ⟨gb320, 2, none⟩ = some (.int .i64 a0_2) := (blk_cell BK320.out 2).trans rfl
   have hcz19_3 : w6.cell? ⟨gb320, 3, none⟩ = some (.int .i64 a0_3) := (blk_cell BK320.out 3).trans rfl
   have hcz19_4 : w6.cell? ⟨gb320, 4, none⟩ = some (.int .i64 a0_4) := (blk_cell BK320.out 4).trans rfl
   have hcz19_5 : w6.cell? ⟨gb320, 5, none⟩ = some (.int .i64 a0_5) := (blk_cell BK320.out 5).trans rfl
   have hcz19_6 : w6.cell? ⟨gb320, 6, none⟩ = some (.int .i64 a0_6) := (blk_cell BK320.out 6).trans rfl
   have hfz19_0 := blk_frozen BK320.out 0
   have hfz19_1 := blk_frozen BK320.out 1
   have hfz19_2 := blk_frozen BK320.out 2
   have hfz19_3 := blk_frozen BK320.out 3
   have hfz19_4 := blk_frozen BK320.out 4
   have hfz19_5 := blk_frozen BK320.out 5
   have hfz19_6 := blk_frozen BK320.out 6
   go_wp2_with (first | ((with_reducible refine gate_callee (f := 40) rfl ?_); refine goesL_ (some 7) rfl rfl Try.func40 (by kernel_rfl) rfl #[.agg #[.int .i64 a0_0, .int .i64 a0_1, .int .i64 a0_2, .int .i64 a0_3, .int .i64 a0_4, .int .i64 a0_5, .int .i64 a0_6]] rfl (by (try simp only [List.map_toArray, List.map_cons, List.map_nil]); first | done | rfl | (simp only [List.length_drop, List.length_take]; rfl)) ?_; (with_reducible refine (door_times.calls k a0_0 a0_1 a0_2 a0_3 a0_4 a0_5 a0_6 false _ A7.out).mono ?_); rintro e w20 ⟨rfl, hb⟩; refine ⟨_, rfl, ?_⟩; have n0_ := Aside0.mk (blk_below (g := gb320) (o := .cells #[.int .i64 a0_0, .int .i64 a0_1, .int .i64 a0_2, .int .i64 a0_3, .int .i64 a0_4, .int .i64 a0_5, .int .i64 a0_6] 40 (0, 0)) (by (with_reducible repeat (first | refine blk_drewN ?_ _ | refine blk_drew ?_ | refine blk_alloc ?_ _)); exact BK320.out) hb); have n1_ := Aside0.mk (blk_below (g := gb321) (o := .cells #[.int .i64 a1_0, .int .i64 a1_1, .int .i64 a1_2] 44 (0, 0)) (by (with_reducible repeat (first | refine blk_drewN ?_ _ | refine blk_drew ?_ | refine blk_alloc ?_ _)); exact BK321.out) hb); have n2_ := Aside0.mk (blk_below (g := gb322) (o := .cells #[.int .i64 0, .int .i64 0, .int .i64 0] 44 (0, 0)) (by (with_reducible repeat (first | refine blk_drewN ?_ _ | refine blk_drew ?_ | refine blk_alloc ?_ _)); exact BK322.out) hb); have n3_ := Aside0.mk (below_step (by repeat (first | (with_reducible first | exact HB.out | apply below_alloc | apply pw_below_drewN | apply below_drew1 | refine below_set ?_ GE320.out | refine below_set ?_ GE321.out | refine below_set ?_ GE322.out) | exact HB.out)) hb); clear BK320; clear BK321; clear BK322; clear HB; have BK320 := n0_; have BK321 := n1_; have BK322 := n2_; have HB := n3_; clear n0_ n1_ n2_ n3_; (try clear hb); (try clear hb2); (try clear hk); (try clear hi)))
   go_meet
   case rel => exact ⟨_, (true), (by first | rfl | (simp; done) | (simp [*]; done)), H', ⟨by first | omega | exact Nat.le_refl _⟩, ⟨by (with_reducible repeat (first | refine blk_drewN ?_ _ | refine blk_drew ?_ | refine blk_alloc ?_ _)); exact BK320.out⟩, ⟨by (with_reducible repeat (first | refine blk_drewN ?_ _ | refine blk_drew ?_ | refine blk_alloc ?_ _)); exact BK321.out⟩, ⟨by (with_reducible repeat (first | refine blk_drewN ?_ _ | refine blk_drew ?_ | refine blk_alloc ?_ _)); exact BK322.out⟩, ⟨by repeat (first | (with_reducible first | exact HB.out | apply below_alloc | apply pw_below_drewN | apply below_drew1 | refine below_set ?_ GE320.out | refine below_set ?_ GE321.out | refine below_set ?_ GE322.out) | exact HB.out)⟩⟩
 case rest =>
  clear HC3
  try clear c1
  try clear c2
  try clear p2
  try clear c4
  try clear c8
  try clear c10
  try clear c11
  try clear c14
  try clear c17
  try clear c18
  try clear hcz12_0
  try clear hcz12_1
  try clear hcz12_2
  try clear hcz12_3
  try clear hcz12_4
  try clear hcz12_5
  try clear hcz12_6
  try clear hcz15_0
  try clear hcz15_1
  try clear hcz15_2
  try clear hcz19_0
  try clear hcz19_1
  try clear hcz19_2
  try clear hcz19_3
  try clear hcz19_4
  try clear hcz19_5
  try clear hcz19_6
  try clear hfz12_0
  try clear hfz12_1
  try clear hfz12_2
  try clear hfz12_3
  try clear hfz12_4
  try clear hfz12_5
  try clear hfz12_6
  try clear hfz15_0
  try clear hfz15_1
  try clear hfz15_2
  try clear hfz19_0
  try clear hfz19_1
  try clear hfz19_2
  try clear hfz19_3
  try clear hfz19_4
  try clear hfz19_5
  try clear hfz19_6
  obtain ⟨kq, x13_2, rfl, HA, HJ2, BK320, BK321, BK322, HB⟩ := hcut
  cases kq with
  | zero => exact absurd HA.out (by simp [door_Ask.j0])
  | succ kj2 =>
   have H := HA.out
   clear HA
   simp only [door_Ask.j0] at H
   by_cases c21 : x13_2 = true
   ·subst c21
    have H1 : (some (0, 0, 0, 170)) = some (r1, r2, r3, r4) := by rw [if_pos rfl] at H; exact H
    clear H
    have H := H1
    clear H1
    simp only [Option.some.injEq, Prod.mk.injEq] at H
    obtain ⟨rfl, rfl, rfl, rfl⟩ := H
    have hnb22 := NB322_320.out
    have hnc22 := NB320_322.out
    have hnb23 := NB322_321.out
    have hnc23 := NB321_322.out
    have hcz24_0 : wc.cell? ⟨gb322, 0, none⟩ = some (.int .i64 0) := (blk_cell BK322.out 0).trans rfl
    have hcz24_1 : wc.cell? ⟨gb322, 1, none⟩ = some (.int .i64 0) := (blk_cell BK322.out 1).trans rfl
    have hcz24_2 : wc.cell? ⟨gb322, 2, none⟩ = some (.int .i64 0) := (blk_cell BK322.out 2).trans rfl
    have hfz24_0 := blk_frozen BK322.out 0
    have hfz24_1 := blk_frozen BK322.out 1
    have hfz24_2 := blk_frozen BK322.out 2
    go_wp2
    refine bodyPost_ret (results_ct rfl _ _ gb322 44 #[.int .i64 0, .int .i64 0, .int .i64 0] (0, 0) _ rfl (by (with_reducible repeat (first | refine blk_drewN ?_ _ | refine blk_drew ?_ | refine blk_alloc ?_ _)); refine blk_put (cs := #[.int .i64 0, .int .i64 0, .int .i64 0]) ?_ 2 _ rfl; (with_reducible repeat (first | refine blk_drewN ?_ _ | refine blk_drew ?_ | refine blk_alloc ?_ _)); refine blk_put (cs := #[.int .i64 0, .int .i64 0, .int .i64 0]) ?_ 1 _ rfl; (with_reducible repeat (first | refine blk_drewN ?_ _ | refine blk_drew ?_ | refine blk_alloc ?_ _)); refine blk_put (cs := #[.int .i64 0, .int .i64 0, .int .i64 0]) ?_ 0 _ rfl; (with_reducible repeat (first | refine blk_drewN ?_ _ | refine blk_drew ?_ | refine blk_alloc ?_ _)); exact BK322.out) Try.underlying44 rfl (by kernel_rfl)) rfl ?_
    exact ⟨by first | rfl | (simp [errW_none, errW_some] <;> rfl) | (simp [*, errW_none, errW_some] <;> rfl), by repeat (first | (with_reducible first | exact HB.out | apply below_alloc | apply pw_below_drewN | apply below_drew1 | refine below_set ?_ GE320.out | refine below_set ?_ GE321.out | refine below_set ?_ GE322.out) | exact HB.out)⟩
   ·replace c21 := Bool.eq_false_iff.mpr c21
    subst c21
    have H1 : (if a1_0 = 0 then (some (1, a0_2, 0, 0)) else (some (a1_0, a1_1, a1_2, 0))) = some (r1, r2, r3, r4) := by rw [if_neg (show ¬ (false = true) by decide)] at H; exact H
    clear H
    have H := H1
    clear H1
    by_cases c25 : a1_0 = 0
    ·rw [if_pos c25] at H
     have c25b0 : (a1_0 == 0) = true := beq_iff_eq.mpr c25
     have c25b1 : (a1_0 != 0) = false := bne_eq_false_iff_eq.mpr c25
     clear c25
     simp only [Option.some.injEq, Prod.mk.injEq] at H
     obtain ⟨rfl, rfl, rfl, rfl⟩ := H
     have hnb26 := NB321_320.out
     have hnc26 := NB320_321.out
     have hnb27 := NB321_322.out
     have hnc27 := NB322_321.out
     have hcz28_0 : wc.cell? ⟨gb321, 0, none⟩ = some (.int .i64 a1_0) := (blk_cell BK321.out 0).trans rfl
     have hcz28_1 : wc.cell? ⟨gb321, 1, none⟩ = some (.int .i64 a1_1) := (blk_cell BK321.out 1).trans rfl
     have hcz28_2 : wc.cell? ⟨gb321, 2, none⟩ = some (.int .i64 a1_2) := (blk_cell BK321.out 2).trans rfl
     have hfz28_0 := blk_frozen BK321.out 0
     have hfz28_1 := blk_frozen BK321.out 1
     have hfz28_2 := blk_frozen BK321.out 2
     have hnb29 := NB320_322.out
     have hnc29 := NB322_320.out
     have hcz30_0 : wc.cell? ⟨gb320, 0, none⟩ = some (.int .i64 a0_0) := (blk_cell BK320.out 0).trans rfl
     have hcz30_1 : wc.cell? ⟨gb320, 1, none⟩ = some (.int .i64 a0_1) := (blk_cell BK320.out 1).trans rfl
     have hcz30_2 : wc.cell? ⟨gb320, 2, none⟩ = some (.int .i64 a0_2) := (blk_cell BK320.out 2).trans rfl
     have hcz30_3 : wc.cell? ⟨gb320, 3, none⟩ = some (.int .i64 a0_3) := (blk_cell BK320.out 3).trans rfl
     have hcz30_4 : wc.cell? ⟨gb320, 4, none⟩ = some (.int .i64 a0_4) := (blk_cell BK320.out 4).trans rfl
     have hcz30_5 : wc.cell? ⟨gb320, 5, none⟩ = some (.int .i64 a0_5) := (blk_cell BK320.out 5).trans rfl
     have hcz30_6 : wc.cell? ⟨gb320, 6, none⟩ = some (.int .i64 a0_6) := (blk_cell BK320.out 6).trans rfl
     have hfz30_0 := blk_frozen BK320.out 0
     have hfz30_1 := blk_frozen BK320.out 1
     have hfz30_2 := blk_frozen BK320.out 2
     have hfz30_3 := blk_frozen BK320.out 3
     have hfz30_4 := blk_frozen BK320.out 4
     have hfz30_5 := blk_frozen BK320.out 5
     have hfz30_6 := blk_frozen BK320.out 6
     have hcz31_0 : wc.cell? ⟨gb322, 0, none⟩ = some (.int .i64 0) := (blk_cell BK322.out 0).trans rfl
     have hcz31_1 : wc.cell? ⟨gb322, 1, none⟩ = some (.int .i64 0) := (blk_cell BK322.out 1).trans rfl
     have hcz31_2 : wc.cell? ⟨gb322, 2, none⟩ = some (.int .i64 0) := (blk_cell BK322.out 2).trans rfl
     have hfz31_0 := blk_frozen BK322.out 0
     have hfz31_1 := blk_frozen BK322.out 1
     have hfz31_2 := blk_frozen BK322.out 2
     go_wp2
     refine bodyPost_ret (results_ct rfl _ _ gb322 44 #[.int .i64 1, .int .i64 a0_2, .int .i64 0] (0, 0) _ rfl (by (with_reducible repeat (first | refine blk_drewN ?_ _ | refine blk_drew ?_ | refine blk_alloc ?_ _)); refine blk_put (cs := #[.int .i64 1, .int .i64 a0_2, .int .i64 0]) ?_ 2 _ rfl; (with_reducible repeat (first | refine blk_drewN ?_ _ | refine blk_drew ?_ | refine blk_alloc ?_ _)); refine blk_put (cs := #[.int .i64 1, .int .i64 0, .int .i64 0]) ?_ 1 _ rfl; (with_reducible repeat (first | refine blk_drewN ?_ _ | refine blk_drew ?_ | refine blk_alloc ?_ _)); refine blk_put (cs := #[.int .i64 0, .int .i64 0, .int .i64 0]) ?_ 0 _ rfl; (with_reducible repeat (first | refine blk_drewN ?_ _ | refine blk_drew ?_ | refine blk_alloc ?_ _)); refine blk_far ?_ NB322_321.out _; (with_reducible repeat (first | refine blk_drewN ?_ _ | refine blk_drew ?_ | refine blk_alloc ?_ _)); refine blk_far ?_ NB322_321.out _; (with_reducible repeat (first | refine blk_drewN ?_ _ | refine blk_drew ?_ | refine blk_alloc ?_ _)); refine blk_far ?_ NB322_321.out _; (with_reducible repeat (first | refine blk_drewN ?_ _ | refine blk_drew ?_ | refine blk_alloc ?_ _)); exact BK322.out) Try.underlying44 rfl (by kernel_rfl)) rfl ?_
     exact ⟨by first | rfl | (simp [errW_none, errW_some] <;> rfl) | (simp [*, errW_none, errW_some] <;> rfl), by repeat (first | (with_reducible first | exact HB.out | apply below_alloc | apply pw_below_drewN | apply below_drew1 | refine below_set ?_ GE320.out | refine below_set ?_ GE321.out | refine below_set ?_ GE322.out) | exact HB.out)⟩
    ·rw [if_neg c25] at H
     have c25b0 : (a1_0 == 0) = false := beq_eq_false_iff_ne.mpr c25
     have c25b1 : (a1_0 != 0) = true := bne_iff_ne.mpr c25
     simp only [Option.some.injEq, Prod.mk.injEq] at H
     obtain ⟨rfl, rfl, rfl, rfl⟩ := H
     have hnb32 := NB321_320.out
     have hnc32 := NB320_321.out
     have hnb33 := NB321_322.out
     have hnc33 := NB322_321.out
     have hcz34_0 : wc.cell? ⟨gb321, 0, none⟩ = some (.int .i64 a1_0) := (blk_cell BK321.out 0).trans rfl
     have hcz34_1 : wc.cell? ⟨gb321, 1, none⟩ = some (.int .i64 a1_1) := (blk_cell BK321.out 1).trans rfl
     have hcz34_2 : wc.cell? ⟨gb321, 2, none⟩ = some (.int .i64 a1_2) := (blk_cell BK321.out 2).trans rfl
     have hfz34_0 := blk_frozen BK321.out 0
     have hfz34_1 := blk_frozen BK321.out 1
     have hfz34_2 := blk_frozen BK321.out 2
     have hnb35 := NB322_320.out
     have hnc35 := NB320_322.out
     have hcz36_0 : wc.cell? ⟨gb322, 0, none⟩ = some (.int .i64 0) := (blk_cell BK322.out 0).trans rfl
     have hcz36_1 : wc.cell? ⟨gb322, 1, none⟩ = some (.int .i64 0) := (blk_cell BK322.out 1).trans rfl
     have hcz36_2 : wc.cell? ⟨gb322, 2, none⟩ = some (.int .i64 0) := (blk_cell BK322.out 2).trans rfl
     have hfz36_0 := blk_frozen BK322.out 0
     have hfz36_1 := blk_frozen BK322.out 1
     have hfz36_2 := blk_frozen BK322.out 2
     go_wp2
     refine bodyPost_ret (results_ct rfl _ _ gb322 44 #[.int .i64 a1_0, .int .i64 a1_1, .int .i64 a1_2] (0, 0) _ rfl (by (with_reducible repeat (first | refine blk_drewN ?_ _ | refine blk_drew ?_ | refine blk_alloc ?_ _)); refine blk_put (cs := #[.int .i64 a1_0, .int .i64 a1_1, .int .i64 0]) ?_ 2 _ rfl; (with_reducible repeat (first | refine blk_drewN ?_ _ | refine blk_drew ?_ | refine blk_alloc ?_ _)); refine blk_put (cs := #[.int .i64 a1_0, .int .i64 0, .int .i64 0]) ?_ 1 _ rfl; (with_reducible repeat (first | refine blk_drewN ?_ _ | refine blk_drew ?_ | refine blk_alloc ?_ _)); refine blk_put (cs := #[.int .i64 0, .int .i64 0, .int .i64 0]) ?_ 0 _ rfl; (with_reducible repeat (first | refine blk_drewN ?_ _ | refine blk_drew ?_ | refine blk_alloc ?_ _)); exact BK322.out) Try.underlying44 rfl (by kernel_rfl)) rfl ?_
     exact ⟨by first | rfl | (simp [errW_none, errW_some] <;> rfl) | (simp [*, errW_none, errW_some] <;> rfl), by repeat (first | (with_reducible first | exact HB.out | apply below_alloc | apply pw_below_drewN | apply below_drew1 | refine below_set ?_ GE320.out | refine below_set ?_ GE321.out | refine below_set ?_ GE322.out) | exact HB.out)⟩

end Go.Proofs.Ytjfikeahafflfaa.C
