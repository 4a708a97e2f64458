-- Written by a program of this session (wip/pp: the kit's print, changed), out of the translation. Lean checks it.
import Derived.Test.YtjfikeahafflfaaCx0
import Derived.Test.YtjfikeahafflfaaCxe44
import Derived.Test.YtjfikeahafflfaaCxf26
import Derived.Test.YtjfikeahafflfaaStep
namespace Go.Proofs.Ytjfikeahafflfaa.C
open Go.RowKit Go.Proofs.YtjfikeahafflfaaW.PrintWords Go.Proofs.YtjfikeahafflfaaW.PrintLast Go.Proofs.YtjfikeahafflfaaW.PrintMore
attribute [local go_sem] max2_int min2_int max_two min_two max_three min_three max_four min_four   -- for this text's walks alone
set_option linter.unusedVariables false
set_option linter.unusedSimpArgs false

attribute [local go_sem high] eqA44
/-! ### newellaw17_DoorDeaf: function 12 -/
def newellaw17_DoorDeaf.j0 : Nat → Bool → Option (Bool)
 | 0, _ => none
 | k + 1, x4 => some x4
def newellaw17_DoorDeaf.f (k : Nat) (a0_0 : Int) (a0_1 : Int) (a0_2 : Int) (a0_3 : Int) (a0_4 : Int) (a0_5 : Int) (a0_6 : Int) (a0_7 : Int) (a0_8 : Int) (a0_9 : Int) (a1_0 : Int) (a1_1 : Int) (a1_2 : Int) : Option (Bool) := (door_Step.f k a0_0 a0_1 a0_2 a0_3 a0_4 a0_5 a0_6 a0_7 a0_8 0 a1_0 a1_1 a1_2 true).bind fun bt458 => ((door_Step.f k a0_0 a0_1 a0_2 a0_3 a0_4 a0_5 a0_6 a0_7 a0_8 0 a1_0 a1_1 a1_2 false).bind fun bt464 => ((newellaw17_awake.f k).bind fun t470 => (if t470 = true then (if (bt458.1 == bt464.1 && (bt458.2.1 == bt464.2.1 && (bt458.2.2.1 == bt464.2.2.1))) = true then (if (bt458.2.2.2.1 == bt464.2.2.2.1) = true then (newellaw17_DoorDeaf.j0 k (bt458.2.2.2.2 == bt464.2.2.2.2)) else (none)) else (none)) else (none))))
theorem newellaw17_DoorDeaf.mono_l : ∀ k, (∀ y0, LeO (newellaw17_DoorDeaf.j0 k y0) (newellaw17_DoorDeaf.j0 (k + 1) y0))
 | 0 => fun _ r h => by simp [newellaw17_DoorDeaf.j0] at h
 | k + 1 => by
  have ih0 := newellaw17_DoorDeaf.mono_l k
  ·intro y0
   unfold newellaw17_DoorDeaf.j0
   repeat' first
   | (with_reducible exact ih0 _)
   | (with_reducible exact door_Step.mono _ _ _ _ _ _ _ _ _ _ _ _ _ _ _)
   | (with_reducible exact newellaw17_awake.mono _)
   | (with_reducible exact LeO.refl _)
   | (with_reducible exact LeO.none _)
   | (with_reducible refine LeO.ite ?_ ?_)
   | (with_reducible refine LeO.bind ?_ (fun _ => ?_))
   | exact ih0 _
   | exact door_Step.mono _ _ _ _ _ _ _ _ _ _ _ _ _ _ _
   | exact newellaw17_awake.mono _
   | exact LeO.none _
   | refine LeO.ite ?_ ?_
   | refine LeO.bind ?_ (fun _ => ?_)
theorem newellaw17_DoorDeaf.mono : ∀ a0 a1 a2 a3 a4 a5 a6 a7 a8 a9 a10 a11 a12 k, LeO (newellaw17_DoorDeaf.f k a0 a1 a2 a3 a4 a5 a6 a7 a8 a9 a10 a11 a12) (newellaw17_DoorDeaf.f (k + 1) a0 a1 a2 a3 a4 a5 a6 a7 a8 a9 a10 a11 a12) := by
 intro a0 a1 a2 a3 a4 a5 a6 a7 a8 a9 a10 a11 a12 k
 have ih0 := newellaw17_DoorDeaf.mono_l k
 unfold newellaw17_DoorDeaf.f
 repeat' first
   | (with_reducible exact ih0 _)
   | (with_reducible exact door_Step.mono _ _ _ _ _ _ _ _ _ _ _ _ _ _ _)
   | (with_reducible exact newellaw17_awake.mono _)
   | (with_reducible exact LeO.refl _)
   | (with_reducible exact LeO.none _)
   | (with_reducible refine LeO.ite ?_ ?_)
   | (with_reducible refine LeO.bind ?_ (fun _ => ?_))
   | exact ih0 _
   | exact door_Step.mono _ _ _ _ _ _ _ _ _ _ _ _ _ _ _
   | exact newellaw17_awake.mono _
   | exact LeO.none _
   | refine LeO.ite ?_ ?_
   | refine LeO.bind ?_ (fun _ => ?_)
set_option maxHeartbeats 8000000 in
set_option maxRecDepth 100000 in
theorem newellaw17_DoorDeaf.calls (k : Nat) (a0_0 : Int) (a0_1 : Int) (a0_2 : Int) (a0_3 : Int) (a0_4 : Int) (a0_5 : Int) (a0_6 : Int) (a0_7 : Int) (a0_8 : Int) (a0_9 : Int) (a1_0 : Int) (a1_1 : Int) (a1_2 : Int) (r : Bool) (w : World) (h : newellaw17_DoorDeaf.f k a0_0 a0_1 a0_2 a0_3 a0_4 a0_5 a0_6 a0_7 a0_8 a0_9 a1_0 a1_1 a1_2 = some r) :
  Calls Try.prog 12 #[.agg #[.int .i64 a0_0, .int .i64 a0_1, .int .i64 a0_2, .int .i64 a0_3, .int .i64 a0_4, .int .i64 a0_5, .int .i64 a0_6, .int .i64 a0_7, .int .i64 a0_8, .int .i64 a0_9], .agg #[.int .i64 a1_0, .int .i64 a1_1, .int .i64 a1_2]] w fun e w' => e = .returned (.bool r) ∧ Below w.heap.size w w' := by
 have hu42 := Try.underlying42
 have hu44 := Try.underlying44
 have HB := Aside0.mk (Below.refl w.heap.size w)
 have H : ((door_Step.f k a0_0 a0_1 a0_2 a0_3 a0_4 a0_5 a0_6 a0_7 a0_8 0 a1_0 a1_1 a1_2 true).bind fun bt458 => ((door_Step.f k a0_0 a0_1 a0_2 a0_3 a0_4 a0_5 a0_6 a0_7 a0_8 0 a1_0 a1_1 a1_2 false).bind fun bt464 => ((newellaw17_awake.f k).bind fun t470 => (if t470 = true then (if (bt458.1 == bt464.1 && (bt458.2.1 == bt464.2.1 && (bt458.2.2.1 == bt464.2.2.1))) = true then (if (bt458.2.2.2.1 == bt464.2.2.2.1) = true then (newellaw17_DoorDeaf.j0 k (bt458.2.2.2.2 == bt464.2.2.2.2)) else (none)) else (none)) else (none))))) = some r := h
 clear h
 replace H := Option.bind_eq_some_iff.mp H
 obtain ⟨⟨t458, t459, t460, t461, t462⟩, A30, H⟩ := H
 replace H : ((door_Step.f k a0_0 a0_1 a0_2 a0_3 a0_4 a0_5 a0_6 a0_7 a0_8 0 a1_0 a1_1 a1_2 false).bind fun bt464 => ((newellaw17_awake.f k).bind fun t470 => (if t470 = true then (if (t458 == bt464.1 && (t459 == bt464.2.1 && (t460 == bt464.2.2.1))) = true then (if (t461 == bt464.2.2.2.1) = true then (newellaw17_DoorDeaf.j0 k (t462 == bt464.2.2.2.2)) else (none)) else (none)) else (none)))) = some r := H
 have A3 := Aside0.mk A30
 clear A30
 replace H := Option.bind_eq_some_iff.mp H
 obtain ⟨⟨t464, t465, t466, t467, t468⟩, A40, H⟩ := H
 replace H : ((newellaw17_awake.f k).bind fun t470 => (if t470 = true then (if (t458 == t464 && (t459 == t465 && (t460 == t466))) = true then (if (t461 == t467) = true then (newellaw17_DoorDeaf.j0 k (t462 == t468)) else (none)) else (none)) else (none))) = some r := H
 have A4 := Aside0.mk A40
 clear A40
 have HC5 := Aside0.mk H
 clear H
 go_enter Try.func12, Try.ntmps12
 go_upto_region 4 with (first | ((with_reducible refine gate_dst (N := 2) rfl ?_); refine box_event ?hg (N := 2) ?hd (cs := #[.int .i64 a0_0, .int .i64 a0_1, .int .i64 a0_2, .int .i64 a0_3, .int .i64 a0_4, .int .i64 a0_5, .int .i64 a0_6, .int .i64 a0_7, .int .i64 a0_8, .int .i64 a0_9]) (t := 42) ?hr ?_; (case hd => rfl); (case hg => rfl); (case hr => first | (go_simp; done) | (go_simp; rfl)); intro gb456 hg w6 hbox hb; have n0_ := Aside0.mk (below_step (by repeat (first | (with_reducible first | exact HB.out | apply below_alloc | apply pw_below_drewN | apply below_drew1) | exact HB.out)) hb); have n1_ := Aside0.mk (hbox); have n2_ := Aside0.mk ((by rw [hg]; exact (below_size (by repeat (first | (with_reducible first | exact HB.out | apply below_alloc | apply pw_below_drewN | apply below_drew1) | exact HB.out))) : w.heap.size ≤ gb456)); have n3_ := Aside0.mk ((by rw [hg]; exact (below_size (by repeat (first | (with_reducible first | exact HB.out | apply below_alloc | apply pw_below_drewN | apply below_drew1) | exact HB.out))) : w.heap.size ≤ gb456)); clear HB; have HB := n0_; have BK456 := n1_; have GW456 := n2_; have GE456 := n3_; clear n0_ n1_ n2_ n3_; clear hb hbox hg) | ((with_reducible refine gate_dst (N := 3) rfl ?_); refine box_event ?hg (N := 3) ?hd (cs := #[.int .i64 a1_0, .int .i64 a1_1, .int .i64 a1_2]) (t := 44) ?hr ?_; (case hd => rfl); (case hg => rfl); (case hr => first | (go_simp; done) | (go_simp; rfl)); intro gb457 hg w7 hbox hb; have n0_ := Aside0.mk (blk_below (g := gb456) (o := .cells #[.int .i64 a0_0, .int .i64 a0_1, .int .i64 a0_2, .int .i64 a0_3, .int .i64 a0_4, .int .i64 a0_5, .int .i64 a0_6, .int .i64 a0_7, .int .i64 a0_8, .int .i64 a0_9] 42 (0, 0)) (by (with_reducible repeat (first | refine blk_drewN ?_ _ | refine blk_drew ?_ | refine blk_alloc ?_ _)); exact BK456.out) hb); have n1_ := Aside0.mk (below_step (by repeat (first | (with_reducible first | exact HB.out | apply below_alloc | apply pw_below_drewN | apply below_drew1 | refine below_set ?_ GE456.out) | exact HB.out)) hb); have n2_ := Aside0.mk (hbox); have n3_ := Aside0.mk ((by rw [hg]; exact (below_size (by repeat (first | (with_reducible first | exact HB.out | apply below_alloc | apply pw_below_drewN | apply below_drew1 | refine below_set ?_ GE456.out) | exact HB.out))) : w.heap.size ≤ gb457)); have n4_ := Aside0.mk ((by rw [hg]; exact (below_size (by repeat (first | (with_reducible first | exact HB.out | apply below_alloc | apply pw_below_drewN | apply below_drew1 | refine below_set ?_ GE456.out) | exact HB.out))) : w.heap.size ≤ gb457)); have n5_ := Aside0.mk ((by rw [hg]; exact Nat.ne_of_lt (blk_lt (g := gb456) (o := .cells #[.int .i64 a0_0, .int .i64 a0_1, .int .i64 a0_2, .int .i64 a0_3, .int .i64 a0_4, .int .i64 a0_5, .int .i64 a0_6, .int .i64 a0_7, .int .i64 a0_8, .int .i64 a0_9] 42 (0, 0)) (by (with_reducible repeat (first | refine blk_drewN ?_ _ | refine blk_drew ?_ | refine blk_alloc ?_ _)); exact BK456.out)) : gb456 ≠ gb457)); have n6_ := Aside0.mk ((by rw [hg]; exact Nat.ne_of_gt (blk_lt (g := gb456) (o := .cells #[.int .i64 a0_0, .int .i64 a0_1, .int .i64 a0_2, .int .i64 a0_3, .int .i64 a0_4, .int .i64 a0_5, .int .i64 a0_6, .int .i64 a0_7, .int .i64 a0_8, .int .i64 a0_9] 42 (0, 0)) (by (with_reducible repeat (first | refine blk_drewN ?_ _ | refine blk_drew ?_ | refine blk_alloc ?_ _)); exact BK456.out)) : gb457 ≠ gb456)); clear BK456; clear HB; have BK456 := n0_; have HB := n1_; have BK457 := n2_; have GW457 := n3_; have GE457 := n4_; have NB456_457 := n5_; have NB457_456 := n6_; clear n0_ n1_ n2_ n3_ n4_ n5_ n6_; clear hb hbox hg; have hnb8 := NB456_457.out; have hnc8 := NB457_456.out; have hcz9_0 : w7.cell? ⟨gb456, 0, none⟩ = some (.int .i64 a0_0) := (blk_cell BK456.out 0).trans rfl; have hcz9_1 : w7.cell? ⟨gb456, 1, none⟩ = some (.int .i64 a0_1) := (blk_cell BK456.out 1).trans rfl; have hcz9_2 : w7.cell? ⟨gb456, 2, none⟩ = some (.int .i64 a0_2) := (blk_cell BK456.out 2).trans rfl; have hcz9_3 : w7.cell? ⟨gb456, 3, none⟩ = some (.int .i64 a0_3) := (blk_cell BK456.out 3).trans rfl; have hcz9_4 : w7.cell? ⟨gb456, 4, none⟩ = some (.int .i64 a0_4) := (blk_cell BK456.out 4).trans rfl; have hcz9_5 : w7.cell? ⟨gb456, 5, none⟩ = some (.int .i64 a0_5) := (blk_cell BK456.out 5).trans rfl; have hcz9_6 : w7.cell? ⟨gb456, 6, none⟩ = some (.int .i64 a0_6) := (blk_cell BK456.out 6).trans rfl; have hcz9_7 : w7.cell? ⟨gb456, 7, none⟩ = some (.int .i64 a0_7) := (blk_cell BK456.out 7).trans rfl; have hcz9_8 : w7.cell? ⟨gb456, 8, none⟩ = some (.int .i64 a0_8) := (blk_cell BK456.out 8).trans rfl; have hcz9_9 : w7.cell? ⟨gb456, 9, none⟩ = some (.int .i64 a0_9) := (blk_cell BK456.out 9).trans rfl; have hfz9_0 := blk_frozen BK456.out 0; have hfz9_1 := blk_frozen BK456.out 1; have hfz9_2 := blk_frozen BK456.out 2; have hfz9_3 := blk_frozen BK456.out 3; have hfz9_4 := blk_frozen BK456.out 4; have hfz9_5 := blk_frozen BK456.out 5; have hfz9_6 := blk_frozen BK456.out 6; have hfz9_7 := blk_frozen BK456.out 7; have hfz9_8 := blk_frozen BK456.out 8; have hfz9_9 := blk_frozen BK456.out 9; have hcz10_0 : w7.cell? ⟨gb457, 0, none⟩ = some (.int .i64 a1_0) := (blk_cell BK457.out 0).trans rfl; have hcz10_1 : w7.cell? ⟨gb457, 1, none⟩ = some (.int .i64 a1_1) := (blk_cell BK457.out 1).trans rfl; have hcz10_2 : w7.cell? ⟨gb457, 2, none⟩ = some (.int .i64 a1_2) := (blk_cell BK457.out 2).trans rfl; have hfz10_0 := blk_frozen BK457.out 0; have hfz10_1 := blk_frozen BK457.out 1; have hfz10_2 := blk_frozen BK457.out 2) | ((with_reducible refine gate_callee (f := 22) rfl ?_); refine goesL_ (some 15) rfl rfl Try.func22 (by kernel_rfl) rfl #[.agg #[.int .i64 a0_0, .int .i64 a0_1, .int .i64 a0_2, .int .i64 a0_3, .int .i64 a0_4, .int .i64 a0_5, .int .i64 a0_6, .int .i64 a0_7, .int .i64 a0_8, .int .i64 0], .agg #[.int .i64 a1_0, .int .i64 a1_1, .int .i64 a1_2], .bool true] rfl (by (try simp only [List.map_toArray, List.map_cons, List.map_nil]); first | done | rfl | (simp only [List.length_drop, List.length_take]; rfl)) ?_; (with_reducible refine (door_Step.calls k a0_0 a0_1 a0_2 a0_3 a0_4 a0_5 a0_6 a0_7 a0_8 0 a1_0 a1_1 a1_2 true t458 t459 t460 t461 t462 _ A3.out).mono ?_); rintro e w11 ⟨rfl, hb⟩; refine ⟨_, rfl, ?_⟩; have n0_ := Aside0.mk (blk_below (g := gb456) (o := .cells #[.int .i64 a0_0, .int .i64 a0_1, .int .i64 a0_2, .int .i64 a0_3, .int .i64 a0_4, .int .i64 a0_5, .int .i64 a0_6, .int .i64 a0_7, .int .i64 a0_8, .int .i64 0] 42 (0, 0)) (by (with_reducible repeat (first | refine blk_drewN ?_ _ | refine blk_drew ?_ | refine blk_alloc ?_ _)); refine blk_put (cs := #[.int .i64 a0_0, .int .i64 a0_1, .int .i64 a0_2, .int .i64 a0_3, .int .i64 a0_4, .int .i64 a0_5, .int .i64 a0_6, .int .i64 a0_7, .int .i64 a0_8, .int .i64 a0_9]) ?_ 9 _ rfl; (with_reducible repeat (first | refine blk_drewN ?_ _ | refine blk_drew ?_ | refine blk_alloc ?_ _)); exact BK456.out) hb); have n1_ := Aside0.mk (blk_below (g := gb457) (o := .cells #[.int .i64 a1_0, .int .i64 a1_1, .int .i64 a1_2] 44 (0, 0)) (by (with_reducible repeat (first | refine blk_drewN ?_ _ | refine blk_drew ?_ | refine blk_alloc ?_ _)); refine blk_far ?_ NB457_456.out _; (with_reducible repeat (first | refine blk_drewN ?_ _ | refine blk_drew ?_ | refine blk_alloc ?_ _)); exact BK457.out) hb); have n2_ := Aside0.mk (below_step (by repeat (first | (with_reducible first | exact HB.out | apply below_alloc | apply pw_below_drewN | apply below_drew1 | refine below_set ?_ GE456.out | refine below_set ?_ GE457.out) | exact HB.out)) hb); clear BK456; clear BK457; clear HB; have BK456 := n0_; have BK457 := n1_; have HB := n2_; clear n0_ n1_ n2_; (try clear hb); (try clear hb2); (try clear hk); (try clear hi)) | ((with_reducible refine gate_dst (N := 5) rfl ?_); refine box_event ?hg (N := 5) ?hd (cs := #[.int .i64 0, .int .i64 0, .int .i64 0]) (t := 44) ?hr ?_; (case hd => rfl); (case hg => rfl); (case hr => first | (go_simp; done) | (go_simp; rfl)); intro gb463 hg w12 hbox hb; have n0_ := Aside0.mk (blk_below (g := gb456) (o := .cells #[.int .i64 a0_0, .int .i64 a0_1, .int .i64 a0_2, .int .i64 a0_3, .int .i64 a0_4, .int .i64 a0_5, .int .i64 a0_6, .int .i64 a0_7, .int .i64 a0_8, .int .i64 0] 42 (0, 0)) (by (with_reducible repeat (first | refine blk_drewN ?_ _ | refine blk_drew ?_ | refine blk_alloc ?_ _)); exact BK456.out) hb); have n1_ := Aside0.mk (blk_below (g := gb457) (o := .cells #[.int .i64 a1_0, .int .i64 a1_1, .int .i64 a1_2] 44 (0, 0)) (by (with_reducible repeat (first | refine blk_drewN ?_ _ | refine blk_drew ?_ | refine blk_alloc ?_ _)); exact BK457.out) hb); have n2_ := Aside0.mk (below_step (by repeat (first | (with_reducible first | exact HB.out | apply below_alloc | apply pw_below_drewN | apply below_drew1 | refine below_set ?_ GE456.out | refine below_set ?_ GE457.out) | exact HB.out)) hb); have n3_ := Aside0.mk (hbox); have n4_ := Aside0.mk ((by rw [hg]; exact (below_size (by repeat (first | (with_reducible first | exact HB.out | apply below_alloc | apply pw_below_drewN | apply below_drew1 | refine below_set ?_ GE456.out | refine below_set ?_ GE457.out) | exact HB.out))) : w.heap.size ≤ gb463)); have n5_ := Aside0.mk ((by rw [hg]; exact (below_size (by repeat (first | (with_reducible first | exact HB.out | apply below_alloc | apply pw_below_drewN | apply below_drew1 | refine below_set ?_ GE456.out | refine below_set ?_ GE457.out) | exact HB.out))) : w.heap.size ≤ gb463)); have n6_ := Aside0.mk ((by rw [hg]; exact Nat.ne_of_lt (blk_lt (g := gb456) (o := .cells #[.int .i64 a0_0, .int .i64 a0_1, .int .i64 a0_2, .int .i64 a0_3, .int .i64 a0_4, .int .i64 a0_5, .int .i64 a0_6, .int .i64 a0_7, .int .i64 a0_8, .int .i64 0] 42 (0, 0)) (by (with_reducible repeat (first | refine blk_drewN ?_ _ | refine blk_drew ?_ | refine blk_alloc ?_ _)); exact BK456.out)) : gb456 ≠ gb463)); have n7_ := Aside0.mk ((by rw [hg]; exact Nat.ne_of_gt (blk_lt (g := gb456) (o := .cells #[.int .i64 a0_0, .int .i64 a0_1, .int .i64 a0_2, .int .i64 a0_3, .int .i64 a0_4, .int .i64 a0_5, .int .i64 a0_6, .int .i64 a0_7, .int .i64 a0_8, .int .i64 0] 42 (0, 0)) (by (with_reducible repeat (first | refine blk_drewN ?_ _ | refine blk_drew ?_ | refine blk_alloc ?_ _)); exact BK456.out)) : gb463 ≠ gb456)); have n8_ := Aside0.mk ((by rw [hg]; exact Nat.ne_of_lt (blk_lt (g := gb457) (o := .cells #[.int .i64 a1_0, .int .i64 a1_1, .int .i64 a1_2] 44 (0, 0)) (by (with_reducible repeat (first | refine blk_drewN ?_ _ | refine blk_drew ?_ | refine blk_alloc ?_ _)); exact BK457.out)) : gb457 ≠ gb463)); have n9_ := Aside0.mk ((by rw [hg]; exact Nat.ne_of_gt (blk_lt (g := gb457) (o := .cells #[.int .i64 a1_0, .int .i64 a1_1, .int .i64 a1_2] 44 (0, 0)) (by (with_reducible repeat (first | refine blk_drewN ?_ _ | refine blk_drew ?_ | refine blk_alloc ?_ _)); exact BK457.out)) : gb463 ≠ gb457)); clear BK456; clear BK457; clear HB; have BK456 := n0_; have BK457 := n1_; have HB := n2_; have BK463 := n3_; have GW463 := n4_; have GE463 := n5_; have NB456_463 := n6_; have NB463_456 := n7_; have NB457_463 := n8_; have NB463_457 := n9_; clear n0_ n1_ n2_ n3_ n4_ n5_ n6_ n7_ n8_ n9_; clear hb hbox hg; have hnb13 := NB463_456.out; have hnc13 := NB456_463.out; have hnb14 := NB463_457.out; have hnc14 := NB457_463.out; have hcz15_0 : w12.cell? ⟨gb463, 0, none⟩ = some (.int .i64 0) := (blk_cell BK463.out 0).trans rfl; have hcz15_1 : w12.cell? ⟨gb463, 1, none⟩ = some (.int .i64 0) := (blk_cell BK463.out 1).trans rfl; have hcz15_2 : w12.cell? ⟨gb463, 2, none⟩ = some (.int .i64 0) := (blk_cell BK463.out 2).trans rfl; have hfz15_0 := blk_frozen BK463.out 0; have hfz15_1 := blk_frozen BK463.out 1; have hfz15_2 := blk_frozen BK463.out 2; have hcz16_0 : w12.cell? ⟨gb456, 0, none⟩ = some (.int .i64 a0_0) := (blk_cell BK456.out 0).trans rfl; have hcz16_1 : w12.cell? ⟨gb456, 1, none⟩ = some (.int .i64 a0_1) := (blk_cell BK456.out 1).trans rfl; have hcz16_2 : w12.cell? ⟨gb456, 2, none⟩ = some (.int .i64 a0_2) := (blk_cell BK456.out 2).trans rfl; have hcz16_3 : w12.cell? ⟨gb456, 3, none⟩ = some (.int .i64 a0_3) := (blk_cell BK456.out 3).trans rfl; have hcz16_4 : w12.cell? ⟨gb456, 4, none⟩ = some (.int .i64 a0_4) := (blk_cell BK456.out 4).trans rfl; have hcz16_5 : w12.cell? ⟨gb456, 5, none⟩ = some (.int .i64 a0_5) := (blk_cell BK456.out 5).trans rfl; have hcz16_6 : w12.cell? ⟨gb456, 6, none⟩ = some (.int .i64 a0_6) := (blk_cell BK456.out 6).trans rfl; have hcz16_7 : w12.cell? ⟨gb456, 7, none⟩ = some (.int .i64 a0_7) := (blk_cell BK456.out 7).trans rfl; have hcz16_8 : w12.cell? ⟨gb456, 8, none⟩ = some (.int .i64 a0_8) := (blk_cell BK456.out 8).trans rfl; have hcz16_9 : w12.cell? ⟨gb456, 9, none⟩ = some (.int .i64 0) := (blk_cell BK456.out 9).trans rfl; have hfz16_0 := blk_frozen BK456.out 0; have hfz16_1 := blk_frozen BK456.out 1; have hfz16_2 := blk_frozen BK456.out 2; have hfz16_3 := blk_frozen BK456.out 3; have hfz16_4 := blk_frozen BK456.out 4; have hfz16_5 := blk_frozen BK456.out 5; have hfz16_6 := blk_frozen BK456.out 6; have hfz16_7 := blk_frozen BK456.out 7; have hfz16_8 := blk_frozen BK456.out 8; have hfz16_9 := blk_frozen BK456.out 9; have hcz17_0 : w12.cell? ⟨gb457, 0, none⟩ = some (.int .i64 a1_0) := (blk_cell BK457.out 0).trans rfl; have hcz17_1 : w12.cell? ⟨gb457, 1, none⟩ = some (.int .i64 a1_1) := (blk_cell BK457.out 1).trans rfl; have hcz17_2 : w12.cell? ⟨gb457, 2, none⟩ = some (.int .i64 a1_2) := (blk_cell BK457.out 2).trans rfl; have hfz17_0 := blk_frozen BK457.out 0; have hfz17_1 := blk_frozen BK457.out 1; have hfz17_2 := blk_frozen BK457.out 2) | ((with_reducible refine gate_callee (f := 22) rfl ?_); refine goesL_ (some 22) rfl rfl Try.func22 (by kernel_rfl) rfl #[.agg #[.int .i64 a0_0, .int .i64 a0_1, .int .i64 a0_2, .int .i64 a0_3, .int .i64 a0_4, .int .i64 a0_5, .int .i64 a0_6, .int .i64 a0_7, .int .i64 a0_8, .int .i64 0], .agg #[.int .i64 a1_0, .int .i64 a1_1, .int .i64 a1_2], .bool false] rfl (by (try simp only [List.map_toArray, List.map_cons, List.map_nil]); first | done | rfl | (simp only [List.length_drop, List.length_take]; rfl)) ?_; (with_reducible refine (door_Step.calls k a0_0 a0_1 a0_2 a0_3 a0_4 a0_5 a0_6 a0_7 a0_8 0 a1_0 a1_1 a1_2 false t464 t465 t466 t467 t468 _ A4.out).mono ?_); rintro e w18 ⟨rfl, hb⟩; refine ⟨_, rfl, ?_⟩; have n0_ := Aside0.mk (blk_below (g := gb456) (o := .cells #[.int .i64 a0_0, .int .i64 a0_1, .int .i64 a0_2, .int .i64 a0_3, .int .i64 a0_4, .int .i64 a0_5, .int .i64 a0_6, .int .i64 a0_7, .int .i64 a0_8, .int .i64 0] 42 (0, 0)) (by (with_reducible repeat (first | refine blk_drewN ?_ _ | refine blk_drew ?_ | refine blk_alloc ?_ _)); refine blk_far ?_ NB456_463.out _; (with_reducible repeat (first | refine blk_drewN ?_ _ | refine blk_drew ?_ | refine blk_alloc ?_ _)); refine blk_far ?_ NB456_463.out _; (with_reducible repeat (first | refine blk_drewN ?_ _ | refine blk_drew ?_ | refine blk_alloc ?_ _)); refine blk_far ?_ NB456_463.out _; (with_reducible repeat (first | refine blk_drewN ?_ _ | refine blk_drew ?_ | refine blk_alloc ?_ _)); exact BK456.out) hb); have n1_ := Aside0.mk (blk_below (g := gb457) (o := .cells #[.int .i64 a1_0, .int .i64 a1_1, .int .i64 a1_2] 44 (0, 0)) (by (with_reducible repeat (first | refine blk_drewN ?_ _ | refine blk_drew ?_ | refine blk_alloc ?_ _)); refine blk_far ?_ NB457_463.out _; (with_reducible repeat (first | refine blk_drewN ?_ _ | refine blk_drew ?_ | refine blk_alloc ?_ _)); refine blk_far ?_ NB457_463.out _; (with_reducible repeat (first | refine blk_drewN ?_ _ | refine blk_drew ?_ | refine blk_alloc ?_ _)); refine blk_far ?_ NB457_463.out _; (with_reducible repeat (first | refine blk_drewN ?_ _ | refine blk_drew ?_ | refine blk_alloc ?_ _)); exact BK457.out) hb); have n2_ := Aside0.mk (blk_below (g := gb463) (o := .cells #[.int .i64 t458, .int .i64 t459, .int .i64 t460] 44 (0, 0)) (by (with_reducible repeat (first | refine blk_drewN ?_ _ | refine blk_drew ?_ | refine blk_alloc ?_ _)); refine blk_put (cs := #[.int .i64 t458, .int .i64 t459, .int .i64 0]) ?_ 2 _ rfl; (with_reducible repeat (first | refine blk_drewN ?_ _ | refine blk_drew ?_ | refine blk_alloc ?_ _)); refine blk_put (cs := #[.int .i64 t458, .int .i64 0, .int .i64 0]) ?_ 1 _ rfl; (with_reducible repeat (first | refine blk_drewN ?_ _ | refine blk_drew ?_ | refine blk_alloc ?_ _)); refine blk_put (cs := #[.int .i64 0, .int .i64 0, .int .i64 0]) ?_ 0 _ rfl; (with_reducible repeat (first | refine blk_drewN ?_ _ | refine blk_drew ?_ | refine blk_alloc ?_ _)); exact BK463.out) hb); have n3_ := Aside0.mk (below_step (by repeat (first | (with_reducible first | exact HB.out | apply below_alloc | apply pw_below_drewN | apply below_drew1 | refine below_set ?_ GE456.out | refine below_set ?_ GE457.out | refine below_set ?_ GE463.out) | exact HB.out)) hb); clear BK456; clear BK457; clear BK463; clear HB; have BK456 := n0_; have BK457 := n1_; have BK463 := n2_; have HB := n3_; clear n0_ n1_ n2_ n3_; (try clear hb); (try clear hb2); (try clear hk); (try clear hi)) | ((with_reducible refine gate_dst (N := 8) rfl ?_); refine box_event ?hg (N := 8) ?hd (cs := #[.int .i64 0, .int .i64 0, .int .i64 0]) (t := 44) ?hr ?_; (case hd => rfl); (case hg => rfl); (case hr => first | (go_simp; done) | (go_simp; rfl)); intro gb469 hg w19 hbox hb; have n0_ := Aside0.mk (blk_below (g := gb456) (o := .cells #[.int .i64 a0_0, .int .i64 a0_1, .int .i64 a0_2, .int .i64 a0_3, .int .i64 a0_4, .int .i64 a0_5, .int .i64 a0_6, .int .i64 a0_7, .int .i64 a0_8, .int .i64 0] 42 (0, 0)) (by (with_reducible repeat (first | refine blk_drewN ?_ _ | refine blk_drew ?_ | refine blk_alloc ?_ _)); exact BK456.out) hb); have n1_ := Aside0.mk (blk_below (g := gb457) (o := .cells #[.int .i64 a1_0, .int .i64 a1_1, .int .i64 a1_2] 44 (0, 0)) (by (with_reducible repeat (first | refine blk_drewN ?_ _ | refine blk_drew ?_ | refine blk_alloc ?_ _)); exact BK457.out) hb); have n2_ := Aside0.mk (blk_below (g := gb463) (o := .cells #[.int .i64 t458, .int .i64 t459, .int .i64 t460] 44 (0, 0)) (by (with_reducible repeat (first | refine blk_drewN ?_ _ | refine blk_drew ?_ | refine blk_alloc ?_ _)); exact BK463.out) hb); have n3_ := Aside0.mk (below_step (by repeat (first | (with_reducible first | exact HB.out | apply below_alloc | apply pw_below_drewN | apply below_drew1 | refine below_set ?_ GE456.out | refine below_set ?_ GE457.out | refine below_set ?_ GE463.out) | exact HB.out)) hb); have n4_ := Aside0.mk (hbox); have n5_ := Aside0.mk ((by rw [hg]; exact (below_size (by repeat (first | (with_reducible first | exact HB.out | apply below_alloc | apply pw_below_drewN | apply below_drew1 | refine below_set ?_ GE456.out | refine below_set ?_ GE457.out | refine below_set ?_ GE463.out) | exact HB.out))) : w.heap.size ≤ gb469)); have n6_ := Aside0.mk ((by rw [hg]; exact (below_size (by repeat (first | (with_reducible first | exact HB.out | apply below_alloc | apply pw_below_drewN | apply below_drew1 | refine below_set ?_ GE456.out | refine below_set ?_ GE457.out | refine below_set ?_ GE463.out) | exact HB.out))) : w.heap.size ≤ gb469)); have n7_ := Aside0.mk ((by rw [hg]; exact Nat.ne_of_lt (blk_lt (g := gb456) (o := .cells #[.int .i64 a0_0, .int .i64 a0_1, .int .i64 a0_2, .int .i64 a0_3, .int .i64 a0_4, .int .i64 a0_5, .int .i64 a0_6, .int .i64 a0_7, .int .i64 a0_8, .int .i64 0] 42 (0, 0)) (by (with_reducible repeat (first | refine blk_drewN ?_ _ | refine blk_drew ?_ | refine blk_alloc ?_ _)); exact BK456.out)) : gb456 ≠ gb469)); have n8_ := Aside0.mk ((by rw [hg]; exact Nat.ne_of_gt (blk_lt (g := gb456) (o := .cells #[.int .i64 a0_0, .int .i64 a0_1, .int .i64 a0_2, .int .i64 a0_3, .int .i64 a0_4, .int .i64 a0_5, .int .i64 a0_6, .int .i64 a0_7, .int .i64 a0_8, .int .i64 0] 42 (0, 0)) (by (with_reducible repeat (first | refine blk_drewN ?_ _ | refine blk_drew ?_ | refine blk_alloc ?_ _)); exact BK456.out)) : gb469 ≠ gb456)); have n9_ := Aside0.mk ((by rw [hg]; exact Nat.ne_of_lt (blk_lt (g := gb457) (o := .cells #[.int .i64 a1_0, .int .i64 a1_1, .int .i64 a1_2] 44 (0, 0)) (by (with_reducible repeat (first | refine blk_drewN ?_ _ | refine blk_drew ?_ | refine blk_alloc ?_ _)); exact BK457.out)) : gb457 ≠ gb469)); have n10_ := Aside0.mk ((by rw [hg]; exact Nat.ne_of_gt (blk_lt (g := gb457) (o := .cells #[.int .i64 a1_0, .int .i64 a1_1, .int .i64 a1_2] 44 (0, 0)) (by (with_reducible repeat (first | refine blk_drewN ?_ _ | refine blk_drew ?_ | refine blk_alloc ?_ _)); exact BK457.out)) : gb469 ≠ gb457)); have n11_ := Aside0.mk ((by rw [hg]; exact Nat.ne_of_lt (blk_lt (g := gb463) (o := .cells #[.int .i64 t458, .int .i64 t459, .int .i64 t460] 44 (0, 0)) (by (with_reducible repeat (first | refine blk_drewN ?_ _ | refine blk_drew ?_ | refine blk_alloc ?_ _)); exact BK463.out)) : gb463 ≠ gb469)); have n12_ := Aside0.mk ((by rw [hg]; exact Nat.ne_of_gt (blk_lt (g := gb463) (o := .cells #[.int .i64 t458, .int .i64 t459, .int .i64 t460] 44 (0, 0)) (by (with_reducible repeat (first | refine blk_drewN ?_ _ | refine blk_drew ?_ | refine blk_alloc ?_ _)); exact BK463.out)) : gb469 ≠ gb463)); clear BK456; clear BK457; clear BK463; clear HB; have BK456 := n0_; have BK457 := n1_; have BK463 := n2_; have HB := n3_; have BK469 := n4_; have GW469 := n5_; have GE469 := n6_; have NB456_469 := n7_; have NB469_456 := n8_; have NB457_469 := n9_; have NB469_457 := n10_; have NB463_469 := n11_; have NB469_463 := n12_; clear n0_ n1_ n2_ n3_ n4_ n5_ n6_ n7_ n8_ n9_ n10_ n11_ n12_; clear hb hbox hg; have hnb20 := NB469_456.out; have hnc20 := NB456_469.out; have hnb21 := NB469_457.out; have hnc21 := NB457_469.out; have hnb22 := NB469_463.out; have hnc22 := NB463_469.out; have hcz23_0 : w19.cell? ⟨gb469, 0, none⟩ = some (.int .i64 0) := (blk_cell BK469.out 0).trans rfl; have hcz23_1 : w19.cell? ⟨gb469, 1, none⟩ = some (.int .i64 0) := (blk_cell BK469.out 1).trans rfl; have hcz23_2 : w19.cell? ⟨gb469, 2, none⟩ = some (.int .i64 0) := (blk_cell BK469.out 2).trans rfl; have hfz23_0 := blk_frozen BK469.out 0; have hfz23_1 := blk_frozen BK469.out 1; have hfz23_2 := blk_frozen BK469.out 2))
 (try simp only [Act.put, List.setIfInBounds_toArray, List.set_cons_zero, List.set_cons_succ])
 go_cut [4] (fun v4 wc => ∃ (kq : Nat) (x4_4 : Bool), v4 = .bool x4_4 ∧ Aside0 (newellaw17_DoorDeaf.j0 kq x4_4 = some r) ∧ Aside0 (kq ≤ k) ∧ Aside0 (wc.heap[gb456]? = some (.cells #[.int .i64 a0_0, .int .i64 a0_1, .int .i64 a0_2, .int .i64 a0_3, .int .i64 a0_4, .int .i64 a0_5, .int .i64 a0_6, .int .i64 a0_7, .int .i64 a0_8, .int .i64 0] 42 (0, 0))) ∧ Aside0 (wc.heap[gb457]? = some (.cells #[.int .i64 a1_0, .int .i64 a1_1, .int .i64 a1_2] 44 (0, 0))) ∧ Aside0 (wc.heap[gb463]? = some (.cells #[.int .i64 t458, .int .i64 t459, .int .i64 t460] 44 (0, 0))) ∧ Aside0 (wc.heap[gb469]? = some (.cells #[.int .i64 t464, .int .i64 t465, .int .i64 t466] 44 (0, 0))) ∧ Aside0 (Below w.heap.size w wc))
 case first =>
  have H := HC5.out
  clear HC5
  replace H := Option.bind_eq_some_iff.mp H
  obtain ⟨t470, A240, H⟩ := H
  replace H : (if t470 = true then (if (t458 == t464 && (t459 == t465 && (t460 == t466))) = true then (if (t461 == t467) = true then (newellaw17_DoorDeaf.j0 k (t462 == t468)) else (none)) else (none)) else (none)) = some r := H
  have A24 := Aside0.mk A240
  clear A240
  by_cases c25 : t470 = true
  ·subst c25
   have H1 : (if (t458 == t464 && (t459 == t465 && (t460 == t466))) = true then (if (t461 == t467) = true then (newellaw17_DoorDeaf.j0 k (t462 == t468)) else (none)) else (none)) = some r := by rw [if_pos rfl] at H; exact H
   clear H
   have H := H1
   clear H1
   by_cases c26 : (t458 == t464 && (t459 == t465 && (t460 == t466))) = true
   ·rw [if_pos c26] at H
    have c26b0 : (t458 == t464 && (t459 == t465 && (t460 == t466))) = true := c26
    (try (have c26s0 := c26b0; simp only [beq_self_eq_true, bne_self_eq_false, Bool.not_true, Bool.not_false, Bool.true_and, Bool.and_true, Bool.false_or, Bool.or_false] at c26s0))
    (try (have c26b1 : decide (t458 = t464 && (t459 == t465 && (t460 == t466))) = true := by simpa using c26))
    (try (have c26b2 : (t458 == t464 && (t459 == t465 && (t460 == t466))) = true := by simpa using c26))
    clear c26
    (first | rw [c26b0] | (simp only [i64_w, i32_w]; rw [c26b0]) | skip)
    by_cases c27 : (t461 == t467) = true
    ·rw [if_pos c27] at H
     have c27b0 : (t461 == t467) = true := c27
     (try (have c27s0 := c27b0; simp only [beq_self_eq_true, bne_self_eq_false, Bool.not_true, Bool.not_false, Bool.true_and, Bool.and_true, Bool.false_or, Bool.or_false] at c27s0))
     (try (have c27b1 : decide (t461 = t467) = true := by simpa using c27))
     (try (have c27b2 : (t461 == t467) = true := by simpa using c27))
     clear c27
     have H' := Aside0.mk H
     clear H
     go_wp2_with (first | ((with_reducible refine gate_callee (f := 26) rfl ?_); refine goesL_ (some 26) rfl rfl Try.func26 (by kernel_rfl) rfl #[] rfl (by (try simp only [List.map_toArray, List.map_cons, List.map_nil]); first | done | rfl | (simp only [List.length_drop, List.length_take]; rfl)) ?_; (with_reducible refine (newellaw17_awake.calls k  true _ A24.out).mono ?_); rintro e w28 ⟨rfl, hb⟩; refine ⟨_, rfl, ?_⟩; have n0_ := Aside0.mk (blk_below (g := gb456) (o := .cells #[.int .i64 a0_0, .int .i64 a0_1, .int .i64 a0_2, .int .i64 a0_3, .int .i64 a0_4, .int .i64 a0_5, .int .i64 a0_6, .int .i64 a0_7, .int .i64 a0_8, .int .i64 0] 42 (0, 0)) (by (with_reducible repeat (first | refine blk_drewN ?_ _ | refine blk_drew ?_ | refine blk_alloc ?_ _)); refine blk_far ?_ NB456_469.out _; (with_reducible repeat (first | refine blk_drewN ?_ _ | refine blk_drew ?_ | refine blk_alloc ?_ _)); refine blk_far ?_ NB456_469.out _; (with_reducible repeat (first | refine blk_drewN ?_ _ | refine blk_drew ?_ | refine blk_alloc ?_ _)); refine blk_far ?_ NB456_469.out _; (with_reducible repeat (first | refine blk_drewN ?_ _ | refine blk_drew ?_ | refine blk_alloc ?_ _)); exact BK456.out) hb); have n1_ := Aside0.mk (blk_below (g := gb457) (o := .cells #[.int .i64 a1_0, .int .i64 a1_1, .int .i64 a1_2] 44 (0, 0)) (by (with_reducible repeat (first | refine blk_drewN ?_ _ | refine blk_drew ?_ | refine blk_alloc ?_ _)); refine blk_far ?_ NB457_469.out _; (with_reducible repeat (first | refine blk_drewN ?_ _ | refine blk_drew ?_ | refine blk_alloc ?_ _)); refine blk_far ?_ NB457_469.out _; (with_reducible repeat (first | refine blk_drewN ?_ _ | refine blk_drew ?_ | refine blk_alloc ?_ _)); refine blk_far ?_ NB457_469.out _; (with_reducible repeat (first | refine blk_drewN ?_ _ | refine blk_drew ?_ | refine blk_alloc ?_ _)); exact BK457.out) hb); have n2_ := Aside0.mk (blk_below (g := gb463) (o := .cells #[.int .i64 t458, .int .i64 t459, .int .i64 t460] 44 (0, 0)) (by (with_reducible repeat (first | refine blk_drewN ?_ _ | refine blk_drew ?_ | refine blk_alloc ?_ _)); refine blk_far ?_ NB463_469.out _; (with_reducible repeat (first | refine blk_drewN ?_ _ | refine blk_drew ?_ | refine blk_alloc ?_ _)); refine blk_far ?_ NB463_469.out _; (with_reducible repeat (first | refine blk_drewN ?_ _ | refine blk_drew ?_ | refine blk_alloc ?_ _)); refine blk_far ?_ NB463_469.out _; (with_reducible repeat (first | refine blk_drewN ?_ _ | refine blk_drew ?_ | refine blk_alloc ?_ _)); exact BK463.out) hb); have n3_ := Aside0.mk (blk_below (g := gb469) (o := .cells #[.int .i64 t464, .int .i64 t465, .int .i64 t466] 44 (0, 0)) (by (with_reducible repeat (first | refine blk_drewN ?_ _ | refine blk_drew ?_ | refine blk_alloc ?_ _)); refine blk_put (cs := #[.int .i64 t464, .int .i64 t465, .int .i64 0]) ?_ 2 _ rfl; (with_reducible repeat (first | refine blk_drewN ?_ _ | refine blk_drew ?_ | refine blk_alloc ?_ _)); refine blk_put (cs := #[.int .i64 t464, .int .i64 0, .int .i64 0]) ?_ 1 _ rfl; (with_reducible repeat (first | refine blk_drewN ?_ _ | refine blk_drew ?_ | refine blk_alloc ?_ _)); refine blk_put (cs := #[.int .i64 0, .int .i64 0, .int .i64 0]) ?_ 0 _ rfl; (with_reducible repeat (first | refine blk_drewN ?_ _ | refine blk_drew ?_ | refine blk_alloc ?_ _)); exact BK469.out) hb); have n4_ := Aside0.mk (below_step (by repeat (first | (with_reducible first | exact HB.out | apply below_alloc | apply pw_below_drewN | apply below_drew1 | refine below_set ?_ GE456.out | refine below_set ?_ GE457.out | refine below_set ?_ GE463.out | refine below_set ?_ GE469.out) | exact HB.out)) hb); clear BK456; clear BK457; clear BK463; clear BK469; clear HB; have BK456 := n0_; have BK457 := n1_; have BK463 := n2_; have BK469 := n3_; have HB := n4_; clear n0_ n1_ n2_ n3_ n4_; (try clear hb); (try clear hb2); (try clear hk); (try clear hi); have hnb29 := NB463_456.out; have hnc29 := NB456_463.out; have hnb30 := NB463_457.out; have hnc30 := NB457_463.out; have hnb31 := NB463_469.out; have hnc31 := NB469_463.out; have hcz32_0 : w28.cell? ⟨gb463, 0, none⟩ = some (.int .i64 t458) := (blk_cell BK463.out 0).trans rfl; have hcz32_1 : w28.cell? ⟨gb463, 1, none⟩ = some (.int .i64 t459) := (blk_cell BK463.out 1).trans rfl; have hcz32_2 : w28.cell? ⟨gb463, 2, none⟩ = some (.int .i64 t460) := (blk_cell BK463.out 2).trans rfl; have hfz32_0 := blk_frozen BK463.out 0; have hfz32_1 := blk_frozen BK463.out 1; have hfz32_2 := blk_frozen BK463.out 2; have hnb33 := NB469_456.out; have hnc33 := NB456_469.out; have hnb34 := NB469_457.out; have hnc34 := NB457_469.out; have hcz35_0 : w28.cell? ⟨gb469, 0, none⟩ = some (.int .i64 t464) := (blk_cell BK469.out 0).trans rfl; have hcz35_1 : w28.cell? ⟨gb469, 1, none⟩ = some (.int .i64 t465) := (blk_cell BK469.out 1).trans rfl; have hcz35_2 : w28.cell? ⟨gb469, 2, none⟩ = some (.int .i64 t466) := (blk_cell BK469.out 2).trans rfl; have hfz35_0 := blk_frozen BK469.out 0; have hfz35_1 := blk_frozen BK469.out 1; have hfz35_2 := blk_frozen BK469.out 2))
     go_meet
     case rel => exact ⟨_, ((t462 == t468)), (by first | rfl | (simp; done) | (simp [*]; done)), H', ⟨by first | omega | exact Nat.le_refl _⟩, ⟨by (with_reducible repeat (first | refine blk_drewN ?_ _ | refine blk_drew ?_ | refine blk_alloc ?_ _)); exact BK456.out⟩, ⟨by (with_reducible repeat (first | refine blk_drewN ?_ _ | refine blk_drew ?_ | refine blk_alloc ?_ _)); exact BK457.out⟩, ⟨by (with_reducible repeat (first | refine blk_drewN ?_ _ | refine blk_drew ?_ | refine blk_alloc ?_ _)); exact BK463.out⟩, ⟨by (with_reducible repeat (first | refine blk_drewN ?_ _ | refine blk_drew ?_ | refine blk_alloc ?_ _)); exact BK469.out⟩, ⟨by repeat (first | (with_reducible first | exact HB.out | apply below_alloc | apply pw_below_drewN | apply below_drew1 | refine below_set ?_ GE456.out | refine below_set ?_ GE457.out | refine below_set ?_ GE463.out | refine below_set ?_ GE469.out) | exact HB.out)⟩⟩
    ·rw [if_neg c27] at H
     exact absurd H (by simp)
   ·rw [if_neg c26] at H
    exact absurd H (by simp)
  ·replace c25 := Bool.eq_false_iff.mpr c25
   subst c25
   have H1 : (none) = some r := by rw [if_neg (show ¬ (false = true) by decide)] at H; exact H
   clear H
   have H := H1
   clear H1
   exact absurd H (by simp)
 case rest =>
  clear HC5
  try clear c1
  try clear c2
  try clear p2
  try clear c3
  try clear c8
  try clear c12
  try clear c13
  try clear c14
  try clear c20
  try clear c21
  try clear c22
  try clear c25
  try clear c26
  try clear c26b0
  try clear c26b1
  try clear c26b2
  try clear c27
  try clear c27b0
  try clear c27b1
  try clear c27b2
  try clear c29
  try clear c30
  try clear c31
  try clear c33
  try clear c34
  try clear hcz10_0
  try clear hcz10_1
  try clear hcz10_2
  try clear hcz15_0
  try clear hcz15_1
  try clear hcz15_2
  try clear hcz16_0
  try clear hcz16_1
  try clear hcz16_2
  try clear hcz16_3
  try clear hcz16_4
  try clear hcz16_5
  try clear hcz16_6
  try clear hcz16_7
  try clear hcz16_8
  try clear hcz16_9
  try clear hcz17_0
  try clear hcz17_1
  try clear hcz17_2
  try clear hcz23_0
  try clear hcz23_1
  try clear hcz23_2
  try clear hcz32_0
  try clear hcz32_1
  try clear hcz32_2
  try clear hcz35_0
  try clear hcz35_1
  try clear hcz35_2
  try clear hcz9_0
  try clear hcz9_1
  try clear hcz9_2
  try clear hcz9_3
  try clear hcz9_4
  try clear hcz9_5
  try clear hcz9_6
  try clear hcz9_7
  try clear hcz9_8
  try clear hcz9_9
  try clear hfz10_0
  try clear hfz10_1
  try clear hfz10_2
  try clear hfz15_0
  try clear hfz15_1
  try clear hfz15_2
  try clear hfz16_0
  try clear hfz16_1
  try clear hfz16_2
  try clear hfz16_3
  try clear hfz16_4
  try clear hfz16_5
  try clear hfz16_6
  try clear hfz16_7
  try clear hfz16_8
  try clear hfz16_9
  try clear hfz17_0
  try clear hfz17_1
  try clear hfz17_2
  try clear hfz23_0
  try clear hfz23_1
  try clear hfz23_2
  try clear hfz32_0
  try clear hfz32_1
  try clear hfz32_2
  try clear hfz35_0
  try clear hfz35_1
  try clear hfz35_2
  try clear hfz9_0
  try clear hfz9_1
  try clear hfz9_2
  try clear hfz9_3
  try clear hfz9_4
  try clear hfz9_5
  try clear hfz9_6
  try clear hfz9_7
  try clear hfz9_8
  try clear hfz9_9
  obtain ⟨kq, x4_4, rfl, HA, HJ4, BK456, BK457, BK463, BK469, HB⟩ := hcut
  cases kq with
  | zero => exact absurd HA.out (by simp [newellaw17_DoorDeaf.j0])
  | succ kj4 =>
   have H := HA.out
   clear HA
   simp only [newellaw17_DoorDeaf.j0] at H
   obtain rfl := Option.some.inj H
   go_wp2
   go_ret
   exact ⟨by first | rfl | (simp [errW_none, errW_some] <;> rfl) | (simp [*, errW_none, errW_some] <;> rfl), by repeat (first | (with_reducible first | exact HB.out | apply below_alloc | apply pw_below_drewN | apply below_drew1 | refine below_set ?_ GE456.out | refine below_set ?_ GE457.out | refine below_set ?_ GE463.out | refine below_set ?_ GE469.out) | exact HB.out)⟩

end Go.Proofs.Ytjfikeahafflfaa.C
