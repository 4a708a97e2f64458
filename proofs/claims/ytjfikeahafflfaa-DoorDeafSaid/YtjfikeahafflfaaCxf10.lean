-- Written by a program of this session (wip/pp: the kit's print, changed), out of the translation. Lean checks it.
import Derived.Test.YtjfikeahafflfaaCx0
import Derived.Test.YtjfikeahafflfaaCxe44
import Derived.Test.YtjfikeahafflfaaCxf23
import Derived.Test.YtjfikeahafflfaaCxf26
import Derived.Test.YtjfikeahafflfaaStep
namespace Go.Proofs.Ytjfikeahafflfaa.C
open Go.RowKit Go.Proofs.YtjfikeahafflfaaW.PrintWords Go.Proofs.YtjfikeahafflfaaW.PrintLast Go.Proofs.YtjfikeahafflfaaW.PrintMore
attribute [local go_sem] max2_int min2_int max_two min_two max_three min_three max_four min_four   -- for this text's walks alone
set_option linter.unusedVariables false
set_option linter.unusedSimpArgs false

attribute [local go_sem high] eqA44
/-! ### newellaw17_DoorFalls: function 10 -/
mutual
def newellaw17_DoorFalls.j0 : Nat → Int → Int → Int → Bool → Int → Int → Int → Int → Int → Int → Int → Int → Int → Int → Int → Int → Int → Int → Int → Int → Option (Bool)
 | 0, _, _, _, _, _, _, _, _, _, _, _, _, _, _, _, _, _, _, _, _ => none
 | k + 1, x7, x8, x11, x33, x423000, x423001, x423002, x423003, x423004, x423005, x423006, x423007, x423008, x423009, x424000, x424001, x424002, x432000, x432001, x432002 => if x33 = true then ((newellaw17_awake.f k).bind fun t432 => (if t432 = true then (some (x8 == x11)) else (none))) else ((door_Rest.f k x423000 x423001 x423002 x423003 x423004 x423005 x423006 x423007 x423008 x423009 x432000 x432001 x432002).bind fun bt433 => (if x424000 = 0 then ((newellaw17_awake.f k).bind fun t435 => (if t435 = true then (if (x432000 == x424000 && (x432001 == x424001 && (x432002 == x424002))) = true then (if x7 = 0 then (newellaw17_DoorFalls.j1 k (bt433.1 == 0)) else (none)) else (none)) else (none))) else ((newellaw17_awake.f k).bind fun t436 => (if t436 = true then (if bt433.2 = 0 then (if x7 ≥ 1 then (if bt433.1 ≤ (wrap64 (x7 - 1)) then (if bt433.1 ≥ 0 then (if ((bt433.1 == 0) == (x432000 == 0)) = true then (newellaw17_DoorFalls.j2 k (decide (x432002 ≤ (mx x424002 x423009)))) else (none)) else (none)) else (none)) else (none)) else (none)) else (none)))))
def newellaw17_DoorFalls.j1 : Nat → Bool → Option (Bool)
 | 0, _ => none
 | k + 1, x6 => some x6
def newellaw17_DoorFalls.j2 : Nat → Bool → Option (Bool)
 | 0, _ => none
 | k + 1, x6 => some x6
end
def newellaw17_DoorFalls.f (k : Nat) (a0_0 : Int) (a0_1 : Int) (a0_2 : Int) (a0_3 : Int) (a0_4 : Int) (a0_5 : Int) (a0_6 : Int) (a0_7 : Int) (a0_8 : Int) (a0_9 : Int) (a1_0 : Int) (a1_1 : Int) (a1_2 : Int) (a2 : Bool) : Option (Bool) := (door_Rest.f k a0_0 a0_1 a0_2 a0_3 a0_4 a0_5 a0_6 a0_7 a0_8 a0_9 a1_0 a1_1 a1_2).bind fun bt424 => ((door_Step.f k a0_0 a0_1 a0_2 a0_3 a0_4 a0_5 a0_6 a0_7 a0_8 a0_9 a1_0 a1_1 a1_2 a2).bind fun bt426 => (if bt424.2 = 0 then (newellaw17_DoorFalls.j0 k bt424.1 bt424.2 bt426.2.2.2.2 (bt426.2.2.2.2 != 0) a0_0 a0_1 a0_2 a0_3 a0_4 a0_5 a0_6 a0_7 a0_8 a0_9 a1_0 a1_1 a1_2 bt426.1 bt426.2.1 bt426.2.2.1) else (newellaw17_DoorFalls.j0 k bt424.1 bt424.2 bt426.2.2.2.2 true a0_0 a0_1 a0_2 a0_3 a0_4 a0_5 a0_6 a0_7 a0_8 a0_9 a1_0 a1_1 a1_2 bt426.1 bt426.2.1 bt426.2.2.1)))
theorem newellaw17_DoorFalls.mono_l : ∀ k, (∀ y0 y1 y2 y3 y4 y5 y6 y7 y8 y9 y10 y11 y12 y13 y14 y15 y16 y17 y18 y19, LeO (newellaw17_DoorFalls.j0 k y0 y1 y2 y3 y4 y5 y6 y7 y8 y9 y10 y11 y12 y13 y14 y15 y16 y17 y18 y19) (newellaw17_DoorFalls.j0 (k + 1) y0 y1 y2 y3 y4 y5 y6 y7 y8 y9 y10 y11 y12 y13 y14 y15 y16 y17 y18 y19)) ∧ (∀ y0, LeO (newellaw17_DoorFalls.j1 k y0) (newellaw17_DoorFalls.j1 (k + 1) y0)) ∧ (∀ y0, LeO (newellaw17_DoorFalls.j2 k y0) (newellaw17_DoorFalls.j2 (k + 1) y0))
 | 0 => ⟨fun _ _ _ _ _ _ _ _ _ _ _ _ _ _ _ _ _ _ _ _ r h => by simp [newellaw17_DoorFalls.j0] at h, fun _ r h => by simp [newellaw17_DoorFalls.j1] at h, fun _ r h => by simp [newellaw17_DoorFalls.j2] at h⟩
 | k + 1 => by
  obtain ⟨ih0, ih1, ih2⟩ := newellaw17_DoorFalls.mono_l k
  refine ⟨?_, ?_, ?_⟩
  ·intro y0 y1 y2 y3 y4 y5 y6 y7 y8 y9 y10 y11 y12 y13 y14 y15 y16 y17 y18 y19
   unfold newellaw17_DoorFalls.j0
   repeat' first
   | (with_reducible exact ih0 _ _ _ _ _ _ _ _ _ _ _ _ _ _ _ _ _ _ _ _)
   | (with_reducible exact ih1 _)
   | (with_reducible exact ih2 _)
   | (with_reducible exact door_Rest.mono _ _ _ _ _ _ _ _ _ _ _ _ _ _)
   | (with_reducible exact door_Step.mono _ _ _ _ _ _ _ _ _ _ _ _ _ _ _)
   | (with_reducible exact newellaw17_awake.mono _)
   | (with_reducible exact LeO.refl _)
   | (with_reducible exact LeO.none _)
   | (with_reducible refine LeO.ite ?_ ?_)
   | (with_reducible refine LeO.bind ?_ (fun _ => ?_))
   | exact ih0 _ _ _ _ _ _ _ _ _ _ _ _ _ _ _ _ _ _ _ _
   | exact ih1 _
   | exact ih2 _
   | exact door_Rest.mono _ _ _ _ _ _ _ _ _ _ _ _ _ _
   | exact door_Step.mono _ _ _ _ _ _ _ _ _ _ _ _ _ _ _
   | exact newellaw17_awake.mono _
   | exact LeO.none _
   | refine LeO.ite ?_ ?_
   | refine LeO.bind ?_ (fun _ => ?_)
  ·intro y0
   unfold newellaw17_DoorFalls.j1
   repeat' first
   | (with_reducible exact ih0 _ _ _ _ _ _ _ _ _ _ _ _ _ _ _ _ _ _ _ _)
   | (with_reducible exact ih1 _)
   | (with_reducible exact ih2 _)
   | (with_reducible exact door_Rest.mono _ _ _ _ _ _ _ _ _ _ _ _ _ _)
   | (with_reducible exact door_Step.mono _ _ _ _ _ _ _ _ _ _ _ _ _ _ _)
   | (with_reducible exact newellaw17_awake.mono _)
   | (with_reducible exact LeO.refl _)
   | (with_reducible exact LeO.none _)
   | (with_reducible refine LeO.ite ?_ ?_)
   | (with_reducible refine LeO.bind ?_ (fun _ => ?_))
   | exact ih0 _ _ _ _ _ _ _ _ _ _ _ _ _ _ _ _ _ _ _ _
   | exact ih1 _
   | exact ih2 _
   | exact door_Rest.mono _ _ _ _ _ _ _ _ _ _ _ _ _ _
   | exact door_Step.mono _ _ _ _ _ _ _ _ _ _ _ _ _ _ _
   | exact newellaw17_awake.mono _
   | exact LeO.none _
   | refine LeO.ite ?_ ?_
   | refine LeO.bind ?_ (fun _ => ?_)
  ·intro y0
   unfold newellaw17_DoorFalls.j2
   repeat' first
   | (with_reducible exact ih0 _ _ _ _ _ _ _ _ _ _ _ _ _ _ _ _ _ _ _ _)
   | (with_reducible exact ih1 _)
   | (with_reducible exact ih2 _)
   | (with_reducible exact door_Rest.mono _ _ _ _ _ _ _ _ _ _ _ _ _ _)
   | (with_reducible exact door_Step.mono _ _ _ _ _ _ _ _ _ _ _ _ _ _ _)
   | (with_reducible exact newellaw17_awake.mono _)
   | (with_reducible exact LeO.refl _)
   | (with_reducible exact LeO.none _)
   | (with_reducible refine LeO.ite ?_ ?_)
   | (with_reducible refine LeO.bind ?_ (fun _ => ?_))
   | exact ih0 _ _ _ _ _ _ _ _ _ _ _ _ _ _ _ _ _ _ _ _
   | exact ih1 _
   | exact ih2 _
   | exact door_Rest.mono _ _ _ _ _ _ _ _ _ _ _ _ _ _
   | exact door_Step.mono _ _ _ _ _ _ _ _ _ _ _ _ _ _ _
   | exact newellaw17_awake.mono _
   | exact LeO.none _
   | refine LeO.ite ?_ ?_
   | refine LeO.bind ?_ (fun _ => ?_)
theorem newellaw17_DoorFalls.mono : ∀ a0 a1 a2 a3 a4 a5 a6 a7 a8 a9 a10 a11 a12 a13 k, LeO (newellaw17_DoorFalls.f k a0 a1 a2 a3 a4 a5 a6 a7 a8 a9 a10 a11 a12 a13) (newellaw17_DoorFalls.f (k + 1) a0 a1 a2 a3 a4 a5 a6 a7 a8 a9 a10 a11 a12 a13) := by
 intro a0 a1 a2 a3 a4 a5 a6 a7 a8 a9 a10 a11 a12 a13 k
 obtain ⟨ih0, ih1, ih2⟩ := newellaw17_DoorFalls.mono_l k
 unfold newellaw17_DoorFalls.f
 repeat' first
   | (with_reducible exact ih0 _ _ _ _ _ _ _ _ _ _ _ _ _ _ _ _ _ _ _ _)
   | (with_reducible exact ih1 _)
   | (with_reducible exact ih2 _)
   | (with_reducible exact door_Rest.mono _ _ _ _ _ _ _ _ _ _ _ _ _ _)
   | (with_reducible exact door_Step.mono _ _ _ _ _ _ _ _ _ _ _ _ _ _ _)
   | (with_reducible exact newellaw17_awake.mono _)
   | (with_reducible exact LeO.refl _)
   | (with_reducible exact LeO.none _)
   | (with_reducible refine LeO.ite ?_ ?_)
   | (with_reducible refine LeO.bind ?_ (fun _ => ?_))
   | exact ih0 _ _ _ _ _ _ _ _ _ _ _ _ _ _ _ _ _ _ _ _
   | exact ih1 _
   | exact ih2 _
   | exact door_Rest.mono _ _ _ _ _ _ _ _ _ _ _ _ _ _
   | exact door_Step.mono _ _ _ _ _ _ _ _ _ _ _ _ _ _ _
   | exact newellaw17_awake.mono _
   | exact LeO.none _
   | refine LeO.ite ?_ ?_
   | refine LeO.bind ?_ (fun _ => ?_)
set_option maxHeartbeats 8000000 in
set_option maxRecDepth 100000 in
theorem newellaw17_DoorFalls.calls (k : Nat) (a0_0 : Int) (a0_1 : Int) (a0_2 : Int) (a0_3 : Int) (a0_4 : Int) (a0_5 : Int) (a0_6 : Int) (a0_7 : Int) (a0_8 : Int) (a0_9 : Int) (a1_0 : Int) (a1_1 : Int) (a1_2 : Int) (a2 : Bool) (r : Bool) (w : World) (h : newellaw17_DoorFalls.f k a0_0 a0_1 a0_2 a0_3 a0_4 a0_5 a0_6 a0_7 a0_8 a0_9 a1_0 a1_1 a1_2 a2 = some r) :
  Calls Try.prog 10 #[.agg #[.int .i64 a0_0, .int .i64 a0_1, .int .i64 a0_2, .int .i64 a0_3, .int .i64 a0_4, .int .i64 a0_5, .int .i64 a0_6, .int .i64 a0_7, .int .i64 a0_8, .int .i64 a0_9], .agg #[.int .i64 a1_0, .int .i64 a1_1, .int .i64 a1_2], .bool a2] w fun e w' => e = .returned (.bool r) ∧ Below w.heap.size w w' := by
 have hu42 := Try.underlying42
 have hu44 := Try.underlying44
 have HB := Aside0.mk (Below.refl w.heap.size w)
 have H : ((door_Rest.f k a0_0 a0_1 a0_2 a0_3 a0_4 a0_5 a0_6 a0_7 a0_8 a0_9 a1_0 a1_1 a1_2).bind fun bt424 => ((door_Step.f k a0_0 a0_1 a0_2 a0_3 a0_4 a0_5 a0_6 a0_7 a0_8 a0_9 a1_0 a1_1 a1_2 a2).bind fun bt426 => (if bt424.2 = 0 then (newellaw17_DoorFalls.j0 k bt424.1 bt424.2 bt426.2.2.2.2 (bt426.2.2.2.2 != 0) a0_0 a0_1 a0_2 a0_3 a0_4 a0_5 a0_6 a0_7 a0_8 a0_9 a1_0 a1_1 a1_2 bt426.1 bt426.2.1 bt426.2.2.1) else (newellaw17_DoorFalls.j0 k bt424.1 bt424.2 bt426.2.2.2.2 true a0_0 a0_1 a0_2 a0_3 a0_4 a0_5 a0_6 a0_7 a0_8 a0_9 a1_0 a1_1 a1_2 bt426.1 bt426.2.1 bt426.2.2.1)))) = some r := h
 clear h
 replace H := Option.bind_eq_some_iff.mp H
 obtain ⟨⟨t424, t425⟩, A40, H⟩ := H
 replace H : ((door_Step.f k a0_0 a0_1 a0_2 a0_3 a0_4 a0_5 a0_6 a0_7 a0_8 a0_9 a1_0 a1_1 a1_2 a2).bind fun bt426 => (if t425 = 0 then (newellaw17_DoorFalls.j0 k t424 t425 bt426.2.2.2.2 (bt426.2.2.2.2 != 0) a0_0 a0_1 a0_2 a0_3 a0_4 a0_5 a0_6 a0_7 a0_8 a0_9 a1_0 a1_1 a1_2 bt426.1 bt426.2.1 bt426.2.2.1) else (newellaw17_DoorFalls.j0 k t424 t425 bt426.2.2.2.2 true a0_0 a0_1 a0_2 a0_3 a0_4 a0_5 a0_6 a0_7 a0_8 a0_9 a1_0 a1_1 a1_2 bt426.1 bt426.2.1 bt426.2.2.1))) = some r := H
 have A4 := Aside0.mk A40
 clear A40
 replace H := Option.bind_eq_some_iff.mp H
 obtain ⟨⟨t426, t427, t428, t429, t430⟩, A50, H⟩ := H
 replace H : (if t425 = 0 then (newellaw17_DoorFalls.j0 k t424 t425 t430 (t430 != 0) a0_0 a0_1 a0_2 a0_3 a0_4 a0_5 a0_6 a0_7 a0_8 a0_9 a1_0 a1_1 a1_2 t426 t427 t428) else (newellaw17_DoorFalls.j0 k t424 t425 t430 true a0_0 a0_1 a0_2 a0_3 a0_4 a0_5 a0_6 a0_7 a0_8 a0_9 a1_0 a1_1 a1_2 t426 t427 t428)) = some r := H
 have A5 := Aside0.mk A50
 clear A50
 have HC6 := Aside0.mk H
 clear H
 go_enter Try.func10, Try.ntmps10
 go_upto_region 3 with (first | ((with_reducible refine gate_dst (N := 3) rfl ?_); (try (refine gate_guard (by rfl) ?_; dsimp only)); refine box_event ?hg (N := 3) ?hd (cs := #[.int .i64 a0_0, .int .i64 a0_1, .int .i64 a0_2, .int .i64 a0_3, .int .i64 a0_4, .int .i64 a0_5, .int .i64 a0_6, .int .i64 a0_7, .int .i64 a0_8, .int .i64 a0_9]) (t := 42) ?hr ?_; (case hd => rfl); (case hg => rfl); (case hr => first | (go_simp; done) | (go_simp; rfl)); intro gb422 hg w7 hbox hb; have n0_ := Aside0.mk (below_step (by repeat (first | (with_reducible first | exact HB.out | apply below_alloc | apply pw_below_drewN | apply below_drew1) | exact HB.out)) hb); have n1_ := Aside0.mk (hbox); have n2_ := Aside0.mk ((by rw [hg]; exact (below_size (by repeat (first | (with_reducible first | exact HB.out | apply below_alloc | apply pw_below_drewN | apply below_drew1) | exact HB.out))) : w.heap.size ≤ gb422)); have n3_ := Aside0.mk ((by rw [hg]; exact (below_size (by repeat (first | (with_reducible first | exact HB.out | apply below_alloc | apply pw_below_drewN | apply below_drew1) | exact HB.out))) : w.heap.size ≤ gb422)); clear HB; have HB := n0_; have BK422 := n1_; have GW422 := n2_; have GE422 := n3_; clear n0_ n1_ n2_ n3_; clear hb hbox hg) | ((with_reducible refine gate_dst (N := 4) rfl ?_); (try (refine gate_guard (by rfl) ?_; dsimp only)); refine box_event ?hg (N := 4) ?hd (cs := #[.int .i64 a1_0, .int .i64 a1_1, .int .i64 a1_2]) (t := 44) ?hr ?_; (case hd => rfl); (case hg => rfl); (case hr => first | (go_simp; done) | (go_simp; rfl)); intro gb423 hg w8 hbox hb; have n0_ := Aside0.mk (blk_below (g := gb422) (o := .cells #[.int .i64 a0_0, .int .i64 a0_1, .int .i64 a0_2, .int .i64 a0_3, .int .i64 a0_4, .int .i64 a0_5, .int .i64 a0_6, .int .i64 a0_7, .int .i64 a0_8, .int .i64 a0_9] 42 (0, 0)) (by (with_reducible repeat (first | refine blk_drewN ?_ _ | refine blk_drew ?_ | refine blk_alloc ?_ _)); exact BK422.out) hb); have n1_ := Aside0.mk (below_step (by repeat (first | (with_reducible first | exact HB.out | apply below_alloc | apply pw_below_drewN | apply below_drew1 | refine below_set ?_ GE422.out) | exact HB.out)) hb); have n2_ := Aside0.mk (hbox); have n3_ := Aside0.mk ((by rw [hg]; exact (below_size (by repeat (first | (with_reducible first | exact HB.out | apply below_alloc | apply pw_below_drewN | apply below_drew1 | refine below_set ?_ GE422.out) | exact HB.out))) : w.heap.size ≤ gb423)); have n4_ := Aside0.mk ((by rw [hg]; exact (below_size (by repeat (first | (with_reducible first | exact HB.out | apply below_alloc | apply pw_below_drewN | apply below_drew1 | refine below_set ?_ GE422.out) | exact HB.out))) : w.heap.size ≤ gb423)); have n5_ := Aside0.mk ((by rw [hg]; exact Nat.ne_of_lt (blk_lt (g := gb422) (o := .cells #[.int .i64 a0_0, .int .i64 a0_1, .int .i64 a0_2, .int .i64 a0_3, .int .i64 a0_4, .int .i64 a0_5, .int .i64 a0_6, .int .i64 a0_7, .int .i64 a0_8, .int .i64 a0_9] 42 (0, 0)) (by (with_reducible repeat (first | refine blk_drewN ?_ _ | refine blk_drew ?_ | refine blk_alloc ?_ _)); exact BK422.out)) : gb422 ≠ gb423)); have n6_ := Aside0.mk ((by rw [hg]; exact Nat.ne_of_gt (blk_lt (g := gb422) (o := .cells #[.int .i64 a0_0, .int .i64 a0_1, .int .i64 a0_2, .int .i64 a0_3, .int .i64 a0_4, .int .i64 a0_5, .int .i64 a0_6, .int .i64 a0_7, .int .i64 a0_8, .int .i64 a0_9] 42 (0, 0)) (by (with_reducible repeat (first | refine blk_drewN ?_ _ | refine blk_drew ?_ | refine blk_alloc ?_ _)); exact BK422.out)) : gb423 ≠ gb422)); clear BK422; clear HB; have BK422 := n0_; have HB := n1_; have BK423 := n2_; have GW423 := n3_; have GE423 := n4_; have NB422_423 := n5_; have NB423_422 := n6_; clear n0_ n1_ n2_ n3_ n4_ n5_ n6_; clear hb hbox hg; have hnb9 := NB422_423.out; have hnc9 := NB423_422.out; have hcz10_0 : w8.cell? ⟨gb422, 0, none⟩ = some (.int .i64 a0_0) := (blk_cell BK422.out 0).trans rfl; have hcz10_1 : w8.cell? ⟨gb422, 1, none⟩ = some (.int .i64 a0_1) := (blk_cell BK422.out 1).trans rfl; have hcz10_2 : w8.cell? ⟨gb422, 2, none⟩ = some (.int .i64 a0_2) := (blk_cell BK422.out 2).trans rfl; have hcz10_3 : w8.cell? ⟨gb422, 3, none⟩ = some (.int .i64 a0_3) := (blk_cell BK422.out 3).trans rfl; have hcz10_4 : w8.cell? ⟨gb422, 4, none⟩ = some (.int .i64 a0_4) := (blk_cell BK422.out 4).trans rfl; have hcz10_5 : w8.cell? ⟨gb422, 5, none⟩ = some (.int .i64 a0_5) := (blk_cell BK422.out 5).trans rfl; have hcz10_6 : w8.cell? ⟨gb422, 6, none⟩ = some (.int .i64 a0_6) := (blk_cell BK422.out 6).trans rfl; have hcz10_7 : w8.cell? ⟨gb422, 7, none⟩ = some (.int .i64 a0_7) := (blk_cell BK422.out 7).trans rfl; have hcz10_8 : w8.cell? ⟨gb422, 8, none⟩ = some (.int .i64 a0_8) := (blk_cell BK422.out 8).trans rfl; have hcz10_9 : w8.cell? ⟨gb422, 9, none⟩ = some (.int .i64 a0_9) := (blk_cell BK422.out 9).trans rfl; have hfz10_0 := blk_frozen BK422.out 0; have hfz10_1 := blk_frozen BK422.out 1; have hfz10_2 := blk_frozen BK422.out 2; have hfz10_3 := blk_frozen BK422.out 3; have hfz10_4 := blk_frozen BK422.out 4; have hfz10_5 := blk_frozen BK422.out 5; have hfz10_6 := blk_frozen BK422.out 6; have hfz10_7 := blk_frozen BK422.out 7; have hfz10_8 := blk_frozen BK422.out 8; have hfz10_9 := blk_frozen BK422.out 9; have hcz11_0 : w8.cell? ⟨gb423, 0, none⟩ = some (.int .i64 a1_0) := (blk_cell BK423.out 0).trans rfl; have hcz11_1 : w8.cell? ⟨gb423, 1, none⟩ = some (.int .i64 a1_1) := (blk_cell BK423.out 1).trans rfl; have hcz11_2 : w8.cell? ⟨gb423, 2, none⟩ = some (.int .i64 a1_2) := (blk_cell BK423.out 2).trans rfl; have hfz11_0 := blk_frozen BK423.out 0; have hfz11_1 := blk_frozen BK423.out 1; have hfz11_2 := blk_frozen BK423.out 2) | ((with_reducible refine gate_callee (f := 23) rfl ?_); refine goesL_ (some 17) rfl rfl Try.func23 (by kernel_rfl) rfl #[.agg #[.int .i64 a0_0, .int .i64 a0_1, .int .i64 a0_2, .int .i64 a0_3, .int .i64 a0_4, .int .i64 a0_5, .int .i64 a0_6, .int .i64 a0_7, .int .i64 a0_8, .int .i64 a0_9], .agg #[.int .i64 a1_0, .int .i64 a1_1, .int .i64 a1_2]] rfl (by (try simp only [List.map_toArray, List.map_cons, List.map_nil]); first | done | rfl | (simp only [List.length_drop, List.length_take]; rfl)) ?_; (with_reducible refine (door_Rest.calls k a0_0 a0_1 a0_2 a0_3 a0_4 a0_5 a0_6 a0_7 a0_8 a0_9 a1_0 a1_1 a1_2 t424 t425 _ A4.out).mono ?_); rintro e w12 ⟨rfl, hb⟩; refine ⟨_, rfl, ?_⟩; have n0_ := Aside0.mk (blk_below (g := gb422) (o := .cells #[.int .i64 a0_0, .int .i64 a0_1, .int .i64 a0_2, .int .i64 a0_3, .int .i64 a0_4, .int .i64 a0_5, .int .i64 a0_6, .int .i64 a0_7, .int .i64 a0_8, .int .i64 a0_9] 42 (0, 0)) (by (with_reducible repeat (first | refine blk_drewN ?_ _ | refine blk_drew ?_ | refine blk_alloc ?_ _)); exact BK422.out) hb); have n1_ := Aside0.mk (blk_below (g := gb423) (o := .cells #[.int .i64 a1_0, .int .i64 a1_1, .int .i64 a1_2] 44 (0, 0)) (by (with_reducible repeat (first | refine blk_drewN ?_ _ | refine blk_drew ?_ | refine blk_alloc ?_ _)); exact BK423.out) hb); have n2_ := Aside0.mk (below_step (by repeat (first | (with_reducible first | exact HB.out | apply below_alloc | apply pw_below_drewN | apply below_drew1 | refine below_set ?_ GE422.out | refine below_set ?_ GE423.out) | exact HB.out)) hb); clear BK422; clear BK423; clear HB; have BK422 := n0_; have BK423 := n1_; have HB := n2_; clear n0_ n1_ n2_; (try clear hb); (try clear hb2); (try clear hk); (try clear hi); have hcz13_0 : w12.cell? ⟨gb422, 0, none⟩ = some (.int .i64 a0_0) := (blk_cell BK422.out 0).trans rfl; have hcz13_1 : w12.cell? ⟨gb422, 1, none⟩ = some (.int .i64 a0_1) := (blk_cell BK422.out 1).trans rfl; have hcz13_2 : w12.cell? ⟨gb422, 2, none⟩ = some (.int .i64 a0_2) := (blk_cell BK422.out 2).trans rfl; have hcz13_3 : w12.cell? ⟨gb422, 3, none⟩ = some (.int .i64 a0_3) := (blk_cell BK422.out 3).trans rfl; have hcz13_4 : w12.cell? ⟨gb422, 4, none⟩ = some (.int .i64 a0_4) := (blk_cell BK422.out 4).trans rfl; have hcz13_5 : w12.cell? ⟨gb422, 5, none⟩ = some (.int .i64 a0_5) := (blk_cell BK422.out 5).trans rfl; have hcz13_6 : w12.cell? ⟨gb422, 6, none⟩ = some (.int .i64 a0_6) := (blk_cell BK422.out 6).trans rfl; have hcz13_7 : w12.cell? ⟨gb422, 7, none⟩ = some (.int .i64 a0_7) := (blk_cell BK422.out 7).trans rfl; have hcz13_8 : w12.cell? ⟨gb422, 8, none⟩ = some (.int .i64 a0_8) := (blk_cell BK422.out 8).trans rfl; have hcz13_9 : w12.cell? ⟨gb422, 9, none⟩ = some (.int .i64 a0_9) := (blk_cell BK422.out 9).trans rfl; have hfz13_0 := blk_frozen BK422.out 0; have hfz13_1 := blk_frozen BK422.out 1; have hfz13_2 := blk_frozen BK422.out 2; have hfz13_3 := blk_frozen BK422.out 3; have hfz13_4 := blk_frozen BK422.out 4; have hfz13_5 := blk_frozen BK422.out 5; have hfz13_6 := blk_frozen BK422.out 6; have hfz13_7 := blk_frozen BK422.out 7; have hfz13_8 := blk_frozen BK422.out 8; have hfz13_9 := blk_frozen BK422.out 9; have hcz14_0 : w12.cell? ⟨gb423, 0, none⟩ = some (.int .i64 a1_0) := (blk_cell BK423.out 0).trans rfl; have hcz14_1 : w12.cell? ⟨gb423, 1, none⟩ = some (.int .i64 a1_1) := (blk_cell BK423.out 1).trans rfl; have hcz14_2 : w12.cell? ⟨gb423, 2, none⟩ = some (.int .i64 a1_2) := (blk_cell BK423.out 2).trans rfl; have hfz14_0 := blk_frozen BK423.out 0; have hfz14_1 := blk_frozen BK423.out 1; have hfz14_2 := blk_frozen BK423.out 2) | ((with_reducible refine gate_callee (f := 22) rfl ?_); refine goesL_ (some 24) rfl rfl Try.func22 (by kernel_rfl) rfl #[.agg #[.int .i64 a0_0, .int .i64 a0_1, .int .i64 a0_2, .int .i64 a0_3, .int .i64 a0_4, .int .i64 a0_5, .int .i64 a0_6, .int .i64 a0_7, .int .i64 a0_8, .int .i64 a0_9], .agg #[.int .i64 a1_0, .int .i64 a1_1, .int .i64 a1_2], .bool a2] rfl (by (try simp only [List.map_toArray, List.map_cons, List.map_nil]); first | done | rfl | (simp only [List.length_drop, List.length_take]; rfl)) ?_; (with_reducible refine (door_Step.calls k a0_0 a0_1 a0_2 a0_3 a0_4 a0_5 a0_6 a0_7 a0_8 a0_9 a1_0 a1_1 a1_2 a2 t426 t427 t428 t429 t430 _ A5.out).mono ?_); rintro e w15 ⟨rfl, hb⟩; refine ⟨_, rfl, ?_⟩; have n0_ := Aside0.mk (blk_below (g := gb422) (o := .cells #[.int .i64 a0_0, .int .i64 a0_1, .int .i64 a0_2, .int .i64 a0_3, .int .i64 a0_4, .int .i64 a0_5, .int .i64 a0_6, .int .i64 a0_7, .int .i64 a0_8, .int .i64 a0_9] 42 (0, 0)) (by (with_reducible repeat (first | refine blk_drewN ?_ _ | refine blk_drew ?_ | refine blk_alloc ?_ _)); exact BK422.out) hb); have n1_ := Aside0.mk (blk_below (g := gb423) (o := .cells #[.int .i64 a1_0, .int .i64 a1_1, .int .i64 a1_2] 44 (0, 0)) (by (with_reducible repeat (first | refine blk_drewN ?_ _ | refine blk_drew ?_ | refine blk_alloc ?_ _)); exact BK423.out) hb); have n2_ := Aside0.mk (below_step (by repeat (first | (with_reducible first | exact HB.out | apply below_alloc | apply pw_below_drewN | apply below_drew1 | refine below_set ?_ GE422.out | refine below_set ?_ GE423.out) | exact HB.out)) hb); clear BK422; clear BK423; clear HB; have BK422 := n0_; have BK423 := n1_; have HB := n2_; clear n0_ n1_ n2_; (try clear hb); (try clear hb2); (try clear hk); (try clear hi)) | ((with_reducible refine gate_dst (N := 9) rfl ?_); (try (refine gate_guard (by rfl) ?_; dsimp only)); refine box_event ?hg (N := 9) ?hd (cs := #[.int .i64 0, .int .i64 0, .int .i64 0]) (t := 44) ?hr ?_; (case hd => rfl); (case hg => rfl); (case hr => first | (go_simp; done) | (go_simp; rfl)); intro gb431 hg w16 hbox hb; have n0_ := Aside0.mk (blk_below (g := gb422) (o := .cells #[.int .i64 a0_0, .int .i64 a0_1, .int .i64 a0_2, .int .i64 a0_3, .int .i64 a0_4, .int .i64 a0_5, .int .i64 a0_6, .int .i64 a0_7, .int .i64 a0_8, .int .i64 a0_9] 42 (0, 0)) (by (with_reducible repeat (first | refine blk_drewN ?_ _ | refine blk_drew ?_ | refine blk_alloc ?_ _)); exact BK422.out) hb); have n1_ := Aside0.mk (blk_below (g := gb423) (o := .cells #[.int .i64 a1_0, .int .i64 a1_1, .int .i64 a1_2] 44 (0, 0)) (by (with_reducible repeat (first | refine blk_drewN ?_ _ | refine blk_drew ?_ | refine blk_alloc ?_ _)); exact BK423.out) hb); have n2_ := Aside0.mk (below_step (by repeat (first | (with_reducible first | exact HB.out | apply below_alloc | apply pw_below_drewN | apply below_drew1 | refine below_set ?_ GE422.out | refine below_set ?_ GE423.out) | exact HB.out)) hb); have n3_ := Aside0.mk (hbox); have n4_ := Aside0.mk ((by rw [hg]; exact (below_size (by repeat (first | (with_reducible first | exact HB.out | apply below_alloc | apply pw_below_drewN | apply below_drew1 | refine below_set ?_ GE422.out | refine below_set ?_ GE423.out) | exact HB.out))) : w.heap.size ≤ gb431)); have n5_ := Aside0.mk ((by rw [hg]; exact (below_size (by repeat (first | (with_reducible first | exact HB.out | apply below_alloc | apply pw_below_drewN | apply below_drew1 | refine below_set ?_ GE422.out | refine below_set ?_ GE423.out) | exact HB.out))) : w.heap.size ≤ gb431)); have n6_ := Aside0.mk ((by rw [hg]; exact Nat.ne_of_lt (blk_lt (g := gb422) (o := .cells #[.int .i64 a0_0, .int .i64 a0_1, .int .i64 a0_2, .int .i64 a0_3, .int .i64 a0_4, .int .i64 a0_5, .int .i64 a0_6, .int .i64 a0_7, .int .i64 a0_8, .int .i64 a0_9] 42 (0, 0)) (by (with_reducible repeat (first | refine blk_drewN ?_ _ | refine blk_drew ?_ | refine blk_alloc ?_ _)); exact BK422.out)) : gb422 ≠ gb431)); have n7_ := Aside0.mk ((by rw [hg]; exact Nat.ne_of_gt (blk_lt (g := gb422) (o := .cells #[.int .i64 a0_0, .int .i64 a0_1, .int .i64 a0_2, .int .i64 a0_3, .int .i64 a0_4, .int .i64 a0_5, .int .i64 a0_6, .int .i64 a0_7, .int .i64 a0_8, .int .i64 a0_9] 42 (0, 0)) (by (with_reducible repeat (first | refine blk_drewN ?_ _ | refine blk_drew ?_ | refine blk_alloc ?_ _)); exact BK422.out)) : gb431 ≠ gb422)); have n8_ := Aside0.mk ((by rw [hg]; exact Nat.ne_of_lt (blk_lt (g := gb423) (o := .cells #[.int .i64 a1_0, .int .i64 a1_1, .int .i64 a1_2] 44 (0, 0)) (by (with_reducible repeat (first | refine blk_drewN ?_ _ | refine blk_drew ?_ | refine blk_alloc ?_ _)); exact BK423.out)) : gb423 ≠ gb431)); have n9_ := Aside0.mk ((by rw [hg]; exact Nat.ne_of_gt (blk_lt (g := gb423) (o := .cells #[.int .i64 a1_0, .int .i64 a1_1, .int .i64 a1_2] 44 (0, 0)) (by (with_reducible repeat (first | refine blk_drewN ?_ _ | refine blk_drew ?_ | refine blk_alloc ?_ _)); exact BK423.out)) : gb431 ≠ gb423)); clear BK422; clear BK423; clear HB; have BK422 := n0_; have BK423 := n1_; have HB := n2_; have BK431 := n3_; have GW431 := n4_; have GE431 := n5_; have NB422_431 := n6_; have NB431_422 := n7_; have NB423_431 := n8_; have NB431_423 := n9_; clear n0_ n1_ n2_ n3_ n4_ n5_ n6_ n7_ n8_ n9_; clear hb hbox hg; have hnb17 := NB431_422.out; have hnc17 := NB422_431.out; have hnb18 := NB431_423.out; have hnc18 := NB423_431.out; have hcz19_0 : w16.cell? ⟨gb431, 0, none⟩ = some (.int .i64 0) := (blk_cell BK431.out 0).trans rfl; have hcz19_1 : w16.cell? ⟨gb431, 1, none⟩ = some (.int .i64 0) := (blk_cell BK431.out 1).trans rfl; have hcz19_2 : w16.cell? ⟨gb431, 2, none⟩ = some (.int .i64 0) := (blk_cell BK431.out 2).trans rfl; have hfz19_0 := blk_frozen BK431.out 0; have hfz19_1 := blk_frozen BK431.out 1; have hfz19_2 := blk_frozen BK431.out 2))
 (try simp only [Act.put, List.setIfInBounds_toArray, List.set_cons_zero, List.set_cons_succ])
 go_cut [33] (fun v33 wc => ∃ (kq : Nat) (x33_5 : Bool), v33 = .bool x33_5 ∧ Aside0 (newellaw17_DoorFalls.j0 kq t424 t425 t430 x33_5 a0_0 a0_1 a0_2 a0_3 a0_4 a0_5 a0_6 a0_7 a0_8 a0_9 a1_0 a1_1 a1_2 t426 t427 t428 = some r) ∧ Aside0 (kq ≤ k) ∧ Aside0 (wc.heap[gb422]? = some (.cells #[.int .i64 a0_0, .int .i64 a0_1, .int .i64 a0_2, .int .i64 a0_3, .int .i64 a0_4, .int .i64 a0_5, .int .i64 a0_6, .int .i64 a0_7, .int .i64 a0_8, .int .i64 a0_9] 42 (0, 0))) ∧ Aside0 (wc.heap[gb423]? = some (.cells #[.int .i64 a1_0, .int .i64 a1_1, .int .i64 a1_2] 44 (0, 0))) ∧ Aside0 (wc.heap[gb431]? = some (.cells #[.int .i64 t426, .int .i64 t427, .int .i64 t428] 44 (0, 0))) ∧ Aside0 (Below w.heap.size w wc))
 case first =>
  have H := HC6.out
  clear HC6
  by_cases c20 : t425 = 0
  ·rw [if_pos c20] at H
   have c20b0 : (t425 == 0) = true := beq_iff_eq.mpr c20
   have c20b1 : (t425 != 0) = false := bne_eq_false_iff_eq.mpr c20
   clear c20
   (first | rw [c20b0] | (simp only [i64_w, i32_w]; rw [c20b0]) | skip)
   have H' := Aside0.mk H
   clear H
   go_wp2
   go_meet
   case rel => exact ⟨_, ((t430 != 0)), (by first | rfl | (simp; done) | (simp [*]; done)), H', ⟨by first | omega | exact Nat.le_refl _⟩, ⟨by (with_reducible repeat (first | refine blk_drewN ?_ _ | refine blk_drew ?_ | refine blk_alloc ?_ _)); refine blk_far ?_ NB422_431.out _; (with_reducible repeat (first | refine blk_drewN ?_ _ | refine blk_drew ?_ | refine blk_alloc ?_ _)); refine blk_far ?_ NB422_431.out _; (with_reducible repeat (first | refine blk_drewN ?_ _ | refine blk_drew ?_ | refine blk_alloc ?_ _)); refine blk_far ?_ NB422_431.out _; (with_reducible repeat (first | refine blk_drewN ?_ _ | refine blk_drew ?_ | refine blk_alloc ?_ _)); exact BK422.out⟩, ⟨by (with_reducible repeat (first | refine blk_drewN ?_ _ | refine blk_drew ?_ | refine blk_alloc ?_ _)); refine blk_far ?_ NB423_431.out _; (with_reducible repeat (first | refine blk_drewN ?_ _ | refine blk_drew ?_ | refine blk_alloc ?_ _)); refine blk_far ?_ NB423_431.out _; (with_reducible repeat (first | refine blk_drewN ?_ _ | refine blk_drew ?_ | refine blk_alloc ?_ _)); refine blk_far ?_ NB423_431.out _; (with_reducible repeat (first | refine blk_drewN ?_ _ | refine blk_drew ?_ | refine blk_alloc ?_ _)); exact BK423.out⟩, ⟨by (with_reducible repeat (first | refine blk_drewN ?_ _ | refine blk_drew ?_ | refine blk_alloc ?_ _)); refine blk_put (cs := #[.int .i64 t426, .int .i64 t427, .int .i64 0]) ?_ 2 _ rfl; (with_reducible repeat (first | refine blk_drewN ?_ _ | refine blk_drew ?_ | refine blk_alloc ?_ _)); refine blk_put (cs := #[.int .i64 t426, .int .i64 0, .int .i64 0]) ?_ 1 _ rfl; (with_reducible repeat (first | refine blk_drewN ?_ _ | refine blk_drew ?_ | refine blk_alloc ?_ _)); refine blk_put (cs := #[.int .i64 0, .int .i64 0, .int .i64 0]) ?_ 0 _ rfl; (with_reducible repeat (first | refine blk_drewN ?_ _ | refine blk_drew ?_ | refine blk_alloc ?_ _)); exact BK431.out⟩, ⟨by repeat (first | (with_reducible first | exact HB.out | apply below_alloc | apply pw_below_drewN | apply below_drew1 | refine below_set ?_ GE422.out | refine below_set ?_ GE423.out | refine below_set ?_ GE431.out) | exact HB.out)⟩⟩
  ·rw [if_neg c20] at H
   have c20b0 : (t425 == 0) = false := beq_eq_false_iff_ne.mpr c20
   have c20b1 : (t425 != 0) = true := bne_iff_ne.mpr c20
   (first | rw [c20b0] | (simp only [i64_w, i32_w]; rw [c20b0]) | skip)
   have H' := Aside0.mk H
   clear H
   go_wp2
   go_meet
   case rel => exact ⟨_, (true), (by first | rfl | (simp; done) | (simp [*]; done)), H', ⟨by first | omega | exact Nat.le_refl _⟩, ⟨by (with_reducible repeat (first | refine blk_drewN ?_ _ | refine blk_drew ?_ | refine blk_alloc ?_ _)); refine blk_far ?_ NB422_431.out _; (with_reducible repeat (first | refine blk_drewN ?_ _ | refine blk_drew ?_ | refine blk_alloc ?_ _)); refine blk_far ?_ NB422_431.out _; (with_reducible repeat (first | refine blk_drewN ?_ _ | refine blk_drew ?_ | refine blk_alloc ?_ _)); refine blk_far ?_ NB422_431.out _; (with_reducible repeat (first | refine blk_drewN ?_ _ | refine blk_drew ?_ | refine blk_alloc ?_ _)); exact BK422.out⟩, ⟨by (with_reducible repeat (first | refine blk_drewN ?_ _ | refine blk_drew ?_ | refine blk_alloc ?_ _)); refine blk_far ?_ NB423_431.out _; (with_reducible repeat (first | refine blk_drewN ?_ _ | refine blk_drew ?_ | refine blk_alloc ?_ _)); refine blk_far ?_ NB423_431.out _; (with_reducible repeat (first | refine blk_drewN ?_ _ | refine blk_drew ?_ | refine blk_alloc ?_ _)); refine blk_far ?_ NB423_431.out _; (with_reducible repeat (first | refine blk_drewN ?_ _ | refine blk_drew ?_ | refine blk_alloc ?_ _)); exact BK423.out⟩, ⟨by (with_reducible repeat (first | refine blk_drewN ?_ _ | refine blk_drew ?_ | refine blk_alloc ?_ _)); refine blk_put (cs := #[.int .i64 t426, .int .i64 t427, .int .i64 0]) ?_ 2 _ rfl; (with_reducible repeat (first | refine blk_drewN ?_ _ | refine blk_drew ?_ | refine blk_alloc ?_ _)); refine blk_put (cs := #[.int .i64 t426, .int .i64 0, .int .i64 0]) ?_ 1 _ rfl; (with_reducible repeat (first | refine blk_drewN ?_ _ | refine blk_drew ?_ | refine blk_alloc ?_ _)); refine blk_put (cs := #[.int .i64 0, .int .i64 0, .int .i64 0]) ?_ 0 _ rfl; (with_reducible repeat (first | refine blk_drewN ?_ _ | refine blk_drew ?_ | refine blk_alloc ?_ _)); exact BK431.out⟩, ⟨by repeat (first | (with_reducible first | exact HB.out | apply below_alloc | apply pw_below_drewN | apply below_drew1 | refine below_set ?_ GE422.out | refine below_set ?_ GE423.out | refine below_set ?_ GE431.out) | exact HB.out)⟩⟩
 case rest =>
  clear HC6
  try clear c1
  try clear c2
  try clear p2
  try clear c9
  try clear c10
  try clear c17
  try clear c18
  try clear c20
  try clear c20b0
  try clear c20b1
  try clear hcz10_0
  try clear hcz10_1
  try clear hcz10_2
  try clear hcz10_3
  try clear hcz10_4
  try clear hcz10_5
  try clear hcz10_6
  try clear hcz10_7
  try clear hcz10_8
  try clear hcz10_9
  try clear hcz11_0
  try clear hcz11_1
  try clear hcz11_2
  try clear hcz13_0
  try clear hcz13_1
  try clear hcz13_2
  try clear hcz13_3
  try clear hcz13_4
  try clear hcz13_5
  try clear hcz13_6
  try clear hcz13_7
  try clear hcz13_8
  try clear hcz13_9
  try clear hcz14_0
  try clear hcz14_1
  try clear hcz14_2
  try clear hcz19_0
  try clear hcz19_1
  try clear hcz19_2
  try clear hfz10_0
  try clear hfz10_1
  try clear hfz10_2
  try clear hfz10_3
  try clear hfz10_4
  try clear hfz10_5
  try clear hfz10_6
  try clear hfz10_7
  try clear hfz10_8
  try clear hfz10_9
  try clear hfz11_0
  try clear hfz11_1
  try clear hfz11_2
  try clear hfz13_0
  try clear hfz13_1
  try clear hfz13_2
  try clear hfz13_3
  try clear hfz13_4
  try clear hfz13_5
  try clear hfz13_6
  try clear hfz13_7
  try clear hfz13_8
  try clear hfz13_9
  try clear hfz14_0
  try clear hfz14_1
  try clear hfz14_2
  try clear hfz19_0
  try clear hfz19_1
  try clear hfz19_2
  obtain ⟨kq, x33_5, rfl, HA, HJ5, BK422, BK423, BK431, HB⟩ := hcut
  cases kq with
  | zero => exact absurd HA.out (by simp [newellaw17_DoorFalls.j0])
  | succ kj5 =>
   have H := HA.out
   clear HA
   simp only [newellaw17_DoorFalls.j0] at H
   by_cases c21 : x33_5 = true
   ·subst c21
    have H1 : ((newellaw17_awake.f kj5).bind fun t432 => (if t432 = true then (some (t425 == t430)) else (none))) = some r := by rw [if_pos rfl] at H; exact H
    clear H
    have H := H1
    clear H1
    replace H := Option.bind_eq_some_iff.mp H
    obtain ⟨t432, A220, H⟩ := H
    replace H : (if t432 = true then (some (t425 == t430)) else (none)) = some r := H
    have A22 := Aside0.mk A220
    clear A220
    by_cases c23 : t432 = true
    ·subst c23
     have H1 : (some (t425 == t430)) = some r := by rw [if_pos rfl] at H; exact H
     clear H
     have H := H1
     clear H1
     obtain rfl := Option.some.inj H
     go_wp2_with (first | ((with_reducible refine gate_callee (f := 26) rfl ?_); refine goesL_ (some 34) rfl rfl Try.func26 (by kernel_rfl) rfl #[] rfl (by (try simp only [List.map_toArray, List.map_cons, List.map_nil]); first | done | rfl | (simp only [List.length_drop, List.length_take]; rfl)) ?_; (with_reducible refine (newellaw17_awake.calls kj5  true _ A22.out).mono ?_); rintro e w24 ⟨rfl, hb⟩; refine ⟨_, rfl, ?_⟩; have n0_ := Aside0.mk (blk_below (g := gb422) (o := .cells #[.int .i64 a0_0, .int .i64 a0_1, .int .i64 a0_2, .int .i64 a0_3, .int .i64 a0_4, .int .i64 a0_5, .int .i64 a0_6, .int .i64 a0_7, .int .i64 a0_8, .int .i64 a0_9] 42 (0, 0)) (by (with_reducible repeat (first | refine blk_drewN ?_ _ | refine blk_drew ?_ | refine blk_alloc ?_ _)); exact BK422.out) hb); have n1_ := Aside0.mk (blk_below (g := gb423) (o := .cells #[.int .i64 a1_0, .int .i64 a1_1, .int .i64 a1_2] 44 (0, 0)) (by (with_reducible repeat (first | refine blk_drewN ?_ _ | refine blk_drew ?_ | refine blk_alloc ?_ _)); exact BK423.out) hb); have n2_ := Aside0.mk (blk_below (g := gb431) (o := .cells #[.int .i64 t426, .int .i64 t427, .int .i64 t428] 44 (0, 0)) (by (with_reducible repeat (first | refine blk_drewN ?_ _ | refine blk_drew ?_ | refine blk_alloc ?_ _)); exact BK431.out) hb); have n3_ := Aside0.mk (below_step (by repeat (first | (with_reducible first | exact HB.out | apply below_alloc | apply pw_below_drewN | apply below_drew1 | refine below_set ?_ GE422.out | refine below_set ?_ GE423.out | refine below_set ?_ GE431.out) | exact HB.out)) hb); clear BK422; clear BK423; clear BK431; clear HB; have BK422 := n0_; have BK423 := n1_; have BK431 := n2_; have HB := n3_; clear n0_ n1_ n2_ n3_; (try clear hb); (try clear hb2); (try clear hk); (try clear hi)))
     go_ret
     exact ⟨by first | rfl | (simp [errW_none, errW_some] <;> rfl) | (simp [*, errW_none, errW_some] <;> rfl), by repeat (first | (with_reducible first | exact HB.out | apply below_alloc | apply pw_below_drewN | apply below_drew1 | refine below_set ?_ GE422.out | refine below_set ?_ GE423.out | refine below_set ?_ GE431.out) | exact HB.out)⟩
    ·replace c23 := Bool.eq_false_iff.mpr c23
     subst c23
     have H1 : (none) = some r := by rw [if_neg (show ¬ (false = true) by decide)] at H; exact H
     clear H
     have H := H1
     clear H1
     exact absurd H (by simp)
   ·replace c21 := Bool.eq_false_iff.mpr c21
    subst c21
    have H1 : ((door_Rest.f kj5 a0_0 a0_1 a0_2 a0_3 a0_4 a0_5 a0_6 a0_7 a0_8 a0_9 t426 t427 t428).bind fun bt433 => (if a1_0 = 0 then ((newellaw17_awake.f kj5).bind fun t435 => (if t435 = true then (if (t426 == a1_0 && (t427 == a1_1 && (t428 == a1_2))) = true then (if t424 = 0 then (newellaw17_DoorFalls.j1 kj5 (bt433.1 == 0)) else (none)) else (none)) else (none))) else ((newellaw17_awake.f kj5).bind fun t436 => (if t436 = true then (if bt433.2 = 0 then (if t424 ≥ 1 then (if bt433.1 ≤ (wrap64 (t424 - 1)) then (if bt433.1 ≥ 0 then (if ((bt433.1 == 0) == (t426 == 0)) = true then (newellaw17_DoorFalls.j2 kj5 (decide (t428 ≤ (mx a1_2 a0_9)))) else (none)) else (none)) else (none)) else (none)) else (none)) else (none))))) = some r := by rw [if_neg (show ¬ (false = true) by decide)] at H; exact H
    clear H
    have H := H1
    clear H1
    replace H := Option.bind_eq_some_iff.mp H
    obtain ⟨⟨t433, t434⟩, A250, H⟩ := H
    replace H : (if a1_0 = 0 then ((newellaw17_awake.f kj5).bind fun t435 => (if t435 = true then (if (t426 == a1_0 && (t427 == a1_1 && (t428 == a1_2))) = true then (if t424 = 0 then (newellaw17_DoorFalls.j1 kj5 (t433 == 0)) else (none)) else (none)) else (none))) else ((newellaw17_awake.f kj5).bind fun t436 => (if t436 = true then (if t434 = 0 then (if t424 ≥ 1 then (if t433 ≤ (wrap64 (t424 - 1)) then (if t433 ≥ 0 then (if ((t433 == 0) == (t426 == 0)) = true then (newellaw17_DoorFalls.j2 kj5 (decide (t428 ≤ (mx a1_2 a0_9)))) else (none)) else (none)) else (none)) else (none)) else (none)) else (none)))) = some r := H
    have A25 := Aside0.mk A250
    clear A250
    by_cases c26 : a1_0 = 0
    ·rw [if_pos c26] at H
     have c26b0 : (a1_0 == 0) = true := beq_iff_eq.mpr c26
     have c26b1 : (a1_0 != 0) = false := bne_eq_false_iff_eq.mpr c26
     clear c26
     have HC27 := Aside0.mk H
     clear H
     have hnb28 := NB422_423.out
     have hnc28 := NB423_422.out
     have hnb29 := NB422_431.out
     have hnc29 := NB431_422.out
     have hcz30_0 : wc.cell? ⟨gb422, 0, none⟩ = some (.int .i64 a0_0) := (blk_cell BK422.out 0).trans rfl
     have hcz30_1 : wc.cell? ⟨gb422, 1, none⟩ = some (.int .i64 a0_1) := (blk_cell BK422.out 1).trans rfl
     have hcz30_2 : wc.cell? ⟨gb422, 2, none⟩ = some (.int .i64 a0_2) := (blk_cell BK422.out 2).trans rfl
     have hcz30_3 : wc.cell? ⟨gb422, 3, none⟩ = some (.int .i64 a0_3) := (blk_cell BK422.out 3).trans rfl
     have hcz30_4 : wc.cell? ⟨gb422, 4, none⟩ = some (.int .i64 a0_4) := (blk_cell BK422.out 4).trans rfl
     have hcz30_5 : wc.cell? ⟨gb422, 5, none⟩ = some (.int .i64 a0_5) := (blk_cell BK422.out 5).trans rfl
     have hcz30_6 : wc.cell? ⟨gb422, 6, none⟩ = some (.int .i64 a0_6) := (blk_cell BK422.out 6).trans rfl
     have hcz30_7 : wc.cell? ⟨gb422, 7, none⟩ = some (.int .i64 a0_7) := (blk_cell BK422.out 7).trans rfl
     have hcz30_8 : wc.cell? ⟨gb422, 8, none⟩ = some (.int .i64 a0_8) := (blk_cell BK422.out 8).trans rfl
     have hcz30_9 : wc.cell? ⟨gb422, 9, none⟩ = some (.int .i64 a0_9) := (blk_cell BK422.out 9).trans rfl
     have hfz30_0 := blk_frozen BK422.out 0
     have hfz30_1 := blk_frozen BK422.out 1
     have hfz30_2 := blk_frozen BK422.out 2
     have hfz30_3 := blk_frozen BK422.out 3
     have hfz30_4 := blk_frozen BK422.out 4
     have hfz30_5 := blk_frozen BK422.out 5
     have hfz30_6 := blk_frozen BK422.out 6
     have hfz30_7 := blk_frozen BK422.out 7
     have hfz30_8 := blk_frozen BK422.out 8
     have hfz30_9 := blk_frozen BK422.out 9
     have hnb31 := NB431_423.out
     have hnc31 := NB423_431.out
     have hcz32_0 : wc.cell? ⟨gb431, 0, none⟩ = some (.int .i64 t426) := (blk_cell BK431.out 0).trans rfl
     have hcz32_1 : wc.cell? ⟨gb431, 1, none⟩ = some (.int .i64 t427) := (blk_cell BK431.out 1).trans rfl
     have hcz32_2 : wc.cell? ⟨gb431, 2, none⟩ = some (.int .i64 t428) := (blk_cell BK431.out 2).trans rfl
     have hfz32_0 := blk_frozen BK431.out 0
     have hfz32_1 := blk_frozen BK431.out 1
     have hfz32_2 := blk_frozen BK431.out 2
     go_upto_region 7 with (first | ((with_reducible refine gate_callee (f := 23) rfl ?_); refine goesL_ (some 43) rfl rfl Try.func23 (by kernel_rfl) rfl #[.agg #[.int .i64 a0_0, .int .i64 a0_1, .int .i64 a0_2, .int .i64 a0_3, .int .i64 a0_4, .int .i64 a0_5, .int .i64 a0_6, .int .i64 a0_7, .int .i64 a0_8, .int .i64 a0_9], .agg #[.int .i64 t426, .int .i64 t427, .int .i64 t428]] rfl (by (try simp only [List.map_toArray, List.map_cons, List.map_nil]); first | done | rfl | (simp only [List.length_drop, List.length_take]; rfl)) ?_; (with_reducible refine (door_Rest.calls kj5 a0_0 a0_1 a0_2 a0_3 a0_4 a0_5 a0_6 a0_7 a0_8 a0_9 t426 t427 t428 t433 t434 _ A25.out).mono ?_); rintro e w33 ⟨rfl, hb⟩; refine ⟨_, rfl, ?_⟩; have n0_ := Aside0.mk (blk_below (g := gb422) (o := .cells #[.int .i64 a0_0, .int .i64 a0_1, .int .i64 a0_2, .int .i64 a0_3, .int .i64 a0_4, .int .i64 a0_5, .int .i64 a0_6, .int .i64 a0_7, .int .i64 a0_8, .int .i64 a0_9] 42 (0, 0)) (by (with_reducible repeat (first | refine blk_drewN ?_ _ | refine blk_drew ?_ | refine blk_alloc ?_ _)); exact BK422.out) hb); have n1_ := Aside0.mk (blk_below (g := gb423) (o := .cells #[.int .i64 a1_0, .int .i64 a1_1, .int .i64 a1_2] 44 (0, 0)) (by (with_reducible repeat (first | refine blk_drewN ?_ _ | refine blk_drew ?_ | refine blk_alloc ?_ _)); exact BK423.out) hb); have n2_ := Aside0.mk (blk_below (g := gb431) (o := .cells #[.int .i64 t426, .int .i64 t427, .int .i64 t428] 44 (0, 0)) (by (with_reducible repeat (first | refine blk_drewN ?_ _ | refine blk_drew ?_ | refine blk_alloc ?_ _)); exact BK431.out) hb); have n3_ := Aside0.mk (below_step (by repeat (first | (with_reducible first | exact HB.out | apply below_alloc | apply pw_below_drewN | apply below_drew1 | refine below_set ?_ GE422.out | refine below_set ?_ GE423.out | refine below_set ?_ GE431.out) | exact HB.out)) hb); clear BK422; clear BK423; clear BK431; clear HB; have BK422 := n0_; have BK423 := n1_; have BK431 := n2_; have HB := n3_; clear n0_ n1_ n2_ n3_; (try clear hb); (try clear hb2); (try clear hk); (try clear hi); have hcz34_0 : w33.cell? ⟨gb423, 0, none⟩ = some (.int .i64 a1_0) := (blk_cell BK423.out 0).trans rfl; have hcz34_1 : w33.cell? ⟨gb423, 1, none⟩ = some (.int .i64 a1_1) := (blk_cell BK423.out 1).trans rfl; have hcz34_2 : w33.cell? ⟨gb423, 2, none⟩ = some (.int .i64 a1_2) := (blk_cell BK423.out 2).trans rfl; have hfz34_0 := blk_frozen BK423.out 0; have hfz34_1 := blk_frozen BK423.out 1; have hfz34_2 := blk_frozen BK423.out 2))
     (try simp only [Act.put, List.setIfInBounds_toArray, List.set_cons_zero, List.set_cons_succ])
     go_cut [6] (fun v6 wc => ∃ (kq : Nat) (x6_26 : Bool), v6 = .bool x6_26 ∧ Aside0 (newellaw17_DoorFalls.j1 kq x6_26 = some r) ∧ Aside0 (kq ≤ kj5) ∧ Aside0 (wc.heap[gb422]? = some (.cells #[.int .i64 a0_0, .int .i64 a0_1, .int .i64 a0_2, .int .i64 a0_3, .int .i64 a0_4, .int .i64 a0_5, .int .i64 a0_6, .int .i64 a0_7, .int .i64 a0_8, .int .i64 a0_9] 42 (0, 0))) ∧ Aside0 (wc.heap[gb423]? = some (.cells #[.int .i64 a1_0, .int .i64 a1_1, .int .i64 a1_2] 44 (0, 0))) ∧ Aside0 (wc.heap[gb431]? = some (.cells #[.int .i64 t426, .int .i64 t427, .int .i64 t428] 44 (0, 0))) ∧ Aside0 (Below w.heap.size w wc))
     case first =>
      have H := HC27.out
      clear HC27
      replace H := Option.bind_eq_some_iff.mp H
      obtain ⟨t435, A350, H⟩ := H
      replace H : (if t435 = true then (if (t426 == a1_0 && (t427 == a1_1 && (t428 == a1_2))) = true then (if t424 = 0 then (newellaw17_DoorFalls.j1 kj5 (t433 == 0)) else (none)) else (none)) else (none)) = some r := H
      have A35 := Aside0.mk A350
      clear A350
      by_cases c36 : t435 = true
      ·subst c36
       have H1 : (if (t426 == a1_0 && (t427 == a1_1 && (t428 == a1_2))) = true then (if t424 = 0 then (newellaw17_DoorFalls.j1 kj5 (t433 == 0)) else (none)) else (none)) = some r := by rw [if_pos rfl] at H; exact H
       clear H
       have H := H1
       clear H1
       by_cases c37 : (t426 == a1_0 && (t427 == a1_1 && (t428 == a1_2))) = true
       ·rw [if_pos c37] at H
        have c37b0 : (t426 == a1_0 && (t427 == a1_1 && (t428 == a1_2))) = true := c37
        (try (have c37s0 := c37b0; simp only [beq_self_eq_true, bne_self_eq_false, Bool.not_true, Bool.not_false, Bool.true_and, Bool.and_true, Bool.false_or, Bool.or_false] at c37s0))
        (try (have c37b1 : decide (t426 = a1_0 && (t427 == a1_1 && (t428 == a1_2))) = true := by simpa using c37))
        (try (have c37b2 : (t426 == a1_0 && (t427 == a1_1 && (t428 == a1_2))) = true := by simpa using c37))
        clear c37
        (first | rw [c37b0] | (simp only [i64_w, i32_w]; rw [c37b0]) | skip)
        by_cases c38 : t424 = 0
        ·rw [if_pos c38] at H
         have c38b0 : (t424 == 0) = true := beq_iff_eq.mpr c38
         have c38b1 : (t424 != 0) = false := bne_eq_false_iff_eq.mpr c38
         clear c38
         have H' := Aside0.mk H
         clear H
         go_wp2_with (first | ((with_reducible refine gate_callee (f := 26) rfl ?_); refine goesL_ (some 49) rfl rfl Try.func26 (by kernel_rfl) rfl #[] rfl (by (try simp only [List.map_toArray, List.map_cons, List.map_nil]); first | done | rfl | (simp only [List.length_drop, List.length_take]; rfl)) ?_; (with_reducible refine (newellaw17_awake.calls kj5  true _ A35.out).mono ?_); rintro e w39 ⟨rfl, hb⟩; refine ⟨_, rfl, ?_⟩; have n0_ := Aside0.mk (blk_below (g := gb422) (o := .cells #[.int .i64 a0_0, .int .i64 a0_1, .int .i64 a0_2, .int .i64 a0_3, .int .i64 a0_4, .int .i64 a0_5, .int .i64 a0_6, .int .i64 a0_7, .int .i64 a0_8, .int .i64 a0_9] 42 (0, 0)) (by (with_reducible repeat (first | refine blk_drewN ?_ _ | refine blk_drew ?_ | refine blk_alloc ?_ _)); exact BK422.out) hb); have n1_ := Aside0.mk (blk_below (g := gb423) (o := .cells #[.int .i64 a1_0, .int .i64 a1_1, .int .i64 a1_2] 44 (0, 0)) (by (with_reducible repeat (first | refine blk_drewN ?_ _ | refine blk_drew ?_ | refine blk_alloc ?_ _)); exact BK423.out) hb); have n2_ := Aside0.mk (blk_below (g := gb431) (o := .cells #[.int .i64 t426, .int .i64 t427, .int .i64 t428] 44 (0, 0)) (by (with_reducible repeat (first | refine blk_drewN ?_ _ | refine blk_drew ?_ | refine blk_alloc ?_ _)); exact BK431.out) hb); have n3_ := Aside0.mk (below_step (by repeat (first | (with_reducible first | exact HB.out | apply below_alloc | apply pw_below_drewN | apply below_drew1 | refine below_set ?_ GE422.out | refine below_set ?_ GE423.out | refine below_set ?_ GE431.out) | exact HB.out)) hb); clear BK422; clear BK423; clear BK431; clear HB; have BK422 := n0_; have BK423 := n1_; have BK431 := n2_; have HB := n3_; clear n0_ n1_ n2_ n3_; (try clear hb); (try clear hb2); (try clear hk); (try clear hi); have hnb40 := NB431_422.out; have hnc40 := NB422_431.out; have hnb41 := NB431_423.out; have hnc41 := NB423_431.out; have hcz42_0 : w39.cell? ⟨gb431, 0, none⟩ = some (.int .i64 t426) := (blk_cell BK431.out 0).trans rfl; have hcz42_1 : w39.cell? ⟨gb431, 1, none⟩ = some (.int .i64 t427) := (blk_cell BK431.out 1).trans rfl; have hcz42_2 : w39.cell? ⟨gb431, 2, none⟩ = some (.int .i64 t428) := (blk_cell BK431.out 2).trans rfl; have hfz42_0 := blk_frozen BK431.out 0; have hfz42_1 := blk_frozen BK431.out 1; have hfz42_2 := blk_frozen BK431.out 2; have hnb43 := NB423_422.out; have hnc43 := NB422_423.out; have hcz44_0 : w39.cell? ⟨gb423, 0, none⟩ = some (.int .i64 a1_0) := (blk_cell BK423.out 0).trans rfl; have hcz44_1 : w39.cell? ⟨gb423, 1, none⟩ = some (.int .i64 a1_1) := (blk_cell BK423.out 1).trans rfl; have hcz44_2 : w39.cell? ⟨gb423, 2, none⟩ = some (.int .i64 a1_2) := (blk_cell BK423.out 2).trans rfl; have hfz44_0 := blk_frozen BK423.out 0; have hfz44_1 := blk_frozen BK423.out 1; have hfz44_2 := blk_frozen BK423.out 2))
         go_meet
         case rel => exact ⟨_, ((t433 == 0)), (by first | rfl | (simp; done) | (simp [*]; done)), H', ⟨by have := HJ5.out; first | omega | exact Nat.le_refl _⟩, ⟨by (with_reducible repeat (first | refine blk_drewN ?_ _ | refine blk_drew ?_ | refine blk_alloc ?_ _)); exact BK422.out⟩, ⟨by (with_reducible repeat (first | refine blk_drewN ?_ _ | refine blk_drew ?_ | refine blk_alloc ?_ _)); exact BK423.out⟩, ⟨by (with_reducible repeat (first | refine blk_drewN ?_ _ | refine blk_drew ?_ | refine blk_alloc ?_ _)); exact BK431.out⟩, ⟨by repeat (first | (with_reducible first | exact HB.out | apply below_alloc | apply pw_below_drewN | apply below_drew1 | refine below_set ?_ GE422.out | refine below_set ?_ GE423.out | refine below_set ?_ GE431.out) | exact HB.out)⟩⟩
        ·rw [if_neg c38] at H
         exact absurd H (by simp)
       ·rw [if_neg c37] at H
        exact absurd H (by simp)
      ·replace c36 := Bool.eq_false_iff.mpr c36
       subst c36
       have H1 : (none) = some r := by rw [if_neg (show ¬ (false = true) by decide)] at H; exact H
       clear H
       have H := H1
       clear H1
       exact absurd H (by simp)
     case rest =>
      clear HC27
      try clear c1
      try clear c2
      try clear p2
      try clear c3
      try clear c4
      try clear p6
      try clear c9
      try clear c10
      try clear c17
      try clear c18
      try clear c20
      try clear c20b0
      try clear c20b1
      try clear c21
      try clear c22
      try clear c23
      try clear c26
      try clear c26b0
      try clear c26b1
      try clear c28
      try clear c29
      try clear c31
      try clear c36
      try clear c37
      try clear c37b0
      try clear c37b1
      try clear c37b2
      try clear c38
      try clear c38b0
      try clear c38b1
      try clear c40
      try clear c41
      try clear c43
      try clear hcz10_0
      try clear hcz10_1
      try clear hcz10_2
      try clear hcz10_3
      try clear hcz10_4
      try clear hcz10_5
      try clear hcz10_6
      try clear hcz10_7
      try clear hcz10_8
      try clear hcz10_9
      try clear hcz11_0
      try clear hcz11_1
      try clear hcz11_2
      try clear hcz13_0
      try clear hcz13_1
      try clear hcz13_2
      try clear hcz13_3
      try clear hcz13_4
      try clear hcz13_5
      try clear hcz13_6
      try clear hcz13_7
      try clear hcz13_8
      try clear hcz13_9
      try clear hcz14_0
      try clear hcz14_1
      try clear hcz14_2
      try clear hcz19_0
      try clear hcz19_1
      try clear hcz19_2
      try clear hcz30_0
      try clear hcz30_1
      try clear hcz30_2
      try clear hcz30_3
      try clear hcz30_4
      try clear hcz30_5
      try clear hcz30_6
      try clear hcz30_7
      try clear hcz30_8
      try clear hcz30_9
      try clear hcz32_0
      try clear hcz32_1
      try clear hcz32_2
      try clear hcz34_0
      try clear hcz34_1
      try clear hcz34_2
      try clear hcz42_0
      try clear hcz42_1
      try clear hcz42_2
      try clear hcz44_0
      try clear hcz44_1
      try clear hcz44_2
      try clear hfz10_0
      try clear hfz10_1
      try clear hfz10_2
      try clear hfz10_3
      try clear hfz10_4
      try clear hfz10_5
      try clear hfz10_6
      try clear hfz10_7
      try clear hfz10_8
      try clear hfz10_9
      try clear hfz11_0
      try clear hfz11_1
      try clear hfz11_2
      try clear hfz13_0
      try clear hfz13_1
      try clear hfz13_2
      try clear hfz13_3
      try clear hfz13_4
      try clear hfz13_5
      try clear hfz13_6
      try clear hfz13_7
      try clear hfz13_8
      try clear hfz13_9
      try clear hfz14_0
      try clear hfz14_1
      try clear hfz14_2
      try clear hfz19_0
      try clear hfz19_1
      try clear hfz19_2
      try clear hfz30_0
      try clear hfz30_1
      try clear hfz30_2
      try clear hfz30_3
      try clear hfz30_4
      try clear hfz30_5
      try clear hfz30_6
      try clear hfz30_7
      try clear hfz30_8
      try clear hfz30_9
      try clear hfz32_0
      try clear hfz32_1
      try clear hfz32_2
      try clear hfz34_0
      try clear hfz34_1
      try clear hfz34_2
      try clear hfz42_0
      try clear hfz42_1
      try clear hfz42_2
      try clear hfz44_0
      try clear hfz44_1
      try clear hfz44_2
      try clear p2
      obtain ⟨kq, x6_26, rfl, HA, HJ26, BK422, BK423, BK431, HB⟩ := hcut
      cases kq with
      | zero => exact absurd HA.out (by simp [newellaw17_DoorFalls.j1])
      | succ kj26 =>
       have H := HA.out
       clear HA
       simp only [newellaw17_DoorFalls.j1] at H
       obtain rfl := Option.some.inj H
       go_wp2
       go_ret
       exact ⟨by first | rfl | (simp [errW_none, errW_some] <;> rfl) | (simp [*, errW_none, errW_some] <;> rfl), by repeat (first | (with_reducible first | exact HB.out | apply below_alloc | apply pw_below_drewN | apply below_drew1 | refine below_set ?_ GE422.out | refine below_set ?_ GE423.out | refine below_set ?_ GE431.out) | exact HB.out)⟩
    ·rw [if_neg c26] at H
     have c26b0 : (a1_0 == 0) = false := beq_eq_false_iff_ne.mpr c26
     have c26b1 : (a1_0 != 0) = true := bne_iff_ne.mpr c26
     have HC45 := Aside0.mk H
     clear H
     have hnb46 := NB422_423.out
     have hnc46 := NB423_422.out
     have hnb47 := NB422_431.out
     have hnc47 := NB431_422.out
     have hcz48_0 : wc.cell? ⟨gb422, 0, none⟩ = some (.int .i64 a0_0) := (blk_cell BK422.out 0).trans rfl
     have hcz48_1 : wc.cell? ⟨gb422, 1, none⟩ = some (.int .i64 a0_1) := (blk_cell BK422.out 1).trans rfl
     have hcz48_2 : wc.cell? ⟨gb422, 2, none⟩ = some (.int .i64 a0_2) := (blk_cell BK422.out 2).trans rfl
     have hcz48_3 : wc.cell? ⟨gb422, 3, none⟩ = some (.int .i64 a0_3) := (blk_cell BK422.out 3).trans rfl
     have hcz48_4 : wc.cell? ⟨gb422, 4, none⟩ = some (.int .i64 a0_4) := (blk_cell BK422.out 4).trans rfl
     have hcz48_5 : wc.cell? ⟨gb422, 5, none⟩ = some (.int .i64 a0_5) := (blk_cell BK422.out 5).trans rfl
     have hcz48_6 : wc.cell? ⟨gb422, 6, none⟩ = some (.int .i64 a0_6) := (blk_cell BK422.out 6).trans rfl
     have hcz48_7 : wc.cell? ⟨gb422, 7, none⟩ = some (.int .i64 a0_7) := (blk_cell BK422.out 7).trans rfl
     have hcz48_8 : wc.cell? ⟨gb422, 8, none⟩ = some (.int .i64 a0_8) := (blk_cell BK422.out 8).trans rfl
     have hcz48_9 : wc.cell? ⟨gb422, 9, none⟩ = some (.int .i64 a0_9) := (blk_cell BK422.out 9).trans rfl
     have hfz48_0 := blk_frozen BK422.out 0
     have hfz48_1 := blk_frozen BK422.out 1
     have hfz48_2 := blk_frozen BK422.out 2
     have hfz48_3 := blk_frozen BK422.out 3
     have hfz48_4 := blk_frozen BK422.out 4
     have hfz48_5 := blk_frozen BK422.out 5
     have hfz48_6 := blk_frozen BK422.out 6
     have hfz48_7 := blk_frozen BK422.out 7
     have hfz48_8 := blk_frozen BK422.out 8
     have hfz48_9 := blk_frozen BK422.out 9
     have hnb49 := NB431_423.out
     have hnc49 := NB423_431.out
     have hcz50_0 : wc.cell? ⟨gb431, 0, none⟩ = some (.int .i64 t426) := (blk_cell BK431.out 0).trans rfl
     have hcz50_1 : wc.cell? ⟨gb431, 1, none⟩ = some (.int .i64 t427) := (blk_cell BK431.out 1).trans rfl
     have hcz50_2 : wc.cell? ⟨gb431, 2, none⟩ = some (.int .i64 t428) := (blk_cell BK431.out 2).trans rfl
     have hfz50_0 := blk_frozen BK431.out 0
     have hfz50_1 := blk_frozen BK431.out 1
     have hfz50_2 := blk_frozen BK431.out 2
     go_upto_region 8 with (first | ((with_reducible refine gate_callee (f := 23) rfl ?_); refine goesL_ (some 43) rfl rfl Try.func23 (by kernel_rfl) rfl #[.agg #[.int .i64 a0_0, .int .i64 a0_1, .int .i64 a0_2, .int .i64 a0_3, .int .i64 a0_4, .int .i64 a0_5, .int .i64 a0_6, .int .i64 a0_7, .int .i64 a0_8, .int .i64 a0_9], .agg #[.int .i64 t426, .int .i64 t427, .int .i64 t428]] rfl (by (try simp only [List.map_toArray, List.map_cons, List.map_nil]); first | done | rfl | (simp only [List.length_drop, List.length_take]; rfl)) ?_; (with_reducible refine (door_Rest.calls kj5 a0_0 a0_1 a0_2 a0_3 a0_4 a0_5 a0_6 a0_7 a0_8 a0_9 t426 t427 t428 t433 t434 _ A25.out).mono ?_); rintro e w51 ⟨rfl, hb⟩; refine ⟨_, rfl, ?_⟩; have n0_ := Aside0.mk (blk_below (g := gb422) (o := .cells #[.int .i64 a0_0, .int .i64 a0_1, .int .i64 a0_2, .int .i64 a0_3, .int .i64 a0_4, .int .i64 a0_5, .int .i64 a0_6, .int .i64 a0_7, .int .i64 a0_8, .int .i64 a0_9] 42 (0, 0)) (by (with_reducible repeat (first | refine blk_drewN ?_ _ | refine blk_drew ?_ | refine blk_alloc ?_ _)); exact BK422.out) hb); have n1_ := Aside0.mk (blk_below (g := gb423) (o := .cells #[.int .i64 a1_0, .int .i64 a1_1, .int .i64 a1_2] 44 (0, 0)) (by (with_reducible repeat (first | refine blk_drewN ?_ _ | refine blk_drew ?_ | refine blk_alloc ?_ _)); exact BK423.out) hb); have n2_ := Aside0.mk (blk_below (g := gb431) (o := .cells #[.int .i64 t426, .int .i64 t427, .int .i64 t428] 44 (0, 0)) (by (with_reducible repeat (first | refine blk_drewN ?_ _ | refine blk_drew ?_ | refine blk_alloc ?_ _)); exact BK431.out) hb); have n3_ := Aside0.mk (below_step (by repeat (first | (with_reducible first | exact HB.out | apply below_alloc | apply pw_below_drewN | apply below_drew1 | refine below_set ?_ GE422.out | refine below_set ?_ GE423.out | refine below_set ?_ GE431.out) | exact HB.out)) hb); clear BK422; clear BK423; clear BK431; clear HB; have BK422 := n0_; have BK423 := n1_; have BK431 := n2_; have HB := n3_; clear n0_ n1_ n2_ n3_; (try clear hb); (try clear hb2); (try clear hk); (try clear hi); have hcz52_0 : w51.cell? ⟨gb423, 0, none⟩ = some (.int .i64 a1_0) := (blk_cell BK423.out 0).trans rfl; have hcz52_1 : w51.cell? ⟨gb423, 1, none⟩ = some (.int .i64 a1_1) := (blk_cell BK423.out 1).trans rfl; have hcz52_2 : w51.cell? ⟨gb423, 2, none⟩ = some (.int .i64 a1_2) := (blk_cell BK423.out 2).trans rfl; have hfz52_0 := blk_frozen BK423.out 0; have hfz52_1 := blk_frozen BK423.out 1; have hfz52_2 := blk_frozen BK423.out 2))
     (try simp only [Act.put, List.setIfInBounds_toArray, List.set_cons_zero, List.set_cons_succ])
     go_cut [6] (fun v6 wc => ∃ (kq : Nat) (x6_44 : Bool), v6 = .bool x6_44 ∧ Aside0 (newellaw17_DoorFalls.j2 kq x6_44 = some r) ∧ Aside0 (kq ≤ kj5) ∧ Aside0 (wc.heap[gb422]? = some (.cells #[.int .i64 a0_0, .int .i64 a0_1, .int .i64 a0_2, .int .i64 a0_3, .int .i64 a0_4, .int .i64 a0_5, .int .i64 a0_6, .int .i64 a0_7, .int .i64 a0_8, .int .i64 a0_9] 42 (0, 0))) ∧ Aside0 (wc.heap[gb423]? = some (.cells #[.int .i64 a1_0, .int .i64 a1_1, .int .i64 a1_2] 44 (0, 0))) ∧ Aside0 (wc.heap[gb431]? = some (.cells #[.int .i64 t426, .int .i64 t427, .int .i64 t428] 44 (0, 0))) ∧ Aside0 (Below w.heap.size w wc))
     case first =>
      have H := HC45.out
      clear HC45
      replace H := Option.bind_eq_some_iff.mp H
      obtain ⟨t436, A530, H⟩ := H
      replace H : (if t436 = true then (if t434 = 0 then (if t424 ≥ 1 then (if t433 ≤ (wrap64 (t424 - 1)) then (if t433 ≥ 0 then (if ((t433 == 0) == (t426 == 0)) = true then (newellaw17_DoorFalls.j2 kj5 (decide (t428 ≤ (mx a1_2 a0_9)))) else (none)) else (none)) else (none)) else (none)) else (none)) else (none)) = some r := H
      have A53 := Aside0.mk A530
      clear A530
      by_cases c54 : t436 = true
      ·subst c54
       have H1 : (if t434 = 0 then (if t424 ≥ 1 then (if t433 ≤ (wrap64 (t424 - 1)) then (if t433 ≥ 0 then (if ((t433 == 0) == (t426 == 0)) = true then (newellaw17_DoorFalls.j2 kj5 (decide (t428 ≤ (mx a1_2 a0_9)))) else (none)) else (none)) else (none)) else (none)) else (none)) = some r := by rw [if_pos rfl] at H; exact H
       clear H
       have H := H1
       clear H1
       by_cases c55 : t434 = 0
       ·rw [if_pos c55] at H
        have c55b0 : (t434 == 0) = true := beq_iff_eq.mpr c55
        have c55b1 : (t434 != 0) = false := bne_eq_false_iff_eq.mpr c55
        clear c55
        (first | rw [c55b0] | (simp only [i64_w, i32_w]; rw [c55b0]) | skip)
        by_cases c56 : t424 ≥ 1
        ·rw [if_pos c56] at H
         have c56b0 : decide (1 ≤ t424) = true := decide_eq_true c56
         clear c56
         by_cases c57 : t433 ≤ (wrap64 (t424 - 1))
         ·rw [if_pos c57] at H
          have c57b0 : decide (t433 ≤ (wrap64 (t424 - 1))) = true := decide_eq_true c57
          clear c57
          by_cases c58 : t433 ≥ 0
          ·rw [if_pos c58] at H
           have c58b0 : decide (0 ≤ t433) = true := decide_eq_true c58
           clear c58
           by_cases c59 : ((t433 == 0) == (t426 == 0)) = true
           ·rw [if_pos c59] at H
            have c59b0 : ((t433 == 0) == (t426 == 0)) = true := c59
            (try (have c59s0 := c59b0; simp only [beq_self_eq_true, bne_self_eq_false, Bool.not_true, Bool.not_false, Bool.true_and, Bool.and_true, Bool.false_or, Bool.or_false] at c59s0))
            (try (have c59b1 : decide ((t433 == 0) = (t426 == 0)) = true := by simpa using c59))
            (try (have c59b2 : ((t433 == 0) == (t426 == 0)) = true := by simpa using c59))
            clear c59
            obtain ⟨ji60, hji60⟩ : ∃ j_ : Int, (mx a1_2 a0_9) = j_ := ⟨_, rfl⟩
            replace H : (newellaw17_DoorFalls.j2 kj5 (decide (t428 ≤ (ji60)))) = some r := by first | (rw [hji60] at H; exact H) | (simp only [hji60] at H ⊢; exact H)
            (try rw [hji60] at A53)
            have hji60_ : (if a1_2 < a0_9 then a0_9 else a1_2) = ji60 := hji60
            have H' := Aside0.mk H
            clear H
            go_wp2_with (first | ((with_reducible refine gate_callee (f := 26) rfl ?_); refine goesL_ (some 63) rfl rfl Try.func26 (by kernel_rfl) rfl #[] rfl (by (try simp only [List.map_toArray, List.map_cons, List.map_nil]); first | done | rfl | (simp only [List.length_drop, List.length_take]; rfl)) ?_; (with_reducible refine (newellaw17_awake.calls kj5  true _ A53.out).mono ?_); rintro e w61 ⟨rfl, hb⟩; refine ⟨_, rfl, ?_⟩; have n0_ := Aside0.mk (blk_below (g := gb422) (o := .cells #[.int .i64 a0_0, .int .i64 a0_1, .int .i64 a0_2, .int .i64 a0_3, .int .i64 a0_4, .int .i64 a0_5, .int .i64 a0_6, .int .i64 a0_7, .int .i64 a0_8, .int .i64 a0_9] 42 (0, 0)) (by (with_reducible repeat (first | refine blk_drewN ?_ _ | refine blk_drew ?_ | refine blk_alloc ?_ _)); exact BK422.out) hb); have n1_ := Aside0.mk (blk_below (g := gb423) (o := .cells #[.int .i64 a1_0, .int .i64 a1_1, .int .i64 a1_2] 44 (0, 0)) (by (with_reducible repeat (first | refine blk_drewN ?_ _ | refine blk_drew ?_ | refine blk_alloc ?_ _)); exact BK423.out) hb); have n2_ := Aside0.mk (blk_below (g := gb431) (o := .cells #[.int .i64 t426, .int .i64 t427, .int .i64 t428] 44 (0, 0)) (by (with_reducible repeat (first | refine blk_drewN ?_ _ | refine blk_drew ?_ | refine blk_alloc ?_ _)); exact BK431.out) hb); have n3_ := Aside0.mk (below_step (by repeat (first | (with_reducible first | exact HB.out | apply below_alloc | apply pw_below_drewN | apply below_drew1 | refine below_set ?_ GE422.out | refine below_set ?_ GE423.out | refine below_set ?_ GE431.out) | exact HB.out)) hb); clear BK422; clear BK423; clear BK431; clear HB; have BK422 := n0_; have BK423 := n1_; have BK431 := n2_; have HB := n3_; clear n0_ n1_ n2_ n3_; (try clear hb); (try clear hb2); (try clear hk); (try clear hi); have hnb62 := NB431_422.out; have hnc62 := NB422_431.out; have hnb63 := NB431_423.out; have hnc63 := NB423_431.out; have hcz64_0 : w61.cell? ⟨gb431, 0, none⟩ = some (.int .i64 t426) := (blk_cell BK431.out 0).trans rfl; have hcz64_1 : w61.cell? ⟨gb431, 1, none⟩ = some (.int .i64 t427) := (blk_cell BK431.out 1).trans rfl; have hcz64_2 : w61.cell? ⟨gb431, 2, none⟩ = some (.int .i64 t428) := (blk_cell BK431.out 2).trans rfl; have hfz64_0 := blk_frozen BK431.out 0; have hfz64_1 := blk_frozen BK431.out 1; have hfz64_2 := blk_frozen BK431.out 2; have hnb65 := NB423_422.out; have hnc65 := NB422_423.out; have hcz66_0 : w61.cell? ⟨gb423, 0, none⟩ = some (.int .i64 a1_0) := (blk_cell BK423.out 0).trans rfl; have hcz66_1 : w61.cell? ⟨gb423, 1, none⟩ = some (.int .i64 a1_1) := (blk_cell BK423.out 1).trans rfl; have hcz66_2 : w61.cell? ⟨gb423, 2, none⟩ = some (.int .i64 a1_2) := (blk_cell BK423.out 2).trans rfl; have hfz66_0 := blk_frozen BK423.out 0; have hfz66_1 := blk_frozen BK423.out 1; have hfz66_2 := blk_frozen BK423.out 2; have hcz67_0 : w61.cell? ⟨gb422, 0, none⟩ = some (.int .i64 a0_0) := (blk_cell BK422.out 0).trans rfl; have hcz67_1 : w61.cell? ⟨gb422, 1, none⟩ = some (.int .i64 a0_1) := (blk_cell BK422.out 1).trans rfl; have hcz67_2 : w61.cell? ⟨gb422, 2, none⟩ = some (.int .i64 a0_2) := (blk_cell BK422.out 2).trans rfl; have hcz67_3 : w61.cell? ⟨gb422, 3, none⟩ = some (.int .i64 a0_3) := (blk_cell BK422.out 3).trans rfl; have hcz67_4 : w61.cell? ⟨gb422, 4, none⟩ = some (.int .i64 a0_4) := (blk_cell BK422.out 4).trans rfl; have hcz67_5 : w61.cell? ⟨gb422, 5, none⟩ = some (.int .i64 a0_5) := (blk_cell BK422.out 5).trans rfl; have hcz67_6 : w61.cell? ⟨gb422, 6, none⟩ = some (.int .i64 a0_6) := (blk_cell BK422.out 6).trans rfl; have hcz67_7 : w61.cell? ⟨gb422, 7, none⟩ = some (.int .i64 a0_7) := (blk_cell BK422.out 7).trans rfl; have hcz67_8 : w61.cell? ⟨gb422, 8, none⟩ = some (.int .i64 a0_8) := (blk_cell BK422.out 8).trans rfl; have hcz67_9 : w61.cell? ⟨gb422, 9, none⟩ = some (.int .i64 a0_9) := (blk_cell BK422.out 9).trans rfl; have hfz67_0 := blk_frozen BK422.out 0; have hfz67_1 := blk_frozen BK422.out 1; have hfz67_2 := blk_frozen BK422.out 2; have hfz67_3 := blk_frozen BK422.out 3; have hfz67_4 := blk_frozen BK422.out 4; have hfz67_5 := blk_frozen BK422.out 5; have hfz67_6 := blk_frozen BK422.out 6; have hfz67_7 := blk_frozen BK422.out 7; have hfz67_8 := blk_frozen BK422.out 8; have hfz67_9 := blk_frozen BK422.out 9))
            go_meet
            case rel => exact ⟨_, (decide (t428 ≤ (ji60))), (by first | rfl | (simp; done) | (simp only [← hji60] <;> (first | rfl | simp)) | (simp [*]; done)), H', ⟨by have := HJ5.out; first | omega | exact Nat.le_refl _⟩, ⟨by (with_reducible repeat (first | refine blk_drewN ?_ _ | refine blk_drew ?_ | refine blk_alloc ?_ _)); exact BK422.out⟩, ⟨by (with_reducible repeat (first | refine blk_drewN ?_ _ | refine blk_drew ?_ | refine blk_alloc ?_ _)); exact BK423.out⟩, ⟨by (with_reducible repeat (first | refine blk_drewN ?_ _ | refine blk_drew ?_ | refine blk_alloc ?_ _)); exact BK431.out⟩, ⟨by repeat (first | (with_reducible first | exact HB.out | apply below_alloc | apply pw_below_drewN | apply below_drew1 | refine below_set ?_ GE422.out | refine below_set ?_ GE423.out | refine below_set ?_ GE431.out) | exact HB.out)⟩⟩
           ·rw [if_neg c59] at H
            exact absurd H (by simp)
          ·rw [if_neg c58] at H
           exact absurd H (by simp)
         ·rw [if_neg c57] at H
          exact absurd H (by simp)
        ·rw [if_neg c56] at H
         exact absurd H (by simp)
       ·rw [if_neg c55] at H
        exact absurd H (by simp)
      ·replace c54 := Bool.eq_false_iff.mpr c54
       subst c54
       have H1 : (none) = some r := by rw [if_neg (show ¬ (false = true) by decide)] at H; exact H
       clear H
       have H := H1
       clear H1
       exact absurd H (by simp)
     case rest =>
      clear HC45
      try clear c1
      try clear c2
      try clear p2
      try clear c3
      try clear c4
      try clear c5
      try clear c6
      try clear p6
      try clear c9
      try clear c10
      try clear c17
      try clear c18
      try clear c20
      try clear c20b0
      try clear c20b1
      try clear c21
      try clear c22
      try clear c23
      try clear c26
      try clear c26b0
      try clear c26b1
      try clear c28
      try clear c29
      try clear c31
      try clear c36
      try clear c37
      try clear c37b0
      try clear c37b1
      try clear c37b2
      try clear c38
      try clear c38b0
      try clear c38b1
      try clear c40
      try clear c41
      try clear c43
      try clear c46
      try clear c47
      try clear c49
      try clear c54
      try clear c55
      try clear c55b0
      try clear c55b1
      try clear c56
      try clear c56b0
      try clear c57
      try clear c57b0
      try clear c58
      try clear c58b0
      try clear c59
      try clear c59b0
      try clear c59b1
      try clear c59b2
      try clear c62
      try clear c63
      try clear p64
      try clear c65
      try clear hcz10_0
      try clear hcz10_1
      try clear hcz10_2
      try clear hcz10_3
      try clear hcz10_4
      try clear hcz10_5
      try clear hcz10_6
      try clear hcz10_7
      try clear hcz10_8
      try clear hcz10_9
      try clear hcz11_0
      try clear hcz11_1
      try clear hcz11_2
      try clear hcz13_0
      try clear hcz13_1
      try clear hcz13_2
      try clear hcz13_3
      try clear hcz13_4
      try clear hcz13_5
      try clear hcz13_6
      try clear hcz13_7
      try clear hcz13_8
      try clear hcz13_9
      try clear hcz14_0
      try clear hcz14_1
      try clear hcz14_2
      try clear hcz19_0
      try clear hcz19_1
      try clear hcz19_2
      try clear hcz30_0
      try clear hcz30_1
      try clear hcz30_2
      try clear hcz30_3
      try clear hcz30_4
      try clear hcz30_5
      try clear hcz30_6
      try clear hcz30_7
      try clear hcz30_8
      try clear hcz30_9
      try clear hcz32_0
      try clear hcz32_1
      try clear hcz32_2
      try clear hcz34_0
      try clear hcz34_1
      try clear hcz34_2
      try clear hcz42_0
      try clear hcz42_1
      try clear hcz42_2
      try clear hcz44_0
      try clear hcz44_1
      try clear hcz44_2
      try clear hcz48_0
      try clear hcz48_1
      try clear hcz48_2
      try clear hcz48_3
      try clear hcz48_4
      try clear hcz48_5
      try clear hcz48_6
      try clear hcz48_7
      try clear hcz48_8
      try clear hcz48_9
      try clear hcz50_0
      try clear hcz50_1
      try clear hcz50_2
      try clear hcz52_0
      try clear hcz52_1
      try clear hcz52_2
      try clear hcz64_0
      try clear hcz64_1
      try clear hcz64_2
      try clear hcz66_0
      try clear hcz66_1
      try clear hcz66_2
      try clear hcz67_0
      try clear hcz67_1
      try clear hcz67_2
      try clear hcz67_3
      try clear hcz67_4
      try clear hcz67_5
      try clear hcz67_6
      try clear hcz67_7
      try clear hcz67_8
      try clear hcz67_9
      try clear hfz10_0
      try clear hfz10_1
      try clear hfz10_2
      try clear hfz10_3
      try clear hfz10_4
      try clear hfz10_5
      try clear hfz10_6
      try clear hfz10_7
      try clear hfz10_8
      try clear hfz10_9
      try clear hfz11_0
      try clear hfz11_1
      try clear hfz11_2
      try clear hfz13_0
      try clear hfz13_1
      try clear hfz13_2
      try clear hfz13_3
      try clear hfz13_4
      try clear hfz13_5
      try clear hfz13_6
      try clear hfz13_7
      try clear hfz13_8
      try clear hfz13_9
      try clear hfz14_0
      try clear hfz14_1
      try clear hfz14_2
      try clear hfz19_0
      try clear hfz19_1
      try clear hfz19_2
      try clear hfz30_0
      try clear hfz30_1
      try clear hfz30_2
      try clear hfz30_3
      try clear hfz30_4
      try clear hfz30_5
      try clear hfz30_6
      try clear hfz30_7
      try clear hfz30_8
      try clear hfz30_9
      try clear hfz32_0
      try clear hfz32_1
      try clear hfz32_2
      try clear hfz34_0
      try clear hfz34_1
      try clear hfz34_2
      try clear hfz42_0
      try clear hfz42_1
      try clear hfz42_2
      try clear hfz44_0
      try clear hfz44_1
      try clear hfz44_2
      try clear hfz48_0
      try clear hfz48_1
      try clear hfz48_2
      try clear hfz48_3
      try clear hfz48_4
      try clear hfz48_5
      try clear hfz48_6
      try clear hfz48_7
      try clear hfz48_8
      try clear hfz48_9
      try clear hfz50_0
      try clear hfz50_1
      try clear hfz50_2
      try clear hfz52_0
      try clear hfz52_1
      try clear hfz52_2
      try clear hfz64_0
      try clear hfz64_1
      try clear hfz64_2
      try clear hfz66_0
      try clear hfz66_1
      try clear hfz66_2
      try clear hfz67_0
      try clear hfz67_1
      try clear hfz67_2
      try clear hfz67_3
      try clear hfz67_4
      try clear hfz67_5
      try clear hfz67_6
      try clear hfz67_7
      try clear hfz67_8
      try clear hfz67_9
      try clear p2
      try clear p6
      obtain ⟨kq, x6_44, rfl, HA, HJ44, BK422, BK423, BK431, HB⟩ := hcut
      cases kq with
      | zero => exact absurd HA.out (by simp [newellaw17_DoorFalls.j2])
      | succ kj44 =>
       have H := HA.out
       clear HA
       simp only [newellaw17_DoorFalls.j2] at H
       obtain rfl := Option.some.inj H
       go_wp2
       go_ret
       exact ⟨by first | rfl | (simp [errW_none, errW_some] <;> rfl) | (simp [*, errW_none, errW_some] <;> rfl), by repeat (first | (with_reducible first | exact HB.out | apply below_alloc | apply pw_below_drewN | apply below_drew1 | refine below_set ?_ GE422.out | refine below_set ?_ GE423.out | refine below_set ?_ GE431.out) | exact HB.out)⟩

end Go.Proofs.Ytjfikeahafflfaa.C
