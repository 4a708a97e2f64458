-- Written by a program of this session (wip/pp: the kit's print, changed), out of the translation. Lean checks it.
import Derived.Test.YtjfikeahafflfaaCx0
import Derived.Test.YtjfikeahafflfaaCxe44
import Derived.Test.YtjfikeahafflfaaCxf23
import Derived.Test.YtjfikeahafflfaaCxf24
import Derived.Test.YtjfikeahafflfaaCxf25
import Derived.Test.YtjfikeahafflfaaCxf26
import Derived.Test.YtjfikeahafflfaaCxf27
import Derived.Test.YtjfikeahafflfaaCxf28
import Derived.Test.YtjfikeahafflfaaStep
namespace Go.Proofs.Ytjfikeahafflfaa.C
open Go.RowKit Go.Proofs.YtjfikeahafflfaaW.PrintWords Go.Proofs.YtjfikeahafflfaaW.PrintLast Go.Proofs.YtjfikeahafflfaaW.PrintMore
attribute [local go_sem] max2_int min2_int max_two min_two max_three min_three max_four min_four   -- for this text's walks alone
set_option linter.unusedVariables false
set_option linter.unusedSimpArgs false

attribute [local go_sem high] eqA44
/-! ### newellaw17_DoorSteps: function 8 -/
mutual
def newellaw17_DoorSteps.j0 : Nat → Bool → Bool → Int → Int → Int → Bool → Int → Int → Int → Int → Int → Int → Int → Int → Int → Int → Int → Int → Int → Int → Int → Int → Option (Bool)
 | 0, _, _, _, _, _, _, _, _, _, _, _, _, _, _, _, _, _, _, _, _, _, _ => none
 | k + 1, x2, x8, x9, x10, x11, x34, x384000, x384001, x384002, x384003, x384004, x384005, x384006, x384007, x384008, x384009, x385000, x385001, x385002, x391000, x391001, x391002 => if x34 = true then ((newellaw17_awake.f k).bind fun t395 => (if t395 = true then (if x9 = 170 then (if x11 = x9 then (if x8 = true then (none) else (if x10 = 0 then (newellaw17_DoorSteps.j1 k (x391000 == 0 && (x391001 == 0 && (x391002 == 0)))) else (none))) else (none)) else (none)) else (none))) else ((newelref17_Step.f k x384000 x384001 x384002 x384003 x384004 x384005 x384006 x384007 x384008 x384009 x385000 x385001 x385002 x2).bind fun bt396 => ((newellaw17_awake.f k).bind fun t401 => (if t401 = true then (if x9 = 0 then (if x11 = 0 then (if (x391000 == bt396.1 && (x391001 == bt396.2.1 && (x391002 == bt396.2.2.1))) = true then (if (x8 == bt396.2.2.2) = true then ((newelref17_Rest.f k x384000 x384001 x384002 x384003 x384004 x384005 x384006 x384007 x384008 x384009 x385000 x385001 x385002).bind fun t402 => (newellaw17_DoorSteps.j2 k (x10 == t402))) else (none)) else (none)) else (none)) else (none)) else (none))))
def newellaw17_DoorSteps.j1 : Nat → Bool → Option (Bool)
 | 0, _ => none
 | k + 1, x6 => some x6
def newellaw17_DoorSteps.j2 : Nat → Bool → Option (Bool)
 | 0, _ => none
 | k + 1, x6 => some x6
end
def newellaw17_DoorSteps.f (k : Nat) (a0_0 : Int) (a0_1 : Int) (a0_2 : Int) (a0_3 : Int) (a0_4 : Int) (a0_5 : Int) (a0_6 : Int) (a0_7 : Int) (a0_8 : Int) (a0_9 : Int) (a1_0 : Int) (a1_1 : Int) (a1_2 : Int) (a2 : Bool) : Option (Bool) := (door_Step.f k a0_0 a0_1 a0_2 a0_3 a0_4 a0_5 a0_6 a0_7 a0_8 a0_9 a1_0 a1_1 a1_2 a2).bind fun bt385 => ((door_Rest.f k a0_0 a0_1 a0_2 a0_3 a0_4 a0_5 a0_6 a0_7 a0_8 a0_9 a1_0 a1_1 a1_2).bind fun bt391 => ((newelref17_Gear.f a0_0 a0_1 a0_2 a0_3 a0_4 a0_5 a0_6 a0_7 a0_8 a0_9).bind fun t393 => (if t393 = true then ((newelref17_May.f k a1_0 a1_1 a1_2).bind fun t394 => (newellaw17_DoorSteps.j0 k a2 bt385.2.2.2.1 bt385.2.2.2.2 bt391.1 bt391.2 (!t394) a0_0 a0_1 a0_2 a0_3 a0_4 a0_5 a0_6 a0_7 a0_8 a0_9 a1_0 a1_1 a1_2 bt385.1 bt385.2.1 bt385.2.2.1)) else (newellaw17_DoorSteps.j0 k a2 bt385.2.2.2.1 bt385.2.2.2.2 bt391.1 bt391.2 true a0_0 a0_1 a0_2 a0_3 a0_4 a0_5 a0_6 a0_7 a0_8 a0_9 a1_0 a1_1 a1_2 bt385.1 bt385.2.1 bt385.2.2.1))))
theorem newellaw17_DoorSteps.mono_l : ∀ k, (∀ y0 y1 y2 y3 y4 y5 y6 y7 y8 y9 y10 y11 y12 y13 y14 y15 y16 y17 y18 y19 y20 y21, LeO (newellaw17_DoorSteps.j0 k y0 y1 y2 y3 y4 y5 y6 y7 y8 y9 y10 y11 y12 y13 y14 y15 y16 y17 y18 y19 y20 y21) (newellaw17_DoorSteps.j0 (k + 1) y0 y1 y2 y3 y4 y5 y6 y7 y8 y9 y10 y11 y12 y13 y14 y15 y16 y17 y18 y19 y20 y21)) ∧ (∀ y0, LeO (newellaw17_DoorSteps.j1 k y0) (newellaw17_DoorSteps.j1 (k + 1) y0)) ∧ (∀ y0, LeO (newellaw17_DoorSteps.j2 k y0) (newellaw17_DoorSteps.j2 (k + 1) y0))
 | 0 => ⟨fun _ _ _ _ _ _ _ _ _ _ _ _ _ _ _ _ _ _ _ _ _ _ r h => by simp [newellaw17_DoorSteps.j0] at h, fun _ r h => by simp [newellaw17_DoorSteps.j1] at h, fun _ r h => by simp [newellaw17_DoorSteps.j2] at h⟩
 | k + 1 => by
  obtain ⟨ih0, ih1, ih2⟩ := newellaw17_DoorSteps.mono_l k
  refine ⟨?_, ?_, ?_⟩
  ·intro y0 y1 y2 y3 y4 y5 y6 y7 y8 y9 y10 y11 y12 y13 y14 y15 y16 y17 y18 y19 y20 y21
   unfold newellaw17_DoorSteps.j0
   repeat' first
   | (with_reducible exact ih0 _ _ _ _ _ _ _ _ _ _ _ _ _ _ _ _ _ _ _ _ _ _)
   | (with_reducible exact ih1 _)
   | (with_reducible exact ih2 _)
   | (with_reducible exact door_Rest.mono _ _ _ _ _ _ _ _ _ _ _ _ _ _)
   | (with_reducible exact door_Step.mono _ _ _ _ _ _ _ _ _ _ _ _ _ _ _)
   | (with_reducible exact newellaw17_awake.mono _)
   | (with_reducible exact newelref17_May.mono _ _ _ _)
   | (with_reducible exact newelref17_Rest.mono _ _ _ _ _ _ _ _ _ _ _ _ _ _)
   | (with_reducible exact newelref17_Step.mono _ _ _ _ _ _ _ _ _ _ _ _ _ _ _)
   | (with_reducible exact LeO.refl _)
   | (with_reducible exact LeO.none _)
   | (with_reducible refine LeO.ite ?_ ?_)
   | (with_reducible refine LeO.bind ?_ (fun _ => ?_))
   | exact ih0 _ _ _ _ _ _ _ _ _ _ _ _ _ _ _ _ _ _ _ _ _ _
   | exact ih1 _
   | exact ih2 _
   | exact door_Rest.mono _ _ _ _ _ _ _ _ _ _ _ _ _ _
   | exact door_Step.mono _ _ _ _ _ _ _ _ _ _ _ _ _ _ _
   | exact newellaw17_awake.mono _
   | exact newelref17_May.mono _ _ _ _
   | exact newelref17_Rest.mono _ _ _ _ _ _ _ _ _ _ _ _ _ _
   | exact newelref17_Step.mono _ _ _ _ _ _ _ _ _ _ _ _ _ _ _
   | exact LeO.none _
   | refine LeO.ite ?_ ?_
   | refine LeO.bind ?_ (fun _ => ?_)
  ·intro y0
   unfold newellaw17_DoorSteps.j1
   repeat' first
   | (with_reducible exact ih0 _ _ _ _ _ _ _ _ _ _ _ _ _ _ _ _ _ _ _ _ _ _)
   | (with_reducible exact ih1 _)
   | (with_reducible exact ih2 _)
   | (with_reducible exact door_Rest.mono _ _ _ _ _ _ _ _ _ _ _ _ _ _)
   | (with_reducible exact door_Step.mono _ _ _ _ _ _ _ _ _ _ _ _ _ _ _)
   | (with_reducible exact newellaw17_awake.mono _)
   | (with_reducible exact newelref17_May.mono _ _ _ _)
   | (with_reducible exact newelref17_Rest.mono _ _ _ _ _ _ _ _ _ _ _ _ _ _)
   | (with_reducible exact newelref17_Step.mono _ _ _ _ _ _ _ _ _ _ _ _ _ _ _)
   | (with_reducible exact LeO.refl _)
   | (with_reducible exact LeO.none _)
   | (with_reducible refine LeO.ite ?_ ?_)
   | (with_reducible refine LeO.bind ?_ (fun _ => ?_))
   | exact ih0 _ _ _ _ _ _ _ _ _ _ _ _ _ _ _ _ _ _ _ _ _ _
   | exact ih1 _
   | exact ih2 _
   | exact door_Rest.mono _ _ _ _ _ _ _ _ _ _ _ _ _ _
   | exact door_Step.mono _ _ _ _ _ _ _ _ _ _ _ _ _ _ _
   | exact newellaw17_awake.mono _
   | exact newelref17_May.mono _ _ _ _
   | exact newelref17_Rest.mono _ _ _ _ _ _ _ _ _ _ _ _ _ _
   | exact newelref17_Step.mono _ _ _ _ _ _ _ _ _ _ _ _ _ _ _
   | exact LeO.none _
   | refine LeO.ite ?_ ?_
   | refine LeO.bind ?_ (fun _ => ?_)
  ·intro y0
   unfold newellaw17_DoorSteps.j2
   repeat' first
   | (with_reducible exact ih0 _ _ _ _ _ _ _ _ _ _ _ _ _ _ _ _ _ _ _ _ _ _)
   | (with_reducible exact ih1 _)
   | (with_reducible exact ih2 _)
   | (with_reducible exact door_Rest.mono _ _ _ _ _ _ _ _ _ _ _ _ _ _)
   | (with_reducible exact door_Step.mono _ _ _ _ _ _ _ _ _ _ _ _ _ _ _)
   | (with_reducible exact newellaw17_awake.mono _)
   | (with_reducible exact newelref17_May.mono _ _ _ _)
   | (with_reducible exact newelref17_Rest.mono _ _ _ _ _ _ _ _ _ _ _ _ _ _)
   | (with_reducible exact newelref17_Step.mono _ _ _ _ _ _ _ _ _ _ _ _ _ _ _)
   | (with_reducible exact LeO.refl _)
   | (with_reducible exact LeO.none _)
   | (with_reducible refine LeO.ite ?_ ?_)
   | (with_reducible refine LeO.bind ?_ (fun _ => ?_))
   | exact ih0 _ _ _ _ _ _ _ _ _ _ _ _ _ _ _ _ _ _ _ _ _ _
   | exact ih1 _
   | exact ih2 _
   | exact door_Rest.mono _ _ _ _ _ _ _ _ _ _ _ _ _ _
   | exact door_Step.mono _ _ _ _ _ _ _ _ _ _ _ _ _ _ _
   | exact newellaw17_awake.mono _
   | exact newelref17_May.mono _ _ _ _
   | exact newelref17_Rest.mono _ _ _ _ _ _ _ _ _ _ _ _ _ _
   | exact newelref17_Step.mono _ _ _ _ _ _ _ _ _ _ _ _ _ _ _
   | exact LeO.none _
   | refine LeO.ite ?_ ?_
   | refine LeO.bind ?_ (fun _ => ?_)
theorem newellaw17_DoorSteps.mono : ∀ a0 a1 a2 a3 a4 a5 a6 a7 a8 a9 a10 a11 a12 a13 k, LeO (newellaw17_DoorSteps.f k a0 a1 a2 a3 a4 a5 a6 a7 a8 a9 a10 a11 a12 a13) (newellaw17_DoorSteps.f (k + 1) a0 a1 a2 a3 a4 a5 a6 a7 a8 a9 a10 a11 a12 a13) := by
 intro a0 a1 a2 a3 a4 a5 a6 a7 a8 a9 a10 a11 a12 a13 k
 obtain ⟨ih0, ih1, ih2⟩ := newellaw17_DoorSteps.mono_l k
 unfold newellaw17_DoorSteps.f
 repeat' first
   | (with_reducible exact ih0 _ _ _ _ _ _ _ _ _ _ _ _ _ _ _ _ _ _ _ _ _ _)
   | (with_reducible exact ih1 _)
   | (with_reducible exact ih2 _)
   | (with_reducible exact door_Rest.mono _ _ _ _ _ _ _ _ _ _ _ _ _ _)
   | (with_reducible exact door_Step.mono _ _ _ _ _ _ _ _ _ _ _ _ _ _ _)
   | (with_reducible exact newellaw17_awake.mono _)
   | (with_reducible exact newelref17_May.mono _ _ _ _)
   | (with_reducible exact newelref17_Rest.mono _ _ _ _ _ _ _ _ _ _ _ _ _ _)
   | (with_reducible exact newelref17_Step.mono _ _ _ _ _ _ _ _ _ _ _ _ _ _ _)
   | (with_reducible exact LeO.refl _)
   | (with_reducible exact LeO.none _)
   | (with_reducible refine LeO.ite ?_ ?_)
   | (with_reducible refine LeO.bind ?_ (fun _ => ?_))
   | exact ih0 _ _ _ _ _ _ _ _ _ _ _ _ _ _ _ _ _ _ _ _ _ _
   | exact ih1 _
   | exact ih2 _
   | exact door_Rest.mono _ _ _ _ _ _ _ _ _ _ _ _ _ _
   | exact door_Step.mono _ _ _ _ _ _ _ _ _ _ _ _ _ _ _
   | exact newellaw17_awake.mono _
   | exact newelref17_May.mono _ _ _ _
   | exact newelref17_Rest.mono _ _ _ _ _ _ _ _ _ _ _ _ _ _
   | exact newelref17_Step.mono _ _ _ _ _ _ _ _ _ _ _ _ _ _ _
   | exact LeO.none _
   | refine LeO.ite ?_ ?_
   | refine LeO.bind ?_ (fun _ => ?_)
set_option maxHeartbeats 8000000 in
set_option maxRecDepth 100000 in
theorem newellaw17_DoorSteps.calls (k : Nat) (a0_0 : Int) (a0_1 : Int) (a0_2 : Int) (a0_3 : Int) (a0_4 : Int) (a0_5 : Int) (a0_6 : Int) (a0_7 : Int) (a0_8 : Int) (a0_9 : Int) (a1_0 : Int) (a1_1 : Int) (a1_2 : Int) (a2 : Bool) (r : Bool) (w : World) (h : newellaw17_DoorSteps.f k a0_0 a0_1 a0_2 a0_3 a0_4 a0_5 a0_6 a0_7 a0_8 a0_9 a1_0 a1_1 a1_2 a2 = some r) :
  Calls Try.prog 8 #[.agg #[.int .i64 a0_0, .int .i64 a0_1, .int .i64 a0_2, .int .i64 a0_3, .int .i64 a0_4, .int .i64 a0_5, .int .i64 a0_6, .int .i64 a0_7, .int .i64 a0_8, .int .i64 a0_9], .agg #[.int .i64 a1_0, .int .i64 a1_1, .int .i64 a1_2], .bool a2] w fun e w' => e = .returned (.bool r) ∧ Below w.heap.size w w' := by
 have hu42 := Try.underlying42
 have hu44 := Try.underlying44
 have hu52 := Try.underlying52
 have HB := Aside0.mk (Below.refl w.heap.size w)
 have H : ((door_Step.f k a0_0 a0_1 a0_2 a0_3 a0_4 a0_5 a0_6 a0_7 a0_8 a0_9 a1_0 a1_1 a1_2 a2).bind fun bt385 => ((door_Rest.f k a0_0 a0_1 a0_2 a0_3 a0_4 a0_5 a0_6 a0_7 a0_8 a0_9 a1_0 a1_1 a1_2).bind fun bt391 => ((newelref17_Gear.f a0_0 a0_1 a0_2 a0_3 a0_4 a0_5 a0_6 a0_7 a0_8 a0_9).bind fun t393 => (if t393 = true then ((newelref17_May.f k a1_0 a1_1 a1_2).bind fun t394 => (newellaw17_DoorSteps.j0 k a2 bt385.2.2.2.1 bt385.2.2.2.2 bt391.1 bt391.2 (!t394) a0_0 a0_1 a0_2 a0_3 a0_4 a0_5 a0_6 a0_7 a0_8 a0_9 a1_0 a1_1 a1_2 bt385.1 bt385.2.1 bt385.2.2.1)) else (newellaw17_DoorSteps.j0 k a2 bt385.2.2.2.1 bt385.2.2.2.2 bt391.1 bt391.2 true a0_0 a0_1 a0_2 a0_3 a0_4 a0_5 a0_6 a0_7 a0_8 a0_9 a1_0 a1_1 a1_2 bt385.1 bt385.2.1 bt385.2.2.1))))) = some r := h
 clear h
 replace H := Option.bind_eq_some_iff.mp H
 obtain ⟨⟨t385, t386, t387, t388, t389⟩, A40, H⟩ := H
 replace H : ((door_Rest.f k a0_0 a0_1 a0_2 a0_3 a0_4 a0_5 a0_6 a0_7 a0_8 a0_9 a1_0 a1_1 a1_2).bind fun bt391 => ((newelref17_Gear.f a0_0 a0_1 a0_2 a0_3 a0_4 a0_5 a0_6 a0_7 a0_8 a0_9).bind fun t393 => (if t393 = true then ((newelref17_May.f k a1_0 a1_1 a1_2).bind fun t394 => (newellaw17_DoorSteps.j0 k a2 t388 t389 bt391.1 bt391.2 (!t394) a0_0 a0_1 a0_2 a0_3 a0_4 a0_5 a0_6 a0_7 a0_8 a0_9 a1_0 a1_1 a1_2 t385 t386 t387)) else (newellaw17_DoorSteps.j0 k a2 t388 t389 bt391.1 bt391.2 true a0_0 a0_1 a0_2 a0_3 a0_4 a0_5 a0_6 a0_7 a0_8 a0_9 a1_0 a1_1 a1_2 t385 t386 t387)))) = some r := H
 have A4 := Aside0.mk A40
 clear A40
 replace H := Option.bind_eq_some_iff.mp H
 obtain ⟨⟨t391, t392⟩, A50, H⟩ := H
 replace H : ((newelref17_Gear.f a0_0 a0_1 a0_2 a0_3 a0_4 a0_5 a0_6 a0_7 a0_8 a0_9).bind fun t393 => (if t393 = true then ((newelref17_May.f k a1_0 a1_1 a1_2).bind fun t394 => (newellaw17_DoorSteps.j0 k a2 t388 t389 t391 t392 (!t394) a0_0 a0_1 a0_2 a0_3 a0_4 a0_5 a0_6 a0_7 a0_8 a0_9 a1_0 a1_1 a1_2 t385 t386 t387)) else (newellaw17_DoorSteps.j0 k a2 t388 t389 t391 t392 true a0_0 a0_1 a0_2 a0_3 a0_4 a0_5 a0_6 a0_7 a0_8 a0_9 a1_0 a1_1 a1_2 t385 t386 t387))) = some r := H
 have A5 := Aside0.mk A50
 clear A50
 have HC6 := Aside0.mk H
 clear H
 go_enter Try.func8, Try.ntmps8
 go_upto_region 3 with (first | ((with_reducible refine gate_dst (N := 3) rfl ?_); refine box_event ?hg (N := 3) ?hd (cs := #[.int .i64 a0_0, .int .i64 a0_1, .int .i64 a0_2, .int .i64 a0_3, .int .i64 a0_4, .int .i64 a0_5, .int .i64 a0_6, .int .i64 a0_7, .int .i64 a0_8, .int .i64 a0_9]) (t := 42) ?hr ?_; (case hd => rfl); (case hg => rfl); (case hr => first | (go_simp; done) | (go_simp; rfl)); intro gb383 hg w7 hbox hb; have n0_ := Aside0.mk (below_step (by repeat (first | (with_reducible first | exact HB.out | apply below_alloc | apply pw_below_drewN | apply below_drew1) | exact HB.out)) hb); have n1_ := Aside0.mk (hbox); have n2_ := Aside0.mk ((by rw [hg]; exact (below_size (by repeat (first | (with_reducible first | exact HB.out | apply below_alloc | apply pw_below_drewN | apply below_drew1) | exact HB.out))) : w.heap.size ≤ gb383)); have n3_ := Aside0.mk ((by rw [hg]; exact (below_size (by repeat (first | (with_reducible first | exact HB.out | apply below_alloc | apply pw_below_drewN | apply below_drew1) | exact HB.out))) : w.heap.size ≤ gb383)); clear HB; have HB := n0_; have BK383 := n1_; have GW383 := n2_; have GE383 := n3_; clear n0_ n1_ n2_ n3_; clear hb hbox hg) | ((with_reducible refine gate_dst (N := 4) rfl ?_); refine box_event ?hg (N := 4) ?hd (cs := #[.int .i64 a1_0, .int .i64 a1_1, .int .i64 a1_2]) (t := 44) ?hr ?_; (case hd => rfl); (case hg => rfl); (case hr => first | (go_simp; done) | (go_simp; rfl)); intro gb384 hg w8 hbox hb; have n0_ := Aside0.mk (blk_below (g := gb383) (o := .cells #[.int .i64 a0_0, .int .i64 a0_1, .int .i64 a0_2, .int .i64 a0_3, .int .i64 a0_4, .int .i64 a0_5, .int .i64 a0_6, .int .i64 a0_7, .int .i64 a0_8, .int .i64 a0_9] 42 (0, 0)) (by (with_reducible repeat (first | refine blk_drewN ?_ _ | refine blk_drew ?_ | refine blk_alloc ?_ _)); exact BK383.out) hb); have n1_ := Aside0.mk (below_step (by repeat (first | (with_reducible first | exact HB.out | apply below_alloc | apply pw_below_drewN | apply below_drew1 | refine below_set ?_ GE383.out) | exact HB.out)) hb); have n2_ := Aside0.mk (hbox); have n3_ := Aside0.mk ((by rw [hg]; exact (below_size (by repeat (first | (with_reducible first | exact HB.out | apply below_alloc | apply pw_below_drewN | apply below_drew1 | refine below_set ?_ GE383.out) | exact HB.out))) : w.heap.size ≤ gb384)); have n4_ := Aside0.mk ((by rw [hg]; exact (below_size (by repeat (first | (with_reducible first | exact HB.out | apply below_alloc | apply pw_below_drewN | apply below_drew1 | refine below_set ?_ GE383.out) | exact HB.out))) : w.heap.size ≤ gb384)); have n5_ := Aside0.mk ((by rw [hg]; exact Nat.ne_of_lt (blk_lt (g := gb383) (o := .cells #[.int .i64 a0_0, .int .i64 a0_1, .int .i64 a0_2, .int .i64 a0_3, .int .i64 a0_4, .int .i64 a0_5, .int .i64 a0_6, .int .i64 a0_7, .int .i64 a0_8, .int .i64 a0_9] 42 (0, 0)) (by (with_reducible repeat (first | refine blk_drewN ?_ _ | refine blk_drew ?_ | refine blk_alloc ?_ _)); exact BK383.out)) : gb383 ≠ gb384)); have n6_ := Aside0.mk ((by rw [hg]; exact Nat.ne_of_gt (blk_lt (g := gb383) (o := .cells #[.int .i64 a0_0, .int .i64 a0_1, .int .i64 a0_2, .int .i64 a0_3, .int .i64 a0_4, .int .i64 a0_5, .int .i64 a0_6, .int .i64 a0_7, .int .i64 a0_8, .int .i64 a0_9] 42 (0, 0)) (by (with_reducible repeat (first | refine blk_drewN ?_ _ | refine blk_drew ?_ | refine blk_alloc ?_ _)); exact BK383.out)) : gb384 ≠ gb383)); clear BK383; clear HB; have BK383 := n0_; have HB := n1_; have BK384 := n2_; have GW384 := n3_; have GE384 := n4_; have NB383_384 := n5_; have NB384_383 := n6_; clear n0_ n1_ n2_ n3_ n4_ n5_ n6_; clear hb hbox hg; have hnb9 := NB383_384.out; have hnc9 := NB384_383.out; have hcz10_0 : w8.cell? ⟨gb383, 0, none⟩ = some (.int .i64 a0_0) := (blk_cell BK383.out 0).trans rfl; have hcz10_1 : w8.cell? ⟨gb383, 1, none⟩ = some (.int .i64 a0_1) := (blk_cell BK383.out 1).trans rfl; have hcz10_2 : w8.cell? ⟨gb383, 2, none⟩ = some (.int .i64 a0_2) := (blk_cell BK383.out 2).trans rfl; have hcz10_3 : w8.cell? ⟨gb383, 3, none⟩ = some (.int .i64 a0_3) := (blk_cell BK383.out 3).trans rfl; have hcz10_4 : w8.cell? ⟨gb383, 4, none⟩ = some (.int .i64 a0_4) := (blk_cell BK383.out 4).trans rfl; have hcz10_5 : w8.cell? ⟨gb383, 5, none⟩ = some (.int .i64 a0_5) := (blk_cell BK383.out 5).trans rfl; have hcz10_6 : w8.cell? ⟨gb383, 6, none⟩ = some (.int .i64 a0_6) := (blk_cell BK383.out 6).trans rfl; have hcz10_7 : w8.cell? ⟨gb383, 7, none⟩ = some (.int .i64 a0_7) := (blk_cell BK383.out 7).trans rfl; have hcz10_8 : w8.cell? ⟨gb383, 8, none⟩ = some (.int .i64 a0_8) := (blk_cell BK383.out 8).trans rfl; have hcz10_9 : w8.cell? ⟨gb383, 9, none⟩ = some (.int .i64 a0_9) := (blk_cell BK383.out 9).trans rfl; have hfz10_0 := blk_frozen BK383.out 0; have hfz10_1 := blk_frozen BK383.out 1; have hfz10_2 := blk_frozen BK383.out 2; have hfz10_3 := blk_frozen BK383.out 3; have hfz10_4 := blk_frozen BK383.out 4; have hfz10_5 := blk_frozen BK383.out 5; have hfz10_6 := blk_frozen BK383.out 6; have hfz10_7 := blk_frozen BK383.out 7; have hfz10_8 := blk_frozen BK383.out 8; have hfz10_9 := blk_frozen BK383.out 9; have hcz11_0 : w8.cell? ⟨gb384, 0, none⟩ = some (.int .i64 a1_0) := (blk_cell BK384.out 0).trans rfl; have hcz11_1 : w8.cell? ⟨gb384, 1, none⟩ = some (.int .i64 a1_1) := (blk_cell BK384.out 1).trans rfl; have hcz11_2 : w8.cell? ⟨gb384, 2, none⟩ = some (.int .i64 a1_2) := (blk_cell BK384.out 2).trans rfl; have hfz11_0 := blk_frozen BK384.out 0; have hfz11_1 := blk_frozen BK384.out 1; have hfz11_2 := blk_frozen BK384.out 2) | ((with_reducible refine gate_callee (f := 22) rfl ?_); refine goesL_ (some 17) rfl rfl Try.func22 (by kernel_rfl) rfl #[.agg #[.int .i64 a0_0, .int .i64 a0_1, .int .i64 a0_2, .int .i64 a0_3, .int .i64 a0_4, .int .i64 a0_5, .int .i64 a0_6, .int .i64 a0_7, .int .i64 a0_8, .int .i64 a0_9], .agg #[.int .i64 a1_0, .int .i64 a1_1, .int .i64 a1_2], .bool a2] rfl (by (try simp only [List.map_toArray, List.map_cons, List.map_nil]); first | done | rfl | (simp only [List.length_drop, List.length_take]; rfl)) ?_; (with_reducible refine (door_Step.calls k a0_0 a0_1 a0_2 a0_3 a0_4 a0_5 a0_6 a0_7 a0_8 a0_9 a1_0 a1_1 a1_2 a2 t385 t386 t387 t388 t389 _ A4.out).mono ?_); rintro e w12 ⟨rfl, hb⟩; refine ⟨_, rfl, ?_⟩; have n0_ := Aside0.mk (blk_below (g := gb383) (o := .cells #[.int .i64 a0_0, .int .i64 a0_1, .int .i64 a0_2, .int .i64 a0_3, .int .i64 a0_4, .int .i64 a0_5, .int .i64 a0_6, .int .i64 a0_7, .int .i64 a0_8, .int .i64 a0_9] 42 (0, 0)) (by (with_reducible repeat (first | refine blk_drewN ?_ _ | refine blk_drew ?_ | refine blk_alloc ?_ _)); exact BK383.out) hb); have n1_ := Aside0.mk (blk_below (g := gb384) (o := .cells #[.int .i64 a1_0, .int .i64 a1_1, .int .i64 a1_2] 44 (0, 0)) (by (with_reducible repeat (first | refine blk_drewN ?_ _ | refine blk_drew ?_ | refine blk_alloc ?_ _)); exact BK384.out) hb); have n2_ := Aside0.mk (below_step (by repeat (first | (with_reducible first | exact HB.out | apply below_alloc | apply pw_below_drewN | apply below_drew1 | refine below_set ?_ GE383.out | refine below_set ?_ GE384.out) | exact HB.out)) hb); clear BK383; clear BK384; clear HB; have BK383 := n0_; have BK384 := n1_; have HB := n2_; clear n0_ n1_ n2_; (try clear hb); (try clear hb2); (try clear hk); (try clear hi)) | ((with_reducible refine gate_dst (N := 7) rfl ?_); refine box_event ?hg (N := 7) ?hd (cs := #[.int .i64 0, .int .i64 0, .int .i64 0]) (t := 44) ?hr ?_; (case hd => rfl); (case hg => rfl); (case hr => first | (go_simp; done) | (go_simp; rfl)); intro gb390 hg w13 hbox hb; have n0_ := Aside0.mk (blk_below (g := gb383) (o := .cells #[.int .i64 a0_0, .int .i64 a0_1, .int .i64 a0_2, .int .i64 a0_3, .int .i64 a0_4, .int .i64 a0_5, .int .i64 a0_6, .int .i64 a0_7, .int .i64 a0_8, .int .i64 a0_9] 42 (0, 0)) (by (with_reducible repeat (first | refine blk_drewN ?_ _ | refine blk_drew ?_ | refine blk_alloc ?_ _)); exact BK383.out) hb); have n1_ := Aside0.mk (blk_below (g := gb384) (o := .cells #[.int .i64 a1_0, .int .i64 a1_1, .int .i64 a1_2] 44 (0, 0)) (by (with_reducible repeat (first | refine blk_drewN ?_ _ | refine blk_drew ?_ | refine blk_alloc ?_ _)); exact BK384.out) hb); have n2_ := Aside0.mk (below_step (by repeat (first | (with_reducible first | exact HB.out | apply below_alloc | apply pw_below_drewN | apply below_drew1 | refine below_set ?_ GE383.out | refine below_set ?_ GE384.out) | exact HB.out)) hb); have n3_ := Aside0.mk (hbox); have n4_ := Aside0.mk ((by rw [hg]; exact (below_size (by repeat (first | (with_reducible first | exact HB.out | apply below_alloc | apply pw_below_drewN | apply below_drew1 | refine below_set ?_ GE383.out | refine below_set ?_ GE384.out) | exact HB.out))) : w.heap.size ≤ gb390)); have n5_ := Aside0.mk ((by rw [hg]; exact (below_size (by repeat (first | (with_reducible first | exact HB.out | apply below_alloc | apply pw_below_drewN | apply below_drew1 | refine below_set ?_ GE383.out | refine below_set ?_ GE384.out) | exact HB.out))) : w.heap.size ≤ gb390)); have n6_ := Aside0.mk ((by rw [hg]; exact Nat.ne_of_lt (blk_lt (g := gb383) (o := .cells #[.int .i64 a0_0, .int .i64 a0_1, .int .i64 a0_2, .int .i64 a0_3, .int .i64 a0_4, .int .i64 a0_5, .int .i64 a0_6, .int .i64 a0_7, .int .i64 a0_8, .int .i64 a0_9] 42 (0, 0)) (by (with_reducible repeat (first | refine blk_drewN ?_ _ | refine blk_drew ?_ | refine blk_alloc ?_ _)); exact BK383.out)) : gb383 ≠ gb390)); have n7_ := Aside0.mk ((by rw [hg]; exact Nat.ne_of_gt (blk_lt (g := gb383) (o := .cells #[.int .i64 a0_0, .int .i64 a0_1, .int .i64 a0_2, .int .i64 a0_3, .int .i64 a0_4, .int .i64 a0_5, .int .i64 a0_6, .int .i64 a0_7, .int .i64 a0_8, .int .i64 a0_9] 42 (0, 0)) (by (with_reducible repeat (first | refine blk_drewN ?_ _ | refine blk_drew ?_ | refine blk_alloc ?_ _)); exact BK383.out)) : gb390 ≠ gb383)); have n8_ := Aside0.mk ((by rw [hg]; exact Nat.ne_of_lt (blk_lt (g := gb384) (o := .cells #[.int .i64 a1_0, .int .i64 a1_1, .int .i64 a1_2] 44 (0, 0)) (by (with_reducible repeat (first | refine blk_drewN ?_ _ | refine blk_drew ?_ | refine blk_alloc ?_ _)); exact BK384.out)) : gb384 ≠ gb390)); have n9_ := Aside0.mk ((by rw [hg]; exact Nat.ne_of_gt (blk_lt (g := gb384) (o := .cells #[.int .i64 a1_0, .int .i64 a1_1, .int .i64 a1_2] 44 (0, 0)) (by (with_reducible repeat (first | refine blk_drewN ?_ _ | refine blk_drew ?_ | refine blk_alloc ?_ _)); exact BK384.out)) : gb390 ≠ gb384)); clear BK383; clear BK384; clear HB; have BK383 := n0_; have BK384 := n1_; have HB := n2_; have BK390 := n3_; have GW390 := n4_; have GE390 := n5_; have NB383_390 := n6_; have NB390_383 := n7_; have NB384_390 := n8_; have NB390_384 := n9_; clear n0_ n1_ n2_ n3_ n4_ n5_ n6_ n7_ n8_ n9_; clear hb hbox hg; have hnb14 := NB390_383.out; have hnc14 := NB383_390.out; have hnb15 := NB390_384.out; have hnc15 := NB384_390.out; have hcz16_0 : w13.cell? ⟨gb390, 0, none⟩ = some (.int .i64 0) := (blk_cell BK390.out 0).trans rfl; have hcz16_1 : w13.cell? ⟨gb390, 1, none⟩ = some (.int .i64 0) := (blk_cell BK390.out 1).trans rfl; have hcz16_2 : w13.cell? ⟨gb390, 2, none⟩ = some (.int .i64 0) := (blk_cell BK390.out 2).trans rfl; have hfz16_0 := blk_frozen BK390.out 0; have hfz16_1 := blk_frozen BK390.out 1; have hfz16_2 := blk_frozen BK390.out 2; have hcz17_0 : w13.cell? ⟨gb383, 0, none⟩ = some (.int .i64 a0_0) := (blk_cell BK383.out 0).trans rfl; have hcz17_1 : w13.cell? ⟨gb383, 1, none⟩ = some (.int .i64 a0_1) := (blk_cell BK383.out 1).trans rfl; have hcz17_2 : w13.cell? ⟨gb383, 2, none⟩ = some (.int .i64 a0_2) := (blk_cell BK383.out 2).trans rfl; have hcz17_3 : w13.cell? ⟨gb383, 3, none⟩ = some (.int .i64 a0_3) := (blk_cell BK383.out 3).trans rfl; have hcz17_4 : w13.cell? ⟨gb383, 4, none⟩ = some (.int .i64 a0_4) := (blk_cell BK383.out 4).trans rfl; have hcz17_5 : w13.cell? ⟨gb383, 5, none⟩ = some (.int .i64 a0_5) := (blk_cell BK383.out 5).trans rfl; have hcz17_6 : w13.cell? ⟨gb383, 6, none⟩ = some (.int .i64 a0_6) := (blk_cell BK383.out 6).trans rfl; have hcz17_7 : w13.cell? ⟨gb383, 7, none⟩ = some (.int .i64 a0_7) := (blk_cell BK383.out 7).trans rfl; have hcz17_8 : w13.cell? ⟨gb383, 8, none⟩ = some (.int .i64 a0_8) := (blk_cell BK383.out 8).trans rfl; have hcz17_9 : w13.cell? ⟨gb383, 9, none⟩ = some (.int .i64 a0_9) := (blk_cell BK383.out 9).trans rfl; have hfz17_0 := blk_frozen BK383.out 0; have hfz17_1 := blk_frozen BK383.out 1; have hfz17_2 := blk_frozen BK383.out 2; have hfz17_3 := blk_frozen BK383.out 3; have hfz17_4 := blk_frozen BK383.out 4; have hfz17_5 := blk_frozen BK383.out 5; have hfz17_6 := blk_frozen BK383.out 6; have hfz17_7 := blk_frozen BK383.out 7; have hfz17_8 := blk_frozen BK383.out 8; have hfz17_9 := blk_frozen BK383.out 9; have hcz18_0 : w13.cell? ⟨gb384, 0, none⟩ = some (.int .i64 a1_0) := (blk_cell BK384.out 0).trans rfl; have hcz18_1 : w13.cell? ⟨gb384, 1, none⟩ = some (.int .i64 a1_1) := (blk_cell BK384.out 1).trans rfl; have hcz18_2 : w13.cell? ⟨gb384, 2, none⟩ = some (.int .i64 a1_2) := (blk_cell BK384.out 2).trans rfl; have hfz18_0 := blk_frozen BK384.out 0; have hfz18_1 := blk_frozen BK384.out 1; have hfz18_2 := blk_frozen BK384.out 2) | ((with_reducible refine gate_callee (f := 23) rfl ?_); refine goesL_ (some 24) rfl rfl Try.func23 (by kernel_rfl) rfl #[.agg #[.int .i64 a0_0, .int .i64 a0_1, .int .i64 a0_2, .int .i64 a0_3, .int .i64 a0_4, .int .i64 a0_5, .int .i64 a0_6, .int .i64 a0_7, .int .i64 a0_8, .int .i64 a0_9], .agg #[.int .i64 a1_0, .int .i64 a1_1, .int .i64 a1_2]] rfl (by (try simp only [List.map_toArray, List.map_cons, List.map_nil]); first | done | rfl | (simp only [List.length_drop, List.length_take]; rfl)) ?_; (with_reducible refine (door_Rest.calls k a0_0 a0_1 a0_2 a0_3 a0_4 a0_5 a0_6 a0_7 a0_8 a0_9 a1_0 a1_1 a1_2 t391 t392 _ A5.out).mono ?_); rintro e w19 ⟨rfl, hb⟩; refine ⟨_, rfl, ?_⟩; have n0_ := Aside0.mk (blk_below (g := gb383) (o := .cells #[.int .i64 a0_0, .int .i64 a0_1, .int .i64 a0_2, .int .i64 a0_3, .int .i64 a0_4, .int .i64 a0_5, .int .i64 a0_6, .int .i64 a0_7, .int .i64 a0_8, .int .i64 a0_9] 42 (0, 0)) (by (with_reducible repeat (first | refine blk_drewN ?_ _ | refine blk_drew ?_ | refine blk_alloc ?_ _)); refine blk_far ?_ NB383_390.out _; (with_reducible repeat (first | refine blk_drewN ?_ _ | refine blk_drew ?_ | refine blk_alloc ?_ _)); refine blk_far ?_ NB383_390.out _; (with_reducible repeat (first | refine blk_drewN ?_ _ | refine blk_drew ?_ | refine blk_alloc ?_ _)); refine blk_far ?_ NB383_390.out _; (with_reducible repeat (first | refine blk_drewN ?_ _ | refine blk_drew ?_ | refine blk_alloc ?_ _)); exact BK383.out) hb); have n1_ := Aside0.mk (blk_below (g := gb384) (o := .cells #[.int .i64 a1_0, .int .i64 a1_1, .int .i64 a1_2] 44 (0, 0)) (by (with_reducible repeat (first | refine blk_drewN ?_ _ | refine blk_drew ?_ | refine blk_alloc ?_ _)); refine blk_far ?_ NB384_390.out _; (with_reducible repeat (first | refine blk_drewN ?_ _ | refine blk_drew ?_ | refine blk_alloc ?_ _)); refine blk_far ?_ NB384_390.out _; (with_reducible repeat (first | refine blk_drewN ?_ _ | refine blk_drew ?_ | refine blk_alloc ?_ _)); refine blk_far ?_ NB384_390.out _; (with_reducible repeat (first | refine blk_drewN ?_ _ | refine blk_drew ?_ | refine blk_alloc ?_ _)); exact BK384.out) hb); have n2_ := Aside0.mk (blk_below (g := gb390) (o := .cells #[.int .i64 t385, .int .i64 t386, .int .i64 t387] 44 (0, 0)) (by (with_reducible repeat (first | refine blk_drewN ?_ _ | refine blk_drew ?_ | refine blk_alloc ?_ _)); refine blk_put (cs := #[.int .i64 t385, .int .i64 t386, .int .i64 0]) ?_ 2 _ rfl; (with_reducible repeat (first | refine blk_drewN ?_ _ | refine blk_drew ?_ | refine blk_alloc ?_ _)); refine blk_put (cs := #[.int .i64 t385, .int .i64 0, .int .i64 0]) ?_ 1 _ rfl; (with_reducible repeat (first | refine blk_drewN ?_ _ | refine blk_drew ?_ | refine blk_alloc ?_ _)); refine blk_put (cs := #[.int .i64 0, .int .i64 0, .int .i64 0]) ?_ 0 _ rfl; (with_reducible repeat (first | refine blk_drewN ?_ _ | refine blk_drew ?_ | refine blk_alloc ?_ _)); exact BK390.out) hb); have n3_ := Aside0.mk (below_step (by repeat (first | (with_reducible first | exact HB.out | apply below_alloc | apply pw_below_drewN | apply below_drew1 | refine below_set ?_ GE383.out | refine below_set ?_ GE384.out | refine below_set ?_ GE390.out) | exact HB.out)) hb); clear BK383; clear BK384; clear BK390; clear HB; have BK383 := n0_; have BK384 := n1_; have BK390 := n2_; have HB := n3_; clear n0_ n1_ n2_ n3_; (try clear hb); (try clear hb2); (try clear hk); (try clear hi)))
 (try simp only [Act.put, List.setIfInBounds_toArray, List.set_cons_zero, List.set_cons_succ])
 go_cut [34] (fun v34 wc => ∃ (kq : Nat) (x34_5 : Bool), v34 = .bool x34_5 ∧ Aside0 (newellaw17_DoorSteps.j0 kq a2 t388 t389 t391 t392 x34_5 a0_0 a0_1 a0_2 a0_3 a0_4 a0_5 a0_6 a0_7 a0_8 a0_9 a1_0 a1_1 a1_2 t385 t386 t387 = some r) ∧ Aside0 (kq ≤ k) ∧ Aside0 (wc.heap[gb383]? = some (.cells #[.int .i64 a0_0, .int .i64 a0_1, .int .i64 a0_2, .int .i64 a0_3, .int .i64 a0_4, .int .i64 a0_5, .int .i64 a0_6, .int .i64 a0_7, .int .i64 a0_8, .int .i64 a0_9] 42 (0, 0))) ∧ Aside0 (wc.heap[gb384]? = some (.cells #[.int .i64 a1_0, .int .i64 a1_1, .int .i64 a1_2] 44 (0, 0))) ∧ Aside0 (wc.heap[gb390]? = some (.cells #[.int .i64 t385, .int .i64 t386, .int .i64 t387] 44 (0, 0))) ∧ Aside0 (Below w.heap.size w wc))
 case first =>
  have H := HC6.out
  clear HC6
  replace H := Option.bind_eq_some_iff.mp H
  obtain ⟨t393, A200, H⟩ := H
  replace H : (if t393 = true then ((newelref17_May.f k a1_0 a1_1 a1_2).bind fun t394 => (newellaw17_DoorSteps.j0 k a2 t388 t389 t391 t392 (!t394) a0_0 a0_1 a0_2 a0_3 a0_4 a0_5 a0_6 a0_7 a0_8 a0_9 a1_0 a1_1 a1_2 t385 t386 t387)) else (newellaw17_DoorSteps.j0 k a2 t388 t389 t391 t392 true a0_0 a0_1 a0_2 a0_3 a0_4 a0_5 a0_6 a0_7 a0_8 a0_9 a1_0 a1_1 a1_2 t385 t386 t387)) = some r := H
  have A20 := Aside0.mk A200
  clear A200
  by_cases c21 : t393 = true
  ·subst c21
   have H1 : ((newelref17_May.f k a1_0 a1_1 a1_2).bind fun t394 => (newellaw17_DoorSteps.j0 k a2 t388 t389 t391 t392 (!t394) a0_0 a0_1 a0_2 a0_3 a0_4 a0_5 a0_6 a0_7 a0_8 a0_9 a1_0 a1_1 a1_2 t385 t386 t387)) = some r := by rw [if_pos rfl] at H; exact H
   clear H
   have H := H1
   clear H1
   replace H := Option.bind_eq_some_iff.mp H
   obtain ⟨t394, A220, H⟩ := H
   replace H : (newellaw17_DoorSteps.j0 k a2 t388 t389 t391 t392 (!t394) a0_0 a0_1 a0_2 a0_3 a0_4 a0_5 a0_6 a0_7 a0_8 a0_9 a1_0 a1_1 a1_2 t385 t386 t387) = some r := H
   have A22 := Aside0.mk A220
   clear A220
   have H' := Aside0.mk H
   clear H
   have hnb23 := NB383_384.out
   have hnc23 := NB384_383.out
   have hnb24 := NB383_390.out
   have hnc24 := NB390_383.out
   have hcz25_0 : w19.cell? ⟨gb383, 0, none⟩ = some (.int .i64 a0_0) := (blk_cell BK383.out 0).trans rfl
   have hcz25_1 : w19.cell? ⟨gb383, 1, none⟩ = some (.int .i64 a0_1) := (blk_cell BK383.out 1).trans rfl
   have hcz25_2 : w19.cell? ⟨gb383, 2, none⟩ = some (.int .i64 a0_2) := (blk_cell BK383.out 2).trans rfl
   have hcz25_3 : w19.cell? ⟨gb383, 3, none⟩ = some (.int .i64 a0_3) := (blk_cell BK383.out 3).trans rfl
   have hcz25_4 : w19.cell? ⟨gb383, 4, none⟩ = some (.int .i64 a0_4) := (blk_cell BK383.out 4).trans rfl
   have hcz25_5 : w19.cell? ⟨gb383, 5, none⟩ = some (.int .i64 a0_5) := (blk_cell BK383.out 5).trans rfl
   have hcz25_6 : w19.cell? ⟨gb383, 6, none⟩ = some (.int .i64 a0_6) := (blk_cell BK383.out 6).trans rfl
   have hcz25_7 : w19.cell? ⟨gb383, 7, none⟩ = some (.int .i64 a0_7) := (blk_cell BK383.out 7).trans rfl
   have hcz25_8 : w19.cell? ⟨gb383, 8, none⟩ = some (.int .i64 a0_8) := (blk_cell BK383.out 8).trans rfl
   have hcz25_9 : w19.cell? ⟨gb383, 9, none⟩ = some (.int .i64 a0_9) := (blk_cell BK383.out 9).trans rfl
   have hfz25_0 := blk_frozen BK383.out 0
   have hfz25_1 := blk_frozen BK383.out 1
   have hfz25_2 := blk_frozen BK383.out 2
   have hfz25_3 := blk_frozen BK383.out 3
   have hfz25_4 := blk_frozen BK383.out 4
   have hfz25_5 := blk_frozen BK383.out 5
   have hfz25_6 := blk_frozen BK383.out 6
   have hfz25_7 := blk_frozen BK383.out 7
   have hfz25_8 := blk_frozen BK383.out 8
   have hfz25_9 := blk_frozen BK383.out 9
   go_wp2_with (first | ((with_reducible refine gate_callee (f := 24) rfl ?_); refine goesL_ (some 28) rfl rfl Try.func24 (by kernel_rfl) rfl #[.agg #[.int .i64 a0_0, .int .i64 a0_1, .int .i64 a0_2, .int .i64 a0_3, .int .i64 a0_4, .int .i64 a0_5, .int .i64 a0_6, .int .i64 a0_7, .int .i64 a0_8, .int .i64 a0_9]] rfl (by (try simp only [List.map_toArray, List.map_cons, List.map_nil]); first | done | rfl | (simp only [List.length_drop, List.length_take]; rfl)) ?_; (with_reducible refine (newelref17_Gear.calls a0_0 a0_1 a0_2 a0_3 a0_4 a0_5 a0_6 a0_7 a0_8 a0_9 true _ A20.out).mono ?_); rintro e w26 ⟨rfl, hb⟩; refine ⟨_, rfl, ?_⟩; have n0_ := Aside0.mk (blk_below (g := gb383) (o := .cells #[.int .i64 a0_0, .int .i64 a0_1, .int .i64 a0_2, .int .i64 a0_3, .int .i64 a0_4, .int .i64 a0_5, .int .i64 a0_6, .int .i64 a0_7, .int .i64 a0_8, .int .i64 a0_9] 42 (0, 0)) (by (with_reducible repeat (first | refine blk_drewN ?_ _ | refine blk_drew ?_ | refine blk_alloc ?_ _)); exact BK383.out) hb); have n1_ := Aside0.mk (blk_below (g := gb384) (o := .cells #[.int .i64 a1_0, .int .i64 a1_1, .int .i64 a1_2] 44 (0, 0)) (by (with_reducible repeat (first | refine blk_drewN ?_ _ | refine blk_drew ?_ | refine blk_alloc ?_ _)); exact BK384.out) hb); have n2_ := Aside0.mk (blk_below (g := gb390) (o := .cells #[.int .i64 t385, .int .i64 t386, .int .i64 t387] 44 (0, 0)) (by (with_reducible repeat (first | refine blk_drewN ?_ _ | refine blk_drew ?_ | refine blk_alloc ?_ _)); exact BK390.out) hb); have n3_ := Aside0.mk (below_step (by repeat (first | (with_reducible first | exact HB.out | apply below_alloc | apply pw_below_drewN | apply below_drew1 | refine below_set ?_ GE383.out | refine below_set ?_ GE384.out | refine below_set ?_ GE390.out) | exact HB.out)) hb); clear BK383; clear BK384; clear BK390; clear HB; have BK383 := n0_; have BK384 := n1_; have BK390 := n2_; have HB := n3_; clear n0_ n1_ n2_ n3_; (try clear hb); (try clear hb2); (try clear hk); (try clear hi); have hnb27 := NB384_390.out; have hnc27 := NB390_384.out; have hcz28_0 : w26.cell? ⟨gb384, 0, none⟩ = some (.int .i64 a1_0) := (blk_cell BK384.out 0).trans rfl; have hcz28_1 : w26.cell? ⟨gb384, 1, none⟩ = some (.int .i64 a1_1) := (blk_cell BK384.out 1).trans rfl; have hcz28_2 : w26.cell? ⟨gb384, 2, none⟩ = some (.int .i64 a1_2) := (blk_cell BK384.out 2).trans rfl; have hfz28_0 := blk_frozen BK384.out 0; have hfz28_1 := blk_frozen BK384.out 1; have hfz28_2 := blk_frozen BK384.out 2) | (go_at_call 25; (with_reducible refine (newelref17_May.calls k a1_0 a1_1 a1_2 t394 _ A22.out).mono ?_); rintro e w29 ⟨rfl, hb⟩; have n0_ := Aside0.mk (blk_below (g := gb383) (o := .cells #[.int .i64 a0_0, .int .i64 a0_1, .int .i64 a0_2, .int .i64 a0_3, .int .i64 a0_4, .int .i64 a0_5, .int .i64 a0_6, .int .i64 a0_7, .int .i64 a0_8, .int .i64 a0_9] 42 (0, 0)) (by (with_reducible repeat (first | refine blk_drewN ?_ _ | refine blk_drew ?_ | refine blk_alloc ?_ _)); exact BK383.out) hb); have n1_ := Aside0.mk (blk_below (g := gb384) (o := .cells #[.int .i64 a1_0, .int .i64 a1_1, .int .i64 a1_2] 44 (0, 0)) (by (with_reducible repeat (first | refine blk_drewN ?_ _ | refine blk_drew ?_ | refine blk_alloc ?_ _)); exact BK384.out) hb); have n2_ := Aside0.mk (blk_below (g := gb390) (o := .cells #[.int .i64 t385, .int .i64 t386, .int .i64 t387] 44 (0, 0)) (by (with_reducible repeat (first | refine blk_drewN ?_ _ | refine blk_drew ?_ | refine blk_alloc ?_ _)); exact BK390.out) hb); have n3_ := Aside0.mk (below_step (by repeat (first | (with_reducible first | exact HB.out | apply below_alloc | apply pw_below_drewN | apply below_drew1 | refine below_set ?_ GE383.out | refine below_set ?_ GE384.out | refine below_set ?_ GE390.out) | exact HB.out)) hb); clear BK383; clear BK384; clear BK390; clear HB; have BK383 := n0_; have BK384 := n1_; have BK390 := n2_; have HB := n3_; clear n0_ n1_ n2_ n3_; (try clear hb); (try clear hb2); (try clear hk); (try clear hi)))
   go_meet
   case rel => exact ⟨_, (!t394), (by first | rfl | (simp; done) | (simp [*]; done)), H', ⟨by first | omega | exact Nat.le_refl _⟩, ⟨by (with_reducible repeat (first | refine blk_drewN ?_ _ | refine blk_drew ?_ | refine blk_alloc ?_ _)); exact BK383.out⟩, ⟨by (with_reducible repeat (first | refine blk_drewN ?_ _ | refine blk_drew ?_ | refine blk_alloc ?_ _)); exact BK384.out⟩, ⟨by (with_reducible repeat (first | refine blk_drewN ?_ _ | refine blk_drew ?_ | refine blk_alloc ?_ _)); exact BK390.out⟩, ⟨by repeat (first | (with_reducible first | exact HB.out | apply below_alloc | apply pw_below_drewN | apply below_drew1 | refine below_set ?_ GE383.out | refine below_set ?_ GE384.out | refine below_set ?_ GE390.out) | exact HB.out)⟩⟩
  ·replace c21 := Bool.eq_false_iff.mpr c21
   subst c21
   have H1 : (newellaw17_DoorSteps.j0 k a2 t388 t389 t391 t392 true a0_0 a0_1 a0_2 a0_3 a0_4 a0_5 a0_6 a0_7 a0_8 a0_9 a1_0 a1_1 a1_2 t385 t386 t387) = some r := by rw [if_neg (show ¬ (false = true) by decide)] at H; exact H
   clear H
   have H := H1
   clear H1
   have H' := Aside0.mk H
   clear H
   have hnb30 := NB383_384.out
   have hnc30 := NB384_383.out
   have hnb31 := NB383_390.out
   have hnc31 := NB390_383.out
   have hcz32_0 : w19.cell? ⟨gb383, 0, none⟩ = some (.int .i64 a0_0) := (blk_cell BK383.out 0).trans rfl
   have hcz32_1 : w19.cell? ⟨gb383, 1, none⟩ = some (.int .i64 a0_1) := (blk_cell BK383.out 1).trans rfl
   have hcz32_2 : w19.cell? ⟨gb383, 2, none⟩ = some (.int .i64 a0_2) := (blk_cell BK383.out 2).trans rfl
   have hcz32_3 : w19.cell? ⟨gb383, 3, none⟩ = some (.int .i64 a0_3) := (blk_cell BK383.out 3).trans rfl
   have hcz32_4 : w19.cell? ⟨gb383, 4, none⟩ = some (.int .i64 a0_4) := (blk_cell BK383.out 4).trans rfl
   have hcz32_5 : w19.cell? ⟨gb383, 5, none⟩ = some (.int .i64 a0_5) := (blk_cell BK383.out 5).trans rfl
   have hcz32_6 : w19.cell? ⟨gb383, 6, none⟩ = some (.int .i64 a0_6) := (blk_cell BK383.out 6).trans rfl
   have hcz32_7 : w19.cell? ⟨gb383, 7, none⟩ = some (.int .i64 a0_7) := (blk_cell BK383.out 7).trans rfl
   have hcz32_8 : w19.cell? ⟨gb383, 8, none⟩ = some (.int .i64 a0_8) := (blk_cell BK383.out 8).trans rfl
   have hcz32_9 : w19.cell? ⟨gb383, 9, none⟩ = some (.int .i64 a0_9) := (blk_cell BK383.out 9).trans rfl
   have hfz32_0 := blk_frozen BK383.out 0
   have hfz32_1 := blk_frozen BK383.out 1
   have hfz32_2 := blk_frozen BK383.out 2
   have hfz32_3 := blk_frozen BK383.out 3
   have hfz32_4 := blk_frozen BK383.out 4
   have hfz32_5 := blk_frozen BK383.out 5
   have hfz32_6 := blk_frozen BK383.out 6
   have hfz32_7 := blk_frozen BK383.out 7
   have hfz32_8 := blk_frozen BK383.out 8
   have hfz32_9 := blk_frozen BK383.out 9
   go_wp2_with (first | ((with_reducible refine gate_callee (f := 24) rfl ?_); refine goesL_ (some 28) rfl rfl Try.func24 (by kernel_rfl) rfl #[.agg #[.int .i64 a0_0, .int .i64 a0_1, .int .i64 a0_2, .int .i64 a0_3, .int .i64 a0_4, .int .i64 a0_5, .int .i64 a0_6, .int .i64 a0_7, .int .i64 a0_8, .int .i64 a0_9]] rfl (by (try simp only [List.map_toArray, List.map_cons, List.map_nil]); first | done | rfl | (simp only [List.length_drop, List.length_take]; rfl)) ?_; (with_reducible refine (newelref17_Gear.calls a0_0 a0_1 a0_2 a0_3 a0_4 a0_5 a0_6 a0_7 a0_8 a0_9 false _ A20.out).mono ?_); rintro e w33 ⟨rfl, hb⟩; refine ⟨_, rfl, ?_⟩; have n0_ := Aside0.mk (blk_below (g := gb383) (o := .cells #[.int .i64 a0_0, .int .i64 a0_1, .int .i64 a0_2, .int .i64 a0_3, .int .i64 a0_4, .int .i64 a0_5, .int .i64 a0_6, .int .i64 a0_7, .int .i64 a0_8, .int .i64 a0_9] 42 (0, 0)) (by (with_reducible repeat (first | refine blk_drewN ?_ _ | refine blk_drew ?_ | refine blk_alloc ?_ _)); exact BK383.out) hb); have n1_ := Aside0.mk (blk_below (g := gb384) (o := .cells #[.int .i64 a1_0, .int .i64 a1_1, .int .i64 a1_2] 44 (0, 0)) (by (with_reducible repeat (first | refine blk_drewN ?_ _ | refine blk_drew ?_ | refine blk_alloc ?_ _)); exact BK384.out) hb); have n2_ := Aside0.mk (blk_below (g := gb390) (o := .cells #[.int .i64 t385, .int .i64 t386, .int .i64 t387] 44 (0, 0)) (by (with_reducible repeat (first | refine blk_drewN ?_ _ | refine blk_drew ?_ | refine blk_alloc ?_ _)); exact BK390.out) hb); have n3_ := Aside0.mk (below_step (by repeat (first | (with_reducible first | exact HB.out | apply below_alloc | apply pw_below_drewN | apply below_drew1 | refine below_set ?_ GE383.out | refine below_set ?_ GE384.out | refine below_set ?_ GE390.out) | exact HB.out)) hb); clear BK383; clear BK384; clear BK390; clear HB; have BK383 := n0_; have BK384 := n1_; have BK390 := n2_; have HB := n3_; clear n0_ n1_ n2_ n3_; (try clear hb); (try clear hb2); (try clear hk); (try clear hi)))
   go_meet
   case rel => exact ⟨_, (true), (by first | rfl | (simp; done) | (simp [*]; done)), H', ⟨by first | omega | exact Nat.le_refl _⟩, ⟨by (with_reducible repeat (first | refine blk_drewN ?_ _ | refine blk_drew ?_ | refine blk_alloc ?_ _)); exact BK383.out⟩, ⟨by (with_reducible repeat (first | refine blk_drewN ?_ _ | refine blk_drew ?_ | refine blk_alloc ?_ _)); exact BK384.out⟩, ⟨by (with_reducible repeat (first | refine blk_drewN ?_ _ | refine blk_drew ?_ | refine blk_alloc ?_ _)); exact BK390.out⟩, ⟨by repeat (first | (with_reducible first | exact HB.out | apply below_alloc | apply pw_below_drewN | apply below_drew1 | refine below_set ?_ GE383.out | refine below_set ?_ GE384.out | refine below_set ?_ GE390.out) | exact HB.out)⟩⟩
 case rest =>
  clear HC6
  try clear c1
  try clear c2
  try clear p2
  try clear c3
  try clear c8
  try clear c9
  try clear c14
  try clear c15
  try clear c21
  try clear c22
  try clear c23
  try clear c24
  try clear c27
  try clear c30
  try clear c31
  try clear hcz10_0
  try clear hcz10_1
  try clear hcz10_2
  try clear hcz10_3
  try clear hcz10_4
  try clear hcz10_5
  try clear hcz10_6
  try clear hcz10_7
  try clear hcz10_8
  try clear hcz10_9
  try clear hcz11_0
  try clear hcz11_1
  try clear hcz11_2
  try clear hcz16_0
  try clear hcz16_1
  try clear hcz16_2
  try clear hcz17_0
  try clear hcz17_1
  try clear hcz17_2
  try clear hcz17_3
  try clear hcz17_4
  try clear hcz17_5
  try clear hcz17_6
  try clear hcz17_7
  try clear hcz17_8
  try clear hcz17_9
  try clear hcz18_0
  try clear hcz18_1
  try clear hcz18_2
  try clear hcz25_0
  try clear hcz25_1
  try clear hcz25_2
  try clear hcz25_3
  try clear hcz25_4
  try clear hcz25_5
  try clear hcz25_6
  try clear hcz25_7
  try clear hcz25_8
  try clear hcz25_9
  try clear hcz28_0
  try clear hcz28_1
  try clear hcz28_2
  try clear hcz32_0
  try clear hcz32_1
  try clear hcz32_2
  try clear hcz32_3
  try clear hcz32_4
  try clear hcz32_5
  try clear hcz32_6
  try clear hcz32_7
  try clear hcz32_8
  try clear hcz32_9
  try clear hfz10_0
  try clear hfz10_1
  try clear hfz10_2
  try clear hfz10_3
  try clear hfz10_4
  try clear hfz10_5
  try clear hfz10_6
  try clear hfz10_7
  try clear hfz10_8
  try clear hfz10_9
  try clear hfz11_0
  try clear hfz11_1
  try clear hfz11_2
  try clear hfz16_0
  try clear hfz16_1
  try clear hfz16_2
  try clear hfz17_0
  try clear hfz17_1
  try clear hfz17_2
  try clear hfz17_3
  try clear hfz17_4
  try clear hfz17_5
  try clear hfz17_6
  try clear hfz17_7
  try clear hfz17_8
  try clear hfz17_9
  try clear hfz18_0
  try clear hfz18_1
  try clear hfz18_2
  try clear hfz25_0
  try clear hfz25_1
  try clear hfz25_2
  try clear hfz25_3
  try clear hfz25_4
  try clear hfz25_5
  try clear hfz25_6
  try clear hfz25_7
  try clear hfz25_8
  try clear hfz25_9
  try clear hfz28_0
  try clear hfz28_1
  try clear hfz28_2
  try clear hfz32_0
  try clear hfz32_1
  try clear hfz32_2
  try clear hfz32_3
  try clear hfz32_4
  try clear hfz32_5
  try clear hfz32_6
  try clear hfz32_7
  try clear hfz32_8
  try clear hfz32_9
  obtain ⟨kq, x34_5, rfl, HA, HJ5, BK383, BK384, BK390, HB⟩ := hcut
  cases kq with
  | zero => exact absurd HA.out (by simp [newellaw17_DoorSteps.j0])
  | succ kj5 =>
   have H := HA.out
   clear HA
   simp only [newellaw17_DoorSteps.j0] at H
   by_cases c34 : x34_5 = true
   ·subst c34
    have H1 : ((newellaw17_awake.f kj5).bind fun t395 => (if t395 = true then (if t389 = 170 then (if t392 = t389 then (if t388 = true then (none) else (if t391 = 0 then (newellaw17_DoorSteps.j1 kj5 (t385 == 0 && (t386 == 0 && (t387 == 0)))) else (none))) else (none)) else (none)) else (none))) = some r := by rw [if_pos rfl] at H; exact H
    clear H
    have H := H1
    clear H1
    have HC35 := Aside0.mk H
    clear H
    go_upto_region 4 with (fail)
    go_cut [6] (fun v6 wc => ∃ (kq : Nat) (x6_34 : Bool), v6 = .bool x6_34 ∧ Aside0 (newellaw17_DoorSteps.j1 kq x6_34 = some r) ∧ Aside0 (kq ≤ kj5) ∧ Aside0 (wc.heap[gb383]? = some (.cells #[.int .i64 a0_0, .int .i64 a0_1, .int .i64 a0_2, .int .i64 a0_3, .int .i64 a0_4, .int .i64 a0_5, .int .i64 a0_6, .int .i64 a0_7, .int .i64 a0_8, .int .i64 a0_9] 42 (0, 0))) ∧ Aside0 (wc.heap[gb384]? = some (.cells #[.int .i64 a1_0, .int .i64 a1_1, .int .i64 a1_2] 44 (0, 0))) ∧ Aside0 (wc.heap[gb390]? = some (.cells #[.int .i64 t385, .int .i64 t386, .int .i64 t387] 44 (0, 0))) ∧ Aside0 (Below w.heap.size w wc))
    case first =>
     have H := HC35.out
     clear HC35
     replace H := Option.bind_eq_some_iff.mp H
     obtain ⟨t395, A360, H⟩ := H
     replace H : (if t395 = true then (if t389 = 170 then (if t392 = t389 then (if t388 = true then (none) else (if t391 = 0 then (newellaw17_DoorSteps.j1 kj5 (t385 == 0 && (t386 == 0 && (t387 == 0)))) else (none))) else (none)) else (none)) else (none)) = some r := H
     have A36 := Aside0.mk A360
     clear A360
     by_cases c37 : t395 = true
     ·subst c37
      have H1 : (if t389 = 170 then (if t392 = t389 then (if t388 = true then (none) else (if t391 = 0 then (newellaw17_DoorSteps.j1 kj5 (t385 == 0 && (t386 == 0 && (t387 == 0)))) else (none))) else (none)) else (none)) = some r := by rw [if_pos rfl] at H; exact H
      clear H
      have H := H1
      clear H1
      by_cases c38 : t389 = 170
      ·rw [if_pos c38] at H
       have c38b0 : (t389 == 170) = true := beq_iff_eq.mpr c38
       have c38b1 : (t389 != 170) = false := bne_eq_false_iff_eq.mpr c38
       clear c38
       (first | rw [c38b0] | (simp only [i64_w, i32_w]; rw [c38b0]) | skip)
       by_cases c39 : t392 = t389
       ·rw [if_pos c39] at H
        have c39b0 : (t392 == t389) = true := beq_iff_eq.mpr c39
        have c39b1 : (t392 != t389) = false := bne_eq_false_iff_eq.mpr c39
        clear c39
        by_cases c40 : t388 = true
        ·subst c40
         have H1 : (none) = some r := by rw [if_pos rfl] at H; exact H
         clear H
         have H := H1
         clear H1
         exact absurd H (by simp)
        ·replace c40 := Bool.eq_false_iff.mpr c40
         subst c40
         have H1 : (if t391 = 0 then (newellaw17_DoorSteps.j1 kj5 (t385 == 0 && (t386 == 0 && (t387 == 0)))) else (none)) = some r := by rw [if_neg (show ¬ (false = true) by decide)] at H; exact H
         clear H
         have H := H1
         clear H1
         by_cases c41 : t391 = 0
         ·rw [if_pos c41] at H
          have c41b0 : (t391 == 0) = true := beq_iff_eq.mpr c41
          have c41b1 : (t391 != 0) = false := bne_eq_false_iff_eq.mpr c41
          clear c41
          have H' := Aside0.mk H
          clear H
          go_wp2_with (first | ((with_reducible refine gate_callee (f := 26) rfl ?_); refine goesL_ (some 35) rfl rfl Try.func26 (by kernel_rfl) rfl #[] rfl (by (try simp only [List.map_toArray, List.map_cons, List.map_nil]); first | done | rfl | (simp only [List.length_drop, List.length_take]; rfl)) ?_; (with_reducible refine (newellaw17_awake.calls kj5  true _ A36.out).mono ?_); rintro e w42 ⟨rfl, hb⟩; refine ⟨_, rfl, ?_⟩; have n0_ := Aside0.mk (blk_below (g := gb383) (o := .cells #[.int .i64 a0_0, .int .i64 a0_1, .int .i64 a0_2, .int .i64 a0_3, .int .i64 a0_4, .int .i64 a0_5, .int .i64 a0_6, .int .i64 a0_7, .int .i64 a0_8, .int .i64 a0_9] 42 (0, 0)) (by (with_reducible repeat (first | refine blk_drewN ?_ _ | refine blk_drew ?_ | refine blk_alloc ?_ _)); exact BK383.out) hb); have n1_ := Aside0.mk (blk_below (g := gb384) (o := .cells #[.int .i64 a1_0, .int .i64 a1_1, .int .i64 a1_2] 44 (0, 0)) (by (with_reducible repeat (first | refine blk_drewN ?_ _ | refine blk_drew ?_ | refine blk_alloc ?_ _)); exact BK384.out) hb); have n2_ := Aside0.mk (blk_below (g := gb390) (o := .cells #[.int .i64 t385, .int .i64 t386, .int .i64 t387] 44 (0, 0)) (by (with_reducible repeat (first | refine blk_drewN ?_ _ | refine blk_drew ?_ | refine blk_alloc ?_ _)); exact BK390.out) hb); have n3_ := Aside0.mk (below_step (by repeat (first | (with_reducible first | exact HB.out | apply below_alloc | apply pw_below_drewN | apply below_drew1 | refine below_set ?_ GE383.out | refine below_set ?_ GE384.out | refine below_set ?_ GE390.out) | exact HB.out)) hb); clear BK383; clear BK384; clear BK390; clear HB; have BK383 := n0_; have BK384 := n1_; have BK390 := n2_; have HB := n3_; clear n0_ n1_ n2_ n3_; (try clear hb); (try clear hb2); (try clear hk); (try clear hi); have hnb43 := NB390_383.out; have hnc43 := NB383_390.out; have hnb44 := NB390_384.out; have hnc44 := NB384_390.out; have hcz45_0 : w42.cell? ⟨gb390, 0, none⟩ = some (.int .i64 t385) := (blk_cell BK390.out 0).trans rfl; have hcz45_1 : w42.cell? ⟨gb390, 1, none⟩ = some (.int .i64 t386) := (blk_cell BK390.out 1).trans rfl; have hcz45_2 : w42.cell? ⟨gb390, 2, none⟩ = some (.int .i64 t387) := (blk_cell BK390.out 2).trans rfl; have hfz45_0 := blk_frozen BK390.out 0; have hfz45_1 := blk_frozen BK390.out 1; have hfz45_2 := blk_frozen BK390.out 2))
          go_meet
          case rel => exact ⟨_, ((t385 == 0 && (t386 == 0 && (t387 == 0)))), (by first | rfl | (simp; done) | (simp [*]; done)), H', ⟨by have := HJ5.out; first | omega | exact Nat.le_refl _⟩, ⟨by (with_reducible repeat (first | refine blk_drewN ?_ _ | refine blk_drew ?_ | refine blk_alloc ?_ _)); exact BK383.out⟩, ⟨by (with_reducible repeat (first | refine blk_drewN ?_ _ | refine blk_drew ?_ | refine blk_alloc ?_ _)); exact BK384.out⟩, ⟨by (with_reducible repeat (first | refine blk_drewN ?_ _ | refine blk_drew ?_ | refine blk_alloc ?_ _)); exact BK390.out⟩, ⟨by repeat (first | (with_reducible first | exact HB.out | apply below_alloc | apply pw_below_drewN | apply below_drew1 | refine below_set ?_ GE383.out | refine below_set ?_ GE384.out | refine below_set ?_ GE390.out) | exact HB.out)⟩⟩
         ·rw [if_neg c41] at H
          exact absurd H (by simp)
       ·rw [if_neg c39] at H
        exact absurd H (by simp)
      ·rw [if_neg c38] at H
       exact absurd H (by simp)
     ·replace c37 := Bool.eq_false_iff.mpr c37
      subst c37
      have H1 : (none) = some r := by rw [if_neg (show ¬ (false = true) by decide)] at H; exact H
      clear H
      have H := H1
      clear H1
      exact absurd H (by simp)
    case rest =>
     clear HC35
     try clear c1
     try clear c2
     try clear p2
     try clear c3
     try clear c4
     try clear c8
     try clear c9
     try clear c14
     try clear c15
     try clear c21
     try clear c22
     try clear c23
     try clear c24
     try clear c26
     try clear c27
     try clear c30
     try clear c31
     try clear c34
     try clear c37
     try clear c38
     try clear c38b0
     try clear c38b1
     try clear c39
     try clear c39b0
     try clear c39b1
     try clear c40
     try clear c41
     try clear c41b0
     try clear c41b1
     try clear c43
     try clear c44
     try clear hcz10_0
     try clear hcz10_1
     try clear hcz10_2
     try clear hcz10_3
     try clear hcz10_4
     try clear hcz10_5
     try clear hcz10_6
     try clear hcz10_7
     try clear hcz10_8
     try clear hcz10_9
     try clear hcz11_0
     try clear hcz11_1
     try clear hcz11_2
     try clear hcz16_0
     try clear hcz16_1
     try clear hcz16_2
     try clear hcz17_0
     try clear hcz17_1
     try clear hcz17_2
     try clear hcz17_3
     try clear hcz17_4
     try clear hcz17_5
     try clear hcz17_6
     try clear hcz17_7
     try clear hcz17_8
     try clear hcz17_9
     try clear hcz18_0
     try clear hcz18_1
     try clear hcz18_2
     try clear hcz25_0
     try clear hcz25_1
     try clear hcz25_2
     try clear hcz25_3
     try clear hcz25_4
     try clear hcz25_5
     try clear hcz25_6
     try clear hcz25_7
     try clear hcz25_8
     try clear hcz25_9
     try clear hcz28_0
     try clear hcz28_1
     try clear hcz28_2
     try clear hcz32_0
     try clear hcz32_1
     try clear hcz32_2
     try clear hcz32_3
     try clear hcz32_4
     try clear hcz32_5
     try clear hcz32_6
     try clear hcz32_7
     try clear hcz32_8
     try clear hcz32_9
     try clear hcz45_0
     try clear hcz45_1
     try clear hcz45_2
     try clear hfz10_0
     try clear hfz10_1
     try clear hfz10_2
     try clear hfz10_3
     try clear hfz10_4
     try clear hfz10_5
     try clear hfz10_6
     try clear hfz10_7
     try clear hfz10_8
     try clear hfz10_9
     try clear hfz11_0
     try clear hfz11_1
     try clear hfz11_2
     try clear hfz16_0
     try clear hfz16_1
     try clear hfz16_2
     try clear hfz17_0
     try clear hfz17_1
     try clear hfz17_2
     try clear hfz17_3
     try clear hfz17_4
     try clear hfz17_5
     try clear hfz17_6
     try clear hfz17_7
     try clear hfz17_8
     try clear hfz17_9
     try clear hfz18_0
     try clear hfz18_1
     try clear hfz18_2
     try clear hfz25_0
     try clear hfz25_1
     try clear hfz25_2
     try clear hfz25_3
     try clear hfz25_4
     try clear hfz25_5
     try clear hfz25_6
     try clear hfz25_7
     try clear hfz25_8
     try clear hfz25_9
     try clear hfz28_0
     try clear hfz28_1
     try clear hfz28_2
     try clear hfz32_0
     try clear hfz32_1
     try clear hfz32_2
     try clear hfz32_3
     try clear hfz32_4
     try clear hfz32_5
     try clear hfz32_6
     try clear hfz32_7
     try clear hfz32_8
     try clear hfz32_9
     try clear hfz45_0
     try clear hfz45_1
     try clear hfz45_2
     try clear p2
     obtain ⟨kq, x6_34, rfl, HA, HJ34, BK383, BK384, BK390, HB⟩ := hcut
     cases kq with
     | zero => exact absurd HA.out (by simp [newellaw17_DoorSteps.j1])
     | succ kj34 =>
      have H := HA.out
      clear HA
      simp only [newellaw17_DoorSteps.j1] at H
      obtain rfl := Option.some.inj H
      go_wp2
      go_ret
      exact ⟨by first | rfl | (simp [errW_none, errW_some] <;> rfl) | (simp [*, errW_none, errW_some] <;> rfl), by repeat (first | (with_reducible first | exact HB.out | apply below_alloc | apply pw_below_drewN | apply below_drew1 | refine below_set ?_ GE383.out | refine below_set ?_ GE384.out | refine below_set ?_ GE390.out) | exact HB.out)⟩
   ·replace c34 := Bool.eq_false_iff.mpr c34
    subst c34
    have H1 : ((newelref17_Step.f kj5 a0_0 a0_1 a0_2 a0_3 a0_4 a0_5 a0_6 a0_7 a0_8 a0_9 a1_0 a1_1 a1_2 a2).bind fun bt396 => ((newellaw17_awake.f kj5).bind fun t401 => (if t401 = true then (if t389 = 0 then (if t392 = 0 then (if (t385 == bt396.1 && (t386 == bt396.2.1 && (t387 == bt396.2.2.1))) = true then (if (t388 == bt396.2.2.2) = true then ((newelref17_Rest.f kj5 a0_0 a0_1 a0_2 a0_3 a0_4 a0_5 a0_6 a0_7 a0_8 a0_9 a1_0 a1_1 a1_2).bind fun t402 => (newellaw17_DoorSteps.j2 kj5 (t391 == t402))) else (none)) else (none)) else (none)) else (none)) else (none)))) = some r := by rw [if_neg (show ¬ (false = true) by decide)] at H; exact H
    clear H
    have H := H1
    clear H1
    replace H := Option.bind_eq_some_iff.mp H
    obtain ⟨⟨t396, t397, t398, t399⟩, A460, H⟩ := H
    replace H : ((newellaw17_awake.f kj5).bind fun t401 => (if t401 = true then (if t389 = 0 then (if t392 = 0 then (if (t385 == t396 && (t386 == t397 && (t387 == t398))) = true then (if (t388 == t399) = true then ((newelref17_Rest.f kj5 a0_0 a0_1 a0_2 a0_3 a0_4 a0_5 a0_6 a0_7 a0_8 a0_9 a1_0 a1_1 a1_2).bind fun t402 => (newellaw17_DoorSteps.j2 kj5 (t391 == t402))) else (none)) else (none)) else (none)) else (none)) else (none))) = some r := H
    have A46 := Aside0.mk A460
    clear A460
    have HC47 := Aside0.mk H
    clear H
    have hnb48 := NB383_384.out
    have hnc48 := NB384_383.out
    have hnb49 := NB383_390.out
    have hnc49 := NB390_383.out
    have hcz50_0 : wc.cell? ⟨gb383, 0, none⟩ = some (.int .i64 a0_0) := (blk_cell BK383.out 0).trans rfl
    have hcz50_1 : wc.cell? ⟨gb383, 1, none⟩ = some (.int .i64 a0_1) := (blk_cell BK383.out 1).trans rfl
    have hcz50_2 : wc.cell? ⟨gb383, 2, none⟩ = some (.int .i64 a0_2) := (blk_cell BK383.out 2).trans rfl
    have hcz50_3 : wc.cell? ⟨gb383, 3, none⟩ = some (.int .i64 a0_3) := (blk_cell BK383.out 3).trans rfl
    have hcz50_4 : wc.cell? ⟨gb383, 4, none⟩ = some (.int .i64 a0_4) := (blk_cell BK383.out 4).trans rfl
    have hcz50_5 : wc.cell? ⟨gb383, 5, none⟩ = some (.int .i64 a0_5) := (blk_cell BK383.out 5).trans rfl
    have hcz50_6 : wc.cell? ⟨gb383, 6, none⟩ = some (.int .i64 a0_6) := (blk_cell BK383.out 6).trans rfl
    have hcz50_7 : wc.cell? ⟨gb383, 7, none⟩ = some (.int .i64 a0_7) := (blk_cell BK383.out 7).trans rfl
    have hcz50_8 : wc.cell? ⟨gb383, 8, none⟩ = some (.int .i64 a0_8) := (blk_cell BK383.out 8).trans rfl
    have hcz50_9 : wc.cell? ⟨gb383, 9, none⟩ = some (.int .i64 a0_9) := (blk_cell BK383.out 9).trans rfl
    have hfz50_0 := blk_frozen BK383.out 0
    have hfz50_1 := blk_frozen BK383.out 1
    have hfz50_2 := blk_frozen BK383.out 2
    have hfz50_3 := blk_frozen BK383.out 3
    have hfz50_4 := blk_frozen BK383.out 4
    have hfz50_5 := blk_frozen BK383.out 5
    have hfz50_6 := blk_frozen BK383.out 6
    have hfz50_7 := blk_frozen BK383.out 7
    have hfz50_8 := blk_frozen BK383.out 8
    have hfz50_9 := blk_frozen BK383.out 9
    have hnb51 := NB384_390.out
    have hnc51 := NB390_384.out
    have hcz52_0 : wc.cell? ⟨gb384, 0, none⟩ = some (.int .i64 a1_0) := (blk_cell BK384.out 0).trans rfl
    have hcz52_1 : wc.cell? ⟨gb384, 1, none⟩ = some (.int .i64 a1_1) := (blk_cell BK384.out 1).trans rfl
    have hcz52_2 : wc.cell? ⟨gb384, 2, none⟩ = some (.int .i64 a1_2) := (blk_cell BK384.out 2).trans rfl
    have hfz52_0 := blk_frozen BK384.out 0
    have hfz52_1 := blk_frozen BK384.out 1
    have hfz52_2 := blk_frozen BK384.out 2
    go_upto_region 6 with (first | ((with_reducible refine gate_callee (f := 27) rfl ?_); refine goesL_ (some 61) rfl rfl Try.func27 (by kernel_rfl) rfl #[.agg #[.int .i64 a0_0, .int .i64 a0_1, .int .i64 a0_2, .int .i64 a0_3, .int .i64 a0_4, .int .i64 a0_5, .int .i64 a0_6, .int .i64 a0_7, .int .i64 a0_8, .int .i64 a0_9], .agg #[.int .i64 a1_0, .int .i64 a1_1, .int .i64 a1_2], .bool a2] rfl (by (try simp only [List.map_toArray, List.map_cons, List.map_nil]); first | done | rfl | (simp only [List.length_drop, List.length_take]; rfl)) ?_; (with_reducible refine (newelref17_Step.calls kj5 a0_0 a0_1 a0_2 a0_3 a0_4 a0_5 a0_6 a0_7 a0_8 a0_9 a1_0 a1_1 a1_2 a2 t396 t397 t398 t399 _ A46.out).mono ?_); rintro e w53 ⟨rfl, hb⟩; refine ⟨_, rfl, ?_⟩; have n0_ := Aside0.mk (blk_below (g := gb383) (o := .cells #[.int .i64 a0_0, .int .i64 a0_1, .int .i64 a0_2, .int .i64 a0_3, .int .i64 a0_4, .int .i64 a0_5, .int .i64 a0_6, .int .i64 a0_7, .int .i64 a0_8, .int .i64 a0_9] 42 (0, 0)) (by (with_reducible repeat (first | refine blk_drewN ?_ _ | refine blk_drew ?_ | refine blk_alloc ?_ _)); exact BK383.out) hb); have n1_ := Aside0.mk (blk_below (g := gb384) (o := .cells #[.int .i64 a1_0, .int .i64 a1_1, .int .i64 a1_2] 44 (0, 0)) (by (with_reducible repeat (first | refine blk_drewN ?_ _ | refine blk_drew ?_ | refine blk_alloc ?_ _)); exact BK384.out) hb); have n2_ := Aside0.mk (blk_below (g := gb390) (o := .cells #[.int .i64 t385, .int .i64 t386, .int .i64 t387] 44 (0, 0)) (by (with_reducible repeat (first | refine blk_drewN ?_ _ | refine blk_drew ?_ | refine blk_alloc ?_ _)); exact BK390.out) hb); have n3_ := Aside0.mk (below_step (by repeat (first | (with_reducible first | exact HB.out | apply below_alloc | apply pw_below_drewN | apply below_drew1 | refine below_set ?_ GE383.out | refine below_set ?_ GE384.out | refine below_set ?_ GE390.out) | exact HB.out)) hb); clear BK383; clear BK384; clear BK390; clear HB; have BK383 := n0_; have BK384 := n1_; have BK390 := n2_; have HB := n3_; clear n0_ n1_ n2_ n3_; (try clear hb); (try clear hb2); (try clear hk); (try clear hi)) | ((with_reducible refine gate_dst (N := 12) rfl ?_); refine box_event ?hg (N := 12) ?hd (cs := #[.int .i64 0, .int .i64 0, .int .i64 0, .bool false]) (t := 52) ?hr ?_; (case hd => rfl); (case hg => rfl); (case hr => first | (go_simp; done) | (go_simp; rfl)); intro gb400 hg w54 hbox hb; have n0_ := Aside0.mk (blk_below (g := gb383) (o := .cells #[.int .i64 a0_0, .int .i64 a0_1, .int .i64 a0_2, .int .i64 a0_3, .int .i64 a0_4, .int .i64 a0_5, .int .i64 a0_6, .int .i64 a0_7, .int .i64 a0_8, .int .i64 a0_9] 42 (0, 0)) (by (with_reducible repeat (first | refine blk_drewN ?_ _ | refine blk_drew ?_ | refine blk_alloc ?_ _)); exact BK383.out) hb); have n1_ := Aside0.mk (blk_below (g := gb384) (o := .cells #[.int .i64 a1_0, .int .i64 a1_1, .int .i64 a1_2] 44 (0, 0)) (by (with_reducible repeat (first | refine blk_drewN ?_ _ | refine blk_drew ?_ | refine blk_alloc ?_ _)); exact BK384.out) hb); have n2_ := Aside0.mk (blk_below (g := gb390) (o := .cells #[.int .i64 t385, .int .i64 t386, .int .i64 t387] 44 (0, 0)) (by (with_reducible repeat (first | refine blk_drewN ?_ _ | refine blk_drew ?_ | refine blk_alloc ?_ _)); exact BK390.out) hb); have n3_ := Aside0.mk (below_step (by repeat (first | (with_reducible first | exact HB.out | apply below_alloc | apply pw_below_drewN | apply below_drew1 | refine below_set ?_ GE383.out | refine below_set ?_ GE384.out | refine below_set ?_ GE390.out) | exact HB.out)) hb); have n4_ := Aside0.mk (hbox); have n5_ := Aside0.mk ((by rw [hg]; exact (below_size (by repeat (first | (with_reducible first | exact HB.out | apply below_alloc | apply pw_below_drewN | apply below_drew1 | refine below_set ?_ GE383.out | refine below_set ?_ GE384.out | refine below_set ?_ GE390.out) | exact HB.out))) : w.heap.size ≤ gb400)); have n6_ := Aside0.mk ((by rw [hg]; exact (below_size (by repeat (first | (with_reducible first | exact HB.out | apply below_alloc | apply pw_below_drewN | apply below_drew1 | refine below_set ?_ GE383.out | refine below_set ?_ GE384.out | refine below_set ?_ GE390.out) | exact HB.out))) : w.heap.size ≤ gb400)); have n7_ := Aside0.mk ((by rw [hg]; exact Nat.ne_of_lt (blk_lt (g := gb383) (o := .cells #[.int .i64 a0_0, .int .i64 a0_1, .int .i64 a0_2, .int .i64 a0_3, .int .i64 a0_4, .int .i64 a0_5, .int .i64 a0_6, .int .i64 a0_7, .int .i64 a0_8, .int .i64 a0_9] 42 (0, 0)) (by (with_reducible repeat (first | refine blk_drewN ?_ _ | refine blk_drew ?_ | refine blk_alloc ?_ _)); exact BK383.out)) : gb383 ≠ gb400)); have n8_ := Aside0.mk ((by rw [hg]; exact Nat.ne_of_gt (blk_lt (g := gb383) (o := .cells #[.int .i64 a0_0, .int .i64 a0_1, .int .i64 a0_2, .int .i64 a0_3, .int .i64 a0_4, .int .i64 a0_5, .int .i64 a0_6, .int .i64 a0_7, .int .i64 a0_8, .int .i64 a0_9] 42 (0, 0)) (by (with_reducible repeat (first | refine blk_drewN ?_ _ | refine blk_drew ?_ | refine blk_alloc ?_ _)); exact BK383.out)) : gb400 ≠ gb383)); have n9_ := Aside0.mk ((by rw [hg]; exact Nat.ne_of_lt (blk_lt (g := gb384) (o := .cells #[.int .i64 a1_0, .int .i64 a1_1, .int .i64 a1_2] 44 (0, 0)) (by (with_reducible repeat (first | refine blk_drewN ?_ _ | refine blk_drew ?_ | refine blk_alloc ?_ _)); exact BK384.out)) : gb384 ≠ gb400)); have n10_ := Aside0.mk ((by rw [hg]; exact Nat.ne_of_gt (blk_lt (g := gb384) (o := .cells #[.int .i64 a1_0, .int .i64 a1_1, .int .i64 a1_2] 44 (0, 0)) (by (with_reducible repeat (first | refine blk_drewN ?_ _ | refine blk_drew ?_ | refine blk_alloc ?_ _)); exact BK384.out)) : gb400 ≠ gb384)); have n11_ := Aside0.mk ((by rw [hg]; exact Nat.ne_of_lt (blk_lt (g := gb390) (o := .cells #[.int .i64 t385, .int .i64 t386, .int .i64 t387] 44 (0, 0)) (by (with_reducible repeat (first | refine blk_drewN ?_ _ | refine blk_drew ?_ | refine blk_alloc ?_ _)); exact BK390.out)) : gb390 ≠ gb400)); have n12_ := Aside0.mk ((by rw [hg]; exact Nat.ne_of_gt (blk_lt (g := gb390) (o := .cells #[.int .i64 t385, .int .i64 t386, .int .i64 t387] 44 (0, 0)) (by (with_reducible repeat (first | refine blk_drewN ?_ _ | refine blk_drew ?_ | refine blk_alloc ?_ _)); exact BK390.out)) : gb400 ≠ gb390)); clear BK383; clear BK384; clear BK390; clear HB; have BK383 := n0_; have BK384 := n1_; have BK390 := n2_; have HB := n3_; have BK400 := n4_; have GW400 := n5_; have GE400 := n6_; have NB383_400 := n7_; have NB400_383 := n8_; have NB384_400 := n9_; have NB400_384 := n10_; have NB390_400 := n11_; have NB400_390 := n12_; clear n0_ n1_ n2_ n3_ n4_ n5_ n6_ n7_ n8_ n9_ n10_ n11_ n12_; clear hb hbox hg; have hnb55 := NB400_383.out; have hnc55 := NB383_400.out; have hnb56 := NB400_384.out; have hnc56 := NB384_400.out; have hnb57 := NB400_390.out; have hnc57 := NB390_400.out; have hcz58_0 : w54.cell? ⟨gb400, 0, none⟩ = some (.int .i64 0) := (blk_cell BK400.out 0).trans rfl; have hcz58_1 : w54.cell? ⟨gb400, 1, none⟩ = some (.int .i64 0) := (blk_cell BK400.out 1).trans rfl; have hcz58_2 : w54.cell? ⟨gb400, 2, none⟩ = some (.int .i64 0) := (blk_cell BK400.out 2).trans rfl; have hcz58_3 : w54.cell? ⟨gb400, 3, none⟩ = some (.bool false) := (blk_cell BK400.out 3).trans rfl; have hfz58_0 := blk_frozen BK400.out 0; have hfz58_1 := blk_frozen BK400.out 1; have hfz58_2 := blk_frozen BK400.out 2; have hfz58_3 := blk_frozen BK400.out 3))
    (try simp only [Act.put, List.setIfInBounds_toArray, List.set_cons_zero, List.set_cons_succ])
    go_cut [6] (fun v6 wc => ∃ (kq : Nat) (x6_46 : Bool), v6 = .bool x6_46 ∧ Aside0 (newellaw17_DoorSteps.j2 kq x6_46 = some r) ∧ Aside0 (kq ≤ kj5) ∧ Aside0 (wc.heap[gb383]? = some (.cells #[.int .i64 a0_0, .int .i64 a0_1, .int .i64 a0_2, .int .i64 a0_3, .int .i64 a0_4, .int .i64 a0_5, .int .i64 a0_6, .int .i64 a0_7, .int .i64 a0_8, .int .i64 a0_9] 42 (0, 0))) ∧ Aside0 (wc.heap[gb384]? = some (.cells #[.int .i64 a1_0, .int .i64 a1_1, .int .i64 a1_2] 44 (0, 0))) ∧ Aside0 (wc.heap[gb390]? = some (.cells #[.int .i64 t385, .int .i64 t386, .int .i64 t387] 44 (0, 0))) ∧ Aside0 (wc.heap[gb400]? = some (.cells #[.int .i64 t396, .int .i64 t397, .int .i64 t398, .bool t399] 52 (0, 0))) ∧ Aside0 (Below w.heap.size w wc))
    case first =>
     have H := HC47.out
     clear HC47
     replace H := Option.bind_eq_some_iff.mp H
     obtain ⟨t401, A590, H⟩ := H
     replace H : (if t401 = true then (if t389 = 0 then (if t392 = 0 then (if (t385 == t396 && (t386 == t397 && (t387 == t398))) = true then (if (t388 == t399) = true then ((newelref17_Rest.f kj5 a0_0 a0_1 a0_2 a0_3 a0_4 a0_5 a0_6 a0_7 a0_8 a0_9 a1_0 a1_1 a1_2).bind fun t402 => (newellaw17_DoorSteps.j2 kj5 (t391 == t402))) else (none)) else (none)) else (none)) else (none)) else (none)) = some r := H
     have A59 := Aside0.mk A590
     clear A590
     by_cases c60 : t401 = true
     ·subst c60
      have H1 : (if t389 = 0 then (if t392 = 0 then (if (t385 == t396 && (t386 == t397 && (t387 == t398))) = true then (if (t388 == t399) = true then ((newelref17_Rest.f kj5 a0_0 a0_1 a0_2 a0_3 a0_4 a0_5 a0_6 a0_7 a0_8 a0_9 a1_0 a1_1 a1_2).bind fun t402 => (newellaw17_DoorSteps.j2 kj5 (t391 == t402))) else (none)) else (none)) else (none)) else (none)) = some r := by rw [if_pos rfl] at H; exact H
      clear H
      have H := H1
      clear H1
      by_cases c61 : t389 = 0
      ·rw [if_pos c61] at H
       have c61b0 : (t389 == 0) = true := beq_iff_eq.mpr c61
       have c61b1 : (t389 != 0) = false := bne_eq_false_iff_eq.mpr c61
       clear c61
       (first | rw [c61b0] | (simp only [i64_w, i32_w]; rw [c61b0]) | skip)
       by_cases c62 : t392 = 0
       ·rw [if_pos c62] at H
        have c62b0 : (t392 == 0) = true := beq_iff_eq.mpr c62
        have c62b1 : (t392 != 0) = false := bne_eq_false_iff_eq.mpr c62
        clear c62
        by_cases c63 : (t385 == t396 && (t386 == t397 && (t387 == t398))) = true
        ·rw [if_pos c63] at H
         have c63b0 : (t385 == t396 && (t386 == t397 && (t387 == t398))) = true := c63
         (try (have c63s0 := c63b0; simp only [beq_self_eq_true, bne_self_eq_false, Bool.not_true, Bool.not_false, Bool.true_and, Bool.and_true, Bool.false_or, Bool.or_false] at c63s0))
         (try (have c63b1 : decide (t385 = t396 && (t386 == t397 && (t387 == t398))) = true := by simpa using c63))
         (try (have c63b2 : (t385 == t396 && (t386 == t397 && (t387 == t398))) = true := by simpa using c63))
         clear c63
         by_cases c64 : (t388 == t399) = true
         ·rw [if_pos c64] at H
          have c64b0 : (t388 == t399) = true := c64
          (try (have c64s0 := c64b0; simp only [beq_self_eq_true, bne_self_eq_false, Bool.not_true, Bool.not_false, Bool.true_and, Bool.and_true, Bool.false_or, Bool.or_false] at c64s0))
          (try (have c64b1 : decide (t388 = t399) = true := by simpa using c64))
          (try (have c64b2 : (t388 == t399) = true := by simpa using c64))
          clear c64
          replace H := Option.bind_eq_some_iff.mp H
          obtain ⟨t402, A650, H⟩ := H
          replace H : (newellaw17_DoorSteps.j2 kj5 (t391 == t402)) = some r := H
          have A65 := Aside0.mk A650
          clear A650
          have H' := Aside0.mk H
          clear H
          go_wp2_with (first | ((with_reducible refine gate_callee (f := 26) rfl ?_); refine goesL_ (some 62) rfl rfl Try.func26 (by kernel_rfl) rfl #[] rfl (by (try simp only [List.map_toArray, List.map_cons, List.map_nil]); first | done | rfl | (simp only [List.length_drop, List.length_take]; rfl)) ?_; (with_reducible refine (newellaw17_awake.calls kj5  true _ A59.out).mono ?_); rintro e w66 ⟨rfl, hb⟩; refine ⟨_, rfl, ?_⟩; have n0_ := Aside0.mk (blk_below (g := gb383) (o := .cells #[.int .i64 a0_0, .int .i64 a0_1, .int .i64 a0_2, .int .i64 a0_3, .int .i64 a0_4, .int .i64 a0_5, .int .i64 a0_6, .int .i64 a0_7, .int .i64 a0_8, .int .i64 a0_9] 42 (0, 0)) (by (with_reducible repeat (first | refine blk_drewN ?_ _ | refine blk_drew ?_ | refine blk_alloc ?_ _)); refine blk_far ?_ NB383_400.out _; (with_reducible repeat (first | refine blk_drewN ?_ _ | refine blk_drew ?_ | refine blk_alloc ?_ _)); refine blk_far ?_ NB383_400.out _; (with_reducible repeat (first | refine blk_drewN ?_ _ | refine blk_drew ?_ | refine blk_alloc ?_ _)); refine blk_far ?_ NB383_400.out _; (with_reducible repeat (first | refine blk_drewN ?_ _ | refine blk_drew ?_ | refine blk_alloc ?_ _)); refine blk_far ?_ NB383_400.out _; (with_reducible repeat (first | refine blk_drewN ?_ _ | refine blk_drew ?_ | refine blk_alloc ?_ _)); exact BK383.out) hb); have n1_ := Aside0.mk (blk_below (g := gb384) (o := .cells #[.int .i64 a1_0, .int .i64 a1_1, .int .i64 a1_2] 44 (0, 0)) (by (with_reducible repeat (first | refine blk_drewN ?_ _ | refine blk_drew ?_ | refine blk_alloc ?_ _)); refine blk_far ?_ NB384_400.out _; (with_reducible repeat (first | refine blk_drewN ?_ _ | refine blk_drew ?_ | refine blk_alloc ?_ _)); refine blk_far ?_ NB384_400.out _; (with_reducible repeat (first | refine blk_drewN ?_ _ | refine blk_drew ?_ | refine blk_alloc ?_ _)); refine blk_far ?_ NB384_400.out _; (with_reducible repeat (first | refine blk_drewN ?_ _ | refine blk_drew ?_ | refine blk_alloc ?_ _)); refine blk_far ?_ NB384_400.out _; (with_reducible repeat (first | refine blk_drewN ?_ _ | refine blk_drew ?_ | refine blk_alloc ?_ _)); exact BK384.out) hb); have n2_ := Aside0.mk (blk_below (g := gb390) (o := .cells #[.int .i64 t385, .int .i64 t386, .int .i64 t387] 44 (0, 0)) (by (with_reducible repeat (first | refine blk_drewN ?_ _ | refine blk_drew ?_ | refine blk_alloc ?_ _)); refine blk_far ?_ NB390_400.out _; (with_reducible repeat (first | refine blk_drewN ?_ _ | refine blk_drew ?_ | refine blk_alloc ?_ _)); refine blk_far ?_ NB390_400.out _; (with_reducible repeat (first | refine blk_drewN ?_ _ | refine blk_drew ?_ | refine blk_alloc ?_ _)); refine blk_far ?_ NB390_400.out _; (with_reducible repeat (first | refine blk_drewN ?_ _ | refine blk_drew ?_ | refine blk_alloc ?_ _)); refine blk_far ?_ NB390_400.out _; (with_reducible repeat (first | refine blk_drewN ?_ _ | refine blk_drew ?_ | refine blk_alloc ?_ _)); exact BK390.out) hb); have n3_ := Aside0.mk (blk_below (g := gb400) (o := .cells #[.int .i64 t396, .int .i64 t397, .int .i64 t398, .bool t399] 52 (0, 0)) (by (with_reducible repeat (first | refine blk_drewN ?_ _ | refine blk_drew ?_ | refine blk_alloc ?_ _)); refine blk_put (cs := #[.int .i64 t396, .int .i64 t397, .int .i64 t398, .bool false]) ?_ 3 _ rfl; (with_reducible repeat (first | refine blk_drewN ?_ _ | refine blk_drew ?_ | refine blk_alloc ?_ _)); refine blk_put (cs := #[.int .i64 t396, .int .i64 t397, .int .i64 0, .bool false]) ?_ 2 _ rfl; (with_reducible repeat (first | refine blk_drewN ?_ _ | refine blk_drew ?_ | refine blk_alloc ?_ _)); refine blk_put (cs := #[.int .i64 t396, .int .i64 0, .int .i64 0, .bool false]) ?_ 1 _ rfl; (with_reducible repeat (first | refine blk_drewN ?_ _ | refine blk_drew ?_ | refine blk_alloc ?_ _)); refine blk_put (cs := #[.int .i64 0, .int .i64 0, .int .i64 0, .bool false]) ?_ 0 _ rfl; (with_reducible repeat (first | refine blk_drewN ?_ _ | refine blk_drew ?_ | refine blk_alloc ?_ _)); exact BK400.out) hb); have n4_ := Aside0.mk (below_step (by repeat (first | (with_reducible first | exact HB.out | apply below_alloc | apply pw_below_drewN | apply below_drew1 | refine below_set ?_ GE383.out | refine below_set ?_ GE384.out | refine below_set ?_ GE390.out | refine below_set ?_ GE400.out) | exact HB.out)) hb); clear BK383; clear BK384; clear BK390; clear BK400; clear HB; have BK383 := n0_; have BK384 := n1_; have BK390 := n2_; have BK400 := n3_; have HB := n4_; clear n0_ n1_ n2_ n3_ n4_; (try clear hb); (try clear hb2); (try clear hk); (try clear hi); have hnb67 := NB390_383.out; have hnc67 := NB383_390.out; have hnb68 := NB390_384.out; have hnc68 := NB384_390.out; have hnb69 := NB390_400.out; have hnc69 := NB400_390.out; have hcz70_0 : w66.cell? ⟨gb390, 0, none⟩ = some (.int .i64 t385) := (blk_cell BK390.out 0).trans rfl; have hcz70_1 : w66.cell? ⟨gb390, 1, none⟩ = some (.int .i64 t386) := (blk_cell BK390.out 1).trans rfl; have hcz70_2 : w66.cell? ⟨gb390, 2, none⟩ = some (.int .i64 t387) := (blk_cell BK390.out 2).trans rfl; have hfz70_0 := blk_frozen BK390.out 0; have hfz70_1 := blk_frozen BK390.out 1; have hfz70_2 := blk_frozen BK390.out 2; have hnb71 := NB400_383.out; have hnc71 := NB383_400.out; have hnb72 := NB400_384.out; have hnc72 := NB384_400.out; have hcz73_0 : w66.cell? ⟨gb400, 0, none⟩ = some (.int .i64 t396) := (blk_cell BK400.out 0).trans rfl; have hcz73_1 : w66.cell? ⟨gb400, 1, none⟩ = some (.int .i64 t397) := (blk_cell BK400.out 1).trans rfl; have hcz73_2 : w66.cell? ⟨gb400, 2, none⟩ = some (.int .i64 t398) := (blk_cell BK400.out 2).trans rfl; have hcz73_3 : w66.cell? ⟨gb400, 3, none⟩ = some (.bool t399) := (blk_cell BK400.out 3).trans rfl; have hfz73_0 := blk_frozen BK400.out 0; have hfz73_1 := blk_frozen BK400.out 1; have hfz73_2 := blk_frozen BK400.out 2; have hfz73_3 := blk_frozen BK400.out 3; have hnb74 := NB383_384.out; have hnc74 := NB384_383.out; have hcz75_0 : w66.cell? ⟨gb383, 0, none⟩ = some (.int .i64 a0_0) := (blk_cell BK383.out 0).trans rfl; have hcz75_1 : w66.cell? ⟨gb383, 1, none⟩ = some (.int .i64 a0_1) := (blk_cell BK383.out 1).trans rfl; have hcz75_2 : w66.cell? ⟨gb383, 2, none⟩ = some (.int .i64 a0_2) := (blk_cell BK383.out 2).trans rfl; have hcz75_3 : w66.cell? ⟨gb383, 3, none⟩ = some (.int .i64 a0_3) := (blk_cell BK383.out 3).trans rfl; have hcz75_4 : w66.cell? ⟨gb383, 4, none⟩ = some (.int .i64 a0_4) := (blk_cell BK383.out 4).trans rfl; have hcz75_5 : w66.cell? ⟨gb383, 5, none⟩ = some (.int .i64 a0_5) := (blk_cell BK383.out 5).trans rfl; have hcz75_6 : w66.cell? ⟨gb383, 6, none⟩ = some (.int .i64 a0_6) := (blk_cell BK383.out 6).trans rfl; have hcz75_7 : w66.cell? ⟨gb383, 7, none⟩ = some (.int .i64 a0_7) := (blk_cell BK383.out 7).trans rfl; have hcz75_8 : w66.cell? ⟨gb383, 8, none⟩ = some (.int .i64 a0_8) := (blk_cell BK383.out 8).trans rfl; have hcz75_9 : w66.cell? ⟨gb383, 9, none⟩ = some (.int .i64 a0_9) := (blk_cell BK383.out 9).trans rfl; have hfz75_0 := blk_frozen BK383.out 0; have hfz75_1 := blk_frozen BK383.out 1; have hfz75_2 := blk_frozen BK383.out 2; have hfz75_3 := blk_frozen BK383.out 3; have hfz75_4 := blk_frozen BK383.out 4; have hfz75_5 := blk_frozen BK383.out 5; have hfz75_6 := blk_frozen BK383.out 6; have hfz75_7 := blk_frozen BK383.out 7; have hfz75_8 := blk_frozen BK383.out 8; have hfz75_9 := blk_frozen BK383.out 9; have hcz76_0 : w66.cell? ⟨gb384, 0, none⟩ = some (.int .i64 a1_0) := (blk_cell BK384.out 0).trans rfl; have hcz76_1 : w66.cell? ⟨gb384, 1, none⟩ = some (.int .i64 a1_1) := (blk_cell BK384.out 1).trans rfl; have hcz76_2 : w66.cell? ⟨gb384, 2, none⟩ = some (.int .i64 a1_2) := (blk_cell BK384.out 2).trans rfl; have hfz76_0 := blk_frozen BK384.out 0; have hfz76_1 := blk_frozen BK384.out 1; have hfz76_2 := blk_frozen BK384.out 2) | (go_at_call 28; (with_reducible refine (newelref17_Rest.calls kj5 a0_0 a0_1 a0_2 a0_3 a0_4 a0_5 a0_6 a0_7 a0_8 a0_9 a1_0 a1_1 a1_2 t402 _ A65.out).mono ?_); rintro e w77 ⟨rfl, hb⟩; have n0_ := Aside0.mk (blk_below (g := gb383) (o := .cells #[.int .i64 a0_0, .int .i64 a0_1, .int .i64 a0_2, .int .i64 a0_3, .int .i64 a0_4, .int .i64 a0_5, .int .i64 a0_6, .int .i64 a0_7, .int .i64 a0_8, .int .i64 a0_9] 42 (0, 0)) (by (with_reducible repeat (first | refine blk_drewN ?_ _ | refine blk_drew ?_ | refine blk_alloc ?_ _)); exact BK383.out) hb); have n1_ := Aside0.mk (blk_below (g := gb384) (o := .cells #[.int .i64 a1_0, .int .i64 a1_1, .int .i64 a1_2] 44 (0, 0)) (by (with_reducible repeat (first | refine blk_drewN ?_ _ | refine blk_drew ?_ | refine blk_alloc ?_ _)); exact BK384.out) hb); have n2_ := Aside0.mk (blk_below (g := gb390) (o := .cells #[.int .i64 t385, .int .i64 t386, .int .i64 t387] 44 (0, 0)) (by (with_reducible repeat (first | refine blk_drewN ?_ _ | refine blk_drew ?_ | refine blk_alloc ?_ _)); exact BK390.out) hb); have n3_ := Aside0.mk (blk_below (g := gb400) (o := .cells #[.int .i64 t396, .int .i64 t397, .int .i64 t398, .bool t399] 52 (0, 0)) (by (with_reducible repeat (first | refine blk_drewN ?_ _ | refine blk_drew ?_ | refine blk_alloc ?_ _)); exact BK400.out) hb); have n4_ := Aside0.mk (below_step (by repeat (first | (with_reducible first | exact HB.out | apply below_alloc | apply pw_below_drewN | apply below_drew1 | refine below_set ?_ GE383.out | refine below_set ?_ GE384.out | refine below_set ?_ GE390.out | refine below_set ?_ GE400.out) | exact HB.out)) hb); clear BK383; clear BK384; clear BK390; clear BK400; clear HB; have BK383 := n0_; have BK384 := n1_; have BK390 := n2_; have BK400 := n3_; have HB := n4_; clear n0_ n1_ n2_ n3_ n4_; (try clear hb); (try clear hb2); (try clear hk); (try clear hi)))
          go_meet
          case rel => exact ⟨_, ((t391 == t402)), (by first | rfl | (simp; done) | (simp [*]; done)), H', ⟨by have := HJ5.out; first | omega | exact Nat.le_refl _⟩, ⟨by (with_reducible repeat (first | refine blk_drewN ?_ _ | refine blk_drew ?_ | refine blk_alloc ?_ _)); exact BK383.out⟩, ⟨by (with_reducible repeat (first | refine blk_drewN ?_ _ | refine blk_drew ?_ | refine blk_alloc ?_ _)); exact BK384.out⟩, ⟨by (with_reducible repeat (first | refine blk_drewN ?_ _ | refine blk_drew ?_ | refine blk_alloc ?_ _)); exact BK390.out⟩, ⟨by (with_reducible repeat (first | refine blk_drewN ?_ _ | refine blk_drew ?_ | refine blk_alloc ?_ _)); exact BK400.out⟩, ⟨by repeat (first | (with_reducible first | exact HB.out | apply below_alloc | apply pw_below_drewN | apply below_drew1 | refine below_set ?_ GE383.out | refine below_set ?_ GE384.out | refine below_set ?_ GE390.out | refine below_set ?_ GE400.out) | exact HB.out)⟩⟩
         ·rw [if_neg c64] at H
          exact absurd H (by simp)
        ·rw [if_neg c63] at H
         exact absurd H (by simp)
       ·rw [if_neg c62] at H
        exact absurd H (by simp)
      ·rw [if_neg c61] at H
       exact absurd H (by simp)
     ·replace c60 := Bool.eq_false_iff.mpr c60
      subst c60
      have H1 : (none) = some r := by rw [if_neg (show ¬ (false = true) by decide)] at H; exact H
      clear H
      have H := H1
      clear H1
      exact absurd H (by simp)
    case rest =>
     clear HC47
     try clear c1
     try clear c2
     try clear p2
     try clear c3
     try clear c4
     try clear c5
     try clear c6
     try clear c7
     try clear c8
     try clear c9
     try clear c14
     try clear c15
     try clear c21
     try clear c22
     try clear c23
     try clear c24
     try clear c26
     try clear c27
     try clear c30
     try clear c31
     try clear c34
     try clear c37
     try clear c38
     try clear c38b0
     try clear c38b1
     try clear c39
     try clear c39b0
     try clear c39b1
     try clear c40
     try clear c41
     try clear c41b0
     try clear c41b1
     try clear c43
     try clear c44
     try clear c48
     try clear c49
     try clear c51
     try clear c55
     try clear c56
     try clear c57
     try clear c60
     try clear c61
     try clear c61b0
     try clear c61b1
     try clear c62
     try clear c62b0
     try clear c62b1
     try clear c63
     try clear c63b0
     try clear c63b1
     try clear c63b2
     try clear c64
     try clear c64b0
     try clear c64b1
     try clear c64b2
     try clear c67
     try clear c68
     try clear c69
     try clear c71
     try clear c72
     try clear c74
     try clear hcz10_0
     try clear hcz10_1
     try clear hcz10_2
     try clear hcz10_3
     try clear hcz10_4
     try clear hcz10_5
     try clear hcz10_6
     try clear hcz10_7
     try clear hcz10_8
     try clear hcz10_9
     try clear hcz11_0
     try clear hcz11_1
     try clear hcz11_2
     try clear hcz16_0
     try clear hcz16_1
     try clear hcz16_2
     try clear hcz17_0
     try clear hcz17_1
     try clear hcz17_2
     try clear hcz17_3
     try clear hcz17_4
     try clear hcz17_5
     try clear hcz17_6
     try clear hcz17_7
     try clear hcz17_8
     try clear hcz17_9
     try clear hcz18_0
     try clear hcz18_1
     try clear hcz18_2
     try clear hcz25_0
     try clear hcz25_1
     try clear hcz25_2
     try clear hcz25_3
     try clear hcz25_4
     try clear hcz25_5
     try clear hcz25_6
     try clear hcz25_7
     try clear hcz25_8
     try clear hcz25_9
     try clear hcz28_0
     try clear hcz28_1
     try clear hcz28_2
     try clear hcz32_0
     try clear hcz32_1
     try clear hcz32_2
     try clear hcz32_3
     try clear hcz32_4
     try clear hcz32_5
     try clear hcz32_6
     try clear hcz32_7
     try clear hcz32_8
     try clear hcz32_9
     try clear hcz45_0
     try clear hcz45_1
     try clear hcz45_2
     try clear hcz50_0
     try clear hcz50_1
     try clear hcz50_2
     try clear hcz50_3
     try clear hcz50_4
     try clear hcz50_5
     try clear hcz50_6
     try clear hcz50_7
     try clear hcz50_8
     try clear hcz50_9
     try clear hcz52_0
     try clear hcz52_1
     try clear hcz52_2
     try clear hcz58_0
     try clear hcz58_1
     try clear hcz58_2
     try clear hcz58_3
     try clear hcz70_0
     try clear hcz70_1
     try clear hcz70_2
     try clear hcz73_0
     try clear hcz73_1
     try clear hcz73_2
     try clear hcz73_3
     try clear hcz75_0
     try clear hcz75_1
     try clear hcz75_2
     try clear hcz75_3
     try clear hcz75_4
     try clear hcz75_5
     try clear hcz75_6
     try clear hcz75_7
     try clear hcz75_8
     try clear hcz75_9
     try clear hcz76_0
     try clear hcz76_1
     try clear hcz76_2
     try clear hfz10_0
     try clear hfz10_1
     try clear hfz10_2
     try clear hfz10_3
     try clear hfz10_4
     try clear hfz10_5
     try clear hfz10_6
     try clear hfz10_7
     try clear hfz10_8
     try clear hfz10_9
     try clear hfz11_0
     try clear hfz11_1
     try clear hfz11_2
     try clear hfz16_0
     try clear hfz16_1
     try clear hfz16_2
     try clear hfz17_0
     try clear hfz17_1
     try clear hfz17_2
     try clear hfz17_3
     try clear hfz17_4
     try clear hfz17_5
     try clear hfz17_6
     try clear hfz17_7
     try clear hfz17_8
     try clear hfz17_9
     try clear hfz18_0
     try clear hfz18_1
     try clear hfz18_2
     try clear hfz25_0
     try clear hfz25_1
     try clear hfz25_2
     try clear hfz25_3
     try clear hfz25_4
     try clear hfz25_5
     try clear hfz25_6
     try clear hfz25_7
     try clear hfz25_8
     try clear hfz25_9
     try clear hfz28_0
     try clear hfz28_1
     try clear hfz28_2
     try clear hfz32_0
     try clear hfz32_1
     try clear hfz32_2
     try clear hfz32_3
     try clear hfz32_4
     try clear hfz32_5
     try clear hfz32_6
     try clear hfz32_7
     try clear hfz32_8
     try clear hfz32_9
     try clear hfz45_0
     try clear hfz45_1
     try clear hfz45_2
     try clear hfz50_0
     try clear hfz50_1
     try clear hfz50_2
     try clear hfz50_3
     try clear hfz50_4
     try clear hfz50_5
     try clear hfz50_6
     try clear hfz50_7
     try clear hfz50_8
     try clear hfz50_9
     try clear hfz52_0
     try clear hfz52_1
     try clear hfz52_2
     try clear hfz58_0
     try clear hfz58_1
     try clear hfz58_2
     try clear hfz58_3
     try clear hfz70_0
     try clear hfz70_1
     try clear hfz70_2
     try clear hfz73_0
     try clear hfz73_1
     try clear hfz73_2
     try clear hfz73_3
     try clear hfz75_0
     try clear hfz75_1
     try clear hfz75_2
     try clear hfz75_3
     try clear hfz75_4
     try clear hfz75_5
     try clear hfz75_6
     try clear hfz75_7
     try clear hfz75_8
     try clear hfz75_9
     try clear hfz76_0
     try clear hfz76_1
     try clear hfz76_2
     try clear p2
     obtain ⟨kq, x6_46, rfl, HA, HJ46, BK383, BK384, BK390, BK400, HB⟩ := hcut
     cases kq with
     | zero => exact absurd HA.out (by simp [newellaw17_DoorSteps.j2])
     | succ kj46 =>
      have H := HA.out
      clear HA
      simp only [newellaw17_DoorSteps.j2] at H
      obtain rfl := Option.some.inj H
      go_wp2
      go_ret
      exact ⟨by first | rfl | (simp [errW_none, errW_some] <;> rfl) | (simp [*, errW_none, errW_some] <;> rfl), by repeat (first | (with_reducible first | exact HB.out | apply below_alloc | apply pw_below_drewN | apply below_drew1 | refine below_set ?_ GE383.out | refine below_set ?_ GE384.out | refine below_set ?_ GE390.out | refine below_set ?_ GE400.out) | exact HB.out)⟩

end Go.Proofs.Ytjfikeahafflfaa.C
