-- Written by a program of this session (wip/pp: the kit's print, changed), out of the translation. Lean checks it.
import Derived.Test.YtjfikeahafflfaaCx0
import Derived.Test.YtjfikeahafflfaaCxf39
namespace Go.Proofs.Ytjfikeahafflfaa.C
open Go.RowKit Go.Proofs.YtjfikeahafflfaaW.PrintWords Go.Proofs.YtjfikeahafflfaaW.PrintLast Go.Proofs.YtjfikeahafflfaaW.PrintMore
attribute [local go_sem] max2_int min2_int max_two min_two max_three min_three max_four min_four   -- for this text's walks alone
set_option linter.unusedVariables false
set_option linter.unusedSimpArgs false

/-! ### newelref17_Step: function 27 -/
mutual
def newelref17_Step.j0 : Nat → Bool → Int → Int → Int → Int → Int → Int → Int → Int → Int → Int → Int → Int → Int → Option (Int × Int × Int × Bool)
 | 0, _, _, _, _, _, _, _, _, _, _, _, _, _, _ => none
 | k + 1, x7, x374000, x374001, x374002, x374003, x374004, x374005, x374006, x374007, x374008, x374009, x375000, x375001, x375002 => if x375000 = 0 then (some (x375000, x375001, x375002, false)) else (if x7 = true then (newelref17_Step.j1 k (decide (x375000 > 1)) x374000 x374001 x374002 x374003 x374004 x374005 x374006 x374007 x374008 x374009 x375000 x375001 x375002) else (newelref17_Step.j1 k false x374000 x374001 x374002 x374003 x374004 x374005 x374006 x374007 x374008 x374009 x375000 x375001 x375002))
def newelref17_Step.j1 : Nat → Bool → Int → Int → Int → Int → Int → Int → Int → Int → Int → Int → Int → Int → Int → Option (Int × Int × Int × Bool)
 | 0, _, _, _, _, _, _, _, _, _, _, _, _, _, _ => none
 | k + 1, x27, x374000, x374001, x374002, x374003, x374004, x374005, x374006, x374007, x374008, x374009, x375000, x375001, x375002 => if x27 = true then ((newelref17_held.f x374000 x374001 x374002 x374003 x374004 x374005 x374006 x374007 x374008 x374009 x375000 x375001 x375002).bind fun bt376 => (some (bt376.1, bt376.2.1, bt376.2.2, false))) else (if x375000 = 2 then (if (wrap64 (x375001 - 1)) > 0 then (some (x375000, wrap64 (x375001 - 1), x375002, (x375001 == x374005))) else (if x375000 = 1 then (some (2, x374008, x375002, (x375001 == x374005))) else (some (3, x374006, x375002, (x375001 == x374005))))) else (if (wrap64 (x375001 - 1)) > 0 then (some (x375000, wrap64 (x375001 - 1), x375002, false)) else (if x375000 = 1 then (some (2, x374008, x375002, false)) else (some (0, 0, 0, false)))))
end
def newelref17_Step.f (k : Nat) (a0_0 : Int) (a0_1 : Int) (a0_2 : Int) (a0_3 : Int) (a0_4 : Int) (a0_5 : Int) (a0_6 : Int) (a0_7 : Int) (a0_8 : Int) (a0_9 : Int) (a1_0 : Int) (a1_1 : Int) (a1_2 : Int) (a2 : Bool) : Option (Int × Int × Int × Bool) := if a2 = true then (newelref17_Step.j0 k (decide (a1_2 < a0_9)) a0_0 a0_1 a0_2 a0_3 a0_4 a0_5 a0_6 a0_7 a0_8 a0_9 a1_0 a1_1 a1_2) else (newelref17_Step.j0 k false a0_0 a0_1 a0_2 a0_3 a0_4 a0_5 a0_6 a0_7 a0_8 a0_9 a1_0 a1_1 a1_2)
theorem newelref17_Step.mono_l : ∀ k, (∀ y0 y1 y2 y3 y4 y5 y6 y7 y8 y9 y10 y11 y12 y13, LeO (newelref17_Step.j0 k y0 y1 y2 y3 y4 y5 y6 y7 y8 y9 y10 y11 y12 y13) (newelref17_Step.j0 (k + 1) y0 y1 y2 y3 y4 y5 y6 y7 y8 y9 y10 y11 y12 y13)) ∧ (∀ y0 y1 y2 y3 y4 y5 y6 y7 y8 y9 y10 y11 y12 y13, LeO (newelref17_Step.j1 k y0 y1 y2 y3 y4 y5 y6 y7 y8 y9 y10 y11 y12 y13) (newelref17_Step.j1 (k + 1) y0 y1 y2 y3 y4 y5 y6 y7 y8 y9 y10 y11 y12 y13))
 | 0 => ⟨fun _ _ _ _ _ _ _ _ _ _ _ _ _ _ r h => by simp [newelref17_Step.j0] at h, fun _ _ _ _ _ _ _ _ _ _ _ _ _ _ r h => by simp [newelref17_Step.j1] at h⟩
 | k + 1 => by
  obtain ⟨ih0, ih1⟩ := newelref17_Step.mono_l k
  refine ⟨?_, ?_⟩
  ·intro y0 y1 y2 y3 y4 y5 y6 y7 y8 y9 y10 y11 y12 y13
   unfold newelref17_Step.j0
   repeat' first
   | (with_reducible exact ih0 _ _ _ _ _ _ _ _ _ _ _ _ _ _)
   | (with_reducible exact ih1 _ _ _ _ _ _ _ _ _ _ _ _ _ _)
   | (with_reducible exact LeO.refl _)
   | (with_reducible exact LeO.none _)
   | (with_reducible refine LeO.ite ?_ ?_)
   | (with_reducible refine LeO.bind ?_ (fun _ => ?_))
   | exact ih0 _ _ _ _ _ _ _ _ _ _ _ _ _ _
   | exact ih1 _ _ _ _ _ _ _ _ _ _ _ _ _ _
   | exact LeO.none _
   | refine LeO.ite ?_ ?_
   | refine LeO.bind ?_ (fun _ => ?_)
  ·intro y0 y1 y2 y3 y4 y5 y6 y7 y8 y9 y10 y11 y12 y13
   unfold newelref17_Step.j1
   repeat' first
   | (with_reducible exact ih0 _ _ _ _ _ _ _ _ _ _ _ _ _ _)
   | (with_reducible exact ih1 _ _ _ _ _ _ _ _ _ _ _ _ _ _)
   | (with_reducible exact LeO.refl _)
   | (with_reducible exact LeO.none _)
   | (with_reducible refine LeO.ite ?_ ?_)
   | (with_reducible refine LeO.bind ?_ (fun _ => ?_))
   | exact ih0 _ _ _ _ _ _ _ _ _ _ _ _ _ _
   | exact ih1 _ _ _ _ _ _ _ _ _ _ _ _ _ _
   | exact LeO.none _
   | refine LeO.ite ?_ ?_
   | refine LeO.bind ?_ (fun _ => ?_)
theorem newelref17_Step.mono : ∀ a0 a1 a2 a3 a4 a5 a6 a7 a8 a9 a10 a11 a12 a13 k, LeO (newelref17_Step.f k a0 a1 a2 a3 a4 a5 a6 a7 a8 a9 a10 a11 a12 a13) (newelref17_Step.f (k + 1) a0 a1 a2 a3 a4 a5 a6 a7 a8 a9 a10 a11 a12 a13) := by
 intro a0 a1 a2 a3 a4 a5 a6 a7 a8 a9 a10 a11 a12 a13 k
 obtain ⟨ih0, ih1⟩ := newelref17_Step.mono_l k
 unfold newelref17_Step.f
 repeat' first
   | (with_reducible exact ih0 _ _ _ _ _ _ _ _ _ _ _ _ _ _)
   | (with_reducible exact ih1 _ _ _ _ _ _ _ _ _ _ _ _ _ _)
   | (with_reducible exact LeO.refl _)
   | (with_reducible exact LeO.none _)
   | (with_reducible refine LeO.ite ?_ ?_)
   | (with_reducible refine LeO.bind ?_ (fun _ => ?_))
   | exact ih0 _ _ _ _ _ _ _ _ _ _ _ _ _ _
   | exact ih1 _ _ _ _ _ _ _ _ _ _ _ _ _ _
   | exact LeO.none _
   | refine LeO.ite ?_ ?_
   | refine LeO.bind ?_ (fun _ => ?_)
theorem set_set27_ (W : World) (b o : Nat) (v v' : Value) : (W.setCell ⟨b, o, none⟩ v).setCell ⟨b, o, none⟩ v' = W.setCell ⟨b, o, none⟩ v' := by
  have key : ∀ h : Array Obj, ∀ f g : Obj → Obj, (∀ x, g (f x) = g x) → (h.modify b f).modify b g = h.modify b g := by
    intro h f g hfg
    apply Array.ext
    · simp
    · intro i h1 h2
      simp only [Array.getElem_modify]
      split
      · exact hfg _
      · rfl
  simp only [World.setCell]
  rw [key _ _ _ (fun x => by cases x <;> simp)]
theorem set_comm_ (W : World) (b i j : Nat) (x y : Value) (h : j < i) : (W.setCell ⟨b, i, none⟩ x).setCell ⟨b, j, none⟩ y = (W.setCell ⟨b, j, none⟩ y).setCell ⟨b, i, none⟩ x := by
  have key : ∀ h : Array Obj, ∀ f g : Obj → Obj, (∀ o, g (f o) = f (g o)) → (h.modify b f).modify b g = (h.modify b g).modify b f := by
    intro h f g hfg
    apply Array.ext
    · simp
    · intro k h1 h2
      simp only [Array.getElem_modify]
      split
      · exact hfg _
      · rfl
  simp only [World.setCell]
  rw [key _ _ _ (fun o => by cases o <;> simp; rw [Array.setIfInBounds_comm _ _ (by omega)])]
set_option maxHeartbeats 8000000 in
set_option maxRecDepth 100000 in
theorem newelref17_Step.calls (k : Nat) (a0_0 : Int) (a0_1 : Int) (a0_2 : Int) (a0_3 : Int) (a0_4 : Int) (a0_5 : Int) (a0_6 : Int) (a0_7 : Int) (a0_8 : Int) (a0_9 : Int) (a1_0 : Int) (a1_1 : Int) (a1_2 : Int) (a2 : Bool) (r1 : Int) (r2 : Int) (r3 : Int) (r4 : Bool) (w : World) (h : newelref17_Step.f k a0_0 a0_1 a0_2 a0_3 a0_4 a0_5 a0_6 a0_7 a0_8 a0_9 a1_0 a1_1 a1_2 a2 = some (r1, r2, r3, r4)) :
  Calls Try.prog 27 #[.agg #[.int .i64 a0_0, .int .i64 a0_1, .int .i64 a0_2, .int .i64 a0_3, .int .i64 a0_4, .int .i64 a0_5, .int .i64 a0_6, .int .i64 a0_7, .int .i64 a0_8, .int .i64 a0_9], .agg #[.int .i64 a1_0, .int .i64 a1_1, .int .i64 a1_2], .bool a2] w fun e w' => e = .returned (.agg #[.int .i64 r1, .int .i64 r2, .int .i64 r3, .bool r4]) ∧ Below w.heap.size w w' := by
 have hss_ := set_set27_
 have hcm_ := set_comm_
 have hu42 := Try.underlying42
 have hu44 := Try.underlying44
 have hu52 := Try.underlying52
 have HB := Aside0.mk (Below.refl w.heap.size w)
 have H : (if a2 = true then (newelref17_Step.j0 k (decide (a1_2 < a0_9)) a0_0 a0_1 a0_2 a0_3 a0_4 a0_5 a0_6 a0_7 a0_8 a0_9 a1_0 a1_1 a1_2) else (newelref17_Step.j0 k false a0_0 a0_1 a0_2 a0_3 a0_4 a0_5 a0_6 a0_7 a0_8 a0_9 a1_0 a1_1 a1_2)) = some (r1, r2, r3, r4) := h
 clear h
 have HC4 := Aside0.mk H
 clear H
 go_enter Try.func27, Try.ntmps27
 go_upto_region 1 with (first | ((with_reducible refine gate_dst (N := 3) rfl ?_); refine box_event ?hg (N := 3) ?hd (cs := #[.int .i64 a0_0, .int .i64 a0_1, .int .i64 a0_2, .int .i64 a0_3, .int .i64 a0_4, .int .i64 a0_5, .int .i64 a0_6, .int .i64 a0_7, .int .i64 a0_8, .int .i64 a0_9]) (t := 42) ?hr ?_; (case hd => rfl); (case hg => rfl); (case hr => first | (go_simp; done) | (go_simp; rfl)); intro gb373 hg w5 hbox hb; have n0_ := Aside0.mk (below_step (by repeat (first | (with_reducible first | exact HB.out | apply below_alloc | apply pw_below_drewN | apply below_drew1) | exact HB.out)) hb); have n1_ := Aside0.mk (hbox); have n2_ := Aside0.mk ((by rw [hg]; exact (below_size (by repeat (first | (with_reducible first | exact HB.out | apply below_alloc | apply pw_below_drewN | apply below_drew1) | exact HB.out))) : w.heap.size ≤ gb373)); have n3_ := Aside0.mk ((by rw [hg]; exact (below_size (by repeat (first | (with_reducible first | exact HB.out | apply below_alloc | apply pw_below_drewN | apply below_drew1) | exact HB.out))) : w.heap.size ≤ gb373)); clear HB; have HB := n0_; have BK373 := n1_; have GW373 := n2_; have GE373 := n3_; clear n0_ n1_ n2_ n3_; clear hb hbox hg) | ((with_reducible refine gate_dst (N := 4) rfl ?_); refine box_event ?hg (N := 4) ?hd (cs := #[.int .i64 a1_0, .int .i64 a1_1, .int .i64 a1_2]) (t := 44) ?hr ?_; (case hd => rfl); (case hg => rfl); (case hr => first | (go_simp; done) | (go_simp; rfl)); intro gb374 hg w6 hbox hb; have n0_ := Aside0.mk (blk_below (g := gb373) (o := .cells #[.int .i64 a0_0, .int .i64 a0_1, .int .i64 a0_2, .int .i64 a0_3, .int .i64 a0_4, .int .i64 a0_5, .int .i64 a0_6, .int .i64 a0_7, .int .i64 a0_8, .int .i64 a0_9] 42 (0, 0)) (by (with_reducible repeat (first | refine blk_drewN ?_ _ | refine blk_drew ?_ | refine blk_alloc ?_ _)); exact BK373.out) hb); have n1_ := Aside0.mk (below_step (by repeat (first | (with_reducible first | exact HB.out | apply below_alloc | apply pw_below_drewN | apply below_drew1 | refine below_set ?_ GE373.out) | exact HB.out)) hb); have n2_ := Aside0.mk (hbox); have n3_ := Aside0.mk ((by rw [hg]; exact (below_size (by repeat (first | (with_reducible first | exact HB.out | apply below_alloc | apply pw_below_drewN | apply below_drew1 | refine below_set ?_ GE373.out) | exact HB.out))) : w.heap.size ≤ gb374)); have n4_ := Aside0.mk ((by rw [hg]; exact (below_size (by repeat (first | (with_reducible first | exact HB.out | apply below_alloc | apply pw_below_drewN | apply below_drew1 | refine below_set ?_ GE373.out) | exact HB.out))) : w.heap.size ≤ gb374)); have n5_ := Aside0.mk ((by rw [hg]; exact Nat.ne_of_lt (blk_lt (g := gb373) (o := .cells #[.int .i64 a0_0, .int .i64 a0_1, .int .i64 a0_2, .int .i64 a0_3, .int .i64 a0_4, .int .i64 a0_5, .int .i64 a0_6, .int .i64 a0_7, .int .i64 a0_8, .int .i64 a0_9] 42 (0, 0)) (by (with_reducible repeat (first | refine blk_drewN ?_ _ | refine blk_drew ?_ | refine blk_alloc ?_ _)); exact BK373.out)) : gb373 ≠ gb374)); have n6_ := Aside0.mk ((by rw [hg]; exact Nat.ne_of_gt (blk_lt (g := gb373) (o := .cells #[.int .i64 a0_0, .int .i64 a0_1, .int .i64 a0_2, .int .i64 a0_3, .int .i64 a0_4, .int .i64 a0_5, .int .i64 a0_6, .int .i64 a0_7, .int .i64 a0_8, .int .i64 a0_9] 42 (0, 0)) (by (with_reducible repeat (first | refine blk_drewN ?_ _ | refine blk_drew ?_ | refine blk_alloc ?_ _)); exact BK373.out)) : gb374 ≠ gb373)); clear BK373; clear HB; have BK373 := n0_; have HB := n1_; have BK374 := n2_; have GW374 := n3_; have GE374 := n4_; have NB373_374 := n5_; have NB374_373 := n6_; clear n0_ n1_ n2_ n3_ n4_ n5_ n6_; clear hb hbox hg) | ((with_reducible refine gate_dst (N := 6) rfl ?_); refine box_event ?hg (N := 6) ?hd (cs := #[.int .i64 0, .int .i64 0, .int .i64 0, .bool false]) (t := 52) ?hr ?_; (case hd => rfl); (case hg => rfl); (case hr => first | (go_simp; done) | (go_simp; rfl)); intro gb375 hg w7 hbox hb; have n0_ := Aside0.mk (blk_below (g := gb373) (o := .cells #[.int .i64 a0_0, .int .i64 a0_1, .int .i64 a0_2, .int .i64 a0_3, .int .i64 a0_4, .int .i64 a0_5, .int .i64 a0_6, .int .i64 a0_7, .int .i64 a0_8, .int .i64 a0_9] 42 (0, 0)) (by (with_reducible repeat (first | refine blk_drewN ?_ _ | refine blk_drew ?_ | refine blk_alloc ?_ _)); exact BK373.out) hb); have n1_ := Aside0.mk (blk_below (g := gb374) (o := .cells #[.int .i64 a1_0, .int .i64 a1_1, .int .i64 a1_2] 44 (0, 0)) (by (with_reducible repeat (first | refine blk_drewN ?_ _ | refine blk_drew ?_ | refine blk_alloc ?_ _)); exact BK374.out) hb); have n2_ := Aside0.mk (below_step (by repeat (first | (with_reducible first | exact HB.out | apply below_alloc | apply pw_below_drewN | apply below_drew1 | refine below_set ?_ GE373.out | refine below_set ?_ GE374.out) | exact HB.out)) hb); have n3_ := Aside0.mk (hbox); have n4_ := Aside0.mk ((by rw [hg]; exact (below_size (by repeat (first | (with_reducible first | exact HB.out | apply below_alloc | apply pw_below_drewN | apply below_drew1 | refine below_set ?_ GE373.out | refine below_set ?_ GE374.out) | exact HB.out))) : w.heap.size ≤ gb375)); have n5_ := Aside0.mk ((by rw [hg]; exact (below_size (by repeat (first | (with_reducible first | exact HB.out | apply below_alloc | apply pw_below_drewN | apply below_drew1 | refine below_set ?_ GE373.out | refine below_set ?_ GE374.out) | exact HB.out))) : w.heap.size ≤ gb375)); have n6_ := Aside0.mk ((by rw [hg]; exact Nat.ne_of_lt (blk_lt (g := gb373) (o := .cells #[.int .i64 a0_0, .int .i64 a0_1, .int .i64 a0_2, .int .i64 a0_3, .int .i64 a0_4, .int .i64 a0_5, .int .i64 a0_6, .int .i64 a0_7, .int .i64 a0_8, .int .i64 a0_9] 42 (0, 0)) (by (with_reducible repeat (first | refine blk_drewN ?_ _ | refine blk_drew ?_ | refine blk_alloc ?_ _)); exact BK373.out)) : gb373 ≠ gb375)); have n7_ := Aside0.mk ((by rw [hg]; exact Nat.ne_of_gt (blk_lt (g := gb373) (o := .cells #[.int .i64 a0_0, .int .i64 a0_1, .int .i64 a0_2, .int .i64 a0_3, .int .i64 a0_4, .int .i64 a0_5, .int .i64 a0_6, .int .i64 a0_7, .int .i64 a0_8, .int .i64 a0_9] 42 (0, 0)) (by (with_reducible repeat (first | refine blk_drewN ?_ _ | refine blk_drew ?_ | refine blk_alloc ?_ _)); exact BK373.out)) : gb375 ≠ gb373)); have n8_ := Aside0.mk ((by rw [hg]; exact Nat.ne_of_lt (blk_lt (g := gb374) (o := .cells #[.int .i64 a1_0, .int .i64 a1_1, .int .i64 a1_2] 44 (0, 0)) (by (with_reducible repeat (first | refine blk_drewN ?_ _ | refine blk_drew ?_ | refine blk_alloc ?_ _)); exact BK374.out)) : gb374 ≠ gb375)); have n9_ := Aside0.mk ((by rw [hg]; exact Nat.ne_of_gt (blk_lt (g := gb374) (o := .cells #[.int .i64 a1_0, .int .i64 a1_1, .int .i64 a1_2] 44 (0, 0)) (by (with_reducible repeat (first | refine blk_drewN ?_ _ | refine blk_drew ?_ | refine blk_alloc ?_ _)); exact BK374.out)) : gb375 ≠ gb374)); clear BK373; clear BK374; clear HB; have BK373 := n0_; have BK374 := n1_; have HB := n2_; have BK375 := n3_; have GW375 := n4_; have GE375 := n5_; have NB373_375 := n6_; have NB375_373 := n7_; have NB374_375 := n8_; have NB375_374 := n9_; clear n0_ n1_ n2_ n3_ n4_ n5_ n6_ n7_ n8_ n9_; clear hb hbox hg))
 (try simp only [Act.put, List.setIfInBounds_toArray, List.set_cons_zero, List.set_cons_succ])
 go_cut [7] (fun v7 wc => ∃ (kq : Nat) (x7_3 : Bool), v7 = .bool x7_3 ∧ Aside0 (newelref17_Step.j0 kq x7_3 a0_0 a0_1 a0_2 a0_3 a0_4 a0_5 a0_6 a0_7 a0_8 a0_9 a1_0 a1_1 a1_2 = some (r1, r2, r3, r4)) ∧ Aside0 (kq ≤ k) ∧ Aside0 (wc.heap[gb373]? = some (.cells #[.int .i64 a0_0, .int .i64 a0_1, .int .i64 a0_2, .int .i64 a0_3, .int .i64 a0_4, .int .i64 a0_5, .int .i64 a0_6, .int .i64 a0_7, .int .i64 a0_8, .int .i64 a0_9] 42 (0, 0))) ∧ Aside0 (wc.heap[gb374]? = some (.cells #[.int .i64 a1_0, .int .i64 a1_1, .int .i64 a1_2] 44 (0, 0))) ∧ Aside0 (wc.heap[gb375]? = some (.cells #[.int .i64 0, .int .i64 0, .int .i64 0, .bool false] 52 (0, 0))) ∧ Aside0 (Below w.heap.size w wc))
 case first =>
  have H := HC4.out
  clear HC4
  by_cases c8 : a2 = true
  ·subst c8
   have H1 : (newelref17_Step.j0 k (decide (a1_2 < a0_9)) a0_0 a0_1 a0_2 a0_3 a0_4 a0_5 a0_6 a0_7 a0_8 a0_9 a1_0 a1_1 a1_2) = some (r1, r2, r3, r4) := by rw [if_pos rfl] at H; exact H
   clear H
   have H := H1
   clear H1
   have H' := Aside0.mk H
   clear H
   have hnb9 := NB374_373.out
   have hnc9 := NB373_374.out
   have hnb10 := NB374_375.out
   have hnc10 := NB375_374.out
   have hcz11_0 : w7.cell? ⟨gb374, 0, none⟩ = some (.int .i64 a1_0) := (blk_cell BK374.out 0).trans rfl
   have hcz11_1 : w7.cell? ⟨gb374, 1, none⟩ = some (.int .i64 a1_1) := (blk_cell BK374.out 1).trans rfl
   have hcz11_2 : w7.cell? ⟨gb374, 2, none⟩ = some (.int .i64 a1_2) := (blk_cell BK374.out 2).trans rfl
   have hfz11_0 := blk_frozen BK374.out 0
   have hfz11_1 := blk_frozen BK374.out 1
   have hfz11_2 := blk_frozen BK374.out 2
   have hnb12 := NB373_375.out
   have hnc12 := NB375_373.out
   have hcz13_0 : w7.cell? ⟨gb373, 0, none⟩ = some (.int .i64 a0_0) := (blk_cell BK373.out 0).trans rfl
   have hcz13_1 : w7.cell? ⟨gb373, 1, none⟩ = some (.int .i64 a0_1) := (blk_cell BK373.out 1).trans rfl
   have hcz13_2 : w7.cell? ⟨gb373, 2, none⟩ = some (.int .i64 a0_2) := (blk_cell BK373.out 2).trans rfl
   have hcz13_3 : w7.cell? ⟨gb373, 3, none⟩ = some (.int .i64 a0_3) := (blk_cell BK373.out 3).trans rfl
   have hcz13_4 : w7.cell? ⟨gb373, 4, none⟩ = some (.int .i64 a0_4) := (blk_cell BK373.out 4).trans rfl
   have hcz13_5 : w7.cell? ⟨gb373, 5, none⟩ = some (.int .i64 a0_5) := (blk_cell BK373.out 5).trans rfl
   have hcz13_6 : w7.cell? ⟨gb373, 6, none⟩ = some (.int .i64 a0_6) := (blk_cell BK373.out 6).trans rfl
   have hcz13_7 : w7.cell? ⟨gb373, 7, none⟩ = some (.int .i64 a0_7) := (blk_cell BK373.out 7).trans rfl
   have hcz13_8 : w7.cell? ⟨gb373, 8, none⟩ = some (.int .i64 a0_8) := (blk_cell BK373.out 8).trans rfl
   have hcz13_9 : w7.cell? ⟨gb373, 9, none⟩ = some (.int .i64 a0_9) := (blk_cell BK373.out 9).trans rfl
   have hfz13_0 := blk_frozen BK373.out 0
   have hfz13_1 := blk_frozen BK373.out 1
   have hfz13_2 := blk_frozen BK373.out 2
   have hfz13_3 := blk_frozen BK373.out 3
   have hfz13_4 := blk_frozen BK373.out 4
   have hfz13_5 := blk_frozen BK373.out 5
   have hfz13_6 := blk_frozen BK373.out 6
   have hfz13_7 := blk_frozen BK373.out 7
   have hfz13_8 := blk_frozen BK373.out 8
   have hfz13_9 := blk_frozen BK373.out 9
   go_wp2
   go_meet
   case rel => exact ⟨_, (decide (a1_2 < a0_9)), (by first | rfl | (simp; done) | (simp [*]; done)), H', ⟨by first | omega | exact Nat.le_refl _⟩, ⟨by (with_reducible repeat (first | refine blk_drewN ?_ _ | refine blk_drew ?_ | refine blk_alloc ?_ _)); exact BK373.out⟩, ⟨by (with_reducible repeat (first | refine blk_drewN ?_ _ | refine blk_drew ?_ | refine blk_alloc ?_ _)); exact BK374.out⟩, ⟨by (with_reducible repeat (first | refine blk_drewN ?_ _ | refine blk_drew ?_ | refine blk_alloc ?_ _)); exact BK375.out⟩, ⟨by repeat (first | (with_reducible first | exact HB.out | apply below_alloc | apply pw_below_drewN | apply below_drew1 | refine below_set ?_ GE373.out | refine below_set ?_ GE374.out | refine below_set ?_ GE375.out) | exact HB.out)⟩⟩
  ·replace c8 := Bool.eq_false_iff.mpr c8
   subst c8
   have H1 : (newelref17_Step.j0 k false a0_0 a0_1 a0_2 a0_3 a0_4 a0_5 a0_6 a0_7 a0_8 a0_9 a1_0 a1_1 a1_2) = some (r1, r2, r3, r4) := by rw [if_neg (show ¬ (false = true) by decide)] at H; exact H
   clear H
   have H := H1
   clear H1
   have H' := Aside0.mk H
   clear H
   go_wp2
   go_meet
   case rel => exact ⟨_, (false), (by first | rfl | (simp; done) | (simp [*]; done)), H', ⟨by first | omega | exact Nat.le_refl _⟩, ⟨by (with_reducible repeat (first | refine blk_drewN ?_ _ | refine blk_drew ?_ | refine blk_alloc ?_ _)); exact BK373.out⟩, ⟨by (with_reducible repeat (first | refine blk_drewN ?_ _ | refine blk_drew ?_ | refine blk_alloc ?_ _)); exact BK374.out⟩, ⟨by (with_reducible repeat (first | refine blk_drewN ?_ _ | refine blk_drew ?_ | refine blk_alloc ?_ _)); exact BK375.out⟩, ⟨by repeat (first | (with_reducible first | exact HB.out | apply below_alloc | apply pw_below_drewN | apply below_drew1 | refine below_set ?_ GE373.out | refine below_set ?_ GE374.out | refine below_set ?_ GE375.out) | exact HB.out)⟩⟩
 case rest =>
  clear HC4
  try clear c1
  try clear c2
  try clear p2
  try clear c8
  try clear c9
  try clear c10
  try clear c12
  try clear hcz11_0
  try clear hcz11_1
  try clear hcz11_2
  try clear hcz13_0
  try clear hcz13_1
  try clear hcz13_2
  try clear hcz13_3
  try clear hcz13_4
  try clear hcz13_5
  try clear hcz13_6
  try clear hcz13_7
  try clear hcz13_8
  try clear hcz13_9
  try clear hfz11_0
  try clear hfz11_1
  try clear hfz11_2
  try clear hfz13_0
  try clear hfz13_1
  try clear hfz13_2
  try clear hfz13_3
  try clear hfz13_4
  try clear hfz13_5
  try clear hfz13_6
  try clear hfz13_7
  try clear hfz13_8
  try clear hfz13_9
  obtain ⟨kq, x7_3, rfl, HA, HJ3, BK373, BK374, BK375, HB⟩ := hcut
  cases kq with
  | zero => exact absurd HA.out (by simp [newelref17_Step.j0])
  | succ kj3 =>
   have H := HA.out
   clear HA
   simp only [newelref17_Step.j0] at H
   by_cases c14 : a1_0 = 0
   ·rw [if_pos c14] at H
    have c14b0 : (a1_0 == 0) = true := beq_iff_eq.mpr c14
    have c14b1 : (a1_0 != 0) = false := bne_eq_false_iff_eq.mpr c14
    clear c14
    simp only [Option.some.injEq, Prod.mk.injEq] at H
    obtain ⟨rfl, rfl, rfl, rfl⟩ := H
    have hnb15 := NB374_373.out
    have hnc15 := NB373_374.out
    have hnb16 := NB374_375.out
    have hnc16 := NB375_374.out
    have hcz17_0 : wc.cell? ⟨gb374, 0, none⟩ = some (.int .i64 a1_0) := (blk_cell BK374.out 0).trans rfl
    have hcz17_1 : wc.cell? ⟨gb374, 1, none⟩ = some (.int .i64 a1_1) := (blk_cell BK374.out 1).trans rfl
    have hcz17_2 : wc.cell? ⟨gb374, 2, none⟩ = some (.int .i64 a1_2) := (blk_cell BK374.out 2).trans rfl
    have hfz17_0 := blk_frozen BK374.out 0
    have hfz17_1 := blk_frozen BK374.out 1
    have hfz17_2 := blk_frozen BK374.out 2
    have hnb18 := NB375_373.out
    have hnc18 := NB373_375.out
    have hcz19_0 : wc.cell? ⟨gb375, 0, none⟩ = some (.int .i64 0) := (blk_cell BK375.out 0).trans rfl
    have hcz19_1 : wc.cell? ⟨gb375, 1, none⟩ = some (.int .i64 0) := (blk_cell BK375.out 1).trans rfl
    have hcz19_2 : wc.cell? ⟨gb375, 2, none⟩ = some (.int .i64 0) := (blk_cell BK375.out 2).trans rfl
    have hcz19_3 : wc.cell? ⟨gb375, 3, none⟩ = some (.bool false) := (blk_cell BK375.out 3).trans rfl
    have hfz19_0 := blk_frozen BK375.out 0
    have hfz19_1 := blk_frozen BK375.out 1
    have hfz19_2 := blk_frozen BK375.out 2
    have hfz19_3 := blk_frozen BK375.out 3
    go_wp2
    refine bodyPost_ret (results_cell_row rfl _ _ gb375 52 #[.int .i64 a1_0, .int .i64 a1_1, .int .i64 a1_2, .bool false] (0, 0) _ rfl (by (with_reducible repeat (first | refine blk_drewN ?_ _ | refine blk_drew ?_ | refine blk_alloc ?_ _)); refine blk_put (cs := #[.int .i64 a1_0, .int .i64 a1_1, .int .i64 a1_2, .bool false]) ?_ 3 _ rfl; (with_reducible repeat (first | refine blk_drewN ?_ _ | refine blk_drew ?_ | refine blk_alloc ?_ _)); refine blk_put (cs := #[.int .i64 a1_0, .int .i64 a1_1, .int .i64 0, .bool false]) ?_ 2 _ rfl; (with_reducible repeat (first | refine blk_drewN ?_ _ | refine blk_drew ?_ | refine blk_alloc ?_ _)); refine blk_put (cs := #[.int .i64 a1_0, .int .i64 0, .int .i64 0, .bool false]) ?_ 1 _ rfl; (with_reducible repeat (first | refine blk_drewN ?_ _ | refine blk_drew ?_ | refine blk_alloc ?_ _)); refine blk_put (cs := #[.int .i64 0, .int .i64 0, .int .i64 0, .bool false]) ?_ 0 _ rfl; (with_reducible repeat (first | refine blk_drewN ?_ _ | refine blk_drew ?_ | refine blk_alloc ?_ _)); exact BK375.out) Try.underlying52 rfl (by kernel_rfl)) rfl ?_
    exact ⟨by first | rfl | (simp [errW_none, errW_some] <;> rfl) | (simp [*, errW_none, errW_some] <;> rfl), by repeat (first | (with_reducible first | exact HB.out | apply below_alloc | apply pw_below_drewN | apply below_drew1 | refine below_set ?_ GE373.out | refine below_set ?_ GE374.out | refine below_set ?_ GE375.out) | exact HB.out)⟩
   ·rw [if_neg c14] at H
    have c14b0 : (a1_0 == 0) = false := beq_eq_false_iff_ne.mpr c14
    have c14b1 : (a1_0 != 0) = true := bne_iff_ne.mpr c14
    have HC20 := Aside0.mk H
    clear H
    have hnb21 := NB374_373.out
    have hnc21 := NB373_374.out
    have hnb22 := NB374_375.out
    have hnc22 := NB375_374.out
    have hcz23_0 : wc.cell? ⟨gb374, 0, none⟩ = some (.int .i64 a1_0) := (blk_cell BK374.out 0).trans rfl
    have hcz23_1 : wc.cell? ⟨gb374, 1, none⟩ = some (.int .i64 a1_1) := (blk_cell BK374.out 1).trans rfl
    have hcz23_2 : wc.cell? ⟨gb374, 2, none⟩ = some (.int .i64 a1_2) := (blk_cell BK374.out 2).trans rfl
    have hfz23_0 := blk_frozen BK374.out 0
    have hfz23_1 := blk_frozen BK374.out 1
    have hfz23_2 := blk_frozen BK374.out 2
    go_upto_region 4 with (fail)
    go_cut [27] (fun v27 wc => ∃ (kq : Nat) (x27_19 : Bool), v27 = .bool x27_19 ∧ Aside0 (newelref17_Step.j1 kq x27_19 a0_0 a0_1 a0_2 a0_3 a0_4 a0_5 a0_6 a0_7 a0_8 a0_9 a1_0 a1_1 a1_2 = some (r1, r2, r3, r4)) ∧ Aside0 (kq ≤ kj3) ∧ Aside0 (wc.heap[gb373]? = some (.cells #[.int .i64 a0_0, .int .i64 a0_1, .int .i64 a0_2, .int .i64 a0_3, .int .i64 a0_4, .int .i64 a0_5, .int .i64 a0_6, .int .i64 a0_7, .int .i64 a0_8, .int .i64 a0_9] 42 (0, 0))) ∧ Aside0 (wc.heap[gb374]? = some (.cells #[.int .i64 a1_0, .int .i64 a1_1, .int .i64 a1_2] 44 (0, 0))) ∧ Aside0 (wc.heap[gb375]? = some (.cells #[.int .i64 0, .int .i64 0, .int .i64 0, .bool false] 52 (0, 0))) ∧ Aside0 (Below w.heap.size w wc))
    case first =>
     have H := HC20.out
     clear HC20
     by_cases c24 : x7_3 = true
     ·subst c24
      have H1 : (newelref17_Step.j1 kj3 (decide (a1_0 > 1)) a0_0 a0_1 a0_2 a0_3 a0_4 a0_5 a0_6 a0_7 a0_8 a0_9 a1_0 a1_1 a1_2) = some (r1, r2, r3, r4) := by rw [if_pos rfl] at H; exact H
      clear H
      have H := H1
      clear H1
      have H' := Aside0.mk H
      clear H
      have hnb25 := NB374_373.out
      have hnc25 := NB373_374.out
      have hnb26 := NB374_375.out
      have hnc26 := NB375_374.out
      have hcz27_0 : wc.cell? ⟨gb374, 0, none⟩ = some (.int .i64 a1_0) := (blk_cell BK374.out 0).trans rfl
      have hcz27_1 : wc.cell? ⟨gb374, 1, none⟩ = some (.int .i64 a1_1) := (blk_cell BK374.out 1).trans rfl
      have hcz27_2 : wc.cell? ⟨gb374, 2, none⟩ = some (.int .i64 a1_2) := (blk_cell BK374.out 2).trans rfl
      have hfz27_0 := blk_frozen BK374.out 0
      have hfz27_1 := blk_frozen BK374.out 1
      have hfz27_2 := blk_frozen BK374.out 2
      go_wp2
      go_meet
      case rel => exact ⟨_, (decide (a1_0 > 1)), (by first | rfl | (simp; done) | (simp [*]; done)), H', ⟨by have := HJ3.out; first | omega | exact Nat.le_refl _⟩, ⟨by (with_reducible repeat (first | refine blk_drewN ?_ _ | refine blk_drew ?_ | refine blk_alloc ?_ _)); exact BK373.out⟩, ⟨by (with_reducible repeat (first | refine blk_drewN ?_ _ | refine blk_drew ?_ | refine blk_alloc ?_ _)); exact BK374.out⟩, ⟨by (with_reducible repeat (first | refine blk_drewN ?_ _ | refine blk_drew ?_ | refine blk_alloc ?_ _)); exact BK375.out⟩, ⟨by repeat (first | (with_reducible first | exact HB.out | apply below_alloc | apply pw_below_drewN | apply below_drew1 | refine below_set ?_ GE373.out | refine below_set ?_ GE374.out | refine below_set ?_ GE375.out) | exact HB.out)⟩⟩
     ·replace c24 := Bool.eq_false_iff.mpr c24
      subst c24
      have H1 : (newelref17_Step.j1 kj3 false a0_0 a0_1 a0_2 a0_3 a0_4 a0_5 a0_6 a0_7 a0_8 a0_9 a1_0 a1_1 a1_2) = some (r1, r2, r3, r4) := by rw [if_neg (show ¬ (false = true) by decide)] at H; exact H
      clear H
      have H := H1
      clear H1
      have H' := Aside0.mk H
      clear H
      go_wp2
      go_meet
      case rel => exact ⟨_, (false), (by first | rfl | (simp; done) | (simp [*]; done)), H', ⟨by have := HJ3.out; first | omega | exact Nat.le_refl _⟩, ⟨by (with_reducible repeat (first | refine blk_drewN ?_ _ | refine blk_drew ?_ | refine blk_alloc ?_ _)); exact BK373.out⟩, ⟨by (with_reducible repeat (first | refine blk_drewN ?_ _ | refine blk_drew ?_ | refine blk_alloc ?_ _)); exact BK374.out⟩, ⟨by (with_reducible repeat (first | refine blk_drewN ?_ _ | refine blk_drew ?_ | refine blk_alloc ?_ _)); exact BK375.out⟩, ⟨by repeat (first | (with_reducible first | exact HB.out | apply below_alloc | apply pw_below_drewN | apply below_drew1 | refine below_set ?_ GE373.out | refine below_set ?_ GE374.out | refine below_set ?_ GE375.out) | exact HB.out)⟩⟩
    case rest =>
     clear HC20
     try clear c1
     try clear c2
     try clear p2
     try clear c8
     try clear c9
     try clear c10
     try clear c12
     try clear c14
     try clear c14b0
     try clear c14b1
     try clear c15
     try clear c16
     try clear c18
     try clear c21
     try clear c22
     try clear c24
     try clear c25
     try clear c26
     try clear c27
     try clear hcz11_0
     try clear hcz11_1
     try clear hcz11_2
     try clear hcz13_0
     try clear hcz13_1
     try clear hcz13_2
     try clear hcz13_3
     try clear hcz13_4
     try clear hcz13_5
     try clear hcz13_6
     try clear hcz13_7
     try clear hcz13_8
     try clear hcz13_9
     try clear hcz17_0
     try clear hcz17_1
     try clear hcz17_2
     try clear hcz19_0
     try clear hcz19_1
     try clear hcz19_2
     try clear hcz19_3
     try clear hcz23_0
     try clear hcz23_1
     try clear hcz23_2
     try clear hcz27_0
     try clear hcz27_1
     try clear hcz27_2
     try clear hfz11_0
     try clear hfz11_1
     try clear hfz11_2
     try clear hfz13_0
     try clear hfz13_1
     try clear hfz13_2
     try clear hfz13_3
     try clear hfz13_4
     try clear hfz13_5
     try clear hfz13_6
     try clear hfz13_7
     try clear hfz13_8
     try clear hfz13_9
     try clear hfz17_0
     try clear hfz17_1
     try clear hfz17_2
     try clear hfz19_0
     try clear hfz19_1
     try clear hfz19_2
     try clear hfz19_3
     try clear hfz23_0
     try clear hfz23_1
     try clear hfz23_2
     try clear hfz27_0
     try clear hfz27_1
     try clear hfz27_2
     try clear p2
     obtain ⟨kq, x27_19, rfl, HA, HJ19, BK373, BK374, BK375, HB⟩ := hcut
     cases kq with
     | zero => exact absurd HA.out (by simp [newelref17_Step.j1])
     | succ kj19 =>
      have H := HA.out
      clear HA
      simp only [newelref17_Step.j1] at H
      by_cases c28 : x27_19 = true
      ·subst c28
       have H1 : ((newelref17_held.f a0_0 a0_1 a0_2 a0_3 a0_4 a0_5 a0_6 a0_7 a0_8 a0_9 a1_0 a1_1 a1_2).bind fun bt376 => (some (bt376.1, bt376.2.1, bt376.2.2, false))) = some (r1, r2, r3, r4) := by rw [if_pos rfl] at H; exact H
       clear H
       have H := H1
       clear H1
       replace H := Option.bind_eq_some_iff.mp H
       obtain ⟨⟨t376, t377, t378⟩, A290, H⟩ := H
       replace H : (some (t376, t377, t378, false)) = some (r1, r2, r3, r4) := H
       have A29 := Aside0.mk A290
       clear A290
       simp only [Option.some.injEq, Prod.mk.injEq] at H
       obtain ⟨rfl, rfl, rfl, rfl⟩ := H
       have hnb30 := NB373_374.out
       have hnc30 := NB374_373.out
       have hnb31 := NB373_375.out
       have hnc31 := NB375_373.out
       have hcz32_0 : wc.cell? ⟨gb373, 0, none⟩ = some (.int .i64 a0_0) := (blk_cell BK373.out 0).trans rfl
       have hcz32_1 : wc.cell? ⟨gb373, 1, none⟩ = some (.int .i64 a0_1) := (blk_cell BK373.out 1).trans rfl
       have hcz32_2 : wc.cell? ⟨gb373, 2, none⟩ = some (.int .i64 a0_2) := (blk_cell BK373.out 2).trans rfl
       have hcz32_3 : wc.cell? ⟨gb373, 3, none⟩ = some (.int .i64 a0_3) := (blk_cell BK373.out 3).trans rfl
       have hcz32_4 : wc.cell? ⟨gb373, 4, none⟩ = some (.int .i64 a0_4) := (blk_cell BK373.out 4).trans rfl
       have hcz32_5 : wc.cell? ⟨gb373, 5, none⟩ = some (.int .i64 a0_5) := (blk_cell BK373.out 5).trans rfl
       have hcz32_6 : wc.cell? ⟨gb373, 6, none⟩ = some (.int .i64 a0_6) := (blk_cell BK373.out 6).trans rfl
       have hcz32_7 : wc.cell? ⟨gb373, 7, none⟩ = some (.int .i64 a0_7) := (blk_cell BK373.out 7).trans rfl
       have hcz32_8 : wc.cell? ⟨gb373, 8, none⟩ = some (.int .i64 a0_8) := (blk_cell BK373.out 8).trans rfl
       have hcz32_9 : wc.cell? ⟨gb373, 9, none⟩ = some (.int .i64 a0_9) := (blk_cell BK373.out 9).trans rfl
       have hfz32_0 := blk_frozen BK373.out 0
       have hfz32_1 := blk_frozen BK373.out 1
       have hfz32_2 := blk_frozen BK373.out 2
       have hfz32_3 := blk_frozen BK373.out 3
       have hfz32_4 := blk_frozen BK373.out 4
       have hfz32_5 := blk_frozen BK373.out 5
       have hfz32_6 := blk_frozen BK373.out 6
       have hfz32_7 := blk_frozen BK373.out 7
       have hfz32_8 := blk_frozen BK373.out 8
       have hfz32_9 := blk_frozen BK373.out 9
       have hnb33 := NB374_375.out
       have hnc33 := NB375_374.out
       have hcz34_0 : wc.cell? ⟨gb374, 0, none⟩ = some (.int .i64 a1_0) := (blk_cell BK374.out 0).trans rfl
       have hcz34_1 : wc.cell? ⟨gb374, 1, none⟩ = some (.int .i64 a1_1) := (blk_cell BK374.out 1).trans rfl
       have hcz34_2 : wc.cell? ⟨gb374, 2, none⟩ = some (.int .i64 a1_2) := (blk_cell BK374.out 2).trans rfl
       have hfz34_0 := blk_frozen BK374.out 0
       have hfz34_1 := blk_frozen BK374.out 1
       have hfz34_2 := blk_frozen BK374.out 2
       go_wp2_with (first | ((with_reducible refine gate_callee (f := 39) rfl ?_); refine goesL_ (some 30) rfl rfl Try.func39 (by kernel_rfl) rfl #[.agg #[.int .i64 a0_0, .int .i64 a0_1, .int .i64 a0_2, .int .i64 a0_3, .int .i64 a0_4, .int .i64 a0_5, .int .i64 a0_6, .int .i64 a0_7, .int .i64 a0_8, .int .i64 a0_9], .agg #[.int .i64 a1_0, .int .i64 a1_1, .int .i64 a1_2]] rfl (by (try simp only [List.map_toArray, List.map_cons, List.map_nil]); first | done | rfl | (simp only [List.length_drop, List.length_take]; rfl)) ?_; (with_reducible refine (newelref17_held.calls a0_0 a0_1 a0_2 a0_3 a0_4 a0_5 a0_6 a0_7 a0_8 a0_9 a1_0 a1_1 a1_2 t376 t377 t378 _ A29.out).mono ?_); rintro e w35 ⟨rfl, hb⟩; refine ⟨_, rfl, ?_⟩; have n0_ := Aside0.mk (blk_below (g := gb373) (o := .cells #[.int .i64 a0_0, .int .i64 a0_1, .int .i64 a0_2, .int .i64 a0_3, .int .i64 a0_4, .int .i64 a0_5, .int .i64 a0_6, .int .i64 a0_7, .int .i64 a0_8, .int .i64 a0_9] 42 (0, 0)) (by (with_reducible repeat (first | refine blk_drewN ?_ _ | refine blk_drew ?_ | refine blk_alloc ?_ _)); exact BK373.out) hb); have n1_ := Aside0.mk (blk_below (g := gb374) (o := .cells #[.int .i64 a1_0, .int .i64 a1_1, .int .i64 a1_2] 44 (0, 0)) (by (with_reducible repeat (first | refine blk_drewN ?_ _ | refine blk_drew ?_ | refine blk_alloc ?_ _)); exact BK374.out) hb); have n2_ := Aside0.mk (blk_below (g := gb375) (o := .cells #[.int .i64 0, .int .i64 0, .int .i64 0, .bool false] 52 (0, 0)) (by (with_reducible repeat (first | refine blk_drewN ?_ _ | refine blk_drew ?_ | refine blk_alloc ?_ _)); exact BK375.out) hb); have n3_ := Aside0.mk (below_step (by repeat (first | (with_reducible first | exact HB.out | apply below_alloc | apply pw_below_drewN | apply below_drew1 | refine below_set ?_ GE373.out | refine below_set ?_ GE374.out | refine below_set ?_ GE375.out) | exact HB.out)) hb); clear BK373; clear BK374; clear BK375; clear HB; have BK373 := n0_; have BK374 := n1_; have BK375 := n2_; have HB := n3_; clear n0_ n1_ n2_ n3_; (try clear hb); (try clear hb2); (try clear hk); (try clear hi); have hcz36_0 : w35.cell? ⟨gb375, 0, none⟩ = some (.int .i64 0) := (blk_cell BK375.out 0).trans rfl; have hcz36_1 : w35.cell? ⟨gb375, 1, none⟩ = some (.int .i64 0) := (blk_cell BK375.out 1).trans rfl; have hcz36_2 : w35.cell? ⟨gb375, 2, none⟩ = some (.int .i64 0) := (blk_cell BK375.out 2).trans rfl; have hcz36_3 : w35.cell? ⟨gb375, 3, none⟩ = some (.bool false) := (blk_cell BK375.out 3).trans rfl; have hfz36_0 := blk_frozen BK375.out 0; have hfz36_1 := blk_frozen BK375.out 1; have hfz36_2 := blk_frozen BK375.out 2; have hfz36_3 := blk_frozen BK375.out 3))
       refine bodyPost_ret (results_cell_row rfl _ _ gb375 52 #[.int .i64 t376, .int .i64 t377, .int .i64 t378, .bool false] (0, 0) _ rfl (by (with_reducible repeat (first | refine blk_drewN ?_ _ | refine blk_drew ?_ | refine blk_alloc ?_ _)); refine blk_put (cs := #[.int .i64 t376, .int .i64 t377, .int .i64 t378, .bool false]) ?_ 3 _ rfl; (with_reducible repeat (first | refine blk_drewN ?_ _ | refine blk_drew ?_ | refine blk_alloc ?_ _)); refine blk_put (cs := #[.int .i64 t376, .int .i64 t377, .int .i64 0, .bool false]) ?_ 2 _ rfl; (with_reducible repeat (first | refine blk_drewN ?_ _ | refine blk_drew ?_ | refine blk_alloc ?_ _)); refine blk_put (cs := #[.int .i64 t376, .int .i64 0, .int .i64 0, .bool false]) ?_ 1 _ rfl; (with_reducible repeat (first | refine blk_drewN ?_ _ | refine blk_drew ?_ | refine blk_alloc ?_ _)); refine blk_put (cs := #[.int .i64 0, .int .i64 0, .int .i64 0, .bool false]) ?_ 0 _ rfl; (with_reducible repeat (first | refine blk_drewN ?_ _ | refine blk_drew ?_ | refine blk_alloc ?_ _)); exact BK375.out) Try.underlying52 rfl (by kernel_rfl)) rfl ?_
       exact ⟨by first | rfl | (simp [errW_none, errW_some] <;> rfl) | (simp [*, errW_none, errW_some] <;> rfl), by repeat (first | (with_reducible first | exact HB.out | apply below_alloc | apply pw_below_drewN | apply below_drew1 | refine below_set ?_ GE373.out | refine below_set ?_ GE374.out | refine below_set ?_ GE375.out) | exact HB.out)⟩
      ·replace c28 := Bool.eq_false_iff.mpr c28
       subst c28
       have H1 : (if a1_0 = 2 then (if (wrap64 (a1_1 - 1)) > 0 then (some (a1_0, wrap64 (a1_1 - 1), a1_2, (a1_1 == a0_5))) else (if a1_0 = 1 then (some (2, a0_8, a1_2, (a1_1 == a0_5))) else (some (3, a0_6, a1_2, (a1_1 == a0_5))))) else (if (wrap64 (a1_1 - 1)) > 0 then (some (a1_0, wrap64 (a1_1 - 1), a1_2, false)) else (if a1_0 = 1 then (some (2, a0_8, a1_2, false)) else (some (0, 0, 0, false))))) = some (r1, r2, r3, r4) := by rw [if_neg (show ¬ (false = true) by decide)] at H; exact H
       clear H
       have H := H1
       clear H1
       by_cases c37 : a1_0 = 2
       ·rw [if_pos c37] at H
        have c37b0 : (a1_0 == 2) = true := beq_iff_eq.mpr c37
        have c37b1 : (a1_0 != 2) = false := bne_eq_false_iff_eq.mpr c37
        clear c37
        by_cases c38 : (wrap64 (a1_1 - 1)) > 0
        ·rw [if_pos c38] at H
         have c38b0 : decide (0 < (wrap64 (a1_1 - 1))) = true := decide_eq_true c38
         clear c38
         simp only [Option.some.injEq, Prod.mk.injEq] at H
         obtain ⟨rfl, rfl, rfl, rfl⟩ := H
         have hnb39 := NB374_373.out
         have hnc39 := NB373_374.out
         have hnb40 := NB374_375.out
         have hnc40 := NB375_374.out
         have hcz41_0 : wc.cell? ⟨gb374, 0, none⟩ = some (.int .i64 a1_0) := (blk_cell BK374.out 0).trans rfl
         have hcz41_1 : wc.cell? ⟨gb374, 1, none⟩ = some (.int .i64 a1_1) := (blk_cell BK374.out 1).trans rfl
         have hcz41_2 : wc.cell? ⟨gb374, 2, none⟩ = some (.int .i64 a1_2) := (blk_cell BK374.out 2).trans rfl
         have hfz41_0 := blk_frozen BK374.out 0
         have hfz41_1 := blk_frozen BK374.out 1
         have hfz41_2 := blk_frozen BK374.out 2
         have hnb42 := NB373_375.out
         have hnc42 := NB375_373.out
         have hcz43_0 : wc.cell? ⟨gb373, 0, none⟩ = some (.int .i64 a0_0) := (blk_cell BK373.out 0).trans rfl
         have hcz43_1 : wc.cell? ⟨gb373, 1, none⟩ = some (.int .i64 a0_1) := (blk_cell BK373.out 1).trans rfl
         have hcz43_2 : wc.cell? ⟨gb373, 2, none⟩ = some (.int .i64 a0_2) := (blk_cell BK373.out 2).trans rfl
         have hcz43_3 : wc.cell? ⟨gb373, 3, none⟩ = some (.int .i64 a0_3) := (blk_cell BK373.out 3).trans rfl
         have hcz43_4 : wc.cell? ⟨gb373, 4, none⟩ = some (.int .i64 a0_4) := (blk_cell BK373.out 4).trans rfl
         have hcz43_5 : wc.cell? ⟨gb373, 5, none⟩ = some (.int .i64 a0_5) := (blk_cell BK373.out 5).trans rfl
         have hcz43_6 : wc.cell? ⟨gb373, 6, none⟩ = some (.int .i64 a0_6) := (blk_cell BK373.out 6).trans rfl
         have hcz43_7 : wc.cell? ⟨gb373, 7, none⟩ = some (.int .i64 a0_7) := (blk_cell BK373.out 7).trans rfl
         have hcz43_8 : wc.cell? ⟨gb373, 8, none⟩ = some (.int .i64 a0_8) := (blk_cell BK373.out 8).trans rfl
         have hcz43_9 : wc.cell? ⟨gb373, 9, none⟩ = some (.int .i64 a0_9) := (blk_cell BK373.out 9).trans rfl
         have hfz43_0 := blk_frozen BK373.out 0
         have hfz43_1 := blk_frozen BK373.out 1
         have hfz43_2 := blk_frozen BK373.out 2
         have hfz43_3 := blk_frozen BK373.out 3
         have hfz43_4 := blk_frozen BK373.out 4
         have hfz43_5 := blk_frozen BK373.out 5
         have hfz43_6 := blk_frozen BK373.out 6
         have hfz43_7 := blk_frozen BK373.out 7
         have hfz43_8 := blk_frozen BK373.out 8
         have hfz43_9 := blk_frozen BK373.out 9
         go_wp2_with (first | ((with_reducible refine gate_dst (N := 8) rfl ?_); refine box_event ?hg (N := 8) ?hd (cs := #[.int .i64 0, .int .i64 0, .int .i64 0, .bool false]) (t := 52) ?hr ?_; (case hd => rfl); (case hg => rfl); (case hr => first | (go_simp; done) | (go_simp; rfl)); intro gb379 hg w44 hbox hb; have n0_ := Aside0.mk (blk_below (g := gb373) (o := .cells #[.int .i64 a0_0, .int .i64 a0_1, .int .i64 a0_2, .int .i64 a0_3, .int .i64 a0_4, .int .i64 a0_5, .int .i64 a0_6, .int .i64 a0_7, .int .i64 a0_8, .int .i64 a0_9] 42 (0, 0)) (by (with_reducible repeat (first | refine blk_drewN ?_ _ | refine blk_drew ?_ | refine blk_alloc ?_ _)); exact BK373.out) hb); have n1_ := Aside0.mk (blk_below (g := gb374) (o := .cells #[.int .i64 a1_0, .int .i64 a1_1, .int .i64 a1_2] 44 (0, 0)) (by (with_reducible repeat (first | refine blk_drewN ?_ _ | refine blk_drew ?_ | refine blk_alloc ?_ _)); exact BK374.out) hb); have n2_ := Aside0.mk (blk_below (g := gb375) (o := .cells #[.int .i64 0, .int .i64 0, .int .i64 0, .bool false] 52 (0, 0)) (by (with_reducible repeat (first | refine blk_drewN ?_ _ | refine blk_drew ?_ | refine blk_alloc ?_ _)); exact BK375.out) hb); have n3_ := Aside0.mk (below_step (by repeat (first | (with_reducible first | exact HB.out | apply below_alloc | apply pw_below_drewN | apply below_drew1 | refine below_set ?_ GE373.out | refine below_set ?_ GE374.out | refine below_set ?_ GE375.out) | exact HB.out)) hb); have n4_ := Aside0.mk (hbox); have n5_ := Aside0.mk ((by rw [hg]; exact (below_size (by repeat (first | (with_reducible first | exact HB.out | apply below_alloc | apply pw_below_drewN | apply below_drew1 | refine below_set ?_ GE373.out | refine below_set ?_ GE374.out | refine below_set ?_ GE375.out) | exact HB.out))) : w.heap.size ≤ gb379)); have n6_ := Aside0.mk ((by rw [hg]; exact (below_size (by repeat (first | (with_reducible first | exact HB.out | apply below_alloc | apply pw_below_drewN | apply below_drew1 | refine below_set ?_ GE373.out | refine below_set ?_ GE374.out | refine below_set ?_ GE375.out) | exact HB.out))) : w.heap.size ≤ gb379)); have n7_ := Aside0.mk ((by rw [hg]; exact Nat.ne_of_lt (blk_lt (g := gb373) (o := .cells #[.int .i64 a0_0, .int .i64 a0_1, .int .i64 a0_2, .int .i64 a0_3, .int .i64 a0_4, .int .i64 a0_5, .int .i64 a0_6, .int .i64 a0_7, .int .i64 a0_8, .int .i64 a0_9] 42 (0, 0)) (by (with_reducible repeat (first | refine blk_drewN ?_ _ | refine blk_drew ?_ | refine blk_alloc ?_ _)); exact BK373.out)) : gb373 ≠ gb379)); have n8_ := Aside0.mk ((by rw [hg]; exact Nat.ne_of_gt (blk_lt (g := gb373) (o := .cells #[.int .i64 a0_0, .int .i64 a0_1, .int .i64 a0_2, .int .i64 a0_3, .int .i64 a0_4, .int .i64 a0_5, .int .i64 a0_6, .int .i64 a0_7, .int .i64 a0_8, .int .i64 a0_9] 42 (0, 0)) (by (with_reducible repeat (first | refine blk_drewN ?_ _ | refine blk_drew ?_ | refine blk_alloc ?_ _)); exact BK373.out)) : gb379 ≠ gb373)); have n9_ := Aside0.mk ((by rw [hg]; exact Nat.ne_of_lt (blk_lt (g := gb374) (o := .cells #[.int .i64 a1_0, .int .i64 a1_1, .int .i64 a1_2] 44 (0, 0)) (by (with_reducible repeat (first | refine blk_drewN ?_ _ | refine blk_drew ?_ | refine blk_alloc ?_ _)); exact BK374.out)) : gb374 ≠ gb379)); have n10_ := Aside0.mk ((by rw [hg]; exact Nat.ne_of_gt (blk_lt (g := gb374) (o := .cells #[.int .i64 a1_0, .int .i64 a1_1, .int .i64 a1_2] 44 (0, 0)) (by (with_reducible repeat (first | refine blk_drewN ?_ _ | refine blk_drew ?_ | refine blk_alloc ?_ _)); exact BK374.out)) : gb379 ≠ gb374)); have n11_ := Aside0.mk ((by rw [hg]; exact Nat.ne_of_lt (blk_lt (g := gb375) (o := .cells #[.int .i64 0, .int .i64 0, .int .i64 0, .bool false] 52 (0, 0)) (by (with_reducible repeat (first | refine blk_drewN ?_ _ | refine blk_drew ?_ | refine blk_alloc ?_ _)); exact BK375.out)) : gb375 ≠ gb379)); have n12_ := Aside0.mk ((by rw [hg]; exact Nat.ne_of_gt (blk_lt (g := gb375) (o := .cells #[.int .i64 0, .int .i64 0, .int .i64 0, .bool false] 52 (0, 0)) (by (with_reducible repeat (first | refine blk_drewN ?_ _ | refine blk_drew ?_ | refine blk_alloc ?_ _)); exact BK375.out)) : gb379 ≠ gb375)); clear BK373; clear BK374; clear BK375; clear HB; have BK373 := n0_; have BK374 := n1_; have BK375 := n2_; have HB := n3_; have BK379 := n4_; have GW379 := n5_; have GE379 := n6_; have NB373_379 := n7_; have NB379_373 := n8_; have NB374_379 := n9_; have NB379_374 := n10_; have NB375_379 := n11_; have NB379_375 := n12_; clear n0_ n1_ n2_ n3_ n4_ n5_ n6_ n7_ n8_ n9_ n10_ n11_ n12_; clear hb hbox hg; have hnb45 := NB379_373.out; have hnc45 := NB373_379.out; have hnb46 := NB379_374.out; have hnc46 := NB374_379.out; have hnb47 := NB379_375.out; have hnc47 := NB375_379.out; have hcz48_0 : w44.cell? ⟨gb379, 0, none⟩ = some (.int .i64 0) := (blk_cell BK379.out 0).trans rfl; have hcz48_1 : w44.cell? ⟨gb379, 1, none⟩ = some (.int .i64 0) := (blk_cell BK379.out 1).trans rfl; have hcz48_2 : w44.cell? ⟨gb379, 2, none⟩ = some (.int .i64 0) := (blk_cell BK379.out 2).trans rfl; have hcz48_3 : w44.cell? ⟨gb379, 3, none⟩ = some (.bool false) := (blk_cell BK379.out 3).trans rfl; have hfz48_0 := blk_frozen BK379.out 0; have hfz48_1 := blk_frozen BK379.out 1; have hfz48_2 := blk_frozen BK379.out 2; have hfz48_3 := blk_frozen BK379.out 3; have hcz49_0 : w44.cell? ⟨gb374, 0, none⟩ = some (.int .i64 a1_0) := (blk_cell BK374.out 0).trans rfl; have hcz49_1 : w44.cell? ⟨gb374, 1, none⟩ = some (.int .i64 a1_1) := (blk_cell BK374.out 1).trans rfl; have hcz49_2 : w44.cell? ⟨gb374, 2, none⟩ = some (.int .i64 a1_2) := (blk_cell BK374.out 2).trans rfl; have hfz49_0 := blk_frozen BK374.out 0; have hfz49_1 := blk_frozen BK374.out 1; have hfz49_2 := blk_frozen BK374.out 2; have hcz50_0 : w44.cell? ⟨gb375, 0, none⟩ = some (.int .i64 0) := (blk_cell BK375.out 0).trans rfl; have hcz50_1 : w44.cell? ⟨gb375, 1, none⟩ = some (.int .i64 0) := (blk_cell BK375.out 1).trans rfl; have hcz50_2 : w44.cell? ⟨gb375, 2, none⟩ = some (.int .i64 0) := (blk_cell BK375.out 2).trans rfl; have hcz50_3 : w44.cell? ⟨gb375, 3, none⟩ = some (.bool false) := (blk_cell BK375.out 3).trans rfl; have hfz50_0 := blk_frozen BK375.out 0; have hfz50_1 := blk_frozen BK375.out 1; have hfz50_2 := blk_frozen BK375.out 2; have hfz50_3 := blk_frozen BK375.out 3))
         refine bodyPost_ret (results_cell_row rfl _ _ gb375 52 #[.int .i64 a1_0, .int .i64 (wrap64 (a1_1 - 1)), .int .i64 a1_2, .bool (a1_1 == a0_5)] (0, 0) _ rfl (by (with_reducible repeat (first | refine blk_drewN ?_ _ | refine blk_drew ?_ | refine blk_alloc ?_ _)); refine blk_put (cs := #[.int .i64 a1_0, .int .i64 (wrap64 (a1_1 - 1)), .int .i64 a1_2, .bool false]) ?_ 3 _ rfl; (with_reducible repeat (first | refine blk_drewN ?_ _ | refine blk_drew ?_ | refine blk_alloc ?_ _)); refine blk_put (cs := #[.int .i64 a1_0, .int .i64 (wrap64 (a1_1 - 1)), .int .i64 0, .bool false]) ?_ 2 _ rfl; (with_reducible repeat (first | refine blk_drewN ?_ _ | refine blk_drew ?_ | refine blk_alloc ?_ _)); refine blk_put (cs := #[.int .i64 a1_0, .int .i64 0, .int .i64 0, .bool false]) ?_ 1 _ rfl; (with_reducible repeat (first | refine blk_drewN ?_ _ | refine blk_drew ?_ | refine blk_alloc ?_ _)); refine blk_put (cs := #[.int .i64 0, .int .i64 0, .int .i64 0, .bool false]) ?_ 0 _ rfl; (with_reducible repeat (first | refine blk_drewN ?_ _ | refine blk_drew ?_ | refine blk_alloc ?_ _)); (first | (refine blk_far ?_ NB375_379.out _; (with_reducible repeat (first | refine blk_drewN ?_ _ | refine blk_drew ?_ | refine blk_alloc ?_ _))) | skip); (first | (refine blk_far ?_ NB375_379.out _; (with_reducible repeat (first | refine blk_drewN ?_ _ | refine blk_drew ?_ | refine blk_alloc ?_ _))) | skip); (first | (refine blk_far ?_ NB375_379.out _; (with_reducible repeat (first | refine blk_drewN ?_ _ | refine blk_drew ?_ | refine blk_alloc ?_ _))) | skip); (first | (refine blk_far ?_ NB375_379.out _; (with_reducible repeat (first | refine blk_drewN ?_ _ | refine blk_drew ?_ | refine blk_alloc ?_ _))) | skip); (first | (refine blk_far ?_ NB375_379.out _; (with_reducible repeat (first | refine blk_drewN ?_ _ | refine blk_drew ?_ | refine blk_alloc ?_ _))) | skip); exact BK375.out) Try.underlying52 rfl (by kernel_rfl)) rfl ?_
         exact ⟨by first | rfl | (simp [errW_none, errW_some] <;> rfl) | (simp [*, errW_none, errW_some] <;> rfl), by repeat (first | (with_reducible first | exact HB.out | apply below_alloc | apply pw_below_drewN | apply below_drew1 | refine below_set ?_ GE373.out | refine below_set ?_ GE374.out | refine below_set ?_ GE375.out | refine below_set ?_ GE379.out) | exact HB.out)⟩
        ·rw [if_neg c38] at H
         have c38b0 : decide (0 < (wrap64 (a1_1 - 1))) = false := decide_eq_false c38
         clear c38
         by_cases c51 : a1_0 = 1
         ·rw [if_pos c51] at H
          have c51b0 : (a1_0 == 1) = true := beq_iff_eq.mpr c51
          have c51b1 : (a1_0 != 1) = false := bne_eq_false_iff_eq.mpr c51
          clear c51
          simp only [Option.some.injEq, Prod.mk.injEq] at H
          obtain ⟨rfl, rfl, rfl, rfl⟩ := H
          have hnb52 := NB374_373.out
          have hnc52 := NB373_374.out
          have hnb53 := NB374_375.out
          have hnc53 := NB375_374.out
          have hcz54_0 : wc.cell? ⟨gb374, 0, none⟩ = some (.int .i64 a1_0) := (blk_cell BK374.out 0).trans rfl
          have hcz54_1 : wc.cell? ⟨gb374, 1, none⟩ = some (.int .i64 a1_1) := (blk_cell BK374.out 1).trans rfl
          have hcz54_2 : wc.cell? ⟨gb374, 2, none⟩ = some (.int .i64 a1_2) := (blk_cell BK374.out 2).trans rfl
          have hfz54_0 := blk_frozen BK374.out 0
          have hfz54_1 := blk_frozen BK374.out 1
          have hfz54_2 := blk_frozen BK374.out 2
          have hnb55 := NB373_375.out
          have hnc55 := NB375_373.out
          have hcz56_0 : wc.cell? ⟨gb373, 0, none⟩ = some (.int .i64 a0_0) := (blk_cell BK373.out 0).trans rfl
          have hcz56_1 : wc.cell? ⟨gb373, 1, none⟩ = some (.int .i64 a0_1) := (blk_cell BK373.out 1).trans rfl
          have hcz56_2 : wc.cell? ⟨gb373, 2, none⟩ = some (.int .i64 a0_2) := (blk_cell BK373.out 2).trans rfl
          have hcz56_3 : wc.cell? ⟨gb373, 3, none⟩ = some (.int .i64 a0_3) := (blk_cell BK373.out 3).trans rfl
          have hcz56_4 : wc.cell? ⟨gb373, 4, none⟩ = some (.int .i64 a0_4) := (blk_cell BK373.out 4).trans rfl
          have hcz56_5 : wc.cell? ⟨gb373, 5, none⟩ = some (.int .i64 a0_5) := (blk_cell BK373.out 5).trans rfl
          have hcz56_6 : wc.cell? ⟨gb373, 6, none⟩ = some (.int .i64 a0_6) := (blk_cell BK373.out 6).trans rfl
          have hcz56_7 : wc.cell? ⟨gb373, 7, none⟩ = some (.int .i64 a0_7) := (blk_cell BK373.out 7).trans rfl
          have hcz56_8 : wc.cell? ⟨gb373, 8, none⟩ = some (.int .i64 a0_8) := (blk_cell BK373.out 8).trans rfl
          have hcz56_9 : wc.cell? ⟨gb373, 9, none⟩ = some (.int .i64 a0_9) := (blk_cell BK373.out 9).trans rfl
          have hfz56_0 := blk_frozen BK373.out 0
          have hfz56_1 := blk_frozen BK373.out 1
          have hfz56_2 := blk_frozen BK373.out 2
          have hfz56_3 := blk_frozen BK373.out 3
          have hfz56_4 := blk_frozen BK373.out 4
          have hfz56_5 := blk_frozen BK373.out 5
          have hfz56_6 := blk_frozen BK373.out 6
          have hfz56_7 := blk_frozen BK373.out 7
          have hfz56_8 := blk_frozen BK373.out 8
          have hfz56_9 := blk_frozen BK373.out 9
          go_wp2_with (first | ((with_reducible refine gate_dst (N := 8) rfl ?_); refine box_event ?hg (N := 8) ?hd (cs := #[.int .i64 0, .int .i64 0, .int .i64 0, .bool false]) (t := 52) ?hr ?_; (case hd => rfl); (case hg => rfl); (case hr => first | (go_simp; done) | (go_simp; rfl)); intro gb379 hg w57 hbox hb; have n0_ := Aside0.mk (blk_below (g := gb373) (o := .cells #[.int .i64 a0_0, .int .i64 a0_1, .int .i64 a0_2, .int .i64 a0_3, .int .i64 a0_4, .int .i64 a0_5, .int .i64 a0_6, .int .i64 a0_7, .int .i64 a0_8, .int .i64 a0_9] 42 (0, 0)) (by (with_reducible repeat (first | refine blk_drewN ?_ _ | refine blk_drew ?_ | refine blk_alloc ?_ _)); exact BK373.out) hb); have n1_ := Aside0.mk (blk_below (g := gb374) (o := .cells #[.int .i64 a1_0, .int .i64 a1_1, .int .i64 a1_2] 44 (0, 0)) (by (with_reducible repeat (first | refine blk_drewN ?_ _ | refine blk_drew ?_ | refine blk_alloc ?_ _)); exact BK374.out) hb); have n2_ := Aside0.mk (blk_below (g := gb375) (o := .cells #[.int .i64 0, .int .i64 0, .int .i64 0, .bool false] 52 (0, 0)) (by (with_reducible repeat (first | refine blk_drewN ?_ _ | refine blk_drew ?_ | refine blk_alloc ?_ _)); exact BK375.out) hb); have n3_ := Aside0.mk (below_step (by repeat (first | (with_reducible first | exact HB.out | apply below_alloc | apply pw_below_drewN | apply below_drew1 | refine below_set ?_ GE373.out | refine below_set ?_ GE374.out | refine below_set ?_ GE375.out) | exact HB.out)) hb); have n4_ := Aside0.mk (hbox); have n5_ := Aside0.mk ((by rw [hg]; exact (below_size (by repeat (first | (with_reducible first | exact HB.out | apply below_alloc | apply pw_below_drewN | apply below_drew1 | refine below_set ?_ GE373.out | refine below_set ?_ GE374.out | refine below_set ?_ GE375.out) | exact HB.out))) : w.heap.size ≤ gb379)); have n6_ := Aside0.mk ((by rw [hg]; exact (below_size (by repeat (first | (with_reducible first | exact HB.out | apply below_alloc | apply pw_below_drewN | apply below_drew1 | refine below_set ?_ GE373.out | refine below_set ?_ GE374.out | refine below_set ?_ GE375.out) | exact HB.out))) : w.heap.size ≤ gb379)); have n7_ := Aside0.mk ((by rw [hg]; exact Nat.ne_of_lt (blk_lt (g := gb373) (o := .cells #[.int .i64 a0_0, .int .i64 a0_1, .int .i64 a0_2, .int .i64 a0_3, .int .i64 a0_4, .int .i64 a0_5, .int .i64 a0_6, .int .i64 a0_7, .int .i64 a0_8, .int .i64 a0_9] 42 (0, 0)) (by (with_reducible repeat (first | refine blk_drewN ?_ _ | refine blk_drew ?_ | refine blk_alloc ?_ _)); exact BK373.out)) : gb373 ≠ gb379)); have n8_ := Aside0.mk ((by rw [hg]; exact Nat.ne_of_gt (blk_lt (g := gb373) (o := .cells #[.int .i64 a0_0, .int .i64 a0_1, .int .i64 a0_2, .int .i64 a0_3, .int .i64 a0_4, .int .i64 a0_5, .int .i64 a0_6, .int .i64 a0_7, .int .i64 a0_8, .int .i64 a0_9] 42 (0, 0)) (by (with_reducible repeat (first | refine blk_drewN ?_ _ | refine blk_drew ?_ | refine blk_alloc ?_ _)); exact BK373.out)) : gb379 ≠ gb373)); have n9_ := Aside0.mk ((by rw [hg]; exact Nat.ne_of_lt (blk_lt (g := gb374) (o := .cells #[.int .i64 a1_0, .int .i64 a1_1, .int .i64 a1_2] 44 (0, 0)) (by (with_reducible repeat (first | refine blk_drewN ?_ _ | refine blk_drew ?_ | refine blk_alloc ?_ _)); exact BK374.out)) : gb374 ≠ gb379)); have n10_ := Aside0.mk ((by rw [hg]; exact Nat.ne_of_gt (blk_lt (g := gb374) (o := .cells #[.int .i64 a1_0, .int .i64 a1_1, .int .i64 a1_2] 44 (0, 0)) (by (with_reducible repeat (first | refine blk_drewN ?_ _ | refine blk_drew ?_ | refine blk_alloc ?_ _)); exact BK374.out)) : gb379 ≠ gb374)); have n11_ := Aside0.mk ((by rw [hg]; exact Nat.ne_of_lt (blk_lt (g := gb375) (o := .cells #[.int .i64 0, .int .i64 0, .int .i64 0, .bool false] 52 (0, 0)) (by (with_reducible repeat (first | refine blk_drewN ?_ _ | refine blk_drew ?_ | refine blk_alloc ?_ _)); exact BK375.out)) : gb375 ≠ gb379)); have n12_ := Aside0.mk ((by rw [hg]; exact Nat.ne_of_gt (blk_lt (g := gb375) (o := .cells #[.int .i64 0, .int .i64 0, .int .i64 0, .bool false] 52 (0, 0)) (by (with_reducible repeat (first | refine blk_drewN ?_ _ | refine blk_drew ?_ | refine blk_alloc ?_ _)); exact BK375.out)) : gb379 ≠ gb375)); clear BK373; clear BK374; clear BK375; clear HB; have BK373 := n0_; have BK374 := n1_; have BK375 := n2_; have HB := n3_; have BK379 := n4_; have GW379 := n5_; have GE379 := n6_; have NB373_379 := n7_; have NB379_373 := n8_; have NB374_379 := n9_; have NB379_374 := n10_; have NB375_379 := n11_; have NB379_375 := n12_; clear n0_ n1_ n2_ n3_ n4_ n5_ n6_ n7_ n8_ n9_ n10_ n11_ n12_; clear hb hbox hg; have hnb58 := NB379_373.out; have hnc58 := NB373_379.out; have hnb59 := NB379_374.out; have hnc59 := NB374_379.out; have hnb60 := NB379_375.out; have hnc60 := NB375_379.out; have hcz61_0 : w57.cell? ⟨gb379, 0, none⟩ = some (.int .i64 0) := (blk_cell BK379.out 0).trans rfl; have hcz61_1 : w57.cell? ⟨gb379, 1, none⟩ = some (.int .i64 0) := (blk_cell BK379.out 1).trans rfl; have hcz61_2 : w57.cell? ⟨gb379, 2, none⟩ = some (.int .i64 0) := (blk_cell BK379.out 2).trans rfl; have hcz61_3 : w57.cell? ⟨gb379, 3, none⟩ = some (.bool false) := (blk_cell BK379.out 3).trans rfl; have hfz61_0 := blk_frozen BK379.out 0; have hfz61_1 := blk_frozen BK379.out 1; have hfz61_2 := blk_frozen BK379.out 2; have hfz61_3 := blk_frozen BK379.out 3; have hcz62_0 : w57.cell? ⟨gb374, 0, none⟩ = some (.int .i64 a1_0) := (blk_cell BK374.out 0).trans rfl; have hcz62_1 : w57.cell? ⟨gb374, 1, none⟩ = some (.int .i64 a1_1) := (blk_cell BK374.out 1).trans rfl; have hcz62_2 : w57.cell? ⟨gb374, 2, none⟩ = some (.int .i64 a1_2) := (blk_cell BK374.out 2).trans rfl; have hfz62_0 := blk_frozen BK374.out 0; have hfz62_1 := blk_frozen BK374.out 1; have hfz62_2 := blk_frozen BK374.out 2; have hcz63_0 : w57.cell? ⟨gb373, 0, none⟩ = some (.int .i64 a0_0) := (blk_cell BK373.out 0).trans rfl; have hcz63_1 : w57.cell? ⟨gb373, 1, none⟩ = some (.int .i64 a0_1) := (blk_cell BK373.out 1).trans rfl; have hcz63_2 : w57.cell? ⟨gb373, 2, none⟩ = some (.int .i64 a0_2) := (blk_cell BK373.out 2).trans rfl; have hcz63_3 : w57.cell? ⟨gb373, 3, none⟩ = some (.int .i64 a0_3) := (blk_cell BK373.out 3).trans rfl; have hcz63_4 : w57.cell? ⟨gb373, 4, none⟩ = some (.int .i64 a0_4) := (blk_cell BK373.out 4).trans rfl; have hcz63_5 : w57.cell? ⟨gb373, 5, none⟩ = some (.int .i64 a0_5) := (blk_cell BK373.out 5).trans rfl; have hcz63_6 : w57.cell? ⟨gb373, 6, none⟩ = some (.int .i64 a0_6) := (blk_cell BK373.out 6).trans rfl; have hcz63_7 : w57.cell? ⟨gb373, 7, none⟩ = some (.int .i64 a0_7) := (blk_cell BK373.out 7).trans rfl; have hcz63_8 : w57.cell? ⟨gb373, 8, none⟩ = some (.int .i64 a0_8) := (blk_cell BK373.out 8).trans rfl; have hcz63_9 : w57.cell? ⟨gb373, 9, none⟩ = some (.int .i64 a0_9) := (blk_cell BK373.out 9).trans rfl; have hfz63_0 := blk_frozen BK373.out 0; have hfz63_1 := blk_frozen BK373.out 1; have hfz63_2 := blk_frozen BK373.out 2; have hfz63_3 := blk_frozen BK373.out 3; have hfz63_4 := blk_frozen BK373.out 4; have hfz63_5 := blk_frozen BK373.out 5; have hfz63_6 := blk_frozen BK373.out 6; have hfz63_7 := blk_frozen BK373.out 7; have hfz63_8 := blk_frozen BK373.out 8; have hfz63_9 := blk_frozen BK373.out 9; have hcz64_0 : w57.cell? ⟨gb375, 0, none⟩ = some (.int .i64 0) := (blk_cell BK375.out 0).trans rfl; have hcz64_1 : w57.cell? ⟨gb375, 1, none⟩ = some (.int .i64 0) := (blk_cell BK375.out 1).trans rfl; have hcz64_2 : w57.cell? ⟨gb375, 2, none⟩ = some (.int .i64 0) := (blk_cell BK375.out 2).trans rfl; have hcz64_3 : w57.cell? ⟨gb375, 3, none⟩ = some (.bool false) := (blk_cell BK375.out 3).trans rfl; have hfz64_0 := blk_frozen BK375.out 0; have hfz64_1 := blk_frozen BK375.out 1; have hfz64_2 := blk_frozen BK375.out 2; have hfz64_3 := blk_frozen BK375.out 3))
          refine bodyPost_ret (results_cell_row rfl _ _ gb375 52 #[.int .i64 2, .int .i64 a0_8, .int .i64 a1_2, .bool (a1_1 == a0_5)] (0, 0) _ rfl (by (with_reducible repeat (first | refine blk_drewN ?_ _ | refine blk_drew ?_ | refine blk_alloc ?_ _)); refine blk_put (cs := #[.int .i64 2, .int .i64 a0_8, .int .i64 a1_2, .bool false]) ?_ 3 _ rfl; (with_reducible repeat (first | refine blk_drewN ?_ _ | refine blk_drew ?_ | refine blk_alloc ?_ _)); refine blk_put (cs := #[.int .i64 2, .int .i64 a0_8, .int .i64 0, .bool false]) ?_ 2 _ rfl; (with_reducible repeat (first | refine blk_drewN ?_ _ | refine blk_drew ?_ | refine blk_alloc ?_ _)); refine blk_put (cs := #[.int .i64 2, .int .i64 0, .int .i64 0, .bool false]) ?_ 1 _ rfl; (with_reducible repeat (first | refine blk_drewN ?_ _ | refine blk_drew ?_ | refine blk_alloc ?_ _)); refine blk_put (cs := #[.int .i64 0, .int .i64 0, .int .i64 0, .bool false]) ?_ 0 _ rfl; (with_reducible repeat (first | refine blk_drewN ?_ _ | refine blk_drew ?_ | refine blk_alloc ?_ _)); (first | (refine blk_far ?_ NB375_379.out _; (with_reducible repeat (first | refine blk_drewN ?_ _ | refine blk_drew ?_ | refine blk_alloc ?_ _))) | skip); (first | (refine blk_far ?_ NB375_379.out _; (with_reducible repeat (first | refine blk_drewN ?_ _ | refine blk_drew ?_ | refine blk_alloc ?_ _))) | skip); (first | (refine blk_far ?_ NB375_379.out _; (with_reducible repeat (first | refine blk_drewN ?_ _ | refine blk_drew ?_ | refine blk_alloc ?_ _))) | skip); (first | (refine blk_far ?_ NB375_379.out _; (with_reducible repeat (first | refine blk_drewN ?_ _ | refine blk_drew ?_ | refine blk_alloc ?_ _))) | skip); (first | (refine blk_far ?_ NB375_379.out _; (with_reducible repeat (first | refine blk_drewN ?_ _ | refine blk_drew ?_ | refine blk_alloc ?_ _))) | skip); (first | (refine blk_far ?_ NB375_379.out _; (with_reducible repeat (first | refine blk_drewN ?_ _ | refine blk_drew ?_ | refine blk_alloc ?_ _))) | skip); (first | (refine blk_far ?_ NB375_379.out _; (with_reducible repeat (first | refine blk_drewN ?_ _ | refine blk_drew ?_ | refine blk_alloc ?_ _))) | skip); exact BK375.out) Try.underlying52 rfl (by kernel_rfl)) rfl ?_
          exact ⟨by first | rfl | (simp [errW_none, errW_some] <;> rfl) | (simp [*, errW_none, errW_some] <;> rfl), by repeat (first | (with_reducible first | exact HB.out | apply below_alloc | apply pw_below_drewN | apply below_drew1 | refine below_set ?_ GE373.out | refine below_set ?_ GE374.out | refine below_set ?_ GE375.out | refine below_set ?_ GE379.out) | exact HB.out)⟩
         ·rw [if_neg c51] at H
          have c51b0 : (a1_0 == 1) = false := beq_eq_false_iff_ne.mpr c51
          have c51b1 : (a1_0 != 1) = true := bne_iff_ne.mpr c51
          simp only [Option.some.injEq, Prod.mk.injEq] at H
          obtain ⟨rfl, rfl, rfl, rfl⟩ := H
          have hnb65 := NB374_373.out
          have hnc65 := NB373_374.out
          have hnb66 := NB374_375.out
          have hnc66 := NB375_374.out
          have hcz67_0 : wc.cell? ⟨gb374, 0, none⟩ = some (.int .i64 a1_0) := (blk_cell BK374.out 0).trans rfl
          have hcz67_1 : wc.cell? ⟨gb374, 1, none⟩ = some (.int .i64 a1_1) := (blk_cell BK374.out 1).trans rfl
          have hcz67_2 : wc.cell? ⟨gb374, 2, none⟩ = some (.int .i64 a1_2) := (blk_cell BK374.out 2).trans rfl
          have hfz67_0 := blk_frozen BK374.out 0
          have hfz67_1 := blk_frozen BK374.out 1
          have hfz67_2 := blk_frozen BK374.out 2
          have hnb68 := NB373_375.out
          have hnc68 := NB375_373.out
          have hcz69_0 : wc.cell? ⟨gb373, 0, none⟩ = some (.int .i64 a0_0) := (blk_cell BK373.out 0).trans rfl
          have hcz69_1 : wc.cell? ⟨gb373, 1, none⟩ = some (.int .i64 a0_1) := (blk_cell BK373.out 1).trans rfl
          have hcz69_2 : wc.cell? ⟨gb373, 2, none⟩ = some (.int .i64 a0_2) := (blk_cell BK373.out 2).trans rfl
          have hcz69_3 : wc.cell? ⟨gb373, 3, none⟩ = some (.int .i64 a0_3) := (blk_cell BK373.out 3).trans rfl
          have hcz69_4 : wc.cell? ⟨gb373, 4, none⟩ = some (.int .i64 a0_4) := (blk_cell BK373.out 4).trans rfl
          have hcz69_5 : wc.cell? ⟨gb373, 5, none⟩ = some (.int .i64 a0_5) := (blk_cell BK373.out 5).trans rfl
          have hcz69_6 : wc.cell? ⟨gb373, 6, none⟩ = some (.int .i64 a0_6) := (blk_cell BK373.out 6).trans rfl
          have hcz69_7 : wc.cell? ⟨gb373, 7, none⟩ = some (.int .i64 a0_7) := (blk_cell BK373.out 7).trans rfl
          have hcz69_8 : wc.cell? ⟨gb373, 8, none⟩ = some (.int .i64 a0_8) := (blk_cell BK373.out 8).trans rfl
          have hcz69_9 : wc.cell? ⟨gb373, 9, none⟩ = some (.int .i64 a0_9) := (blk_cell BK373.out 9).trans rfl
          have hfz69_0 := blk_frozen BK373.out 0
          have hfz69_1 := blk_frozen BK373.out 1
          have hfz69_2 := blk_frozen BK373.out 2
          have hfz69_3 := blk_frozen BK373.out 3
          have hfz69_4 := blk_frozen BK373.out 4
          have hfz69_5 := blk_frozen BK373.out 5
          have hfz69_6 := blk_frozen BK373.out 6
          have hfz69_7 := blk_frozen BK373.out 7
          have hfz69_8 := blk_frozen BK373.out 8
          have hfz69_9 := blk_frozen BK373.out 9
          go_wp2_with (first | ((with_reducible refine gate_dst (N := 8) rfl ?_); refine box_event ?hg (N := 8) ?hd (cs := #[.int .i64 0, .int .i64 0, .int .i64 0, .bool false]) (t := 52) ?hr ?_; (case hd => rfl); (case hg => rfl); (case hr => first | (go_simp; done) | (go_simp; rfl)); intro gb379 hg w70 hbox hb; have n0_ := Aside0.mk (blk_below (g := gb373) (o := .cells #[.int .i64 a0_0, .int .i64 a0_1, .int .i64 a0_2, .int .i64 a0_3, .int .i64 a0_4, .int .i64 a0_5, .int .i64 a0_6, .int .i64 a0_7, .int .i64 a0_8, .int .i64 a0_9] 42 (0, 0)) (by (with_reducible repeat (first | refine blk_drewN ?_ _ | refine blk_drew ?_ | refine blk_alloc ?_ _)); exact BK373.out) hb); have n1_ := Aside0.mk (blk_below (g := gb374) (o := .cells #[.int .i64 a1_0, .int .i64 a1_1, .int .i64 a1_2] 44 (0, 0)) (by (with_reducible repeat (first | refine blk_drewN ?_ _ | refine blk_drew ?_ | refine blk_alloc ?_ _)); exact BK374.out) hb); have n2_ := Aside0.mk (blk_below (g := gb375) (o := .cells #[.int .i64 0, .int .i64 0, .int .i64 0, .bool false] 52 (0, 0)) (by (with_reducible repeat (first | refine blk_drewN ?_ _ | refine blk_drew ?_ | refine blk_alloc ?_ _)); exact BK375.out) hb); have n3_ := Aside0.mk (below_step (by repeat (first | (with_reducible first | exact HB.out | apply below_alloc | apply pw_below_drewN | apply below_drew1 | refine below_set ?_ GE373.out | refine below_set ?_ GE374.out | refine below_set ?_ GE375.out) | exact HB.out)) hb); have n4_ := Aside0.mk (hbox); have n5_ := Aside0.mk ((by rw [hg]; exact (below_size (by repeat (first | (with_reducible first | exact HB.out | apply below_alloc | apply pw_below_drewN | apply below_drew1 | refine below_set ?_ GE373.out | refine below_set ?_ GE374.out | refine below_set ?_ GE375.out) | exact HB.out))) : w.heap.size ≤ gb379)); have n6_ := Aside0.mk ((by rw [hg]; exact (below_size (by repeat (first | (with_reducible first | exact HB.out | apply below_alloc | apply pw_below_drewN | apply below_drew1 | refine below_set ?_ GE373.out | refine below_set ?_ GE374.out | refine below_set ?_ GE375.out) | exact HB.out))) : w.heap.size ≤ gb379)); have n7_ := Aside0.mk ((by rw [hg]; exact Nat.ne_of_lt (blk_lt (g := gb373) (o := .cells #[.int .i64 a0_0, .int .i64 a0_1, .int .i64 a0_2, .int .i64 a0_3, .int .i64 a0_4, .int .i64 a0_5, .int .i64 a0_6, .int .i64 a0_7, .int .i64 a0_8, .int .i64 a0_9] 42 (0, 0)) (by (with_reducible repeat (first | refine blk_drewN ?_ _ | refine blk_drew ?_ | refine blk_alloc ?_ _)); exact BK373.out)) : gb373 ≠ gb379)); have n8_ := Aside0.mk ((by rw [hg]; exact Nat.ne_of_gt (blk_lt (g := gb373) (o := .cells #[.int .i64 a0_0, .int .i64 a0_1, .int .i64 a0_2, .int .i64 a0_3, .int .i64 a0_4, .int .i64 a0_5, .int .i64 a0_6, .int .i64 a0_7, .int .i64 a0_8, .int .i64 a0_9] 42 (0, 0)) (by (with_reducible repeat (first | refine blk_drewN ?_ _ | refine blk_drew ?_ | refine blk_alloc ?_ _)); exact BK373.out)) : gb379 ≠ gb373)); have n9_ := Aside0.mk ((by rw [hg]; exact Nat.ne_of_lt (blk_lt (g := gb374) (o := .cells #[.int .i64 a1_0, .int .i64 a1_1, .int .i64 a1_2] 44 (0, 0)) (by (with_reducible repeat (first | refine blk_drewN ?_ _ | refine blk_drew ?_ | refine blk_alloc ?_ _)); exact BK374.out)) : gb374 ≠ gb379)); have n10_ := Aside0.mk ((by rw [hg]; exact Nat.ne_of_gt (blk_lt (g := gb374) (o := .cells #[.int .i64 a1_0, .int .i64 a1_1, .int .i64 a1_2] 44 (0, 0)) (by (with_reducible repeat (first | refine blk_drewN ?_ _ | refine blk_drew ?_ | refine blk_alloc ?_ _)); exact BK374.out)) : gb379 ≠ gb374)); have n11_ := Aside0.mk ((by rw [hg]; exact Nat.ne_of_lt (blk_lt (g := gb375) (o := .cells #[.int .i64 0, .int .i64 0, .int .i64 0, .bool false] 52 (0, 0)) (by (with_reducible repeat (first | refine blk_drewN ?_ _ | refine blk_drew ?_ | refine blk_alloc ?_ _)); exact BK375.out)) : gb375 ≠ gb379)); have n12_ := Aside0.mk ((by rw [hg]; exact Nat.ne_of_gt (blk_lt (g := gb375) (o := .cells #[.int .i64 0, .int .i64 0, .int .i64 0, .bool false] 52 (0, 0)) (by (with_reducible repeat (first | refine blk_drewN ?_ _ | refine blk_drew ?_ | refine blk_alloc ?_ _)); exact BK375.out)) : gb379 ≠ gb375)); clear BK373; clear BK374; clear BK375; clear HB; have BK373 := n0_; have BK374 := n1_; have BK375 := n2_; have HB := n3_; have BK379 := n4_; have GW379 := n5_; have GE379 := n6_; have NB373_379 := n7_; have NB379_373 := n8_; have NB374_379 := n9_; have NB379_374 := n10_; have NB375_379 := n11_; have NB379_375 := n12_; clear n0_ n1_ n2_ n3_ n4_ n5_ n6_ n7_ n8_ n9_ n10_ n11_ n12_; clear hb hbox hg; have hnb71 := NB379_373.out; have hnc71 := NB373_379.out; have hnb72 := NB379_374.out; have hnc72 := NB374_379.out; have hnb73 := NB379_375.out; have hnc73 := NB375_379.out; have hcz74_0 : w70.cell? ⟨gb379, 0, none⟩ = some (.int .i64 0) := (blk_cell BK379.out 0).trans rfl; have hcz74_1 : w70.cell? ⟨gb379, 1, none⟩ = some (.int .i64 0) := (blk_cell BK379.out 1).trans rfl; have hcz74_2 : w70.cell? ⟨gb379, 2, none⟩ = some (.int .i64 0) := (blk_cell BK379.out 2).trans rfl; have hcz74_3 : w70.cell? ⟨gb379, 3, none⟩ = some (.bool false) := (blk_cell BK379.out 3).trans rfl; have hfz74_0 := blk_frozen BK379.out 0; have hfz74_1 := blk_frozen BK379.out 1; have hfz74_2 := blk_frozen BK379.out 2; have hfz74_3 := blk_frozen BK379.out 3; have hcz75_0 : w70.cell? ⟨gb374, 0, none⟩ = some (.int .i64 a1_0) := (blk_cell BK374.out 0).trans rfl; have hcz75_1 : w70.cell? ⟨gb374, 1, none⟩ = some (.int .i64 a1_1) := (blk_cell BK374.out 1).trans rfl; have hcz75_2 : w70.cell? ⟨gb374, 2, none⟩ = some (.int .i64 a1_2) := (blk_cell BK374.out 2).trans rfl; have hfz75_0 := blk_frozen BK374.out 0; have hfz75_1 := blk_frozen BK374.out 1; have hfz75_2 := blk_frozen BK374.out 2; have hcz76_0 : w70.cell? ⟨gb373, 0, none⟩ = some (.int .i64 a0_0) := (blk_cell BK373.out 0).trans rfl; have hcz76_1 : w70.cell? ⟨gb373, 1, none⟩ = some (.int .i64 a0_1) := (blk_cell BK373.out 1).trans rfl; have hcz76_2 : w70.cell? ⟨gb373, 2, none⟩ = some (.int .i64 a0_2) := (blk_cell BK373.out 2).trans rfl; have hcz76_3 : w70.cell? ⟨gb373, 3, none⟩ = some (.int .i64 a0_3) := (blk_cell BK373.out 3).trans rfl; have hcz76_4 : w70.cell? ⟨gb373, 4, none⟩ = some (.int .i64 a0_4) := (blk_cell BK373.out 4).trans rfl; have hcz76_5 : w70.cell? ⟨gb373, 5, none⟩ = some (.int .i64 a0_5) := (blk_cell BK373.out 5).trans rfl; have hcz76_6 : w70.cell? ⟨gb373, 6, none⟩ = some (.int .i64 a0_6) := (blk_cell BK373.out 6).trans rfl; have hcz76_7 : w70.cell? ⟨gb373, 7, none⟩ = some (.int .i64 a0_7) := (blk_cell BK373.out 7).trans rfl; have hcz76_8 : w70.cell? ⟨gb373, 8, none⟩ = some (.int .i64 a0_8) := (blk_cell BK373.out 8).trans rfl; have hcz76_9 : w70.cell? ⟨gb373, 9, none⟩ = some (.int .i64 a0_9) := (blk_cell BK373.out 9).trans rfl; have hfz76_0 := blk_frozen BK373.out 0; have hfz76_1 := blk_frozen BK373.out 1; have hfz76_2 := blk_frozen BK373.out 2; have hfz76_3 := blk_frozen BK373.out 3; have hfz76_4 := blk_frozen BK373.out 4; have hfz76_5 := blk_frozen BK373.out 5; have hfz76_6 := blk_frozen BK373.out 6; have hfz76_7 := blk_frozen BK373.out 7; have hfz76_8 := blk_frozen BK373.out 8; have hfz76_9 := blk_frozen BK373.out 9; have hcz77_0 : w70.cell? ⟨gb375, 0, none⟩ = some (.int .i64 0) := (blk_cell BK375.out 0).trans rfl; have hcz77_1 : w70.cell? ⟨gb375, 1, none⟩ = some (.int .i64 0) := (blk_cell BK375.out 1).trans rfl; have hcz77_2 : w70.cell? ⟨gb375, 2, none⟩ = some (.int .i64 0) := (blk_cell BK375.out 2).trans rfl; have hcz77_3 : w70.cell? ⟨gb375, 3, none⟩ = some (.bool false) := (blk_cell BK375.out 3).trans rfl; have hfz77_0 := blk_frozen BK375.out 0; have hfz77_1 := blk_frozen BK375.out 1; have hfz77_2 := blk_frozen BK375.out 2; have hfz77_3 := blk_frozen BK375.out 3))
          refine bodyPost_ret (results_cell_row rfl _ _ gb375 52 #[.int .i64 3, .int .i64 a0_6, .int .i64 a1_2, .bool (a1_1 == a0_5)] (0, 0) _ rfl (by (with_reducible repeat (first | refine blk_drewN ?_ _ | refine blk_drew ?_ | refine blk_alloc ?_ _)); refine blk_put (cs := #[.int .i64 3, .int .i64 a0_6, .int .i64 a1_2, .bool false]) ?_ 3 _ rfl; (with_reducible repeat (first | refine blk_drewN ?_ _ | refine blk_drew ?_ | refine blk_alloc ?_ _)); refine blk_put (cs := #[.int .i64 3, .int .i64 a0_6, .int .i64 0, .bool false]) ?_ 2 _ rfl; (with_reducible repeat (first | refine blk_drewN ?_ _ | refine blk_drew ?_ | refine blk_alloc ?_ _)); refine blk_put (cs := #[.int .i64 3, .int .i64 0, .int .i64 0, .bool false]) ?_ 1 _ rfl; (with_reducible repeat (first | refine blk_drewN ?_ _ | refine blk_drew ?_ | refine blk_alloc ?_ _)); refine blk_put (cs := #[.int .i64 0, .int .i64 0, .int .i64 0, .bool false]) ?_ 0 _ rfl; (with_reducible repeat (first | refine blk_drewN ?_ _ | refine blk_drew ?_ | refine blk_alloc ?_ _)); (first | (refine blk_far ?_ NB375_379.out _; (with_reducible repeat (first | refine blk_drewN ?_ _ | refine blk_drew ?_ | refine blk_alloc ?_ _))) | skip); (first | (refine blk_far ?_ NB375_379.out _; (with_reducible repeat (first | refine blk_drewN ?_ _ | refine blk_drew ?_ | refine blk_alloc ?_ _))) | skip); (first | (refine blk_far ?_ NB375_379.out _; (with_reducible repeat (first | refine blk_drewN ?_ _ | refine blk_drew ?_ | refine blk_alloc ?_ _))) | skip); (first | (refine blk_far ?_ NB375_379.out _; (with_reducible repeat (first | refine blk_drewN ?_ _ | refine blk_drew ?_ | refine blk_alloc ?_ _))) | skip); (first | (refine blk_far ?_ NB375_379.out _; (with_reducible repeat (first | refine blk_drewN ?_ _ | refine blk_drew ?_ | refine blk_alloc ?_ _))) | skip); (first | (refine blk_far ?_ NB375_379.out _; (with_reducible repeat (first | refine blk_drewN ?_ _ | refine blk_drew ?_ | refine blk_alloc ?_ _))) | skip); (first | (refine blk_far ?_ NB375_379.out _; (with_reducible repeat (first | refine blk_drewN ?_ _ | refine blk_drew ?_ | refine blk_alloc ?_ _))) | skip); exact BK375.out) Try.underlying52 rfl (by kernel_rfl)) rfl ?_
          exact ⟨by first | rfl | (simp [errW_none, errW_some] <;> rfl) | (simp [*, errW_none, errW_some] <;> rfl), by repeat (first | (with_reducible first | exact HB.out | apply below_alloc | apply pw_below_drewN | apply below_drew1 | refine below_set ?_ GE373.out | refine below_set ?_ GE374.out | refine below_set ?_ GE375.out | refine below_set ?_ GE379.out) | exact HB.out)⟩
       ·rw [if_neg c37] at H
        have c37b0 : (a1_0 == 2) = false := beq_eq_false_iff_ne.mpr c37
        have c37b1 : (a1_0 != 2) = true := bne_iff_ne.mpr c37
        by_cases c78 : (wrap64 (a1_1 - 1)) > 0
        ·rw [if_pos c78] at H
         have c78b0 : decide (0 < (wrap64 (a1_1 - 1))) = true := decide_eq_true c78
         clear c78
         simp only [Option.some.injEq, Prod.mk.injEq] at H
         obtain ⟨rfl, rfl, rfl, rfl⟩ := H
         have hnb79 := NB374_373.out
         have hnc79 := NB373_374.out
         have hnb80 := NB374_375.out
         have hnc80 := NB375_374.out
         have hcz81_0 : wc.cell? ⟨gb374, 0, none⟩ = some (.int .i64 a1_0) := (blk_cell BK374.out 0).trans rfl
         have hcz81_1 : wc.cell? ⟨gb374, 1, none⟩ = some (.int .i64 a1_1) := (blk_cell BK374.out 1).trans rfl
         have hcz81_2 : wc.cell? ⟨gb374, 2, none⟩ = some (.int .i64 a1_2) := (blk_cell BK374.out 2).trans rfl
         have hfz81_0 := blk_frozen BK374.out 0
         have hfz81_1 := blk_frozen BK374.out 1
         have hfz81_2 := blk_frozen BK374.out 2
         go_wp2_with (first | ((with_reducible refine gate_dst (N := 8) rfl ?_); refine box_event ?hg (N := 8) ?hd (cs := #[.int .i64 0, .int .i64 0, .int .i64 0, .bool false]) (t := 52) ?hr ?_; (case hd => rfl); (case hg => rfl); (case hr => first | (go_simp; done) | (go_simp; rfl)); intro gb380 hg w82 hbox hb; have n0_ := Aside0.mk (blk_below (g := gb373) (o := .cells #[.int .i64 a0_0, .int .i64 a0_1, .int .i64 a0_2, .int .i64 a0_3, .int .i64 a0_4, .int .i64 a0_5, .int .i64 a0_6, .int .i64 a0_7, .int .i64 a0_8, .int .i64 a0_9] 42 (0, 0)) (by (with_reducible repeat (first | refine blk_drewN ?_ _ | refine blk_drew ?_ | refine blk_alloc ?_ _)); exact BK373.out) hb); have n1_ := Aside0.mk (blk_below (g := gb374) (o := .cells #[.int .i64 a1_0, .int .i64 a1_1, .int .i64 a1_2] 44 (0, 0)) (by (with_reducible repeat (first | refine blk_drewN ?_ _ | refine blk_drew ?_ | refine blk_alloc ?_ _)); exact BK374.out) hb); have n2_ := Aside0.mk (blk_below (g := gb375) (o := .cells #[.int .i64 0, .int .i64 0, .int .i64 0, .bool false] 52 (0, 0)) (by (with_reducible repeat (first | refine blk_drewN ?_ _ | refine blk_drew ?_ | refine blk_alloc ?_ _)); exact BK375.out) hb); have n3_ := Aside0.mk (below_step (by repeat (first | (with_reducible first | exact HB.out | apply below_alloc | apply pw_below_drewN | apply below_drew1 | refine below_set ?_ GE373.out | refine below_set ?_ GE374.out | refine below_set ?_ GE375.out) | exact HB.out)) hb); have n4_ := Aside0.mk (hbox); have n5_ := Aside0.mk ((by rw [hg]; exact (below_size (by repeat (first | (with_reducible first | exact HB.out | apply below_alloc | apply pw_below_drewN | apply below_drew1 | refine below_set ?_ GE373.out | refine below_set ?_ GE374.out | refine below_set ?_ GE375.out) | exact HB.out))) : w.heap.size ≤ gb380)); have n6_ := Aside0.mk ((by rw [hg]; exact (below_size (by repeat (first | (with_reducible first | exact HB.out | apply below_alloc | apply pw_below_drewN | apply below_drew1 | refine below_set ?_ GE373.out | refine below_set ?_ GE374.out | refine below_set ?_ GE375.out) | exact HB.out))) : w.heap.size ≤ gb380)); have n7_ := Aside0.mk ((by rw [hg]; exact Nat.ne_of_lt (blk_lt (g := gb373) (o := .cells #[.int .i64 a0_0, .int .i64 a0_1, .int .i64 a0_2, .int .i64 a0_3, .int .i64 a0_4, .int .i64 a0_5, .int .i64 a0_6, .int .i64 a0_7, .int .i64 a0_8, .int .i64 a0_9] 42 (0, 0)) (by (with_reducible repeat (first | refine blk_drewN ?_ _ | refine blk_drew ?_ | refine blk_alloc ?_ _)); exact BK373.out)) : gb373 ≠ gb380)); have n8_ := Aside0.mk ((by rw [hg]; exact Nat.ne_of_gt (blk_lt (g := gb373) (o := .cells #[.int .i64 a0_0, .int .i64 a0_1, .int .i64 a0_2, .int .i64 a0_3, .int .i64 a0_4, .int .i64 a0_5, .int .i64 a0_6, .int .i64 a0_7, .int .i64 a0_8, .int .i64 a0_9] 42 (0, 0)) (by (with_reducible repeat (first | refine blk_drewN ?_ _ | refine blk_drew ?_ | refine blk_alloc ?_ _)); exact BK373.out)) : gb380 ≠ gb373)); have n9_ := Aside0.mk ((by rw [hg]; exact Nat.ne_of_lt (blk_lt (g := gb374) (o := .cells #[.int .i64 a1_0, .int .i64 a1_1, .int .i64 a1_2] 44 (0, 0)) (by (with_reducible repeat (first | refine blk_drewN ?_ _ | refine blk_drew ?_ | refine blk_alloc ?_ _)); exact BK374.out)) : gb374 ≠ gb380)); have n10_ := Aside0.mk ((by rw [hg]; exact Nat.ne_of_gt (blk_lt (g := gb374) (o := .cells #[.int .i64 a1_0, .int .i64 a1_1, .int .i64 a1_2] 44 (0, 0)) (by (with_reducible repeat (first | refine blk_drewN ?_ _ | refine blk_drew ?_ | refine blk_alloc ?_ _)); exact BK374.out)) : gb380 ≠ gb374)); have n11_ := Aside0.mk ((by rw [hg]; exact Nat.ne_of_lt (blk_lt (g := gb375) (o := .cells #[.int .i64 0, .int .i64 0, .int .i64 0, .bool false] 52 (0, 0)) (by (with_reducible repeat (first | refine blk_drewN ?_ _ | refine blk_drew ?_ | refine blk_alloc ?_ _)); exact BK375.out)) : gb375 ≠ gb380)); have n12_ := Aside0.mk ((by rw [hg]; exact Nat.ne_of_gt (blk_lt (g := gb375) (o := .cells #[.int .i64 0, .int .i64 0, .int .i64 0, .bool false] 52 (0, 0)) (by (with_reducible repeat (first | refine blk_drewN ?_ _ | refine blk_drew ?_ | refine blk_alloc ?_ _)); exact BK375.out)) : gb380 ≠ gb375)); clear BK373; clear BK374; clear BK375; clear HB; have BK373 := n0_; have BK374 := n1_; have BK375 := n2_; have HB := n3_; have BK380 := n4_; have GW380 := n5_; have GE380 := n6_; have NB373_380 := n7_; have NB380_373 := n8_; have NB374_380 := n9_; have NB380_374 := n10_; have NB375_380 := n11_; have NB380_375 := n12_; clear n0_ n1_ n2_ n3_ n4_ n5_ n6_ n7_ n8_ n9_ n10_ n11_ n12_; clear hb hbox hg; have hnb83 := NB380_373.out; have hnc83 := NB373_380.out; have hnb84 := NB380_374.out; have hnc84 := NB374_380.out; have hnb85 := NB380_375.out; have hnc85 := NB375_380.out; have hcz86_0 : w82.cell? ⟨gb380, 0, none⟩ = some (.int .i64 0) := (blk_cell BK380.out 0).trans rfl; have hcz86_1 : w82.cell? ⟨gb380, 1, none⟩ = some (.int .i64 0) := (blk_cell BK380.out 1).trans rfl; have hcz86_2 : w82.cell? ⟨gb380, 2, none⟩ = some (.int .i64 0) := (blk_cell BK380.out 2).trans rfl; have hcz86_3 : w82.cell? ⟨gb380, 3, none⟩ = some (.bool false) := (blk_cell BK380.out 3).trans rfl; have hfz86_0 := blk_frozen BK380.out 0; have hfz86_1 := blk_frozen BK380.out 1; have hfz86_2 := blk_frozen BK380.out 2; have hfz86_3 := blk_frozen BK380.out 3; have hcz87_0 : w82.cell? ⟨gb374, 0, none⟩ = some (.int .i64 a1_0) := (blk_cell BK374.out 0).trans rfl; have hcz87_1 : w82.cell? ⟨gb374, 1, none⟩ = some (.int .i64 a1_1) := (blk_cell BK374.out 1).trans rfl; have hcz87_2 : w82.cell? ⟨gb374, 2, none⟩ = some (.int .i64 a1_2) := (blk_cell BK374.out 2).trans rfl; have hfz87_0 := blk_frozen BK374.out 0; have hfz87_1 := blk_frozen BK374.out 1; have hfz87_2 := blk_frozen BK374.out 2; have hnb88 := NB375_373.out; have hnc88 := NB373_375.out; have hcz89_0 : w82.cell? ⟨gb375, 0, none⟩ = some (.int .i64 0) := (blk_cell BK375.out 0).trans rfl; have hcz89_1 : w82.cell? ⟨gb375, 1, none⟩ = some (.int .i64 0) := (blk_cell BK375.out 1).trans rfl; have hcz89_2 : w82.cell? ⟨gb375, 2, none⟩ = some (.int .i64 0) := (blk_cell BK375.out 2).trans rfl; have hcz89_3 : w82.cell? ⟨gb375, 3, none⟩ = some (.bool false) := (blk_cell BK375.out 3).trans rfl; have hfz89_0 := blk_frozen BK375.out 0; have hfz89_1 := blk_frozen BK375.out 1; have hfz89_2 := blk_frozen BK375.out 2; have hfz89_3 := blk_frozen BK375.out 3))
         refine bodyPost_ret (results_cell_row rfl _ _ gb375 52 #[.int .i64 a1_0, .int .i64 (wrap64 (a1_1 - 1)), .int .i64 a1_2, .bool false] (0, 0) _ rfl (by (with_reducible repeat (first | refine blk_drewN ?_ _ | refine blk_drew ?_ | refine blk_alloc ?_ _)); refine blk_put (cs := #[.int .i64 a1_0, .int .i64 (wrap64 (a1_1 - 1)), .int .i64 a1_2, .bool false]) ?_ 3 _ rfl; (with_reducible repeat (first | refine blk_drewN ?_ _ | refine blk_drew ?_ | refine blk_alloc ?_ _)); refine blk_put (cs := #[.int .i64 a1_0, .int .i64 (wrap64 (a1_1 - 1)), .int .i64 0, .bool false]) ?_ 2 _ rfl; (with_reducible repeat (first | refine blk_drewN ?_ _ | refine blk_drew ?_ | refine blk_alloc ?_ _)); refine blk_put (cs := #[.int .i64 a1_0, .int .i64 0, .int .i64 0, .bool false]) ?_ 1 _ rfl; (with_reducible repeat (first | refine blk_drewN ?_ _ | refine blk_drew ?_ | refine blk_alloc ?_ _)); refine blk_put (cs := #[.int .i64 0, .int .i64 0, .int .i64 0, .bool false]) ?_ 0 _ rfl; (with_reducible repeat (first | refine blk_drewN ?_ _ | refine blk_drew ?_ | refine blk_alloc ?_ _)); (first | (refine blk_far ?_ NB375_380.out _; (with_reducible repeat (first | refine blk_drewN ?_ _ | refine blk_drew ?_ | refine blk_alloc ?_ _))) | skip); (first | (refine blk_far ?_ NB375_380.out _; (with_reducible repeat (first | refine blk_drewN ?_ _ | refine blk_drew ?_ | refine blk_alloc ?_ _))) | skip); (first | (refine blk_far ?_ NB375_380.out _; (with_reducible repeat (first | refine blk_drewN ?_ _ | refine blk_drew ?_ | refine blk_alloc ?_ _))) | skip); (first | (refine blk_far ?_ NB375_380.out _; (with_reducible repeat (first | refine blk_drewN ?_ _ | refine blk_drew ?_ | refine blk_alloc ?_ _))) | skip); (first | (refine blk_far ?_ NB375_380.out _; (with_reducible repeat (first | refine blk_drewN ?_ _ | refine blk_drew ?_ | refine blk_alloc ?_ _))) | skip); exact BK375.out) Try.underlying52 rfl (by kernel_rfl)) rfl ?_
         exact ⟨by first | rfl | (simp [errW_none, errW_some] <;> rfl) | (simp [*, errW_none, errW_some] <;> rfl), by repeat (first | (with_reducible first | exact HB.out | apply below_alloc | apply pw_below_drewN | apply below_drew1 | refine below_set ?_ GE373.out | refine below_set ?_ GE374.out | refine below_set ?_ GE375.out | refine below_set ?_ GE380.out) | exact HB.out)⟩
        ·rw [if_neg c78] at H
         have c78b0 : decide (0 < (wrap64 (a1_1 - 1))) = false := decide_eq_false c78
         clear c78
         by_cases c90 : a1_0 = 1
         ·rw [if_pos c90] at H
          have c90b0 : (a1_0 == 1) = true := beq_iff_eq.mpr c90
          have c90b1 : (a1_0 != 1) = false := bne_eq_false_iff_eq.mpr c90
          clear c90
          simp only [Option.some.injEq, Prod.mk.injEq] at H
          obtain ⟨rfl, rfl, rfl, rfl⟩ := H
          have hnb91 := NB374_373.out
          have hnc91 := NB373_374.out
          have hnb92 := NB374_375.out
          have hnc92 := NB375_374.out
          have hcz93_0 : wc.cell? ⟨gb374, 0, none⟩ = some (.int .i64 a1_0) := (blk_cell BK374.out 0).trans rfl
          have hcz93_1 : wc.cell? ⟨gb374, 1, none⟩ = some (.int .i64 a1_1) := (blk_cell BK374.out 1).trans rfl
          have hcz93_2 : wc.cell? ⟨gb374, 2, none⟩ = some (.int .i64 a1_2) := (blk_cell BK374.out 2).trans rfl
          have hfz93_0 := blk_frozen BK374.out 0
          have hfz93_1 := blk_frozen BK374.out 1
          have hfz93_2 := blk_frozen BK374.out 2
          go_wp2_with (first | ((with_reducible refine gate_dst (N := 8) rfl ?_); refine box_event ?hg (N := 8) ?hd (cs := #[.int .i64 0, .int .i64 0, .int .i64 0, .bool false]) (t := 52) ?hr ?_; (case hd => rfl); (case hg => rfl); (case hr => first | (go_simp; done) | (go_simp; rfl)); intro gb380 hg w94 hbox hb; have n0_ := Aside0.mk (blk_below (g := gb373) (o := .cells #[.int .i64 a0_0, .int .i64 a0_1, .int .i64 a0_2, .int .i64 a0_3, .int .i64 a0_4, .int .i64 a0_5, .int .i64 a0_6, .int .i64 a0_7, .int .i64 a0_8, .int .i64 a0_9] 42 (0, 0)) (by (with_reducible repeat (first | refine blk_drewN ?_ _ | refine blk_drew ?_ | refine blk_alloc ?_ _)); exact BK373.out) hb); have n1_ := Aside0.mk (blk_below (g := gb374) (o := .cells #[.int .i64 a1_0, .int .i64 a1_1, .int .i64 a1_2] 44 (0, 0)) (by (with_reducible repeat (first | refine blk_drewN ?_ _ | refine blk_drew ?_ | refine blk_alloc ?_ _)); exact BK374.out) hb); have n2_ := Aside0.mk (blk_below (g := gb375) (o := .cells #[.int .i64 0, .int .i64 0, .int .i64 0, .bool false] 52 (0, 0)) (by (with_reducible repeat (first | refine blk_drewN ?_ _ | refine blk_drew ?_ | refine blk_alloc ?_ _)); exact BK375.out) hb); have n3_ := Aside0.mk (below_step (by repeat (first | (with_reducible first | exact HB.out | apply below_alloc | apply pw_below_drewN | apply below_drew1 | refine below_set ?_ GE373.out | refine below_set ?_ GE374.out | refine below_set ?_ GE375.out) | exact HB.out)) hb); have n4_ := Aside0.mk (hbox); have n5_ := Aside0.mk ((by rw [hg]; exact (below_size (by repeat (first | (with_reducible first | exact HB.out | apply below_alloc | apply pw_below_drewN | apply below_drew1 | refine below_set ?_ GE373.out | refine below_set ?_ GE374.out | refine below_set ?_ GE375.out) | exact HB.out))) : w.heap.size ≤ gb380)); have n6_ := Aside0.mk ((by rw [hg]; exact (below_size (by repeat (first | (with_reducible first | exact HB.out | apply below_alloc | apply pw_below_drewN | apply below_drew1 | refine below_set ?_ GE373.out | refine below_set ?_ GE374.out | refine below_set ?_ GE375.out) | exact HB.out))) : w.heap.size ≤ gb380)); have n7_ := Aside0.mk ((by rw [hg]; exact Nat.ne_of_lt (blk_lt (g := gb373) (o := .cells #[.int .i64 a0_0, .int .i64 a0_1, .int .i64 a0_2, .int .i64 a0_3, .int .i64 a0_4, .int .i64 a0_5, .int .i64 a0_6, .int .i64 a0_7, .int .i64 a0_8, .int .i64 a0_9] 42 (0, 0)) (by (with_reducible repeat (first | refine blk_drewN ?_ _ | refine blk_drew ?_ | refine blk_alloc ?_ _)); exact BK373.out)) : gb373 ≠ gb380)); have n8_ := Aside0.mk ((by rw [hg]; exact Nat.ne_of_gt (blk_lt (g := gb373) (o := .cells #[.int .i64 a0_0, .int .i64 a0_1, .int .i64 a0_2, .int .i64 a0_3, .int .i64 a0_4, .int .i64 a0_5, .int .i64 a0_6, .int .i64 a0_7, .int .i64 a0_8, .int .i64 a0_9] 42 (0, 0)) (by (with_reducible repeat (first | refine blk_drewN ?_ _ | refine blk_drew ?_ | refine blk_alloc ?_ _)); exact BK373.out)) : gb380 ≠ gb373)); have n9_ := Aside0.mk ((by rw [hg]; exact Nat.ne_of_lt (blk_lt (g := gb374) (o := .cells #[.int .i64 a1_0, .int .i64 a1_1, .int .i64 a1_2] 44 (0, 0)) (by (with_reducible repeat (first | refine blk_drewN ?_ _ | refine blk_drew ?_ | refine blk_alloc ?_ _)); exact BK374.out)) : gb374 ≠ gb380)); have n10_ := Aside0.mk ((by rw [hg]; exact Nat.ne_of_gt (blk_lt (g := gb374) (o := .cells #[.int .i64 a1_0, .int .i64 a1_1, .int .i64 a1_2] 44 (0, 0)) (by (with_reducible repeat (first | refine blk_drewN ?_ _ | refine blk_drew ?_ | refine blk_alloc ?_ _)); exact BK374.out)) : gb380 ≠ gb374)); have n11_ := Aside0.mk ((by rw [hg]; exact Nat.ne_of_lt (blk_lt (g := gb375) (o := .cells #[.int .i64 0, .int .i64 0, .int .i64 0, .bool false] 52 (0, 0)) (by (with_reducible repeat (first | refine blk_drewN ?_ _ | refine blk_drew ?_ | refine blk_alloc ?_ _)); exact BK375.out)) : gb375 ≠ gb380)); have n12_ := Aside0.mk ((by rw [hg]; exact Nat.ne_of_gt (blk_lt (g := gb375) (o := .cells #[.int .i64 0, .int .i64 0, .int .i64 0, .bool false] 52 (0, 0)) (by (with_reducible repeat (first | refine blk_drewN ?_ _ | refine blk_drew ?_ | refine blk_alloc ?_ _)); exact BK375.out)) : gb380 ≠ gb375)); clear BK373; clear BK374; clear BK375; clear HB; have BK373 := n0_; have BK374 := n1_; have BK375 := n2_; have HB := n3_; have BK380 := n4_; have GW380 := n5_; have GE380 := n6_; have NB373_380 := n7_; have NB380_373 := n8_; have NB374_380 := n9_; have NB380_374 := n10_; have NB375_380 := n11_; have NB380_375 := n12_; clear n0_ n1_ n2_ n3_ n4_ n5_ n6_ n7_ n8_ n9_ n10_ n11_ n12_; clear hb hbox hg; have hnb95 := NB380_373.out; have hnc95 := NB373_380.out; have hnb96 := NB380_374.out; have hnc96 := NB374_380.out; have hnb97 := NB380_375.out; have hnc97 := NB375_380.out; have hcz98_0 : w94.cell? ⟨gb380, 0, none⟩ = some (.int .i64 0) := (blk_cell BK380.out 0).trans rfl; have hcz98_1 : w94.cell? ⟨gb380, 1, none⟩ = some (.int .i64 0) := (blk_cell BK380.out 1).trans rfl; have hcz98_2 : w94.cell? ⟨gb380, 2, none⟩ = some (.int .i64 0) := (blk_cell BK380.out 2).trans rfl; have hcz98_3 : w94.cell? ⟨gb380, 3, none⟩ = some (.bool false) := (blk_cell BK380.out 3).trans rfl; have hfz98_0 := blk_frozen BK380.out 0; have hfz98_1 := blk_frozen BK380.out 1; have hfz98_2 := blk_frozen BK380.out 2; have hfz98_3 := blk_frozen BK380.out 3; have hcz99_0 : w94.cell? ⟨gb374, 0, none⟩ = some (.int .i64 a1_0) := (blk_cell BK374.out 0).trans rfl; have hcz99_1 : w94.cell? ⟨gb374, 1, none⟩ = some (.int .i64 a1_1) := (blk_cell BK374.out 1).trans rfl; have hcz99_2 : w94.cell? ⟨gb374, 2, none⟩ = some (.int .i64 a1_2) := (blk_cell BK374.out 2).trans rfl; have hfz99_0 := blk_frozen BK374.out 0; have hfz99_1 := blk_frozen BK374.out 1; have hfz99_2 := blk_frozen BK374.out 2; have hnb100 := NB373_375.out; have hnc100 := NB375_373.out; have hcz101_0 : w94.cell? ⟨gb373, 0, none⟩ = some (.int .i64 a0_0) := (blk_cell BK373.out 0).trans rfl; have hcz101_1 : w94.cell? ⟨gb373, 1, none⟩ = some (.int .i64 a0_1) := (blk_cell BK373.out 1).trans rfl; have hcz101_2 : w94.cell? ⟨gb373, 2, none⟩ = some (.int .i64 a0_2) := (blk_cell BK373.out 2).trans rfl; have hcz101_3 : w94.cell? ⟨gb373, 3, none⟩ = some (.int .i64 a0_3) := (blk_cell BK373.out 3).trans rfl; have hcz101_4 : w94.cell? ⟨gb373, 4, none⟩ = some (.int .i64 a0_4) := (blk_cell BK373.out 4).trans rfl; have hcz101_5 : w94.cell? ⟨gb373, 5, none⟩ = some (.int .i64 a0_5) := (blk_cell BK373.out 5).trans rfl; have hcz101_6 : w94.cell? ⟨gb373, 6, none⟩ = some (.int .i64 a0_6) := (blk_cell BK373.out 6).trans rfl; have hcz101_7 : w94.cell? ⟨gb373, 7, none⟩ = some (.int .i64 a0_7) := (blk_cell BK373.out 7).trans rfl; have hcz101_8 : w94.cell? ⟨gb373, 8, none⟩ = some (.int .i64 a0_8) := (blk_cell BK373.out 8).trans rfl; have hcz101_9 : w94.cell? ⟨gb373, 9, none⟩ = some (.int .i64 a0_9) := (blk_cell BK373.out 9).trans rfl; have hfz101_0 := blk_frozen BK373.out 0; have hfz101_1 := blk_frozen BK373.out 1; have hfz101_2 := blk_frozen BK373.out 2; have hfz101_3 := blk_frozen BK373.out 3; have hfz101_4 := blk_frozen BK373.out 4; have hfz101_5 := blk_frozen BK373.out 5; have hfz101_6 := blk_frozen BK373.out 6; have hfz101_7 := blk_frozen BK373.out 7; have hfz101_8 := blk_frozen BK373.out 8; have hfz101_9 := blk_frozen BK373.out 9; have hcz102_0 : w94.cell? ⟨gb375, 0, none⟩ = some (.int .i64 0) := (blk_cell BK375.out 0).trans rfl; have hcz102_1 : w94.cell? ⟨gb375, 1, none⟩ = some (.int .i64 0) := (blk_cell BK375.out 1).trans rfl; have hcz102_2 : w94.cell? ⟨gb375, 2, none⟩ = some (.int .i64 0) := (blk_cell BK375.out 2).trans rfl; have hcz102_3 : w94.cell? ⟨gb375, 3, none⟩ = some (.bool false) := (blk_cell BK375.out 3).trans rfl; have hfz102_0 := blk_frozen BK375.out 0; have hfz102_1 := blk_frozen BK375.out 1; have hfz102_2 := blk_frozen BK375.out 2; have hfz102_3 := blk_frozen BK375.out 3))
          refine bodyPost_ret (results_cell_row rfl _ _ gb375 52 #[.int .i64 2, .int .i64 a0_8, .int .i64 a1_2, .bool false] (0, 0) _ rfl (by (with_reducible repeat (first | refine blk_drewN ?_ _ | refine blk_drew ?_ | refine blk_alloc ?_ _)); refine blk_put (cs := #[.int .i64 2, .int .i64 a0_8, .int .i64 a1_2, .bool false]) ?_ 3 _ rfl; (with_reducible repeat (first | refine blk_drewN ?_ _ | refine blk_drew ?_ | refine blk_alloc ?_ _)); refine blk_put (cs := #[.int .i64 2, .int .i64 a0_8, .int .i64 0, .bool false]) ?_ 2 _ rfl; (with_reducible repeat (first | refine blk_drewN ?_ _ | refine blk_drew ?_ | refine blk_alloc ?_ _)); refine blk_put (cs := #[.int .i64 2, .int .i64 0, .int .i64 0, .bool false]) ?_ 1 _ rfl; (with_reducible repeat (first | refine blk_drewN ?_ _ | refine blk_drew ?_ | refine blk_alloc ?_ _)); refine blk_put (cs := #[.int .i64 0, .int .i64 0, .int .i64 0, .bool false]) ?_ 0 _ rfl; (with_reducible repeat (first | refine blk_drewN ?_ _ | refine blk_drew ?_ | refine blk_alloc ?_ _)); (first | (refine blk_far ?_ NB375_380.out _; (with_reducible repeat (first | refine blk_drewN ?_ _ | refine blk_drew ?_ | refine blk_alloc ?_ _))) | skip); (first | (refine blk_far ?_ NB375_380.out _; (with_reducible repeat (first | refine blk_drewN ?_ _ | refine blk_drew ?_ | refine blk_alloc ?_ _))) | skip); (first | (refine blk_far ?_ NB375_380.out _; (with_reducible repeat (first | refine blk_drewN ?_ _ | refine blk_drew ?_ | refine blk_alloc ?_ _))) | skip); (first | (refine blk_far ?_ NB375_380.out _; (with_reducible repeat (first | refine blk_drewN ?_ _ | refine blk_drew ?_ | refine blk_alloc ?_ _))) | skip); (first | (refine blk_far ?_ NB375_380.out _; (with_reducible repeat (first | refine blk_drewN ?_ _ | refine blk_drew ?_ | refine blk_alloc ?_ _))) | skip); (first | (refine blk_far ?_ NB375_380.out _; (with_reducible repeat (first | refine blk_drewN ?_ _ | refine blk_drew ?_ | refine blk_alloc ?_ _))) | skip); (first | (refine blk_far ?_ NB375_380.out _; (with_reducible repeat (first | refine blk_drewN ?_ _ | refine blk_drew ?_ | refine blk_alloc ?_ _))) | skip); exact BK375.out) Try.underlying52 rfl (by kernel_rfl)) rfl ?_
          exact ⟨by first | rfl | (simp [errW_none, errW_some] <;> rfl) | (simp [*, errW_none, errW_some] <;> rfl), by repeat (first | (with_reducible first | exact HB.out | apply below_alloc | apply pw_below_drewN | apply below_drew1 | refine below_set ?_ GE373.out | refine below_set ?_ GE374.out | refine below_set ?_ GE375.out | refine below_set ?_ GE380.out) | exact HB.out)⟩
         ·rw [if_neg c90] at H
          have c90b0 : (a1_0 == 1) = false := beq_eq_false_iff_ne.mpr c90
          have c90b1 : (a1_0 != 1) = true := bne_iff_ne.mpr c90
          simp only [Option.some.injEq, Prod.mk.injEq] at H
          obtain ⟨rfl, rfl, rfl, rfl⟩ := H
          have hnb103 := NB374_373.out
          have hnc103 := NB373_374.out
          have hnb104 := NB374_375.out
          have hnc104 := NB375_374.out
          have hcz105_0 : wc.cell? ⟨gb374, 0, none⟩ = some (.int .i64 a1_0) := (blk_cell BK374.out 0).trans rfl
          have hcz105_1 : wc.cell? ⟨gb374, 1, none⟩ = some (.int .i64 a1_1) := (blk_cell BK374.out 1).trans rfl
          have hcz105_2 : wc.cell? ⟨gb374, 2, none⟩ = some (.int .i64 a1_2) := (blk_cell BK374.out 2).trans rfl
          have hfz105_0 := blk_frozen BK374.out 0
          have hfz105_1 := blk_frozen BK374.out 1
          have hfz105_2 := blk_frozen BK374.out 2
          go_wp2_with (first | ((with_reducible refine gate_dst (N := 8) rfl ?_); refine box_event ?hg (N := 8) ?hd (cs := #[.int .i64 0, .int .i64 0, .int .i64 0, .bool false]) (t := 52) ?hr ?_; (case hd => rfl); (case hg => rfl); (case hr => first | (go_simp; done) | (go_simp; rfl)); intro gb380 hg w106 hbox hb; have n0_ := Aside0.mk (blk_below (g := gb373) (o := .cells #[.int .i64 a0_0, .int .i64 a0_1, .int .i64 a0_2, .int .i64 a0_3, .int .i64 a0_4, .int .i64 a0_5, .int .i64 a0_6, .int .i64 a0_7, .int .i64 a0_8, .int .i64 a0_9] 42 (0, 0)) (by (with_reducible repeat (first | refine blk_drewN ?_ _ | refine blk_drew ?_ | refine blk_alloc ?_ _)); exact BK373.out) hb); have n1_ := Aside0.mk (blk_below (g := gb374) (o := .cells #[.int .i64 a1_0, .int .i64 a1_1, .int .i64 a1_2] 44 (0, 0)) (by (with_reducible repeat (first | refine blk_drewN ?_ _ | refine blk_drew ?_ | refine blk_alloc ?_ _)); exact BK374.out) hb); have n2_ := Aside0.mk (blk_below (g := gb375) (o := .cells #[.int .i64 0, .int .i64 0, .int .i64 0, .bool false] 52 (0, 0)) (by (with_reducible repeat (first | refine blk_drewN ?_ _ | refine blk_drew ?_ | refine blk_alloc ?_ _)); exact BK375.out) hb); have n3_ := Aside0.mk (below_step (by repeat (first | (with_reducible first | exact HB.out | apply below_alloc | apply pw_below_drewN | apply below_drew1 | refine below_set ?_ GE373.out | refine below_set ?_ GE374.out | refine below_set ?_ GE375.out) | exact HB.out)) hb); have n4_ := Aside0.mk (hbox); have n5_ := Aside0.mk ((by rw [hg]; exact (below_size (by repeat (first | (with_reducible first | exact HB.out | apply below_alloc | apply pw_below_drewN | apply below_drew1 | refine below_set ?_ GE373.out | refine below_set ?_ GE374.out | refine below_set ?_ GE375.out) | exact HB.out))) : w.heap.size ≤ gb380)); have n6_ := Aside0.mk ((by rw [hg]; exact (below_size (by repeat (first | (with_reducible first | exact HB.out | apply below_alloc | apply pw_below_drewN | apply below_drew1 | refine below_set ?_ GE373.out | refine below_set ?_ GE374.out | refine below_set ?_ GE375.out) | exact HB.out))) : w.heap.size ≤ gb380)); have n7_ := Aside0.mk ((by rw [hg]; exact Nat.ne_of_lt (blk_lt (g := gb373) (o := .cells #[.int .i64 a0_0, .int .i64 a0_1, .int .i64 a0_2, .int .i64 a0_3, .int .i64 a0_4, .int .i64 a0_5, .int .i64 a0_6, .int .i64 a0_7, .int .i64 a0_8, .int .i64 a0_9] 42 (0, 0)) (by (with_reducible repeat (first | refine blk_drewN ?_ _ | refine blk_drew ?_ | refine blk_alloc ?_ _)); exact BK373.out)) : gb373 ≠ gb380)); have n8_ := Aside0.mk ((by rw [hg]; exact Nat.ne_of_gt (blk_lt (g := gb373) (o := .cells #[.int .i64 a0_0, .int .i64 a0_1, .int .i64 a0_2, .int .i64 a0_3, .int .i64 a0_4, .int .i64 a0_5, .int .i64 a0_6, .int .i64 a0_7, .int .i64 a0_8, .int .i64 a0_9] 42 (0, 0)) (by (with_reducible repeat (first | refine blk_drewN ?_ _ | refine blk_drew ?_ | refine blk_alloc ?_ _)); exact BK373.out)) : gb380 ≠ gb373)); have n9_ := Aside0.mk ((by rw [hg]; exact Nat.ne_of_lt (blk_lt (g := gb374) (o := .cells #[.int .i64 a1_0, .int .i64 a1_1, .int .i64 a1_2] 44 (0, 0)) (by (with_reducible repeat (first | refine blk_drewN ?_ _ | refine blk_drew ?_ | refine blk_alloc ?_ _)); exact BK374.out)) : gb374 ≠ gb380)); have n10_ := Aside0.mk ((by rw [hg]; exact Nat.ne_of_gt (blk_lt (g := gb374) (o := .cells #[.int .i64 a1_0, .int .i64 a1_1, .int .i64 a1_2] 44 (0, 0)) (by (with_reducible repeat (first | refine blk_drewN ?_ _ | refine blk_drew ?_ | refine blk_alloc ?_ _)); exact BK374.out)) : gb380 ≠ gb374)); have n11_ := Aside0.mk ((by rw [hg]; exact Nat.ne_of_lt (blk_lt (g := gb375) (o := .cells #[.int .i64 0, .int .i64 0, .int .i64 0, .bool false] 52 (0, 0)) (by (with_reducible repeat (first | refine blk_drewN ?_ _ | refine blk_drew ?_ | refine blk_alloc ?_ _)); exact BK375.out)) : gb375 ≠ gb380)); have n12_ := Aside0.mk ((by rw [hg]; exact Nat.ne_of_gt (blk_lt (g := gb375) (o := .cells #[.int .i64 0, .int .i64 0, .int .i64 0, .bool false] 52 (0, 0)) (by (with_reducible repeat (first | refine blk_drewN ?_ _ | refine blk_drew ?_ | refine blk_alloc ?_ _)); exact BK375.out)) : gb380 ≠ gb375)); clear BK373; clear BK374; clear BK375; clear HB; have BK373 := n0_; have BK374 := n1_; have BK375 := n2_; have HB := n3_; have BK380 := n4_; have GW380 := n5_; have GE380 := n6_; have NB373_380 := n7_; have NB380_373 := n8_; have NB374_380 := n9_; have NB380_374 := n10_; have NB375_380 := n11_; have NB380_375 := n12_; clear n0_ n1_ n2_ n3_ n4_ n5_ n6_ n7_ n8_ n9_ n10_ n11_ n12_; clear hb hbox hg; have hnb107 := NB380_373.out; have hnc107 := NB373_380.out; have hnb108 := NB380_374.out; have hnc108 := NB374_380.out; have hnb109 := NB380_375.out; have hnc109 := NB375_380.out; have hcz110_0 : w106.cell? ⟨gb380, 0, none⟩ = some (.int .i64 0) := (blk_cell BK380.out 0).trans rfl; have hcz110_1 : w106.cell? ⟨gb380, 1, none⟩ = some (.int .i64 0) := (blk_cell BK380.out 1).trans rfl; have hcz110_2 : w106.cell? ⟨gb380, 2, none⟩ = some (.int .i64 0) := (blk_cell BK380.out 2).trans rfl; have hcz110_3 : w106.cell? ⟨gb380, 3, none⟩ = some (.bool false) := (blk_cell BK380.out 3).trans rfl; have hfz110_0 := blk_frozen BK380.out 0; have hfz110_1 := blk_frozen BK380.out 1; have hfz110_2 := blk_frozen BK380.out 2; have hfz110_3 := blk_frozen BK380.out 3; have hcz111_0 : w106.cell? ⟨gb374, 0, none⟩ = some (.int .i64 a1_0) := (blk_cell BK374.out 0).trans rfl; have hcz111_1 : w106.cell? ⟨gb374, 1, none⟩ = some (.int .i64 a1_1) := (blk_cell BK374.out 1).trans rfl; have hcz111_2 : w106.cell? ⟨gb374, 2, none⟩ = some (.int .i64 a1_2) := (blk_cell BK374.out 2).trans rfl; have hfz111_0 := blk_frozen BK374.out 0; have hfz111_1 := blk_frozen BK374.out 1; have hfz111_2 := blk_frozen BK374.out 2; have hnb112 := NB375_373.out; have hnc112 := NB373_375.out; have hcz113_0 : w106.cell? ⟨gb375, 0, none⟩ = some (.int .i64 0) := (blk_cell BK375.out 0).trans rfl; have hcz113_1 : w106.cell? ⟨gb375, 1, none⟩ = some (.int .i64 0) := (blk_cell BK375.out 1).trans rfl; have hcz113_2 : w106.cell? ⟨gb375, 2, none⟩ = some (.int .i64 0) := (blk_cell BK375.out 2).trans rfl; have hcz113_3 : w106.cell? ⟨gb375, 3, none⟩ = some (.bool false) := (blk_cell BK375.out 3).trans rfl; have hfz113_0 := blk_frozen BK375.out 0; have hfz113_1 := blk_frozen BK375.out 1; have hfz113_2 := blk_frozen BK375.out 2; have hfz113_3 := blk_frozen BK375.out 3))
          refine bodyPost_ret (results_cell_row rfl _ _ gb375 52 #[.int .i64 0, .int .i64 0, .int .i64 0, .bool false] (0, 0) _ rfl (by (with_reducible repeat (first | refine blk_drewN ?_ _ | refine blk_drew ?_ | refine blk_alloc ?_ _)); refine blk_put (cs := #[.int .i64 0, .int .i64 0, .int .i64 0, .bool false]) ?_ 3 _ rfl; (with_reducible repeat (first | refine blk_drewN ?_ _ | refine blk_drew ?_ | refine blk_alloc ?_ _)); refine blk_put (cs := #[.int .i64 0, .int .i64 0, .int .i64 0, .bool false]) ?_ 2 _ rfl; (with_reducible repeat (first | refine blk_drewN ?_ _ | refine blk_drew ?_ | refine blk_alloc ?_ _)); refine blk_put (cs := #[.int .i64 0, .int .i64 0, .int .i64 0, .bool false]) ?_ 1 _ rfl; (with_reducible repeat (first | refine blk_drewN ?_ _ | refine blk_drew ?_ | refine blk_alloc ?_ _)); refine blk_put (cs := #[.int .i64 0, .int .i64 0, .int .i64 0, .bool false]) ?_ 0 _ rfl; (with_reducible repeat (first | refine blk_drewN ?_ _ | refine blk_drew ?_ | refine blk_alloc ?_ _)); (first | (refine blk_far ?_ NB375_380.out _; (with_reducible repeat (first | refine blk_drewN ?_ _ | refine blk_drew ?_ | refine blk_alloc ?_ _))) | skip); (first | (refine blk_far ?_ NB375_380.out _; (with_reducible repeat (first | refine blk_drewN ?_ _ | refine blk_drew ?_ | refine blk_alloc ?_ _))) | skip); (first | (refine blk_far ?_ NB375_380.out _; (with_reducible repeat (first | refine blk_drewN ?_ _ | refine blk_drew ?_ | refine blk_alloc ?_ _))) | skip); (first | (refine blk_far ?_ NB375_380.out _; (with_reducible repeat (first | refine blk_drewN ?_ _ | refine blk_drew ?_ | refine blk_alloc ?_ _))) | skip); (first | (refine blk_far ?_ NB375_380.out _; (with_reducible repeat (first | refine blk_drewN ?_ _ | refine blk_drew ?_ | refine blk_alloc ?_ _))) | skip); (first | (refine blk_far ?_ NB375_380.out _; (with_reducible repeat (first | refine blk_drewN ?_ _ | refine blk_drew ?_ | refine blk_alloc ?_ _))) | skip); (first | (refine blk_far ?_ NB375_380.out _; (with_reducible repeat (first | refine blk_drewN ?_ _ | refine blk_drew ?_ | refine blk_alloc ?_ _))) | skip); (first | (refine blk_far ?_ NB375_380.out _; (with_reducible repeat (first | refine blk_drewN ?_ _ | refine blk_drew ?_ | refine blk_alloc ?_ _))) | skip); exact BK375.out) Try.underlying52 rfl (by kernel_rfl)) rfl ?_
          exact ⟨by first | rfl | (simp [errW_none, errW_some] <;> rfl) | (simp [*, errW_none, errW_some] <;> rfl), by repeat (first | (with_reducible first | exact HB.out | apply below_alloc | apply pw_below_drewN | apply below_drew1 | refine below_set ?_ GE373.out | refine below_set ?_ GE374.out | refine below_set ?_ GE375.out | refine below_set ?_ GE380.out) | exact HB.out)⟩

end Go.Proofs.Ytjfikeahafflfaa.C
