-- Written by a program of this session (wip/pp: the kit's print, changed), out of the translation. Lean checks it.
import Derived.Test.YtickbejailcehaaDoorQ1
import Derived.Test.YtickbejailcehaaDoorQ4
import Derived.Test.YtickbejailcehaaDoorQ3
import Derived.Test.YtickbejailcehaaDoorQ2
namespace Go.Proofs.YtickbejailcehaaDoor.C
open Go.RowKit Go.Proofs.YtickbejailcehaaDoorW.PrintWords Go.Proofs.YtickbejailcehaaDoorW.PrintLast Go.Proofs.YtickbejailcehaaDoorW.PrintMore
attribute [local go_sem] max2_int min2_int max_two min_two max_three min_three max_four min_four   -- for this text's walks alone
set_option linter.unusedVariables false
set_option linter.unusedSimpArgs false

/-! ### newellaw12_FlashBack: function 4 -/
def newellaw12_FlashBack.j0 : Nat → Bool → Option (Bool)
 | 0, _ => none
 | k + 1, x2 => some x2
def newellaw12_FlashBack.f (k : Nat) (a0_0 : Int) (a0_1 : Int) (a0_2 : Int) (l0_3 : List Int) : Option (Bool) := if (l0_3.length : Int) > 5000 then ((newellaw12_awake.f k).bind fun t426 => (some t426)) else ((flash_Code.f k a0_0 a0_1 a0_2 l0_3).bind fun bt427 => (if bt427.2 = 0 then ((flash_Read.f k bt427.1).bind fun bt432 => ((newellaw12_awake.f k).bind fun t440 => (if t440 = true then (if bt432.2.2.2.2 = 0 then ((flash_Same.f bt432.1 bt432.2.1 bt432.2.2.1 bt432.2.2.2.1 a0_0 a0_1 a0_2 l0_3).bind fun t441 => (if t441 = true then ((newelref12_Same.f k bt432.1 bt432.2.1 bt432.2.2.1 bt432.2.2.2.1 a0_0 a0_1 a0_2 l0_3).bind fun t442 => (newellaw12_FlashBack.j0 k t442)) else (none))) else (none)) else (none)))) else ((newellaw12_awake.f k).bind fun t431 => (if t431 = true then (some ((bt427.1.length : Int) == 0)) else (none)))))
theorem newellaw12_FlashBack.mono_l : ∀ k, (∀ y0, LeO (newellaw12_FlashBack.j0 k y0) (newellaw12_FlashBack.j0 (k + 1) y0))
 | 0 => fun _ r h => by simp [newellaw12_FlashBack.j0] at h
 | k + 1 => by
  have ih0 := newellaw12_FlashBack.mono_l k
  ·intro y0
   unfold newellaw12_FlashBack.j0
   repeat' first
   | (with_reducible exact ih0 _)
   | (with_reducible exact flash_Code.mono _ _ _ _ _)
   | (with_reducible exact flash_Read.mono _ _)
   | (with_reducible exact newellaw12_awake.mono _)
   | (with_reducible exact newelref12_Same.mono _ _ _ _ _ _ _ _ _)
   | (with_reducible exact LeO.refl _)
   | (with_reducible exact LeO.none _)
   | (with_reducible refine LeO.ite ?_ ?_)
   | (with_reducible refine LeO.bind ?_ (fun _ => ?_))
   | exact ih0 _
   | exact flash_Code.mono _ _ _ _ _
   | exact flash_Read.mono _ _
   | exact newellaw12_awake.mono _
   | exact newelref12_Same.mono _ _ _ _ _ _ _ _ _
   | exact LeO.none _
   | refine LeO.ite ?_ ?_
   | refine LeO.bind ?_ (fun _ => ?_)
theorem newellaw12_FlashBack.mono : ∀ a0 a1 a2 a3 k, LeO (newellaw12_FlashBack.f k a0 a1 a2 a3) (newellaw12_FlashBack.f (k + 1) a0 a1 a2 a3) := by
 intro a0 a1 a2 a3 k
 have ih0 := newellaw12_FlashBack.mono_l k
 unfold newellaw12_FlashBack.f
 repeat' first
   | (with_reducible exact ih0 _)
   | (with_reducible exact flash_Code.mono _ _ _ _ _)
   | (with_reducible exact flash_Read.mono _ _)
   | (with_reducible exact newellaw12_awake.mono _)
   | (with_reducible exact newelref12_Same.mono _ _ _ _ _ _ _ _ _)
   | (with_reducible exact LeO.refl _)
   | (with_reducible exact LeO.none _)
   | (with_reducible refine LeO.ite ?_ ?_)
   | (with_reducible refine LeO.bind ?_ (fun _ => ?_))
   | exact ih0 _
   | exact flash_Code.mono _ _ _ _ _
   | exact flash_Read.mono _ _
   | exact newellaw12_awake.mono _
   | exact newelref12_Same.mono _ _ _ _ _ _ _ _ _
   | exact LeO.none _
   | refine LeO.ite ?_ ?_
   | refine LeO.bind ?_ (fun _ => ?_)
set_option maxHeartbeats 8000000 in
set_option maxRecDepth 100000 in
theorem newellaw12_FlashBack.calls (k : Nat) (a0_0 : Int) (a0_1 : Int) (a0_2 : Int) (A0_3 : Option Addr) (c0_3 : Nat) (l0_3 : List Int) (r : Bool) (w : World) (hr0_3 : Kd.C (Kd.int .u8) w A0_3 l0_3.length l0_3) (hc0_3 : l0_3.length ≤ c0_3) (h : newellaw12_FlashBack.f k a0_0 a0_1 a0_2 l0_3 = some r) (ht_ : Laid.TabAt w) :
  Calls Tryd.prog 4 #[.agg #[.int .i64 a0_0, .int .i64 a0_1, .int .i64 a0_2, .slice A0_3 l0_3.length c0_3]] w fun e w' => e = .returned (.bool r) ∧ Below w.heap.size w w' := by
 have HTAB := Aside0.mk ht_
 clear ht_
 have hu26 := Tryd.underlying26
 have HR0_3 := Aside0.mk hr0_3
 have HC0_3 := Aside0.mk hc0_3
 clear hr0_3 hc0_3
 have HB := Aside0.mk (Below.refl w.heap.size w)
 have H : (if (l0_3.length : Int) > 5000 then ((newellaw12_awake.f k).bind fun t426 => (some t426)) else ((flash_Code.f k a0_0 a0_1 a0_2 l0_3).bind fun bt427 => (if bt427.2 = 0 then ((flash_Read.f k bt427.1).bind fun bt432 => ((newellaw12_awake.f k).bind fun t440 => (if t440 = true then (if bt432.2.2.2.2 = 0 then ((flash_Same.f bt432.1 bt432.2.1 bt432.2.2.1 bt432.2.2.2.1 a0_0 a0_1 a0_2 l0_3).bind fun t441 => (if t441 = true then ((newelref12_Same.f k bt432.1 bt432.2.1 bt432.2.2.1 bt432.2.2.2.1 a0_0 a0_1 a0_2 l0_3).bind fun t442 => (newellaw12_FlashBack.j0 k t442)) else (none))) else (none)) else (none)))) else ((newellaw12_awake.f k).bind fun t431 => (if t431 = true then (some ((bt427.1.length : Int) == 0)) else (none)))))) = some r := h
 clear h
 by_cases c2 : (l0_3.length : Int) > 5000
 ·rw [if_pos c2] at H
  have c2b0 : decide (5000 < (l0_3.length : Int)) = true := decide_eq_true c2
  have c2b1 : decide (5000 < l0_3.length) = true := decide_eq_true (by omega)
  clear c2
  replace H := Option.bind_eq_some_iff.mp H
  obtain ⟨t426, A30, H⟩ := H
  replace H : (some t426) = some r := H
  have A3 := Aside0.mk A30
  clear A30
  obtain rfl := Option.some.inj H
  go_enter Tryd.func4, Tryd.ntmps4
  go_wp2_with (first | ((with_reducible refine gate_dst (N := 1) rfl ?_); (try (refine gate_guard (by rfl) ?_; dsimp only)); refine box_event ?hg (N := 1) ?hd (cs := #[.int .i64 a0_0, .int .i64 a0_1, .int .i64 a0_2, .slice A0_3 l0_3.length c0_3]) (t := 26) ?hr ?_; (case hd => rfl); (case hg => rfl); (case hr => first | (go_simp; done) | (go_simp; rfl)); intro gb425 hg w4 hbox hb; have n0_ := Aside0.mk (below_step (by repeat (first | (with_reducible first | exact HB.out | apply below_alloc | apply pw_below_drewN | apply below_drew1) | exact HB.out)) hb); have n1_ := Aside0.mk (hbox); have n2_ := Aside0.mk ((by rw [hg]; exact (below_size (by repeat (first | (with_reducible first | exact HB.out | apply below_alloc | apply pw_below_drewN | apply below_drew1) | exact HB.out))) : w.heap.size ≤ gb425)); have n3_ := Aside0.mk ((by rw [hg]; exact (below_size (by repeat (first | (with_reducible first | exact HB.out | apply below_alloc | apply pw_below_drewN | apply below_drew1) | exact HB.out))) : w.heap.size ≤ gb425)); clear HB; have HB := n0_; have BK425 := n1_; have GW425 := n2_; have GE425 := n3_; clear n0_ n1_ n2_ n3_; clear hb hbox hg; have hcz5_0 : w4.cell? ⟨gb425, 0, none⟩ = some (.int .i64 a0_0) := (blk_cell BK425.out 0).trans rfl; have hcz5_1 : w4.cell? ⟨gb425, 1, none⟩ = some (.int .i64 a0_1) := (blk_cell BK425.out 1).trans rfl; have hcz5_2 : w4.cell? ⟨gb425, 2, none⟩ = some (.int .i64 a0_2) := (blk_cell BK425.out 2).trans rfl; have hcz5_3 : w4.cell? ⟨gb425, 3, none⟩ = some (.slice A0_3 l0_3.length c0_3) := (blk_cell BK425.out 3).trans rfl; have hfz5_0 := blk_frozen BK425.out 0; have hfz5_1 := blk_frozen BK425.out 1; have hfz5_2 := blk_frozen BK425.out 2; have hfz5_3 := blk_frozen BK425.out 3) | ((with_reducible refine gate_callee (f := 10) rfl ?_); refine goesL_ (some 11) rfl rfl Tryd.func10 (by kernel_rfl) rfl #[] rfl (by (try simp only [List.map_toArray, List.map_cons, List.map_nil]); first | done | rfl | (simp only [List.length_drop, List.length_take]; rfl)) ?_; (with_reducible refine (newellaw12_awake.calls k  t426 _ A3.out (by first | exact HTAB.out | ((repeat (first | exact HTAB.out | (with_reducible refine Laid.tab_alloc ?_ _) | (with_reducible refine Laid.tab_drewN ?_ _) | (with_reducible refine Laid.tab_drew ?_))); done) | (refine Laid.tab_below' HTAB.out ?_; (repeat (first | (with_reducible first | exact HB.out | apply below_alloc | apply pw_below_drewN | apply below_drew1) | exact HB.out | (refine below_set ?_ (Aside0.out (by assumption)))))))).mono ?_); rintro e w6 ⟨rfl, hb⟩; refine ⟨_, rfl, ?_⟩; have n0_ := Aside0.mk (blk_below (g := gb425) (o := .cells #[.int .i64 a0_0, .int .i64 a0_1, .int .i64 a0_2, .slice A0_3 l0_3.length c0_3] 26 (0, 0)) (by (with_reducible repeat (first | refine blk_drewN ?_ _ | refine blk_drew ?_ | refine blk_alloc ?_ _)); exact BK425.out) hb); have n1_ := Aside0.mk (below_step (by repeat (first | (with_reducible first | exact HB.out | apply below_alloc | apply pw_below_drewN | apply below_drew1 | refine below_set ?_ GE425.out) | exact HB.out)) hb); clear BK425; clear HB; have BK425 := n0_; have HB := n1_; clear n0_ n1_; (try clear hb); (try clear hb2); (try clear hk); (try clear hi)))
  go_ret
  exact ⟨by first | rfl | (simp [errW_none, errW_some] <;> rfl) | (simp [*, errW_none, errW_some] <;> rfl), by repeat (first | (with_reducible first | exact HB.out | apply below_alloc | apply pw_below_drewN | apply below_drew1 | refine below_set ?_ GE425.out) | exact HB.out)⟩
 ·rw [if_neg c2] at H
  have c2b0 : decide (5000 < (l0_3.length : Int)) = false := decide_eq_false c2
  have c2b1 : decide (5000 < l0_3.length) = false := decide_eq_false (by omega)
  clear c2
  replace H := Option.bind_eq_some_iff.mp H
  obtain ⟨⟨t427, t430⟩, A70, H⟩ := H
  replace H : (if t430 = 0 then ((flash_Read.f k t427).bind fun bt432 => ((newellaw12_awake.f k).bind fun t440 => (if t440 = true then (if bt432.2.2.2.2 = 0 then ((flash_Same.f bt432.1 bt432.2.1 bt432.2.2.1 bt432.2.2.2.1 a0_0 a0_1 a0_2 l0_3).bind fun t441 => (if t441 = true then ((newelref12_Same.f k bt432.1 bt432.2.1 bt432.2.2.1 bt432.2.2.2.1 a0_0 a0_1 a0_2 l0_3).bind fun t442 => (newellaw12_FlashBack.j0 k t442)) else (none))) else (none)) else (none)))) else ((newellaw12_awake.f k).bind fun t431 => (if t431 = true then (some ((t427.length : Int) == 0)) else (none)))) = some r := H
  have A7 := Aside0.mk A70
  clear A70
  by_cases c8 : t430 = 0
  ·rw [if_pos c8] at H
   have c8b0 : (t430 == 0) = true := beq_iff_eq.mpr c8
   have c8b1 : (t430 != 0) = false := bne_eq_false_iff_eq.mpr c8
   clear c8
   replace H := Option.bind_eq_some_iff.mp H
   obtain ⟨⟨t432, t433, t434, t435, t438⟩, A90, H⟩ := H
   replace H : ((newellaw12_awake.f k).bind fun t440 => (if t440 = true then (if t438 = 0 then ((flash_Same.f t432 t433 t434 t435 a0_0 a0_1 a0_2 l0_3).bind fun t441 => (if t441 = true then ((newelref12_Same.f k t432 t433 t434 t435 a0_0 a0_1 a0_2 l0_3).bind fun t442 => (newellaw12_FlashBack.j0 k t442)) else (none))) else (none)) else (none))) = some r := H
   have A9 := Aside0.mk A90
   clear A90
   have HC10 := Aside0.mk H
   clear H
   go_enter Tryd.func4, Tryd.ntmps4
   go_upto_region 7 with (first | ((with_reducible refine gate_dst (N := 1) rfl ?_); (try (refine gate_guard (by rfl) ?_; dsimp only)); refine box_event ?hg (N := 1) ?hd (cs := #[.int .i64 a0_0, .int .i64 a0_1, .int .i64 a0_2, .slice A0_3 l0_3.length c0_3]) (t := 26) ?hr ?_; (case hd => rfl); (case hg => rfl); (case hr => first | (go_simp; done) | (go_simp; rfl)); intro gb425 hg w11 hbox hb; have n0_ := Aside0.mk (below_step (by repeat (first | (with_reducible first | exact HB.out | apply below_alloc | apply pw_below_drewN | apply below_drew1) | exact HB.out)) hb); have n1_ := Aside0.mk (hbox); have n2_ := Aside0.mk ((by rw [hg]; exact (below_size (by repeat (first | (with_reducible first | exact HB.out | apply below_alloc | apply pw_below_drewN | apply below_drew1) | exact HB.out))) : w.heap.size ≤ gb425)); have n3_ := Aside0.mk ((by rw [hg]; exact (below_size (by repeat (first | (with_reducible first | exact HB.out | apply below_alloc | apply pw_below_drewN | apply below_drew1) | exact HB.out))) : w.heap.size ≤ gb425)); clear HB; have HB := n0_; have BK425 := n1_; have GW425 := n2_; have GE425 := n3_; clear n0_ n1_ n2_ n3_; clear hb hbox hg; have hcz12_0 : w11.cell? ⟨gb425, 0, none⟩ = some (.int .i64 a0_0) := (blk_cell BK425.out 0).trans rfl; have hcz12_1 : w11.cell? ⟨gb425, 1, none⟩ = some (.int .i64 a0_1) := (blk_cell BK425.out 1).trans rfl; have hcz12_2 : w11.cell? ⟨gb425, 2, none⟩ = some (.int .i64 a0_2) := (blk_cell BK425.out 2).trans rfl; have hcz12_3 : w11.cell? ⟨gb425, 3, none⟩ = some (.slice A0_3 l0_3.length c0_3) := (blk_cell BK425.out 3).trans rfl; have hfz12_0 := blk_frozen BK425.out 0; have hfz12_1 := blk_frozen BK425.out 1; have hfz12_2 := blk_frozen BK425.out 2; have hfz12_3 := blk_frozen BK425.out 3) | ((with_reducible refine gate_callee (f := 18) rfl ?_); refine goesL_ (some 14) rfl rfl Tryd.func18 (by kernel_rfl) rfl #[.agg #[.int .i64 a0_0, .int .i64 a0_1, .int .i64 a0_2, .slice A0_3 l0_3.length c0_3]] rfl (by (try simp only [List.map_toArray, List.map_cons, List.map_nil]); first | done | rfl | (simp only [List.length_drop, List.length_take]; rfl)) ?_; (with_reducible refine (flash_Code.calls k a0_0 a0_1 a0_2 _ _ l0_3 t427 t430 _ ?side1 ?side2 A7.out (by first | exact HTAB.out | ((repeat (first | exact HTAB.out | (with_reducible refine Laid.tab_alloc ?_ _) | (with_reducible refine Laid.tab_drewN ?_ _) | (with_reducible refine Laid.tab_drew ?_))); done) | (refine Laid.tab_below' HTAB.out ?_; (repeat (first | (with_reducible first | exact HB.out | apply below_alloc | apply pw_below_drewN | apply below_drew1) | exact HB.out | (refine below_set ?_ (Aside0.out (by assumption)))))))).mono ?_); (case side1 => repeat (first | exact (Kd.C_below HR0_3.out HB.out) | (with_reducible refine Kd.C_alloc ?_ _) | (with_reducible refine Kd.C_drewN ?_ _) | (with_reducible refine Kd.C_drew ?_))); (case side2 => exact HC0_3.out); rintro e w13 ⟨v428, rfl, ho0, hb⟩; refine ⟨_, rfl, ?_⟩; have n0_ := Aside0.mk (Kd.R_lower ho0 (below_size (by repeat (first | (with_reducible first | exact HB.out | apply below_alloc | apply pw_below_drewN | apply below_drew1 | refine below_set ?_ GE425.out) | exact HB.out)))); have n1_ := Aside0.mk (blk_below (g := gb425) (o := .cells #[.int .i64 a0_0, .int .i64 a0_1, .int .i64 a0_2, .slice A0_3 l0_3.length c0_3] 26 (0, 0)) (by (with_reducible repeat (first | refine blk_drewN ?_ _ | refine blk_drew ?_ | refine blk_alloc ?_ _)); exact BK425.out) hb); have n2_ := Aside0.mk (below_step (by repeat (first | (with_reducible first | exact HB.out | apply below_alloc | apply pw_below_drewN | apply below_drew1 | refine below_set ?_ GE425.out) | exact HB.out)) hb); clear BK425; clear HB; have HO429 := n0_; have BK425 := n1_; have HB := n2_; clear n0_ n1_ n2_; (try clear hb); (try clear hb2); (try clear hk); (try clear hi); (try clear ho0); obtain ⟨Ao14, co14, eo14⟩ := Kd.R_slice HO429.out; subst eo14) | ((with_reducible refine gate_callee (f := 19) rfl ?_); refine goesL_ (some 27) rfl rfl Tryd.func19 (by kernel_rfl) rfl #[.slice Ao14 t427.length co14] rfl (by (try simp only [List.map_toArray, List.map_cons, List.map_nil]); first | done | rfl | (simp only [List.length_drop, List.length_take]; rfl)) ?_; (with_reducible refine (flash_Read.calls k _ _ t427 t432 t433 t434 t435 t438 _ ?side1 ?side2 A9.out (by first | exact HTAB.out | ((repeat (first | exact HTAB.out | (with_reducible refine Laid.tab_alloc ?_ _) | (with_reducible refine Laid.tab_drewN ?_ _) | (with_reducible refine Laid.tab_drew ?_))); done) | (refine Laid.tab_below' HTAB.out ?_; (repeat (first | (with_reducible first | exact HB.out | apply below_alloc | apply pw_below_drewN | apply below_drew1) | exact HB.out | (refine below_set ?_ (Aside0.out (by assumption)))))))).mono ?_); (case side1 => repeat (first | exact (Kd.R_reads' HO429.out).2.2 | (with_reducible refine Kd.C_alloc ?_ _) | (with_reducible refine Kd.C_drewN ?_ _) | (with_reducible refine Kd.C_drew ?_))); (case side2 => exact (Kd.R_reads' HO429.out).2.1); rintro e w15 ⟨v436, rfl, ho0, hb⟩; refine ⟨_, rfl, ?_⟩; have n0_ := Aside0.mk (Kd.R_elder' (by (with_reducible repeat (first | apply Kd.R_alloc | apply Kd.R_drewN | apply Kd.R_drew)); exact HO429.out) (Kd.R_base ho0) hb); have n1_ := Aside0.mk (Kd.R_lower (Kd.R_new' ho0 (Kd.R_lt (by (with_reducible repeat (first | apply Kd.R_alloc | apply Kd.R_drewN | apply Kd.R_drew)); exact HO429.out))) (below_size (by repeat (first | (with_reducible first | exact HB.out | apply below_alloc | apply pw_below_drewN | apply below_drew1 | refine below_set ?_ GE425.out) | exact HB.out)))); have n2_ := Aside0.mk (blk_below (g := gb425) (o := .cells #[.int .i64 a0_0, .int .i64 a0_1, .int .i64 a0_2, .slice A0_3 l0_3.length c0_3] 26 (0, 0)) (by (with_reducible repeat (first | refine blk_drewN ?_ _ | refine blk_drew ?_ | refine blk_alloc ?_ _)); exact BK425.out) hb); have n3_ := Aside0.mk (below_step (by repeat (first | (with_reducible first | exact HB.out | apply below_alloc | apply pw_below_drewN | apply below_drew1 | refine below_set ?_ GE425.out) | exact HB.out)) hb); clear HO429; clear BK425; clear HB; have HO429 := n0_; have HO437 := n1_; have BK425 := n2_; have HB := n3_; clear n0_ n1_ n2_ n3_; (try clear hb); (try clear hb2); (try clear hk); (try clear hi); (try clear ho0)) | ((with_reducible refine gate_dst (N := 5) rfl ?_); (try (refine gate_guard (by rfl) ?_; dsimp only)); refine box_event ?hg (N := 5) ?hd (cs := #[.int .i64 0, .int .i64 0, .int .i64 0, .slice none 0 0]) (t := 26) ?hr ?_; (case hd => rfl); (case hg => rfl); (case hr => first | (go_simp; done) | (go_simp; rfl)); intro gb439 hg w16 hbox hb; have n0_ := Aside0.mk (Kd.R_below (by (with_reducible repeat (first | apply Kd.R_alloc | apply Kd.R_drewN | apply Kd.R_drew)); exact HO429.out) hb); have n1_ := Aside0.mk (Kd.R_below (by (with_reducible repeat (first | apply Kd.R_alloc | apply Kd.R_drewN | apply Kd.R_drew)); exact HO437.out) hb); have n2_ := Aside0.mk (blk_below (g := gb425) (o := .cells #[.int .i64 a0_0, .int .i64 a0_1, .int .i64 a0_2, .slice A0_3 l0_3.length c0_3] 26 (0, 0)) (by (with_reducible repeat (first | refine blk_drewN ?_ _ | refine blk_drew ?_ | refine blk_alloc ?_ _)); exact BK425.out) hb); have n3_ := Aside0.mk (below_step (by repeat (first | (with_reducible first | exact HB.out | apply below_alloc | apply pw_below_drewN | apply below_drew1 | refine below_set ?_ GE425.out) | exact HB.out)) hb); have n4_ := Aside0.mk (hbox); have n5_ := Aside0.mk ((by rw [hg]; exact (below_size (by repeat (first | (with_reducible first | exact HB.out | apply below_alloc | apply pw_below_drewN | apply below_drew1 | refine below_set ?_ GE425.out) | exact HB.out))) : w.heap.size ≤ gb439)); have n6_ := Aside0.mk ((by rw [hg]; exact (below_size (by repeat (first | (with_reducible first | exact HB.out | apply below_alloc | apply pw_below_drewN | apply below_drew1 | refine below_set ?_ GE425.out) | exact HB.out))) : w.heap.size ≤ gb439)); have n7_ := Aside0.mk ((by rw [hg]; exact Nat.ne_of_lt (blk_lt (g := gb425) (o := .cells #[.int .i64 a0_0, .int .i64 a0_1, .int .i64 a0_2, .slice A0_3 l0_3.length c0_3] 26 (0, 0)) (by (with_reducible repeat (first | refine blk_drewN ?_ _ | refine blk_drew ?_ | refine blk_alloc ?_ _)); exact BK425.out)) : gb425 ≠ gb439)); have n8_ := Aside0.mk ((by rw [hg]; exact Nat.ne_of_gt (blk_lt (g := gb425) (o := .cells #[.int .i64 a0_0, .int .i64 a0_1, .int .i64 a0_2, .slice A0_3 l0_3.length c0_3] 26 (0, 0)) (by (with_reducible repeat (first | refine blk_drewN ?_ _ | refine blk_drew ?_ | refine blk_alloc ?_ _)); exact BK425.out)) : gb439 ≠ gb425)); clear HO429; clear HO437; clear BK425; clear HB; have HO429 := n0_; have HO437 := n1_; have BK425 := n2_; have HB := n3_; have BK439 := n4_; have GW439 := n5_; have GE439 := n6_; have NB425_439 := n7_; have NB439_425 := n8_; clear n0_ n1_ n2_ n3_ n4_ n5_ n6_ n7_ n8_; clear hb hbox hg; have hnb17 := NB439_425.out; have hnc17 := NB425_439.out; have hcz18_0 : w16.cell? ⟨gb439, 0, none⟩ = some (.int .i64 0) := (blk_cell BK439.out 0).trans rfl; have hcz18_1 : w16.cell? ⟨gb439, 1, none⟩ = some (.int .i64 0) := (blk_cell BK439.out 1).trans rfl; have hcz18_2 : w16.cell? ⟨gb439, 2, none⟩ = some (.int .i64 0) := (blk_cell BK439.out 2).trans rfl; have hcz18_3 : w16.cell? ⟨gb439, 3, none⟩ = some (.slice none 0 0) := (blk_cell BK439.out 3).trans rfl; have hfz18_0 := blk_frozen BK439.out 0; have hfz18_1 := blk_frozen BK439.out 1; have hfz18_2 := blk_frozen BK439.out 2; have hfz18_3 := blk_frozen BK439.out 3; obtain ⟨Ao19, co19, eo19⟩ := Kd.R_slice HO437.out; subst eo19))
   (try simp only [Act.put, List.setIfInBounds_toArray, List.set_cons_zero, List.set_cons_succ])
   go_cut [2] (fun v2 wc => ∃ (kq : Nat) (x2_9 : Bool), v2 = .bool x2_9 ∧ Aside0 (newellaw12_FlashBack.j0 kq x2_9 = some r) ∧ Aside0 (kq ≤ k) ∧ Aside0 (Kd.R (Kd.int .u8) 5 wc w.heap.size (fun _ => True) (.slice Ao19 t435.length co19) t435) ∧ Aside0 (wc.heap[gb425]? = some (.cells #[.int .i64 a0_0, .int .i64 a0_1, .int .i64 a0_2, (.slice A0_3 l0_3.length c0_3)] 26 (0, 0))) ∧ Aside0 (wc.heap[gb439]? = some (.cells #[.int .i64 t432, .int .i64 t433, .int .i64 t434, (.slice Ao19 t435.length co19)] 26 (0, 0))) ∧ Aside0 (Below w.heap.size w wc))
   case first =>
    have H := HC10.out
    clear HC10
    replace H := Option.bind_eq_some_iff.mp H
    obtain ⟨t440, A200, H⟩ := H
    replace H : (if t440 = true then (if t438 = 0 then ((flash_Same.f t432 t433 t434 t435 a0_0 a0_1 a0_2 l0_3).bind fun t441 => (if t441 = true then ((newelref12_Same.f k t432 t433 t434 t435 a0_0 a0_1 a0_2 l0_3).bind fun t442 => (newellaw12_FlashBack.j0 k t442)) else (none))) else (none)) else (none)) = some r := H
    have A20 := Aside0.mk A200
    clear A200
    by_cases c21 : t440 = true
    ·subst c21
     have H1 : (if t438 = 0 then ((flash_Same.f t432 t433 t434 t435 a0_0 a0_1 a0_2 l0_3).bind fun t441 => (if t441 = true then ((newelref12_Same.f k t432 t433 t434 t435 a0_0 a0_1 a0_2 l0_3).bind fun t442 => (newellaw12_FlashBack.j0 k t442)) else (none))) else (none)) = some r := by rw [if_pos rfl] at H; exact H
     clear H
     have H := H1
     clear H1
     by_cases c22 : t438 = 0
     ·rw [if_pos c22] at H
      have c22b0 : (t438 == 0) = true := beq_iff_eq.mpr c22
      have c22b1 : (t438 != 0) = false := bne_eq_false_iff_eq.mpr c22
      clear c22
      (first | rw [c22b0] | (simp only [i64_w, i32_w]; rw [c22b0]) | skip)
      replace H := Option.bind_eq_some_iff.mp H
      obtain ⟨t441, A230, H⟩ := H
      replace H : (if t441 = true then ((newelref12_Same.f k t432 t433 t434 t435 a0_0 a0_1 a0_2 l0_3).bind fun t442 => (newellaw12_FlashBack.j0 k t442)) else (none)) = some r := H
      have A23 := Aside0.mk A230
      clear A230
      by_cases c24 : t441 = true
      ·subst c24
       have H1 : ((newelref12_Same.f k t432 t433 t434 t435 a0_0 a0_1 a0_2 l0_3).bind fun t442 => (newellaw12_FlashBack.j0 k t442)) = some r := by rw [if_pos rfl] at H; exact H
       clear H
       have H := H1
       clear H1
       replace H := Option.bind_eq_some_iff.mp H
       obtain ⟨t442, A250, H⟩ := H
       replace H : (newellaw12_FlashBack.j0 k t442) = some r := H
       have A25 := Aside0.mk A250
       clear A250
       have H' := Aside0.mk H
       clear H
       go_wp2_with (first | ((with_reducible refine gate_callee (f := 10) rfl ?_); refine goesL_ (some 30) rfl rfl Tryd.func10 (by kernel_rfl) rfl #[] rfl (by (try simp only [List.map_toArray, List.map_cons, List.map_nil]); first | done | rfl | (simp only [List.length_drop, List.length_take]; rfl)) ?_; (with_reducible refine (newellaw12_awake.calls k  true _ A20.out (by first | exact HTAB.out | ((repeat (first | exact HTAB.out | (with_reducible refine Laid.tab_alloc ?_ _) | (with_reducible refine Laid.tab_drewN ?_ _) | (with_reducible refine Laid.tab_drew ?_))); done) | (refine Laid.tab_below' HTAB.out ?_; (repeat (first | (with_reducible first | exact HB.out | apply below_alloc | apply pw_below_drewN | apply below_drew1) | exact HB.out | (refine below_set ?_ (Aside0.out (by assumption)))))))).mono ?_); rintro e w26 ⟨rfl, hb⟩; refine ⟨_, rfl, ?_⟩; have n0_ := Aside0.mk (Kd.R_below (by (with_reducible repeat (first | apply Kd.R_alloc | apply Kd.R_drewN | apply Kd.R_drew)); exact (Kd.R_mono (Kd.R_far (p := ⟨gb439, 3, none⟩) (Kd.R_far (p := ⟨gb439, 2, none⟩) (Kd.R_far (p := ⟨gb439, 1, none⟩) (Kd.R_far (p := ⟨gb439, 0, none⟩) (Kd.R_types HO429.out BK439.out (by decide)) (fun _ hk => hk.2) (.int .i64 t432)) (fun _ hk => hk.2) (.int .i64 t433)) (fun _ hk => hk.2) (.int .i64 t434)) (fun _ hk => hk.2) (.slice Ao19 t435.length co19)) (fun _ h_ => h_.1))) hb); have n1_ := Aside0.mk (Kd.R_below (by (with_reducible repeat (first | apply Kd.R_alloc | apply Kd.R_drewN | apply Kd.R_drew)); exact (Kd.R_mono (Kd.R_far (p := ⟨gb439, 3, none⟩) (Kd.R_far (p := ⟨gb439, 2, none⟩) (Kd.R_far (p := ⟨gb439, 1, none⟩) (Kd.R_far (p := ⟨gb439, 0, none⟩) (Kd.R_types HO437.out BK439.out (by decide)) (fun _ hk => hk.2) (.int .i64 t432)) (fun _ hk => hk.2) (.int .i64 t433)) (fun _ hk => hk.2) (.int .i64 t434)) (fun _ hk => hk.2) (.slice Ao19 t435.length co19)) (fun _ h_ => h_.1))) hb); have n2_ := Aside0.mk (blk_below (g := gb425) (o := .cells #[.int .i64 a0_0, .int .i64 a0_1, .int .i64 a0_2, .slice A0_3 l0_3.length c0_3] 26 (0, 0)) (by (with_reducible repeat (first | refine blk_drewN ?_ _ | refine blk_drew ?_ | refine blk_alloc ?_ _)); refine blk_far ?_ NB425_439.out _; (with_reducible repeat (first | refine blk_drewN ?_ _ | refine blk_drew ?_ | refine blk_alloc ?_ _)); refine blk_far ?_ NB425_439.out _; (with_reducible repeat (first | refine blk_drewN ?_ _ | refine blk_drew ?_ | refine blk_alloc ?_ _)); refine blk_far ?_ NB425_439.out _; (with_reducible repeat (first | refine blk_drewN ?_ _ | refine blk_drew ?_ | refine blk_alloc ?_ _)); refine blk_far ?_ NB425_439.out _; (with_reducible repeat (first | refine blk_drewN ?_ _ | refine blk_drew ?_ | refine blk_alloc ?_ _)); exact BK425.out) hb); have n3_ := Aside0.mk (blk_below (g := gb439) (o := .cells #[.int .i64 t432, .int .i64 t433, .int .i64 t434, .slice Ao19 t435.length co19] 26 (0, 0)) (by (with_reducible repeat (first | refine blk_drewN ?_ _ | refine blk_drew ?_ | refine blk_alloc ?_ _)); refine blk_put (cs := #[.int .i64 t432, .int .i64 t433, .int .i64 t434, .slice none 0 0]) ?_ 3 _ rfl; (with_reducible repeat (first | refine blk_drewN ?_ _ | refine blk_drew ?_ | refine blk_alloc ?_ _)); refine blk_put (cs := #[.int .i64 t432, .int .i64 t433, .int .i64 0, .slice none 0 0]) ?_ 2 _ rfl; (with_reducible repeat (first | refine blk_drewN ?_ _ | refine blk_drew ?_ | refine blk_alloc ?_ _)); refine blk_put (cs := #[.int .i64 t432, .int .i64 0, .int .i64 0, .slice none 0 0]) ?_ 1 _ rfl; (with_reducible repeat (first | refine blk_drewN ?_ _ | refine blk_drew ?_ | refine blk_alloc ?_ _)); refine blk_put (cs := #[.int .i64 0, .int .i64 0, .int .i64 0, .slice none 0 0]) ?_ 0 _ rfl; (with_reducible repeat (first | refine blk_drewN ?_ _ | refine blk_drew ?_ | refine blk_alloc ?_ _)); exact BK439.out) hb); have n4_ := Aside0.mk (below_step (by repeat (first | (with_reducible first | exact HB.out | apply below_alloc | apply pw_below_drewN | apply below_drew1 | refine below_set ?_ GE425.out | refine below_set ?_ GE439.out) | exact HB.out)) hb); clear HO429; clear HO437; clear BK425; clear BK439; clear HB; have HO429 := n0_; have HO437 := n1_; have BK425 := n2_; have BK439 := n3_; have HB := n4_; clear n0_ n1_ n2_ n3_ n4_; (try clear hb); (try clear hb2); (try clear hk); (try clear hi); have hnb27 := NB439_425.out; have hnc27 := NB425_439.out; have hcz28_0 : w26.cell? ⟨gb439, 0, none⟩ = some (.int .i64 t432) := (blk_cell BK439.out 0).trans rfl; have hcz28_1 : w26.cell? ⟨gb439, 1, none⟩ = some (.int .i64 t433) := (blk_cell BK439.out 1).trans rfl; have hcz28_2 : w26.cell? ⟨gb439, 2, none⟩ = some (.int .i64 t434) := (blk_cell BK439.out 2).trans rfl; have hcz28_3 : w26.cell? ⟨gb439, 3, none⟩ = some (.slice Ao19 t435.length co19) := (blk_cell BK439.out 3).trans rfl; have hfz28_0 := blk_frozen BK439.out 0; have hfz28_1 := blk_frozen BK439.out 1; have hfz28_2 := blk_frozen BK439.out 2; have hfz28_3 := blk_frozen BK439.out 3; have hcz29_0 : w26.cell? ⟨gb425, 0, none⟩ = some (.int .i64 a0_0) := (blk_cell BK425.out 0).trans rfl; have hcz29_1 : w26.cell? ⟨gb425, 1, none⟩ = some (.int .i64 a0_1) := (blk_cell BK425.out 1).trans rfl; have hcz29_2 : w26.cell? ⟨gb425, 2, none⟩ = some (.int .i64 a0_2) := (blk_cell BK425.out 2).trans rfl; have hcz29_3 : w26.cell? ⟨gb425, 3, none⟩ = some (.slice A0_3 l0_3.length c0_3) := (blk_cell BK425.out 3).trans rfl; have hfz29_0 := blk_frozen BK425.out 0; have hfz29_1 := blk_frozen BK425.out 1; have hfz29_2 := blk_frozen BK425.out 2; have hfz29_3 := blk_frozen BK425.out 3) | (go_at_call 20; (with_reducible refine (flash_Same.calls t432 t433 t434 _ _ t435 a0_0 a0_1 a0_2 _ _ l0_3 true _ ?side1 ?side2 ?side3 ?side4 A23.out).mono ?_); (case side1 => repeat (first | exact (Kd.R_reads' HO437.out).2.2 | (with_reducible refine Kd.C_alloc ?_ _) | (with_reducible refine Kd.C_drewN ?_ _) | (with_reducible refine Kd.C_drew ?_))); (case side2 => exact (Kd.R_reads' HO437.out).2.1); (case side3 => repeat (first | exact (Kd.C_below HR0_3.out HB.out) | (with_reducible refine Kd.C_alloc ?_ _) | (with_reducible refine Kd.C_drewN ?_ _) | (with_reducible refine Kd.C_drew ?_))); (case side4 => exact HC0_3.out); rintro e w30 ⟨rfl, hb⟩; have n0_ := Aside0.mk (Kd.R_below (by (with_reducible repeat (first | apply Kd.R_alloc | apply Kd.R_drewN | apply Kd.R_drew)); exact HO429.out) hb); have n1_ := Aside0.mk (Kd.R_below (by (with_reducible repeat (first | apply Kd.R_alloc | apply Kd.R_drewN | apply Kd.R_drew)); exact HO437.out) hb); have n2_ := Aside0.mk (blk_below (g := gb425) (o := .cells #[.int .i64 a0_0, .int .i64 a0_1, .int .i64 a0_2, .slice A0_3 l0_3.length c0_3] 26 (0, 0)) (by (with_reducible repeat (first | refine blk_drewN ?_ _ | refine blk_drew ?_ | refine blk_alloc ?_ _)); exact BK425.out) hb); have n3_ := Aside0.mk (blk_below (g := gb439) (o := .cells #[.int .i64 t432, .int .i64 t433, .int .i64 t434, .slice Ao19 t435.length co19] 26 (0, 0)) (by (with_reducible repeat (first | refine blk_drewN ?_ _ | refine blk_drew ?_ | refine blk_alloc ?_ _)); exact BK439.out) hb); have n4_ := Aside0.mk (below_step (by repeat (first | (with_reducible first | exact HB.out | apply below_alloc | apply pw_below_drewN | apply below_drew1 | refine below_set ?_ GE425.out | refine below_set ?_ GE439.out) | exact HB.out)) hb); clear HO429; clear HO437; clear BK425; clear BK439; clear HB; have HO429 := n0_; have HO437 := n1_; have BK425 := n2_; have BK439 := n3_; have HB := n4_; clear n0_ n1_ n2_ n3_ n4_; (try clear hb); (try clear hb2); (try clear hk); (try clear hi); have hcz31_0 : w30.cell? ⟨gb439, 0, none⟩ = some (.int .i64 t432) := (blk_cell BK439.out 0).trans rfl; have hcz31_1 : w30.cell? ⟨gb439, 1, none⟩ = some (.int .i64 t433) := (blk_cell BK439.out 1).trans rfl; have hcz31_2 : w30.cell? ⟨gb439, 2, none⟩ = some (.int .i64 t434) := (blk_cell BK439.out 2).trans rfl; have hcz31_3 : w30.cell? ⟨gb439, 3, none⟩ = some (.slice Ao19 t435.length co19) := (blk_cell BK439.out 3).trans rfl; have hfz31_0 := blk_frozen BK439.out 0; have hfz31_1 := blk_frozen BK439.out 1; have hfz31_2 := blk_frozen BK439.out 2; have hfz31_3 := blk_frozen BK439.out 3; have hcz32_0 : w30.cell? ⟨gb425, 0, none⟩ = some (.int .i64 a0_0) := (blk_cell BK425.out 0).trans rfl; have hcz32_1 : w30.cell? ⟨gb425, 1, none⟩ = some (.int .i64 a0_1) := (blk_cell BK425.out 1).trans rfl; have hcz32_2 : w30.cell? ⟨gb425, 2, none⟩ = some (.int .i64 a0_2) := (blk_cell BK425.out 2).trans rfl; have hcz32_3 : w30.cell? ⟨gb425, 3, none⟩ = some (.slice A0_3 l0_3.length c0_3) := (blk_cell BK425.out 3).trans rfl; have hfz32_0 := blk_frozen BK425.out 0; have hfz32_1 := blk_frozen BK425.out 1; have hfz32_2 := blk_frozen BK425.out 2; have hfz32_3 := blk_frozen BK425.out 3) | (go_at_call 16; (with_reducible refine (newelref12_Same.calls k t432 t433 t434 _ _ t435 a0_0 a0_1 a0_2 _ _ l0_3 t442 _ ?side1 ?side2 ?side3 ?side4 A25.out).mono ?_); (case side1 => repeat (first | exact (Kd.R_reads' HO437.out).2.2 | (with_reducible refine Kd.C_alloc ?_ _) | (with_reducible refine Kd.C_drewN ?_ _) | (with_reducible refine Kd.C_drew ?_))); (case side2 => exact (Kd.R_reads' HO437.out).2.1); (case side3 => repeat (first | exact (Kd.C_below HR0_3.out HB.out) | (with_reducible refine Kd.C_alloc ?_ _) | (with_reducible refine Kd.C_drewN ?_ _) | (with_reducible refine Kd.C_drew ?_))); (case side4 => exact HC0_3.out); rintro e w33 ⟨rfl, hb⟩; have n0_ := Aside0.mk (Kd.R_below (by (with_reducible repeat (first | apply Kd.R_alloc | apply Kd.R_drewN | apply Kd.R_drew)); exact HO429.out) hb); have n1_ := Aside0.mk (Kd.R_below (by (with_reducible repeat (first | apply Kd.R_alloc | apply Kd.R_drewN | apply Kd.R_drew)); exact HO437.out) hb); have n2_ := Aside0.mk (blk_below (g := gb425) (o := .cells #[.int .i64 a0_0, .int .i64 a0_1, .int .i64 a0_2, .slice A0_3 l0_3.length c0_3] 26 (0, 0)) (by (with_reducible repeat (first | refine blk_drewN ?_ _ | refine blk_drew ?_ | refine blk_alloc ?_ _)); exact BK425.out) hb); have n3_ := Aside0.mk (blk_below (g := gb439) (o := .cells #[.int .i64 t432, .int .i64 t433, .int .i64 t434, .slice Ao19 t435.length co19] 26 (0, 0)) (by (with_reducible repeat (first | refine blk_drewN ?_ _ | refine blk_drew ?_ | refine blk_alloc ?_ _)); exact BK439.out) hb); have n4_ := Aside0.mk (below_step (by repeat (first | (with_reducible first | exact HB.out | apply below_alloc | apply pw_below_drewN | apply below_drew1 | refine below_set ?_ GE425.out | refine below_set ?_ GE439.out) | exact HB.out)) hb); clear HO429; clear HO437; clear BK425; clear BK439; clear HB; have HO429 := n0_; have HO437 := n1_; have BK425 := n2_; have BK439 := n3_; have HB := n4_; clear n0_ n1_ n2_ n3_ n4_; (try clear hb); (try clear hb2); (try clear hk); (try clear hi)))
       go_meet
       case rel => exact ⟨_, (t442), (by first | rfl | (simp; done) | (simp [*]; done)), H', ⟨by first | omega | exact Nat.le_refl _⟩, ⟨by (with_reducible repeat (first | apply Kd.R_alloc | apply Kd.R_drewN | apply Kd.R_drew)); exact Kd.R_mono HO437.out (fun _ hk => trivial)⟩, ⟨by (with_reducible repeat (first | refine blk_drewN ?_ _ | refine blk_drew ?_ | refine blk_alloc ?_ _)); exact BK425.out⟩, ⟨by (with_reducible repeat (first | refine blk_drewN ?_ _ | refine blk_drew ?_ | refine blk_alloc ?_ _)); exact BK439.out⟩, ⟨by repeat (first | (with_reducible first | exact HB.out | apply below_alloc | apply pw_below_drewN | apply below_drew1 | refine below_set ?_ GE425.out | refine below_set ?_ GE439.out) | exact HB.out)⟩⟩
      ·replace c24 := Bool.eq_false_iff.mpr c24
       subst c24
       have H1 : (none) = some r := by rw [if_neg (show ¬ (false = true) by decide)] at H; exact H
       clear H
       have H := H1
       clear H1
       exact absurd H (by simp)
     ·rw [if_neg c22] at H
      exact absurd H (by simp)
    ·replace c21 := Bool.eq_false_iff.mpr c21
     subst c21
     have H1 : (none) = some r := by rw [if_neg (show ¬ (false = true) by decide)] at H; exact H
     clear H
     have H := H1
     clear H1
     exact absurd H (by simp)
   case rest =>
    clear HC10
    try clear c1
    try clear c2
    try clear c2b0
    try clear c2b1
    try clear p2
    try clear c4
    try clear c8
    try clear c8b0
    try clear c8b1
    try clear c10
    try clear c17
    try clear c18
    try clear c19
    try clear c21
    try clear c22
    try clear c22b0
    try clear c22b1
    try clear c24
    try clear c27
    try clear hcz12_0
    try clear hcz12_1
    try clear hcz12_2
    try clear hcz12_3
    try clear hcz18_0
    try clear hcz18_1
    try clear hcz18_2
    try clear hcz18_3
    try clear hcz28_0
    try clear hcz28_1
    try clear hcz28_2
    try clear hcz28_3
    try clear hcz29_0
    try clear hcz29_1
    try clear hcz29_2
    try clear hcz29_3
    try clear hcz31_0
    try clear hcz31_1
    try clear hcz31_2
    try clear hcz31_3
    try clear hcz32_0
    try clear hcz32_1
    try clear hcz32_2
    try clear hcz32_3
    try clear hcz5_0
    try clear hcz5_1
    try clear hcz5_2
    try clear hcz5_3
    try clear hfz12_0
    try clear hfz12_1
    try clear hfz12_2
    try clear hfz12_3
    try clear hfz18_0
    try clear hfz18_1
    try clear hfz18_2
    try clear hfz18_3
    try clear hfz28_0
    try clear hfz28_1
    try clear hfz28_2
    try clear hfz28_3
    try clear hfz29_0
    try clear hfz29_1
    try clear hfz29_2
    try clear hfz29_3
    try clear hfz31_0
    try clear hfz31_1
    try clear hfz31_2
    try clear hfz31_3
    try clear hfz32_0
    try clear hfz32_1
    try clear hfz32_2
    try clear hfz32_3
    try clear hfz5_0
    try clear hfz5_1
    try clear hfz5_2
    try clear hfz5_3
    obtain ⟨kq, x2_9, rfl, HA, HJ9, HO_440003, BK425, BK439, HB⟩ := hcut
    cases kq with
    | zero => exact absurd HA.out (by simp [newellaw12_FlashBack.j0])
    | succ kj9 =>
     have H := HA.out
     clear HA
     simp only [newellaw12_FlashBack.j0] at H
     obtain rfl := Option.some.inj H
     go_wp2
     go_ret
     exact ⟨by first | rfl | (simp [errW_none, errW_some] <;> rfl) | (simp [*, errW_none, errW_some] <;> rfl), by repeat (first | (with_reducible first | exact HB.out | apply below_alloc | apply pw_below_drewN | apply below_drew1 | refine below_set ?_ GE425.out | refine below_set ?_ GE439.out) | exact HB.out)⟩
  ·rw [if_neg c8] at H
   have c8b0 : (t430 == 0) = false := beq_eq_false_iff_ne.mpr c8
   have c8b1 : (t430 != 0) = true := bne_iff_ne.mpr c8
   replace H := Option.bind_eq_some_iff.mp H
   obtain ⟨t431, A340, H⟩ := H
   replace H : (if t431 = true then (some ((t427.length : Int) == 0)) else (none)) = some r := H
   have A34 := Aside0.mk A340
   clear A340
   by_cases c35 : t431 = true
   ·subst c35
    have H1 : (some ((t427.length : Int) == 0)) = some r := by rw [if_pos rfl] at H; exact H
    clear H
    have H := H1
    clear H1
    obtain rfl := Option.some.inj H
    go_enter Tryd.func4, Tryd.ntmps4
    go_wp2_with (first | ((with_reducible refine gate_dst (N := 1) rfl ?_); (try (refine gate_guard (by rfl) ?_; dsimp only)); refine box_event ?hg (N := 1) ?hd (cs := #[.int .i64 a0_0, .int .i64 a0_1, .int .i64 a0_2, .slice A0_3 l0_3.length c0_3]) (t := 26) ?hr ?_; (case hd => rfl); (case hg => rfl); (case hr => first | (go_simp; done) | (go_simp; rfl)); intro gb425 hg w36 hbox hb; have n0_ := Aside0.mk (below_step (by repeat (first | (with_reducible first | exact HB.out | apply below_alloc | apply pw_below_drewN | apply below_drew1) | exact HB.out)) hb); have n1_ := Aside0.mk (hbox); have n2_ := Aside0.mk ((by rw [hg]; exact (below_size (by repeat (first | (with_reducible first | exact HB.out | apply below_alloc | apply pw_below_drewN | apply below_drew1) | exact HB.out))) : w.heap.size ≤ gb425)); have n3_ := Aside0.mk ((by rw [hg]; exact (below_size (by repeat (first | (with_reducible first | exact HB.out | apply below_alloc | apply pw_below_drewN | apply below_drew1) | exact HB.out))) : w.heap.size ≤ gb425)); clear HB; have HB := n0_; have BK425 := n1_; have GW425 := n2_; have GE425 := n3_; clear n0_ n1_ n2_ n3_; clear hb hbox hg; have hcz37_0 : w36.cell? ⟨gb425, 0, none⟩ = some (.int .i64 a0_0) := (blk_cell BK425.out 0).trans rfl; have hcz37_1 : w36.cell? ⟨gb425, 1, none⟩ = some (.int .i64 a0_1) := (blk_cell BK425.out 1).trans rfl; have hcz37_2 : w36.cell? ⟨gb425, 2, none⟩ = some (.int .i64 a0_2) := (blk_cell BK425.out 2).trans rfl; have hcz37_3 : w36.cell? ⟨gb425, 3, none⟩ = some (.slice A0_3 l0_3.length c0_3) := (blk_cell BK425.out 3).trans rfl; have hfz37_0 := blk_frozen BK425.out 0; have hfz37_1 := blk_frozen BK425.out 1; have hfz37_2 := blk_frozen BK425.out 2; have hfz37_3 := blk_frozen BK425.out 3) | ((with_reducible refine gate_callee (f := 18) rfl ?_); refine goesL_ (some 14) rfl rfl Tryd.func18 (by kernel_rfl) rfl #[.agg #[.int .i64 a0_0, .int .i64 a0_1, .int .i64 a0_2, .slice A0_3 l0_3.length c0_3]] rfl (by (try simp only [List.map_toArray, List.map_cons, List.map_nil]); first | done | rfl | (simp only [List.length_drop, List.length_take]; rfl)) ?_; (with_reducible refine (flash_Code.calls k a0_0 a0_1 a0_2 _ _ l0_3 t427 t430 _ ?side1 ?side2 A7.out (by first | exact HTAB.out | ((repeat (first | exact HTAB.out | (with_reducible refine Laid.tab_alloc ?_ _) | (with_reducible refine Laid.tab_drewN ?_ _) | (with_reducible refine Laid.tab_drew ?_))); done) | (refine Laid.tab_below' HTAB.out ?_; (repeat (first | (with_reducible first | exact HB.out | apply below_alloc | apply pw_below_drewN | apply below_drew1) | exact HB.out | (refine below_set ?_ (Aside0.out (by assumption)))))))).mono ?_); (case side1 => repeat (first | exact (Kd.C_below HR0_3.out HB.out) | (with_reducible refine Kd.C_alloc ?_ _) | (with_reducible refine Kd.C_drewN ?_ _) | (with_reducible refine Kd.C_drew ?_))); (case side2 => exact HC0_3.out); rintro e w38 ⟨v428, rfl, ho0, hb⟩; refine ⟨_, rfl, ?_⟩; have n0_ := Aside0.mk (Kd.R_lower ho0 (below_size (by repeat (first | (with_reducible first | exact HB.out | apply below_alloc | apply pw_below_drewN | apply below_drew1 | refine below_set ?_ GE425.out) | exact HB.out)))); have n1_ := Aside0.mk (blk_below (g := gb425) (o := .cells #[.int .i64 a0_0, .int .i64 a0_1, .int .i64 a0_2, .slice A0_3 l0_3.length c0_3] 26 (0, 0)) (by (with_reducible repeat (first | refine blk_drewN ?_ _ | refine blk_drew ?_ | refine blk_alloc ?_ _)); exact BK425.out) hb); have n2_ := Aside0.mk (below_step (by repeat (first | (with_reducible first | exact HB.out | apply below_alloc | apply pw_below_drewN | apply below_drew1 | refine below_set ?_ GE425.out) | exact HB.out)) hb); clear BK425; clear HB; have HO429 := n0_; have BK425 := n1_; have HB := n2_; clear n0_ n1_ n2_; (try clear hb); (try clear hb2); (try clear hk); (try clear hi); (try clear ho0)) | ((with_reducible refine gate_callee (f := 10) rfl ?_); refine goesL_ (some 19) rfl rfl Tryd.func10 (by kernel_rfl) rfl #[] rfl (by (try simp only [List.map_toArray, List.map_cons, List.map_nil]); first | done | rfl | (simp only [List.length_drop, List.length_take]; rfl)) ?_; (with_reducible refine (newellaw12_awake.calls k  true _ A34.out (by first | exact HTAB.out | ((repeat (first | exact HTAB.out | (with_reducible refine Laid.tab_alloc ?_ _) | (with_reducible refine Laid.tab_drewN ?_ _) | (with_reducible refine Laid.tab_drew ?_))); done) | (refine Laid.tab_below' HTAB.out ?_; (repeat (first | (with_reducible first | exact HB.out | apply below_alloc | apply pw_below_drewN | apply below_drew1) | exact HB.out | (refine below_set ?_ (Aside0.out (by assumption)))))))).mono ?_); rintro e w39 ⟨rfl, hb⟩; refine ⟨_, rfl, ?_⟩; have n0_ := Aside0.mk (Kd.R_below (by (with_reducible repeat (first | apply Kd.R_alloc | apply Kd.R_drewN | apply Kd.R_drew)); exact HO429.out) hb); have n1_ := Aside0.mk (blk_below (g := gb425) (o := .cells #[.int .i64 a0_0, .int .i64 a0_1, .int .i64 a0_2, .slice A0_3 l0_3.length c0_3] 26 (0, 0)) (by (with_reducible repeat (first | refine blk_drewN ?_ _ | refine blk_drew ?_ | refine blk_alloc ?_ _)); exact BK425.out) hb); have n2_ := Aside0.mk (below_step (by repeat (first | (with_reducible first | exact HB.out | apply below_alloc | apply pw_below_drewN | apply below_drew1 | refine below_set ?_ GE425.out) | exact HB.out)) hb); clear HO429; clear BK425; clear HB; have HO429 := n0_; have BK425 := n1_; have HB := n2_; clear n0_ n1_ n2_; (try clear hb); (try clear hb2); (try clear hk); (try clear hi); obtain ⟨Ao40, co40, eo40⟩ := Kd.R_slice HO429.out; subst eo40))
    go_ret
    exact ⟨by first | rfl | (simp [errW_none, errW_some] <;> rfl) | (simp [*, errW_none, errW_some] <;> rfl), by repeat (first | (with_reducible first | exact HB.out | apply below_alloc | apply pw_below_drewN | apply below_drew1 | refine below_set ?_ GE425.out) | exact HB.out)⟩
   ·replace c35 := Bool.eq_false_iff.mpr c35
    subst c35
    have H1 : (none) = some r := by rw [if_neg (show ¬ (false = true) by decide)] at H; exact H
    clear H
    have H := H1
    clear H1
    exact absurd H (by simp)

end Go.Proofs.YtickbejailcehaaDoor.C
