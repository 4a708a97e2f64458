-- Written by a program of this session (wip/pp: the kit's print, changed), out of the translation. Lean checks it.
import Derived.Test.YtickbejailcehaaDoorQ1
import Derived.Test.YtickbejailcehaaDoorQ4
import Derived.Test.YtickbejailcehaaDoorQ3
import Derived.Test.YtickbejailcehaaDoorQ2
namespace Go.Proofs.YtickbejailcehaaDoor.C
open Go.RowKit Go.Proofs.YtickbejailcehaaDoorW.PrintWords Go.Proofs.YtickbejailcehaaDoorW.PrintLast Go.Proofs.YtickbejailcehaaDoorW.PrintMore
attribute [local go_sem] max2_int min2_int max_two min_two max_three min_three max_four min_four   -- for this text's walks alone
set_option linter.unusedVariables false
set_option linter.unusedSimpArgs false

/-! ### newellaw12_FlashOnly: function 5 -/
def newellaw12_FlashOnly.j0 : Nat → Bool → Option (Bool)
 | 0, _ => none
 | k + 1, x2 => some x2
def newellaw12_FlashOnly.f (k : Nat) (l0 : List Int) : Option (Bool) := if (l0.length : Int) > 5000 then ((newellaw12_awake.f k).bind fun t443 => (some t443)) else ((some (([] : List Int) : List Int)).bind fun y444 => (if y444.length + l0.length < 140737488355328 then ((flash_Read.f k (y444 ++ l0)).bind fun bt450 => (if bt450.2.2.2.2 = 0 then ((flash_Code.f k bt450.1 bt450.2.1 bt450.2.2.1 bt450.2.2.2.1).bind fun bt460 => ((newellaw12_awake.f k).bind fun t464 => (if t464 = true then (if bt460.2 = 0 then ((newelref08_Same.f k l0 bt460.1).bind fun t465 => (newellaw12_FlashOnly.j0 k t465)) else (none)) else (none)))) else ((newellaw12_awake.f k).bind fun t458 => (if t458 = true then ((newelref12_Same.f k bt450.1 bt450.2.1 bt450.2.2.1 bt450.2.2.2.1 0 0 0 ([] : List Int)).bind fun t459 => (some t459)) else (none))))) else (none)))
theorem newellaw12_FlashOnly.mono_l : ∀ k, (∀ y0, LeO (newellaw12_FlashOnly.j0 k y0) (newellaw12_FlashOnly.j0 (k + 1) y0))
 | 0 => fun _ r h => by simp [newellaw12_FlashOnly.j0] at h
 | k + 1 => by
  have ih0 := newellaw12_FlashOnly.mono_l k
  ·intro y0
   unfold newellaw12_FlashOnly.j0
   repeat' first
   | (with_reducible exact ih0 _)
   | (with_reducible exact flash_Code.mono _ _ _ _ _)
   | (with_reducible exact flash_Read.mono _ _)
   | (with_reducible exact newellaw12_awake.mono _)
   | (with_reducible exact newelref08_Same.mono _ _ _)
   | (with_reducible exact newelref12_Same.mono _ _ _ _ _ _ _ _ _)
   | (with_reducible exact LeO.refl _)
   | (with_reducible exact LeO.none _)
   | (with_reducible refine LeO.ite ?_ ?_)
   | (with_reducible refine LeO.bind ?_ (fun _ => ?_))
   | exact ih0 _
   | exact flash_Code.mono _ _ _ _ _
   | exact flash_Read.mono _ _
   | exact newellaw12_awake.mono _
   | exact newelref08_Same.mono _ _ _
   | exact newelref12_Same.mono _ _ _ _ _ _ _ _ _
   | exact LeO.none _
   | refine LeO.ite ?_ ?_
   | refine LeO.bind ?_ (fun _ => ?_)
theorem newellaw12_FlashOnly.mono : ∀ a0 k, LeO (newellaw12_FlashOnly.f k a0) (newellaw12_FlashOnly.f (k + 1) a0) := by
 intro a0 k
 have ih0 := newellaw12_FlashOnly.mono_l k
 unfold newellaw12_FlashOnly.f
 repeat' first
   | (with_reducible exact ih0 _)
   | (with_reducible exact flash_Code.mono _ _ _ _ _)
   | (with_reducible exact flash_Read.mono _ _)
   | (with_reducible exact newellaw12_awake.mono _)
   | (with_reducible exact newelref08_Same.mono _ _ _)
   | (with_reducible exact newelref12_Same.mono _ _ _ _ _ _ _ _ _)
   | (with_reducible exact LeO.refl _)
   | (with_reducible exact LeO.none _)
   | (with_reducible refine LeO.ite ?_ ?_)
   | (with_reducible refine LeO.bind ?_ (fun _ => ?_))
   | exact ih0 _
   | exact flash_Code.mono _ _ _ _ _
   | exact flash_Read.mono _ _
   | exact newellaw12_awake.mono _
   | exact newelref08_Same.mono _ _ _
   | exact newelref12_Same.mono _ _ _ _ _ _ _ _ _
   | exact LeO.none _
   | refine LeO.ite ?_ ?_
   | refine LeO.bind ?_ (fun _ => ?_)
theorem newelref12_Same.calls_nil12 (k : Nat) (a0_0 : Int) (a0_1 : Int) (a0_2 : Int) (A0_3 : Option Addr) (c0_3 : Nat) (l0_3 : List Int) (a1_0 : Int) (a1_1 : Int) (a1_2 : Int) (r : Bool) (w : World) (hr0_3 : Kd.C (Kd.int .u8) w A0_3 l0_3.length l0_3) (hc0_3 : l0_3.length ≤ c0_3) (h : newelref12_Same.f k a0_0 a0_1 a0_2 l0_3 a1_0 a1_1 a1_2 ([] : List Int) = some r) :
  Calls Tryd.prog 16 #[.agg #[.int .i64 a0_0, .int .i64 a0_1, .int .i64 a0_2, .slice A0_3 l0_3.length c0_3], .agg #[.int .i64 a1_0, .int .i64 a1_1, .int .i64 a1_2, .slice none 0 0]] w fun e w' => e = .returned (.bool r) ∧ Below w.heap.size w w' :=
 newelref12_Same.calls k a0_0 a0_1 a0_2 A0_3 c0_3 l0_3 a1_0 a1_1 a1_2 none 0 [] r w hr0_3 hc0_3 (Kd.C_nil _ _) (Nat.le_refl _) h
set_option maxHeartbeats 8000000 in
set_option maxRecDepth 100000 in
theorem newellaw12_FlashOnly.calls (k : Nat) (A0 : Option Addr) (c0 : Nat) (l0 : List Int) (r : Bool) (w : World) (hr0 : Kd.C (Kd.int .u8) w A0 l0.length l0) (hc0 : l0.length ≤ c0) (h : newellaw12_FlashOnly.f k l0 = some r) (ht_ : Laid.TabAt w) :
  Calls Tryd.prog 5 #[.slice A0 l0.length c0] w fun e w' => e = .returned (.bool r) ∧ Below w.heap.size w w' := by
 have HTAB := Aside0.mk ht_
 clear ht_
 have hu26 := Tryd.underlying26
 have HR0 := Aside0.mk hr0
 have HC0 := Aside0.mk hc0
 clear hr0 hc0
 have HB := Aside0.mk (Below.refl w.heap.size w)
 have H : (if (l0.length : Int) > 5000 then ((newellaw12_awake.f k).bind fun t443 => (some t443)) else ((some (([] : List Int) : List Int)).bind fun y444 => (if y444.length + l0.length < 140737488355328 then ((flash_Read.f k (y444 ++ l0)).bind fun bt450 => (if bt450.2.2.2.2 = 0 then ((flash_Code.f k bt450.1 bt450.2.1 bt450.2.2.1 bt450.2.2.2.1).bind fun bt460 => ((newellaw12_awake.f k).bind fun t464 => (if t464 = true then (if bt460.2 = 0 then ((newelref08_Same.f k l0 bt460.1).bind fun t465 => (newellaw12_FlashOnly.j0 k t465)) else (none)) else (none)))) else ((newellaw12_awake.f k).bind fun t458 => (if t458 = true then ((newelref12_Same.f k bt450.1 bt450.2.1 bt450.2.2.1 bt450.2.2.2.1 0 0 0 ([] : List Int)).bind fun t459 => (some t459)) else (none))))) else (none)))) = some r := h
 clear h
 by_cases c2 : (l0.length : Int) > 5000
 ·rw [if_pos c2] at H
  have c2b0 : decide (5000 < (l0.length : Int)) = true := decide_eq_true c2
  have c2b1 : decide (5000 < l0.length) = true := decide_eq_true (by omega)
  clear c2
  replace H := Option.bind_eq_some_iff.mp H
  obtain ⟨t443, A30, H⟩ := H
  replace H : (some t443) = some r := H
  have A3 := Aside0.mk A30
  clear A30
  obtain rfl := Option.some.inj H
  go_enter Tryd.func5, Tryd.ntmps5
  go_wp2_with (first | ((with_reducible refine gate_callee (f := 10) rfl ?_); refine goesL_ (some 10) rfl rfl Tryd.func10 (by kernel_rfl) rfl #[] rfl (by (try simp only [List.map_toArray, List.map_cons, List.map_nil]); first | done | rfl | (simp only [List.length_drop, List.length_take]; rfl)) ?_; (with_reducible refine (newellaw12_awake.calls k  t443 _ A3.out (by first | exact HTAB.out | ((repeat (first | exact HTAB.out | (with_reducible refine Laid.tab_alloc ?_ _) | (with_reducible refine Laid.tab_drewN ?_ _) | (with_reducible refine Laid.tab_drew ?_))); done) | (refine Laid.tab_below' HTAB.out ?_; (repeat (first | (with_reducible first | exact HB.out | apply below_alloc | apply pw_below_drewN | apply below_drew1) | exact HB.out | (refine below_set ?_ (Aside0.out (by assumption)))))))).mono ?_); rintro e w4 ⟨rfl, hb⟩; refine ⟨_, rfl, ?_⟩; have n0_ := Aside0.mk (below_step (by repeat (first | (with_reducible first | exact HB.out | apply below_alloc | apply pw_below_drewN | apply below_drew1) | exact HB.out)) hb); clear HB; have HB := n0_; clear n0_; (try clear hb); (try clear hb2); (try clear hk); (try clear hi)))
  go_ret
  exact ⟨by first | rfl | (simp [errW_none, errW_some] <;> rfl) | (simp [*, errW_none, errW_some] <;> rfl), by repeat (first | (with_reducible first | exact HB.out | apply below_alloc | apply pw_below_drewN | apply below_drew1) | exact HB.out)⟩
 ·rw [if_neg c2] at H
  have c2b0 : decide (5000 < (l0.length : Int)) = false := decide_eq_false c2
  have c2b1 : decide (5000 < l0.length) = false := decide_eq_false (by omega)
  clear c2
  obtain ⟨y444, hy444⟩ : ∃ y_ : List Int, y_ = (([] : List Int)) := ⟨_, rfl⟩
  replace H : (if y444.length + l0.length < 140737488355328 then ((flash_Read.f k (y444 ++ l0)).bind fun bt450 => (if bt450.2.2.2.2 = 0 then ((flash_Code.f k bt450.1 bt450.2.1 bt450.2.2.1 bt450.2.2.2.1).bind fun bt460 => ((newellaw12_awake.f k).bind fun t464 => (if t464 = true then (if bt460.2 = 0 then ((newelref08_Same.f k l0 bt460.1).bind fun t465 => (newellaw12_FlashOnly.j0 k t465)) else (none)) else (none)))) else ((newellaw12_awake.f k).bind fun t458 => (if t458 = true then ((newelref12_Same.f k bt450.1 bt450.2.1 bt450.2.2.1 bt450.2.2.2.1 0 0 0 ([] : List Int)).bind fun t459 => (some t459)) else (none))))) else (none)) = some r := by first | (rw [hy444]; with_reducible exact H) | (have H2_ := (Option.bind_some _ _).symm.trans H; rw [hy444]; with_reducible exact H2_) | (have H2_ := (Option.bind_some _ _).symm.trans H; with_reducible exact H2_) | with_reducible exact H | (rw [hy444]; exact H) | exact H
  have Ny444 := Aside0.mk hy444
  clear hy444
  by_cases c5 : y444.length + l0.length < 140737488355328
  ·rw [if_pos c5] at H
   have LMc5 := Aside0.mk c5
   clear c5
   obtain ⟨y447, hy447⟩ : ∃ y_ : List Int, y_ = (y444 ++ l0) := ⟨_, rfl⟩
   replace H : ((flash_Read.f k y447).bind fun bt450 => (if bt450.2.2.2.2 = 0 then ((flash_Code.f k bt450.1 bt450.2.1 bt450.2.2.1 bt450.2.2.2.1).bind fun bt460 => ((newellaw12_awake.f k).bind fun t464 => (if t464 = true then (if bt460.2 = 0 then ((newelref08_Same.f k l0 bt460.1).bind fun t465 => (newellaw12_FlashOnly.j0 k t465)) else (none)) else (none)))) else ((newellaw12_awake.f k).bind fun t458 => (if t458 = true then ((newelref12_Same.f k bt450.1 bt450.2.1 bt450.2.2.1 bt450.2.2.2.1 0 0 0 ([] : List Int)).bind fun t459 => (some t459)) else (none))))) = some r := by first | (rw [hy447]; with_reducible exact H) | (have H2_ := (Option.bind_some _ _).symm.trans H; rw [hy447]; with_reducible exact H2_) | (have H2_ := (Option.bind_some _ _).symm.trans H; with_reducible exact H2_) | with_reducible exact H | (rw [hy447]; exact H) | exact H
   have Ny447 := Aside0.mk hy447
   clear hy447
   replace H := Option.bind_eq_some_iff.mp H
   obtain ⟨⟨t450, t451, t452, t453, t456⟩, A60, H⟩ := H
   replace H : (if t456 = 0 then ((flash_Code.f k t450 t451 t452 t453).bind fun bt460 => ((newellaw12_awake.f k).bind fun t464 => (if t464 = true then (if bt460.2 = 0 then ((newelref08_Same.f k l0 bt460.1).bind fun t465 => (newellaw12_FlashOnly.j0 k t465)) else (none)) else (none)))) else ((newellaw12_awake.f k).bind fun t458 => (if t458 = true then ((newelref12_Same.f k t450 t451 t452 t453 0 0 0 ([] : List Int)).bind fun t459 => (some t459)) else (none)))) = some r := H
   have A6 := Aside0.mk A60
   clear A60
   by_cases c7 : t456 = 0
   ·rw [if_pos c7] at H
    have c7b0 : (t456 == 0) = true := beq_iff_eq.mpr c7
    have c7b1 : (t456 != 0) = false := bne_eq_false_iff_eq.mpr c7
    clear c7
    replace H := Option.bind_eq_some_iff.mp H
    obtain ⟨⟨t460, t463⟩, A80, H⟩ := H
    replace H : ((newellaw12_awake.f k).bind fun t464 => (if t464 = true then (if t463 = 0 then ((newelref08_Same.f k l0 t460).bind fun t465 => (newellaw12_FlashOnly.j0 k t465)) else (none)) else (none))) = some r := H
    have A8 := Aside0.mk A80
    clear A80
    have HC9 := Aside0.mk H
    clear H
    go_enter Tryd.func5, Tryd.ntmps5
    go_upto_region 7 with (first | ((with_reducible refine gate_dst (N := 12) rfl ?_); refine Kd.R_lit (Kd.int .u8) _ 5 ?hg (N := 12) ?hd (xs := ([] : List Int)) (inner := []) (ok := fun _ => True) (okp := fun _ => True) ?hr ?hp (fun _ hk => hk) trivial (Below.refl _ _) (Nat.le_refl _) (by simp) ?_; (case hd => rfl); (case hg => rfl); (case hr => first | (go_simp; done) | (go_simp; rfl)); (case hp => exact (Reps.none _ _)); intro v445 w10 ho11 hb hg_ hnew_; clear hg_ hnew_; (first | rw [← Ny444.out] at ho11 | (simp only [Int.reduceToNat] at ho11; rw [← Ny444.out] at ho11)); have n0_ := Aside0.mk (Kd.R_lower ho11 (below_size (by repeat (first | (with_reducible first | exact HB.out | apply below_alloc | apply pw_below_drewN | apply below_drew1) | exact HB.out)))); have n1_ := Aside0.mk (below_step (by repeat (first | (with_reducible first | exact HB.out | apply below_alloc | apply pw_below_drewN | apply below_drew1) | exact HB.out)) hb); clear HB; have HO446 := n0_; have HB := n1_; clear n0_ n1_; clear hb ho11) | ((with_reducible refine gate_builtin (b := .append) (xs := #[.tmp 12, .tmp 13]) rfl ?_); at_builtin; refine Kd.R_append_rows (Kd.int .u8) (w0 := w) w.heap.size rfl (.tmp 12) (.tmp 13) 22 5 (.int .u8 0) 1 rfl Tryd.underlying22 info5 rfl (by decide) (by omega) v445 y444 l0 _ _ _ (fun _ => True) (fun _ => False) rfl rfl ?aO ?aR (fun _ _ h => h) (fun _ h => h.elim) ?aF ?aB ?aS ?aL ?_; (case aR => repeat (first | exact (Kd.C_below HR0.out HB.out) | (with_reducible refine Kd.C_alloc ?_ _) | (with_reducible refine Kd.C_drewN ?_ _) | (with_reducible refine Kd.C_drew ?_))); (case aB => exact (by repeat (first | (with_reducible first | exact HB.out | apply below_alloc | apply pw_below_drewN | apply below_drew1) | exact HB.out))); (case aF => exact (fun _ _ => trivial)); (case aO => exact (by (with_reducible repeat (first | apply Kd.R_alloc | apply Kd.R_drewN | apply Kd.R_drew)); exact HO446.out)); (case aS => exact (below_size (by repeat (first | (with_reducible first | exact HB.out | apply below_alloc | apply pw_below_drewN | apply below_drew1) | exact HB.out)))); (case aL => have := LMc5.out; omega); intro v448 w12 ho hb hg hat; rw [← Ny447.out] at ho; have n0_ := Aside0.mk (hb); have n1_ := Aside0.mk (ho); clear HB; clear HO446; have HB := n0_; have HO449 := n1_; clear n0_ n1_; clear ho hb hg hat; obtain ⟨Ao13, co13, eo13⟩ := Kd.R_slice HO449.out; subst eo13) | ((with_reducible refine gate_callee (f := 19) rfl ?_); refine goesL_ (some 15) rfl rfl Tryd.func19 (by kernel_rfl) rfl #[.slice Ao13 y447.length co13] rfl (by (try simp only [List.map_toArray, List.map_cons, List.map_nil]); first | done | rfl | (simp only [List.length_drop, List.length_take]; rfl)) ?_; (with_reducible refine (flash_Read.calls k _ _ y447 t450 t451 t452 t453 t456 _ ?side1 ?side2 A6.out (by first | exact HTAB.out | ((repeat (first | exact HTAB.out | (with_reducible refine Laid.tab_alloc ?_ _) | (with_reducible refine Laid.tab_drewN ?_ _) | (with_reducible refine Laid.tab_drew ?_))); done) | (refine Laid.tab_below' HTAB.out ?_; (repeat (first | (with_reducible first | exact HB.out | apply below_alloc | apply pw_below_drewN | apply below_drew1) | exact HB.out | (refine below_set ?_ (Aside0.out (by assumption)))))))).mono ?_); (case side1 => repeat (first | exact (Kd.R_reads' HO449.out).2.2 | (with_reducible refine Kd.C_alloc ?_ _) | (with_reducible refine Kd.C_drewN ?_ _) | (with_reducible refine Kd.C_drew ?_))); (case side2 => exact (Kd.R_reads' HO449.out).2.1); rintro e w14 ⟨v454, rfl, ho0, hb⟩; refine ⟨_, rfl, ?_⟩; have n0_ := Aside0.mk (Kd.R_elder' (by (with_reducible repeat (first | apply Kd.R_alloc | apply Kd.R_drewN | apply Kd.R_drew)); exact HO449.out) (Kd.R_base ho0) hb); have n1_ := Aside0.mk (Kd.R_lower (Kd.R_new' ho0 (Kd.R_lt (by (with_reducible repeat (first | apply Kd.R_alloc | apply Kd.R_drewN | apply Kd.R_drew)); exact HO449.out))) (below_size (by repeat (first | (with_reducible first | exact HB.out | apply below_alloc | apply pw_below_drewN | apply below_drew1) | exact HB.out)))); have n2_ := Aside0.mk (below_step (by repeat (first | (with_reducible first | exact HB.out | apply below_alloc | apply pw_below_drewN | apply below_drew1) | exact HB.out)) hb); clear HO449; clear HB; have HO449 := n0_; have HO455 := n1_; have HB := n2_; clear n0_ n1_ n2_; (try clear hb); (try clear hb2); (try clear hk); (try clear hi); (try clear ho0)) | ((with_reducible refine gate_dst (N := 3) rfl ?_); refine box_event ?hg (N := 3) ?hd (cs := #[.int .i64 0, .int .i64 0, .int .i64 0, .slice none 0 0]) (t := 26) ?hr ?_; (case hd => rfl); (case hg => rfl); (case hr => first | (go_simp; done) | (go_simp; rfl)); intro gb457 hg w15 hbox hb; have n0_ := Aside0.mk (Kd.R_below (by (with_reducible repeat (first | apply Kd.R_alloc | apply Kd.R_drewN | apply Kd.R_drew)); exact HO449.out) hb); have n1_ := Aside0.mk (Kd.R_below (by (with_reducible repeat (first | apply Kd.R_alloc | apply Kd.R_drewN | apply Kd.R_drew)); exact HO455.out) hb); have n2_ := Aside0.mk (below_step (by repeat (first | (with_reducible first | exact HB.out | apply below_alloc | apply pw_below_drewN | apply below_drew1) | exact HB.out)) hb); have n3_ := Aside0.mk (hbox); have n4_ := Aside0.mk ((by rw [hg]; exact (below_size (by repeat (first | (with_reducible first | exact HB.out | apply below_alloc | apply pw_below_drewN | apply below_drew1) | exact HB.out))) : w.heap.size ≤ gb457)); have n5_ := Aside0.mk ((by rw [hg]; exact (below_size (by repeat (first | (with_reducible first | exact HB.out | apply below_alloc | apply pw_below_drewN | apply below_drew1) | exact HB.out))) : w.heap.size ≤ gb457)); clear HO449; clear HO455; clear HB; have HO449 := n0_; have HO455 := n1_; have HB := n2_; have BK457 := n3_; have GW457 := n4_; have GE457 := n5_; clear n0_ n1_ n2_ n3_ n4_ n5_; clear hb hbox hg; have hcz16_0 : w15.cell? ⟨gb457, 0, none⟩ = some (.int .i64 0) := (blk_cell BK457.out 0).trans rfl; have hcz16_1 : w15.cell? ⟨gb457, 1, none⟩ = some (.int .i64 0) := (blk_cell BK457.out 1).trans rfl; have hcz16_2 : w15.cell? ⟨gb457, 2, none⟩ = some (.int .i64 0) := (blk_cell BK457.out 2).trans rfl; have hcz16_3 : w15.cell? ⟨gb457, 3, none⟩ = some (.slice none 0 0) := (blk_cell BK457.out 3).trans rfl; have hfz16_0 := blk_frozen BK457.out 0; have hfz16_1 := blk_frozen BK457.out 1; have hfz16_2 := blk_frozen BK457.out 2; have hfz16_3 := blk_frozen BK457.out 3; obtain ⟨Ao17, co17, eo17⟩ := Kd.R_slice HO455.out; subst eo17) | ((with_reducible refine gate_callee (f := 18) rfl ?_); refine goesL_ (some 28) rfl rfl Tryd.func18 (by kernel_rfl) rfl #[.agg #[.int .i64 t450, .int .i64 t451, .int .i64 t452, .slice Ao17 t453.length co17]] rfl (by (try simp only [List.map_toArray, List.map_cons, List.map_nil]); first | done | rfl | (simp only [List.length_drop, List.length_take]; rfl)) ?_; (with_reducible refine (flash_Code.calls k t450 t451 t452 _ _ t453 t460 t463 _ ?side1 ?side2 A8.out (by first | exact HTAB.out | ((repeat (first | exact HTAB.out | (with_reducible refine Laid.tab_alloc ?_ _) | (with_reducible refine Laid.tab_drewN ?_ _) | (with_reducible refine Laid.tab_drew ?_))); done) | (refine Laid.tab_below' HTAB.out ?_; (repeat (first | (with_reducible first | exact HB.out | apply below_alloc | apply pw_below_drewN | apply below_drew1) | exact HB.out | (refine below_set ?_ (Aside0.out (by assumption)))))))).mono ?_); (case side1 => refine (Kd.R_reads' (e := 5) (base := w.heap.size) (ok := fun k_ => (True ∧ some k_ ≠ (.slice Ao13 y447.length co13 : Value).ownBlock)) (n := t453.length) (c := co17) ?_).2.2; exact (by (with_reducible repeat (first | apply Kd.R_alloc | apply Kd.R_drewN | apply Kd.R_drew)); exact (Kd.R_mono (Kd.R_far (p := ⟨gb457, 3, none⟩) (Kd.R_far (p := ⟨gb457, 2, none⟩) (Kd.R_far (p := ⟨gb457, 1, none⟩) (Kd.R_far (p := ⟨gb457, 0, none⟩) (Kd.R_types HO455.out BK457.out (by decide)) (fun _ hk => hk.2) (.int .i64 t450)) (fun _ hk => hk.2) (.int .i64 t451)) (fun _ hk => hk.2) (.int .i64 t452)) (fun _ hk => hk.2) (.slice Ao17 t453.length co17)) (fun _ h_ => h_.1)))); (case side2 => exact (Kd.R_reads' HO455.out).2.1); rintro e w18 ⟨v461, rfl, ho0, hb⟩; refine ⟨_, rfl, ?_⟩; have n0_ := Aside0.mk (Kd.R_elder' (by (with_reducible repeat (first | apply Kd.R_alloc | apply Kd.R_drewN | apply Kd.R_drew)); exact (Kd.R_mono (Kd.R_far (p := ⟨gb457, 3, none⟩) (Kd.R_far (p := ⟨gb457, 2, none⟩) (Kd.R_far (p := ⟨gb457, 1, none⟩) (Kd.R_far (p := ⟨gb457, 0, none⟩) (Kd.R_types HO449.out BK457.out (by decide)) (fun _ hk => hk.2) (.int .i64 t450)) (fun _ hk => hk.2) (.int .i64 t451)) (fun _ hk => hk.2) (.int .i64 t452)) (fun _ hk => hk.2) (.slice Ao17 t453.length co17)) (fun _ h_ => h_.1))) (Kd.R_base ho0) hb); have n1_ := Aside0.mk (Kd.R_elder' (by (with_reducible repeat (first | apply Kd.R_alloc | apply Kd.R_drewN | apply Kd.R_drew)); exact (Kd.R_mono (Kd.R_far (p := ⟨gb457, 3, none⟩) (Kd.R_far (p := ⟨gb457, 2, none⟩) (Kd.R_far (p := ⟨gb457, 1, none⟩) (Kd.R_far (p := ⟨gb457, 0, none⟩) (Kd.R_types HO455.out BK457.out (by decide)) (fun _ hk => hk.2) (.int .i64 t450)) (fun _ hk => hk.2) (.int .i64 t451)) (fun _ hk => hk.2) (.int .i64 t452)) (fun _ hk => hk.2) (.slice Ao17 t453.length co17)) (fun _ h_ => h_.1))) (Kd.R_base ho0) hb); have n2_ := Aside0.mk (Kd.R_lower (Kd.R_new' (Kd.R_new' ho0 (Kd.R_lt (by (with_reducible repeat (first | apply Kd.R_alloc | apply Kd.R_drewN | apply Kd.R_drew)); exact (Kd.R_mono (Kd.R_far (p := ⟨gb457, 3, none⟩) (Kd.R_far (p := ⟨gb457, 2, none⟩) (Kd.R_far (p := ⟨gb457, 1, none⟩) (Kd.R_far (p := ⟨gb457, 0, none⟩) (Kd.R_types HO449.out BK457.out (by decide)) (fun _ hk => hk.2) (.int .i64 t450)) (fun _ hk => hk.2) (.int .i64 t451)) (fun _ hk => hk.2) (.int .i64 t452)) (fun _ hk => hk.2) (.slice Ao17 t453.length co17)) (fun _ h_ => h_.1))))) (Kd.R_lt (by (with_reducible repeat (first | apply Kd.R_alloc | apply Kd.R_drewN | apply Kd.R_drew)); exact (Kd.R_mono (Kd.R_far (p := ⟨gb457, 3, none⟩) (Kd.R_far (p := ⟨gb457, 2, none⟩) (Kd.R_far (p := ⟨gb457, 1, none⟩) (Kd.R_far (p := ⟨gb457, 0, none⟩) (Kd.R_types HO455.out BK457.out (by decide)) (fun _ hk => hk.2) (.int .i64 t450)) (fun _ hk => hk.2) (.int .i64 t451)) (fun _ hk => hk.2) (.int .i64 t452)) (fun _ hk => hk.2) (.slice Ao17 t453.length co17)) (fun _ h_ => h_.1))))) (below_size (by repeat (first | (with_reducible first | exact HB.out | apply below_alloc | apply pw_below_drewN | apply below_drew1 | refine below_set ?_ GE457.out) | exact HB.out)))); have n3_ := Aside0.mk (blk_below (g := gb457) (o := .cells #[.int .i64 t450, .int .i64 t451, .int .i64 t452, .slice Ao17 t453.length co17] 26 (0, 0)) (by (with_reducible repeat (first | refine blk_drewN ?_ _ | refine blk_drew ?_ | refine blk_alloc ?_ _)); refine blk_put (cs := #[.int .i64 t450, .int .i64 t451, .int .i64 t452, .slice none 0 0]) ?_ 3 _ rfl; (with_reducible repeat (first | refine blk_drewN ?_ _ | refine blk_drew ?_ | refine blk_alloc ?_ _)); refine blk_put (cs := #[.int .i64 t450, .int .i64 t451, .int .i64 0, .slice none 0 0]) ?_ 2 _ rfl; (with_reducible repeat (first | refine blk_drewN ?_ _ | refine blk_drew ?_ | refine blk_alloc ?_ _)); refine blk_put (cs := #[.int .i64 t450, .int .i64 0, .int .i64 0, .slice none 0 0]) ?_ 1 _ rfl; (with_reducible repeat (first | refine blk_drewN ?_ _ | refine blk_drew ?_ | refine blk_alloc ?_ _)); refine blk_put (cs := #[.int .i64 0, .int .i64 0, .int .i64 0, .slice none 0 0]) ?_ 0 _ rfl; (with_reducible repeat (first | refine blk_drewN ?_ _ | refine blk_drew ?_ | refine blk_alloc ?_ _)); exact BK457.out) hb); have n4_ := Aside0.mk (below_step (by repeat (first | (with_reducible first | exact HB.out | apply below_alloc | apply pw_below_drewN | apply below_drew1 | refine below_set ?_ GE457.out) | exact HB.out)) hb); clear HO449; clear HO455; clear BK457; clear HB; have HO449 := n0_; have HO455 := n1_; have HO462 := n2_; have BK457 := n3_; have HB := n4_; clear n0_ n1_ n2_ n3_ n4_; (try clear hb); (try clear hb2); (try clear hk); (try clear hi); (try clear ho0)))
    (try simp only [Act.put, List.setIfInBounds_toArray, List.set_cons_zero, List.set_cons_succ])
    go_cut [2] (fun v2 wc => ∃ (kq : Nat) (x2_8 : Bool), v2 = .bool x2_8 ∧ Aside0 (newellaw12_FlashOnly.j0 kq x2_8 = some r) ∧ Aside0 (kq ≤ k) ∧ Aside0 (Kd.R (Kd.int .u8) 5 wc w.heap.size (fun _ => True) (.slice Ao17 t453.length co17) t453) ∧ Aside0 (wc.heap[gb457]? = some (.cells #[.int .i64 t450, .int .i64 t451, .int .i64 t452, (.slice Ao17 t453.length co17)] 26 (0, 0))) ∧ Aside0 (Below w.heap.size w wc))
    case first =>
     have H := HC9.out
     clear HC9
     replace H := Option.bind_eq_some_iff.mp H
     obtain ⟨t464, A190, H⟩ := H
     replace H : (if t464 = true then (if t463 = 0 then ((newelref08_Same.f k l0 t460).bind fun t465 => (newellaw12_FlashOnly.j0 k t465)) else (none)) else (none)) = some r := H
     have A19 := Aside0.mk A190
     clear A190
     by_cases c20 : t464 = true
     ·subst c20
      have H1 : (if t463 = 0 then ((newelref08_Same.f k l0 t460).bind fun t465 => (newellaw12_FlashOnly.j0 k t465)) else (none)) = some r := by rw [if_pos rfl] at H; exact H
      clear H
      have H := H1
      clear H1
      by_cases c21 : t463 = 0
      ·rw [if_pos c21] at H
       have c21b0 : (t463 == 0) = true := beq_iff_eq.mpr c21
       have c21b1 : (t463 != 0) = false := bne_eq_false_iff_eq.mpr c21
       clear c21
       (first | rw [c21b0] | (simp only [i64_w, i32_w]; rw [c21b0]) | skip)
       replace H := Option.bind_eq_some_iff.mp H
       obtain ⟨t465, A220, H⟩ := H
       replace H : (newellaw12_FlashOnly.j0 k t465) = some r := H
       have A22 := Aside0.mk A220
       clear A220
       have H' := Aside0.mk H
       clear H
       go_wp2_with (first | ((with_reducible refine gate_callee (f := 10) rfl ?_); refine goesL_ (some 31) rfl rfl Tryd.func10 (by kernel_rfl) rfl #[] rfl (by (try simp only [List.map_toArray, List.map_cons, List.map_nil]); first | done | rfl | (simp only [List.length_drop, List.length_take]; rfl)) ?_; (with_reducible refine (newellaw12_awake.calls k  true _ A19.out (by first | exact HTAB.out | ((repeat (first | exact HTAB.out | (with_reducible refine Laid.tab_alloc ?_ _) | (with_reducible refine Laid.tab_drewN ?_ _) | (with_reducible refine Laid.tab_drew ?_))); done) | (refine Laid.tab_below' HTAB.out ?_; (repeat (first | (with_reducible first | exact HB.out | apply below_alloc | apply pw_below_drewN | apply below_drew1) | exact HB.out | (refine below_set ?_ (Aside0.out (by assumption)))))))).mono ?_); rintro e w23 ⟨rfl, hb⟩; refine ⟨_, rfl, ?_⟩; have n0_ := Aside0.mk (Kd.R_below (by (with_reducible repeat (first | apply Kd.R_alloc | apply Kd.R_drewN | apply Kd.R_drew)); exact HO449.out) hb); have n1_ := Aside0.mk (Kd.R_below (by (with_reducible repeat (first | apply Kd.R_alloc | apply Kd.R_drewN | apply Kd.R_drew)); exact HO455.out) hb); have n2_ := Aside0.mk (Kd.R_below (by (with_reducible repeat (first | apply Kd.R_alloc | apply Kd.R_drewN | apply Kd.R_drew)); exact HO462.out) hb); have n3_ := Aside0.mk (blk_below (g := gb457) (o := .cells #[.int .i64 t450, .int .i64 t451, .int .i64 t452, .slice Ao17 t453.length co17] 26 (0, 0)) (by (with_reducible repeat (first | refine blk_drewN ?_ _ | refine blk_drew ?_ | refine blk_alloc ?_ _)); exact BK457.out) hb); have n4_ := Aside0.mk (below_step (by repeat (first | (with_reducible first | exact HB.out | apply below_alloc | apply pw_below_drewN | apply below_drew1 | refine below_set ?_ GE457.out) | exact HB.out)) hb); clear HO449; clear HO455; clear HO462; clear BK457; clear HB; have HO449 := n0_; have HO455 := n1_; have HO462 := n2_; have BK457 := n3_; have HB := n4_; clear n0_ n1_ n2_ n3_ n4_; (try clear hb); (try clear hb2); (try clear hk); (try clear hi); obtain ⟨Ao24, co24, eo24⟩ := Kd.R_slice HO462.out; subst eo24) | (go_at_call 17; (with_reducible refine (newelref08_Same.calls k _ _ l0 _ _ t460 t465 _ ?side1 ?side2 ?side3 ?side4 A22.out).mono ?_); (case side1 => repeat (first | exact (Kd.C_below HR0.out HB.out) | (with_reducible refine Kd.C_alloc ?_ _) | (with_reducible refine Kd.C_drewN ?_ _) | (with_reducible refine Kd.C_drew ?_))); (case side2 => exact HC0.out); (case side3 => repeat (first | exact (Kd.R_reads' HO462.out).2.2 | (with_reducible refine Kd.C_alloc ?_ _) | (with_reducible refine Kd.C_drewN ?_ _) | (with_reducible refine Kd.C_drew ?_))); (case side4 => exact (Kd.R_reads' HO462.out).2.1); rintro e w' ⟨rfl, ⟨nd, rfl⟩⟩))
       go_meet
       case rel => exact ⟨_, (t465), (by first | rfl | (simp; done) | (simp [*]; done)), H', ⟨by first | omega | exact Nat.le_refl _⟩, ⟨by (with_reducible repeat (first | apply Kd.R_alloc | apply Kd.R_drewN | apply Kd.R_drew)); exact Kd.R_mono HO455.out (fun _ hk => trivial)⟩, ⟨by (with_reducible repeat (first | refine blk_drewN ?_ _ | refine blk_drew ?_ | refine blk_alloc ?_ _)); exact BK457.out⟩, ⟨by repeat (first | (with_reducible first | exact HB.out | apply below_alloc | apply pw_below_drewN | apply below_drew1 | refine below_set ?_ GE457.out) | exact HB.out)⟩⟩
      ·rw [if_neg c21] at H
       exact absurd H (by simp)
     ·replace c20 := Bool.eq_false_iff.mpr c20
      subst c20
      have H1 : (none) = some r := by rw [if_neg (show ¬ (false = true) by decide)] at H; exact H
      clear H
      have H := H1
      clear H1
      exact absurd H (by simp)
    case rest =>
     clear HC9
     try clear c1
     try clear c2
     try clear c2b0
     try clear c2b1
     try clear p2
     try clear c5
     try clear c7
     try clear c7b0
     try clear c7b1
     try clear c10
     try clear c18
     try clear c19
     try clear c20
     try clear c21
     try clear c21b0
     try clear c21b1
     try clear hcz16_0
     try clear hcz16_1
     try clear hcz16_2
     try clear hcz16_3
     try clear hfz16_0
     try clear hfz16_1
     try clear hfz16_2
     try clear hfz16_3
     obtain ⟨kq, x2_8, rfl, HA, HJ8, HO_458003, BK457, HB⟩ := hcut
     cases kq with
     | zero => exact absurd HA.out (by simp [newellaw12_FlashOnly.j0])
     | succ kj8 =>
      have H := HA.out
      clear HA
      simp only [newellaw12_FlashOnly.j0] at H
      obtain rfl := Option.some.inj H
      go_wp2
      go_ret
      exact ⟨by first | rfl | (simp [errW_none, errW_some] <;> rfl) | (simp [*, errW_none, errW_some] <;> rfl), by repeat (first | (with_reducible first | exact HB.out | apply below_alloc | apply pw_below_drewN | apply below_drew1 | refine below_set ?_ GE457.out) | exact HB.out)⟩
   ·rw [if_neg c7] at H
    have c7b0 : (t456 == 0) = false := beq_eq_false_iff_ne.mpr c7
    have c7b1 : (t456 != 0) = true := bne_iff_ne.mpr c7
    replace H := Option.bind_eq_some_iff.mp H
    obtain ⟨t458, A250, H⟩ := H
    replace H : (if t458 = true then ((newelref12_Same.f k t450 t451 t452 t453 0 0 0 ([] : List Int)).bind fun t459 => (some t459)) else (none)) = some r := H
    have A25 := Aside0.mk A250
    clear A250
    by_cases c26 : t458 = true
    ·subst c26
     have H1 : ((newelref12_Same.f k t450 t451 t452 t453 0 0 0 ([] : List Int)).bind fun t459 => (some t459)) = some r := by rw [if_pos rfl] at H; exact H
     clear H
     have H := H1
     clear H1
     replace H := Option.bind_eq_some_iff.mp H
     obtain ⟨t459, A270, H⟩ := H
     replace H : (some t459) = some r := H
     have A27 := Aside0.mk A270
     clear A270
     obtain rfl := Option.some.inj H
     go_enter Tryd.func5, Tryd.ntmps5
     go_wp2_with (first | ((with_reducible refine gate_dst (N := 12) rfl ?_); refine Kd.R_lit (Kd.int .u8) _ 5 ?hg (N := 12) ?hd (xs := ([] : List Int)) (inner := []) (ok := fun _ => True) (okp := fun _ => True) ?hr ?hp (fun _ hk => hk) trivial (Below.refl _ _) (Nat.le_refl _) (by simp) ?_; (case hd => rfl); (case hg => rfl); (case hr => first | (go_simp; done) | (go_simp; rfl)); (case hp => exact (Reps.none _ _)); intro v445 w28 ho29 hb hg_ hnew_; clear hg_ hnew_; (first | rw [← Ny444.out] at ho29 | (simp only [Int.reduceToNat] at ho29; rw [← Ny444.out] at ho29)); have n0_ := Aside0.mk (Kd.R_lower ho29 (below_size (by repeat (first | (with_reducible first | exact HB.out | apply below_alloc | apply pw_below_drewN | apply below_drew1) | exact HB.out)))); have n1_ := Aside0.mk (below_step (by repeat (first | (with_reducible first | exact HB.out | apply below_alloc | apply pw_below_drewN | apply below_drew1) | exact HB.out)) hb); clear HB; have HO446 := n0_; have HB := n1_; clear n0_ n1_; clear hb ho29) | ((with_reducible refine gate_builtin (b := .append) (xs := #[.tmp 12, .tmp 13]) rfl ?_); at_builtin; refine Kd.R_append_rows (Kd.int .u8) (w0 := w) w.heap.size rfl (.tmp 12) (.tmp 13) 22 5 (.int .u8 0) 1 rfl Tryd.underlying22 info5 rfl (by decide) (by omega) v445 y444 l0 _ _ _ (fun _ => True) (fun _ => False) rfl rfl ?aO ?aR (fun _ _ h => h) (fun _ h => h.elim) ?aF ?aB ?aS ?aL ?_; (case aR => repeat (first | exact (Kd.C_below HR0.out HB.out) | (with_reducible refine Kd.C_alloc ?_ _) | (with_reducible refine Kd.C_drewN ?_ _) | (with_reducible refine Kd.C_drew ?_))); (case aB => exact (by repeat (first | (with_reducible first | exact HB.out | apply below_alloc | apply pw_below_drewN | apply below_drew1) | exact HB.out))); (case aF => exact (fun _ _ => trivial)); (case aO => exact (by (with_reducible repeat (first | apply Kd.R_alloc | apply Kd.R_drewN | apply Kd.R_drew)); exact HO446.out)); (case aS => exact (below_size (by repeat (first | (with_reducible first | exact HB.out | apply below_alloc | apply pw_below_drewN | apply below_drew1) | exact HB.out)))); (case aL => have := LMc5.out; omega); intro v448 w30 ho hb hg hat; rw [← Ny447.out] at ho; have n0_ := Aside0.mk (hb); have n1_ := Aside0.mk (ho); clear HB; clear HO446; have HB := n0_; have HO449 := n1_; clear n0_ n1_; clear ho hb hg hat; obtain ⟨Ao31, co31, eo31⟩ := Kd.R_slice HO449.out; subst eo31) | ((with_reducible refine gate_callee (f := 19) rfl ?_); refine goesL_ (some 15) rfl rfl Tryd.func19 (by kernel_rfl) rfl #[.slice Ao31 y447.length co31] rfl (by (try simp only [List.map_toArray, List.map_cons, List.map_nil]); first | done | rfl | (simp only [List.length_drop, List.length_take]; rfl)) ?_; (with_reducible refine (flash_Read.calls k _ _ y447 t450 t451 t452 t453 t456 _ ?side1 ?side2 A6.out (by first | exact HTAB.out | ((repeat (first | exact HTAB.out | (with_reducible refine Laid.tab_alloc ?_ _) | (with_reducible refine Laid.tab_drewN ?_ _) | (with_reducible refine Laid.tab_drew ?_))); done) | (refine Laid.tab_below' HTAB.out ?_; (repeat (first | (with_reducible first | exact HB.out | apply below_alloc | apply pw_below_drewN | apply below_drew1) | exact HB.out | (refine below_set ?_ (Aside0.out (by assumption)))))))).mono ?_); (case side1 => repeat (first | exact (Kd.R_reads' HO449.out).2.2 | (with_reducible refine Kd.C_alloc ?_ _) | (with_reducible refine Kd.C_drewN ?_ _) | (with_reducible refine Kd.C_drew ?_))); (case side2 => exact (Kd.R_reads' HO449.out).2.1); rintro e w32 ⟨v454, rfl, ho0, hb⟩; refine ⟨_, rfl, ?_⟩; have n0_ := Aside0.mk (Kd.R_elder' (by (with_reducible repeat (first | apply Kd.R_alloc | apply Kd.R_drewN | apply Kd.R_drew)); exact HO449.out) (Kd.R_base ho0) hb); have n1_ := Aside0.mk (Kd.R_lower (Kd.R_new' ho0 (Kd.R_lt (by (with_reducible repeat (first | apply Kd.R_alloc | apply Kd.R_drewN | apply Kd.R_drew)); exact HO449.out))) (below_size (by repeat (first | (with_reducible first | exact HB.out | apply below_alloc | apply pw_below_drewN | apply below_drew1) | exact HB.out)))); have n2_ := Aside0.mk (below_step (by repeat (first | (with_reducible first | exact HB.out | apply below_alloc | apply pw_below_drewN | apply below_drew1) | exact HB.out)) hb); clear HO449; clear HB; have HO449 := n0_; have HO455 := n1_; have HB := n2_; clear n0_ n1_ n2_; (try clear hb); (try clear hb2); (try clear hk); (try clear hi); (try clear ho0)) | ((with_reducible refine gate_dst (N := 3) rfl ?_); refine box_event ?hg (N := 3) ?hd (cs := #[.int .i64 0, .int .i64 0, .int .i64 0, .slice none 0 0]) (t := 26) ?hr ?_; (case hd => rfl); (case hg => rfl); (case hr => first | (go_simp; done) | (go_simp; rfl)); intro gb457 hg w33 hbox hb; have n0_ := Aside0.mk (Kd.R_below (by (with_reducible repeat (first | apply Kd.R_alloc | apply Kd.R_drewN | apply Kd.R_drew)); exact HO449.out) hb); have n1_ := Aside0.mk (Kd.R_below (by (with_reducible repeat (first | apply Kd.R_alloc | apply Kd.R_drewN | apply Kd.R_drew)); exact HO455.out) hb); have n2_ := Aside0.mk (below_step (by repeat (first | (with_reducible first | exact HB.out | apply below_alloc | apply pw_below_drewN | apply below_drew1) | exact HB.out)) hb); have n3_ := Aside0.mk (hbox); have n4_ := Aside0.mk ((by rw [hg]; exact (below_size (by repeat (first | (with_reducible first | exact HB.out | apply below_alloc | apply pw_below_drewN | apply below_drew1) | exact HB.out))) : w.heap.size ≤ gb457)); have n5_ := Aside0.mk ((by rw [hg]; exact (below_size (by repeat (first | (with_reducible first | exact HB.out | apply below_alloc | apply pw_below_drewN | apply below_drew1) | exact HB.out))) : w.heap.size ≤ gb457)); clear HO449; clear HO455; clear HB; have HO449 := n0_; have HO455 := n1_; have HB := n2_; have BK457 := n3_; have GW457 := n4_; have GE457 := n5_; clear n0_ n1_ n2_ n3_ n4_ n5_; clear hb hbox hg; have hcz34_0 : w33.cell? ⟨gb457, 0, none⟩ = some (.int .i64 0) := (blk_cell BK457.out 0).trans rfl; have hcz34_1 : w33.cell? ⟨gb457, 1, none⟩ = some (.int .i64 0) := (blk_cell BK457.out 1).trans rfl; have hcz34_2 : w33.cell? ⟨gb457, 2, none⟩ = some (.int .i64 0) := (blk_cell BK457.out 2).trans rfl; have hcz34_3 : w33.cell? ⟨gb457, 3, none⟩ = some (.slice none 0 0) := (blk_cell BK457.out 3).trans rfl; have hfz34_0 := blk_frozen BK457.out 0; have hfz34_1 := blk_frozen BK457.out 1; have hfz34_2 := blk_frozen BK457.out 2; have hfz34_3 := blk_frozen BK457.out 3; obtain ⟨Ao35, co35, eo35⟩ := Kd.R_slice HO455.out; subst eo35) | ((with_reducible refine gate_callee (f := 10) rfl ?_); refine goesL_ (some 20) rfl rfl Tryd.func10 (by kernel_rfl) rfl #[] rfl (by (try simp only [List.map_toArray, List.map_cons, List.map_nil]); first | done | rfl | (simp only [List.length_drop, List.length_take]; rfl)) ?_; (with_reducible refine (newellaw12_awake.calls k  true _ A25.out (by first | exact HTAB.out | ((repeat (first | exact HTAB.out | (with_reducible refine Laid.tab_alloc ?_ _) | (with_reducible refine Laid.tab_drewN ?_ _) | (with_reducible refine Laid.tab_drew ?_))); done) | (refine Laid.tab_below' HTAB.out ?_; (repeat (first | (with_reducible first | exact HB.out | apply below_alloc | apply pw_below_drewN | apply below_drew1) | exact HB.out | (refine below_set ?_ (Aside0.out (by assumption)))))))).mono ?_); rintro e w36 ⟨rfl, hb⟩; refine ⟨_, rfl, ?_⟩; have n0_ := Aside0.mk (Kd.R_below (by (with_reducible repeat (first | apply Kd.R_alloc | apply Kd.R_drewN | apply Kd.R_drew)); exact (Kd.R_mono (Kd.R_far (p := ⟨gb457, 3, none⟩) (Kd.R_far (p := ⟨gb457, 2, none⟩) (Kd.R_far (p := ⟨gb457, 1, none⟩) (Kd.R_far (p := ⟨gb457, 0, none⟩) (Kd.R_types HO449.out BK457.out (by decide)) (fun _ hk => hk.2) (.int .i64 t450)) (fun _ hk => hk.2) (.int .i64 t451)) (fun _ hk => hk.2) (.int .i64 t452)) (fun _ hk => hk.2) (.slice Ao35 t453.length co35)) (fun _ h_ => h_.1))) hb); have n1_ := Aside0.mk (Kd.R_below (by (with_reducible repeat (first | apply Kd.R_alloc | apply Kd.R_drewN | apply Kd.R_drew)); exact (Kd.R_mono (Kd.R_far (p := ⟨gb457, 3, none⟩) (Kd.R_far (p := ⟨gb457, 2, none⟩) (Kd.R_far (p := ⟨gb457, 1, none⟩) (Kd.R_far (p := ⟨gb457, 0, none⟩) (Kd.R_types HO455.out BK457.out (by decide)) (fun _ hk => hk.2) (.int .i64 t450)) (fun _ hk => hk.2) (.int .i64 t451)) (fun _ hk => hk.2) (.int .i64 t452)) (fun _ hk => hk.2) (.slice Ao35 t453.length co35)) (fun _ h_ => h_.1))) hb); have n2_ := Aside0.mk (blk_below (g := gb457) (o := .cells #[.int .i64 t450, .int .i64 t451, .int .i64 t452, .slice Ao35 t453.length co35] 26 (0, 0)) (by (with_reducible repeat (first | refine blk_drewN ?_ _ | refine blk_drew ?_ | refine blk_alloc ?_ _)); refine blk_put (cs := #[.int .i64 t450, .int .i64 t451, .int .i64 t452, .slice none 0 0]) ?_ 3 _ rfl; (with_reducible repeat (first | refine blk_drewN ?_ _ | refine blk_drew ?_ | refine blk_alloc ?_ _)); refine blk_put (cs := #[.int .i64 t450, .int .i64 t451, .int .i64 0, .slice none 0 0]) ?_ 2 _ rfl; (with_reducible repeat (first | refine blk_drewN ?_ _ | refine blk_drew ?_ | refine blk_alloc ?_ _)); refine blk_put (cs := #[.int .i64 t450, .int .i64 0, .int .i64 0, .slice none 0 0]) ?_ 1 _ rfl; (with_reducible repeat (first | refine blk_drewN ?_ _ | refine blk_drew ?_ | refine blk_alloc ?_ _)); refine blk_put (cs := #[.int .i64 0, .int .i64 0, .int .i64 0, .slice none 0 0]) ?_ 0 _ rfl; (with_reducible repeat (first | refine blk_drewN ?_ _ | refine blk_drew ?_ | refine blk_alloc ?_ _)); exact BK457.out) hb); have n3_ := Aside0.mk (below_step (by repeat (first | (with_reducible first | exact HB.out | apply below_alloc | apply pw_below_drewN | apply below_drew1 | refine below_set ?_ GE457.out) | exact HB.out)) hb); clear HO449; clear HO455; clear BK457; clear HB; have HO449 := n0_; have HO455 := n1_; have BK457 := n2_; have HB := n3_; clear n0_ n1_ n2_ n3_; (try clear hb); (try clear hb2); (try clear hk); (try clear hi); have hcz37_0 : w36.cell? ⟨gb457, 0, none⟩ = some (.int .i64 t450) := (blk_cell BK457.out 0).trans rfl; have hcz37_1 : w36.cell? ⟨gb457, 1, none⟩ = some (.int .i64 t451) := (blk_cell BK457.out 1).trans rfl; have hcz37_2 : w36.cell? ⟨gb457, 2, none⟩ = some (.int .i64 t452) := (blk_cell BK457.out 2).trans rfl; have hcz37_3 : w36.cell? ⟨gb457, 3, none⟩ = some (.slice Ao35 t453.length co35) := (blk_cell BK457.out 3).trans rfl; have hfz37_0 := blk_frozen BK457.out 0; have hfz37_1 := blk_frozen BK457.out 1; have hfz37_2 := blk_frozen BK457.out 2; have hfz37_3 := blk_frozen BK457.out 3) | (go_at_call 16; (with_reducible refine (newelref12_Same.calls_nil12 k t450 t451 t452 _ _ t453 0 0 0 t459 _ ?side1 ?side2 A27.out).mono ?_); (case side1 => repeat (first | exact (Kd.R_reads' HO455.out).2.2 | (with_reducible refine Kd.C_alloc ?_ _) | (with_reducible refine Kd.C_drewN ?_ _) | (with_reducible refine Kd.C_drew ?_))); (case side2 => exact (Kd.R_reads' HO455.out).2.1);  rintro e w38 ⟨rfl, hb⟩; have n0_ := Aside0.mk (Kd.R_below (by (with_reducible repeat (first | apply Kd.R_alloc | apply Kd.R_drewN | apply Kd.R_drew)); exact HO449.out) hb); have n1_ := Aside0.mk (Kd.R_below (by (with_reducible repeat (first | apply Kd.R_alloc | apply Kd.R_drewN | apply Kd.R_drew)); exact HO455.out) hb); have n2_ := Aside0.mk (blk_below (g := gb457) (o := .cells #[.int .i64 t450, .int .i64 t451, .int .i64 t452, .slice Ao35 t453.length co35] 26 (0, 0)) (by (with_reducible repeat (first | refine blk_drewN ?_ _ | refine blk_drew ?_ | refine blk_alloc ?_ _)); exact BK457.out) hb); have n3_ := Aside0.mk (below_step (by repeat (first | (with_reducible first | exact HB.out | apply below_alloc | apply pw_below_drewN | apply below_drew1 | refine below_set ?_ GE457.out) | exact HB.out)) hb); clear HO449; clear HO455; clear BK457; clear HB; have HO449 := n0_; have HO455 := n1_; have BK457 := n2_; have HB := n3_; clear n0_ n1_ n2_ n3_; (try clear hb); (try clear hb2); (try clear hk); (try clear hi)))
     go_ret
     exact ⟨by first | rfl | (simp [errW_none, errW_some] <;> rfl) | (simp [*, errW_none, errW_some] <;> rfl), by repeat (first | (with_reducible first | exact HB.out | apply below_alloc | apply pw_below_drewN | apply below_drew1 | refine below_set ?_ GE457.out) | exact HB.out)⟩
    ·replace c26 := Bool.eq_false_iff.mpr c26
     subst c26
     have H1 : (none) = some r := by rw [if_neg (show ¬ (false = true) by decide)] at H; exact H
     clear H
     have H := H1
     clear H1
     exact absurd H (by simp)
  ·rw [if_neg c5] at H
   exact absurd H (by simp)


end Go.Proofs.YtickbejailcehaaDoor.C
