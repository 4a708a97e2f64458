-- Written by a program of this session (wip/pp: the kit's print, changed), out of the translation. Lean checks it.
import Derived.Test.YtjfikeahafflfaaCx0
import Derived.Test.YtjfikeahafflfaaCxf13
import Derived.Test.YtjfikeahafflfaaCxf15
import Derived.Test.YtjfikeahafflfaaCxf17
import Derived.Test.YtjfikeahafflfaaCxf18
import Derived.Test.YtjfikeahafflfaaCxf19
import Derived.Test.YtjfikeahafflfaaPut
namespace Go.Proofs.Ytjfikeahafflfaa.C
open Go.RowKit Go.Proofs.YtjfikeahafflfaaW.PrintWords Go.Proofs.YtjfikeahafflfaaW.PrintLast Go.Proofs.YtjfikeahafflfaaW.PrintMore
attribute [local go_sem] max2_int min2_int max_two min_two max_three min_three max_four min_four   -- for this text's walks alone
set_option linter.unusedVariables false
set_option linter.unusedSimpArgs false

/-! ### newellaw08_WirePuts: function 5 -/
def newellaw08_WirePuts.j0 : Nat → Bool → Option (Bool)
 | 0, _ => none
 | k + 1, x4 => some x4
def newellaw08_WirePuts.f (k : Nat) (a0 : Int) (l1 : List Int) : Option (Bool) := if (l1.length : Int) > 60 then ((newellaw08_awake.f k).bind fun t207 => (some t207)) else ((newellaw08_awake.f k).bind fun t208 => (if t208 = true then ((wire_Put.f a0).bind fun t209 => ((newelref08_Put.f k a0).bind fun t212 => ((newelref08_Same.f k t209 t212).bind fun t215 => (if t215 = true then ((wire_Row.f k l1).bind fun t216 => ((newelref08_Row.f k l1).bind fun t219 => ((newelref08_Same.f k t216 t219).bind fun t222 => (newellaw08_WirePuts.j0 k t222)))) else (none))))) else (none)))
theorem newellaw08_WirePuts.mono_l : ∀ k, (∀ y0, LeO (newellaw08_WirePuts.j0 k y0) (newellaw08_WirePuts.j0 (k + 1) y0))
 | 0 => fun _ r h => by simp [newellaw08_WirePuts.j0] at h
 | k + 1 => by
  have ih0 := newellaw08_WirePuts.mono_l k
  ·intro y0
   unfold newellaw08_WirePuts.j0
   repeat' first
   | (with_reducible exact ih0 _)
   | (with_reducible exact newellaw08_awake.mono _)
   | (with_reducible exact newelref08_Put.mono _ _)
   | (with_reducible exact newelref08_Row.mono _ _)
   | (with_reducible exact newelref08_Same.mono _ _ _)
   | (with_reducible exact wire_Row.mono _ _)
   | (with_reducible exact LeO.refl _)
   | (with_reducible exact LeO.none _)
   | (with_reducible refine LeO.ite ?_ ?_)
   | (with_reducible refine LeO.bind ?_ (fun _ => ?_))
   | exact ih0 _
   | exact newellaw08_awake.mono _
   | exact newelref08_Put.mono _ _
   | exact newelref08_Row.mono _ _
   | exact newelref08_Same.mono _ _ _
   | exact wire_Row.mono _ _
   | exact LeO.none _
   | refine LeO.ite ?_ ?_
   | refine LeO.bind ?_ (fun _ => ?_)
theorem newellaw08_WirePuts.mono : ∀ a0 a1 k, LeO (newellaw08_WirePuts.f k a0 a1) (newellaw08_WirePuts.f (k + 1) a0 a1) := by
 intro a0 a1 k
 have ih0 := newellaw08_WirePuts.mono_l k
 unfold newellaw08_WirePuts.f
 repeat' first
   | (with_reducible exact ih0 _)
   | (with_reducible exact newellaw08_awake.mono _)
   | (with_reducible exact newelref08_Put.mono _ _)
   | (with_reducible exact newelref08_Row.mono _ _)
   | (with_reducible exact newelref08_Same.mono _ _ _)
   | (with_reducible exact wire_Row.mono _ _)
   | (with_reducible exact LeO.refl _)
   | (with_reducible exact LeO.none _)
   | (with_reducible refine LeO.ite ?_ ?_)
   | (with_reducible refine LeO.bind ?_ (fun _ => ?_))
   | exact ih0 _
   | exact newellaw08_awake.mono _
   | exact newelref08_Put.mono _ _
   | exact newelref08_Row.mono _ _
   | exact newelref08_Same.mono _ _ _
   | exact wire_Row.mono _ _
   | exact LeO.none _
   | refine LeO.ite ?_ ?_
   | refine LeO.bind ?_ (fun _ => ?_)
set_option maxHeartbeats 8000000 in
set_option maxRecDepth 100000 in
theorem newellaw08_WirePuts.calls (k : Nat) (a0 : Int) (A1 : Option Addr) (c1 : Nat) (l1 : List Int) (r : Bool) (w : World) (hr1 : Kd.C (Kd.int .i64) w A1 l1.length l1) (hc1 : l1.length ≤ c1) (h : newellaw08_WirePuts.f k a0 l1 = some r) :
  Calls Try.prog 5 #[.int .i64 a0, .slice A1 l1.length c1] w fun e w' => e = .returned (.bool r) ∧ Below w.heap.size w w' := by
 have HR1 := Aside0.mk hr1
 have HC1 := Aside0.mk hc1
 clear hr1 hc1
 have HB := Aside0.mk (Below.refl w.heap.size w)
 have H : (if (l1.length : Int) > 60 then ((newellaw08_awake.f k).bind fun t207 => (some t207)) else ((newellaw08_awake.f k).bind fun t208 => (if t208 = true then ((wire_Put.f a0).bind fun t209 => ((newelref08_Put.f k a0).bind fun t212 => ((newelref08_Same.f k t209 t212).bind fun t215 => (if t215 = true then ((wire_Row.f k l1).bind fun t216 => ((newelref08_Row.f k l1).bind fun t219 => ((newelref08_Same.f k t216 t219).bind fun t222 => (newellaw08_WirePuts.j0 k t222)))) else (none))))) else (none)))) = some r := h
 clear h
 by_cases c3 : (l1.length : Int) > 60
 ·rw [if_pos c3] at H
  have c3b0 : decide (60 < (l1.length : Int)) = true := decide_eq_true c3
  have c3b1 : decide (60 < l1.length) = true := decide_eq_true (by omega)
  clear c3
  replace H := Option.bind_eq_some_iff.mp H
  obtain ⟨t207, A40, H⟩ := H
  replace H : (some t207) = some r := H
  have A4 := Aside0.mk A40
  clear A40
  obtain rfl := Option.some.inj H
  go_enter Try.func5, Try.ntmps5
  go_wp2_with (first | ((with_reducible refine gate_callee (f := 13) rfl ?_); refine goesL_ (some 8) rfl rfl Try.func13 (by kernel_rfl) rfl #[] rfl (by (try simp only [List.map_toArray, List.map_cons, List.map_nil]); first | done | rfl | (simp only [List.length_drop, List.length_take]; rfl)) ?_; (with_reducible refine (newellaw08_awake.calls k  t207 _ A4.out).mono ?_); rintro e w5 ⟨rfl, hb⟩; refine ⟨_, rfl, ?_⟩; have n0_ := Aside0.mk (below_step (by repeat (first | (with_reducible first | exact HB.out | apply below_alloc | apply pw_below_drewN | apply below_drew1) | exact HB.out)) hb); clear HB; have HB := n0_; clear n0_; (try clear hb); (try clear hb2); (try clear hk); (try clear hi)))
  go_ret
  exact ⟨by first | rfl | (simp [errW_none, errW_some] <;> rfl) | (simp [*, errW_none, errW_some] <;> rfl), by repeat (first | (with_reducible first | exact HB.out | apply below_alloc | apply pw_below_drewN | apply below_drew1) | exact HB.out)⟩
 ·rw [if_neg c3] at H
  have c3b0 : decide (60 < (l1.length : Int)) = false := decide_eq_false c3
  have c3b1 : decide (60 < l1.length) = false := decide_eq_false (by omega)
  clear c3
  have HC6 := Aside0.mk H
  clear H
  go_enter Try.func5, Try.ntmps5
  go_upto_region 3 with (fail)
  go_cut [4] (fun v4 wc => ∃ (kq : Nat) (x4_5 : Bool), v4 = .bool x4_5 ∧ Aside0 (newellaw08_WirePuts.j0 kq x4_5 = some r) ∧ Aside0 (kq ≤ k) ∧ Aside0 (Below w.heap.size w wc))
  case first =>
   have H := HC6.out
   clear HC6
   replace H := Option.bind_eq_some_iff.mp H
   obtain ⟨t208, A70, H⟩ := H
   replace H : (if t208 = true then ((wire_Put.f a0).bind fun t209 => ((newelref08_Put.f k a0).bind fun t212 => ((newelref08_Same.f k t209 t212).bind fun t215 => (if t215 = true then ((wire_Row.f k l1).bind fun t216 => ((newelref08_Row.f k l1).bind fun t219 => ((newelref08_Same.f k t216 t219).bind fun t222 => (newellaw08_WirePuts.j0 k t222)))) else (none))))) else (none)) = some r := H
   have A7 := Aside0.mk A70
   clear A70
   by_cases c8 : t208 = true
   ·subst c8
    have H1 : ((wire_Put.f a0).bind fun t209 => ((newelref08_Put.f k a0).bind fun t212 => ((newelref08_Same.f k t209 t212).bind fun t215 => (if t215 = true then ((wire_Row.f k l1).bind fun t216 => ((newelref08_Row.f k l1).bind fun t219 => ((newelref08_Same.f k t216 t219).bind fun t222 => (newellaw08_WirePuts.j0 k t222)))) else (none))))) = some r := by rw [if_pos rfl] at H; exact H
    clear H
    have H := H1
    clear H1
    replace H := Option.bind_eq_some_iff.mp H
    obtain ⟨t209, A90, H⟩ := H
    replace H : ((newelref08_Put.f k a0).bind fun t212 => ((newelref08_Same.f k t209 t212).bind fun t215 => (if t215 = true then ((wire_Row.f k l1).bind fun t216 => ((newelref08_Row.f k l1).bind fun t219 => ((newelref08_Same.f k t216 t219).bind fun t222 => (newellaw08_WirePuts.j0 k t222)))) else (none)))) = some r := H
    have A9 := Aside0.mk A90
    clear A90
    replace H := Option.bind_eq_some_iff.mp H
    obtain ⟨t212, A100, H⟩ := H
    replace H : ((newelref08_Same.f k t209 t212).bind fun t215 => (if t215 = true then ((wire_Row.f k l1).bind fun t216 => ((newelref08_Row.f k l1).bind fun t219 => ((newelref08_Same.f k t216 t219).bind fun t222 => (newellaw08_WirePuts.j0 k t222)))) else (none))) = some r := H
    have A10 := Aside0.mk A100
    clear A100
    replace H := Option.bind_eq_some_iff.mp H
    obtain ⟨t215, A110, H⟩ := H
    replace H : (if t215 = true then ((wire_Row.f k l1).bind fun t216 => ((newelref08_Row.f k l1).bind fun t219 => ((newelref08_Same.f k t216 t219).bind fun t222 => (newellaw08_WirePuts.j0 k t222)))) else (none)) = some r := H
    have A11 := Aside0.mk A110
    clear A110
    by_cases c12 : t215 = true
    ·subst c12
     have H1 : ((wire_Row.f k l1).bind fun t216 => ((newelref08_Row.f k l1).bind fun t219 => ((newelref08_Same.f k t216 t219).bind fun t222 => (newellaw08_WirePuts.j0 k t222)))) = some r := by rw [if_pos rfl] at H; exact H
     clear H
     have H := H1
     clear H1
     replace H := Option.bind_eq_some_iff.mp H
     obtain ⟨t216, A130, H⟩ := H
     replace H : ((newelref08_Row.f k l1).bind fun t219 => ((newelref08_Same.f k t216 t219).bind fun t222 => (newellaw08_WirePuts.j0 k t222))) = some r := H
     have A13 := Aside0.mk A130
     clear A130
     replace H := Option.bind_eq_some_iff.mp H
     obtain ⟨t219, A140, H⟩ := H
     replace H : ((newelref08_Same.f k t216 t219).bind fun t222 => (newellaw08_WirePuts.j0 k t222)) = some r := H
     have A14 := Aside0.mk A140
     clear A140
     replace H := Option.bind_eq_some_iff.mp H
     obtain ⟨t222, A150, H⟩ := H
     replace H : (newellaw08_WirePuts.j0 k t222) = some r := H
     have A15 := Aside0.mk A150
     clear A150
     have H' := Aside0.mk H
     clear H
     go_wp2_with (first | ((with_reducible refine gate_callee (f := 13) rfl ?_); refine goesL_ (some 9) rfl rfl Try.func13 (by kernel_rfl) rfl #[] rfl (by (try simp only [List.map_toArray, List.map_cons, List.map_nil]); first | done | rfl | (simp only [List.length_drop, List.length_take]; rfl)) ?_; (with_reducible refine (newellaw08_awake.calls k  true _ A7.out).mono ?_); rintro e w16 ⟨rfl, hb⟩; refine ⟨_, rfl, ?_⟩; have n0_ := Aside0.mk (below_step (by repeat (first | (with_reducible first | exact HB.out | apply below_alloc | apply pw_below_drewN | apply below_drew1) | exact HB.out)) hb); clear HB; have HB := n0_; clear n0_; (try clear hb); (try clear hb2); (try clear hk); (try clear hi)) | (go_at_call 16; (with_reducible refine (wire_Put.calls a0 t209 _ A9.out).mono ?_); rintro e w17 ⟨v210, rfl, ho0, hb⟩; have n0_ := Aside0.mk (Kd.R_lower ho0 (below_size (by repeat (first | (with_reducible first | exact HB.out | apply below_alloc | apply pw_below_drewN | apply below_drew1) | exact HB.out)))); have n1_ := Aside0.mk (below_step (by repeat (first | (with_reducible first | exact HB.out | apply below_alloc | apply pw_below_drewN | apply below_drew1) | exact HB.out)) hb); clear HB; have HO211 := n0_; have HB := n1_; clear n0_ n1_; (try clear hb); (try clear hb2); (try clear hk); (try clear hi); (try clear ho0)) | (go_at_call 17; (with_reducible refine (newelref08_Put.calls k a0 t212 _ A10.out).mono ?_); rintro e w18 ⟨v213, rfl, ho0, hb⟩; have n0_ := Aside0.mk (Kd.R_elder' (by (with_reducible repeat (first | apply Kd.R_alloc | apply Kd.R_drewN | apply Kd.R_drew)); exact HO211.out) (Kd.R_base ho0) hb); have n1_ := Aside0.mk (Kd.R_lower (Kd.R_new' ho0 (Kd.R_lt (by (with_reducible repeat (first | apply Kd.R_alloc | apply Kd.R_drewN | apply Kd.R_drew)); exact HO211.out))) (below_size (by repeat (first | (with_reducible first | exact HB.out | apply below_alloc | apply pw_below_drewN | apply below_drew1) | exact HB.out)))); have n2_ := Aside0.mk (below_step (by repeat (first | (with_reducible first | exact HB.out | apply below_alloc | apply pw_below_drewN | apply below_drew1) | exact HB.out)) hb); clear HO211; clear HB; have HO211 := n0_; have HO214 := n1_; have HB := n2_; clear n0_ n1_ n2_; (try clear hb); (try clear hb2); (try clear hk); (try clear hi); (try clear ho0); obtain ⟨Ao19, co19, eo19⟩ := Kd.R_slice HO211.out; subst eo19; obtain ⟨Ao20, co20, eo20⟩ := Kd.R_slice HO214.out; subst eo20) | (go_at_call 15; (with_reducible refine (newelref08_Same.calls k _ _ t209 _ _ t212 true _ ?side1 ?side2 ?side3 ?side4 A11.out).mono ?_); (case side1 => repeat (first | exact (Kd.R_reads' HO211.out).2.2 | (with_reducible refine Kd.C_alloc ?_ _) | (with_reducible refine Kd.C_drewN ?_ _) | (with_reducible refine Kd.C_drew ?_))); (case side2 => exact (Kd.R_reads' HO211.out).2.1); (case side3 => repeat (first | exact (Kd.R_reads' HO214.out).2.2 | (with_reducible refine Kd.C_alloc ?_ _) | (with_reducible refine Kd.C_drewN ?_ _) | (with_reducible refine Kd.C_drew ?_))); (case side4 => exact (Kd.R_reads' HO214.out).2.1); rintro e w' ⟨rfl, ⟨nd, rfl⟩⟩) | (go_at_call 18; (with_reducible refine (wire_Row.calls k _ _ l1 t216 _ ?side1 ?side2 A13.out).mono ?_); (case side1 => repeat (first | exact (Kd.C_below HR1.out (by repeat (first | (with_reducible first | exact HB.out | apply below_alloc | apply pw_below_drewN | apply below_drew1) | exact HB.out))) | (with_reducible refine Kd.C_alloc ?_ _) | (with_reducible refine Kd.C_drewN ?_ _) | (with_reducible refine Kd.C_drew ?_))); (case side2 => exact HC1.out); rintro e w21 ⟨v217, rfl, ho0, hb⟩; have n0_ := Aside0.mk (Kd.R_elder' (by (with_reducible repeat (first | apply Kd.R_alloc | apply Kd.R_drewN | apply Kd.R_drew)); exact HO211.out) (Kd.R_base ho0) hb); have n1_ := Aside0.mk (Kd.R_elder' (by (with_reducible repeat (first | apply Kd.R_alloc | apply Kd.R_drewN | apply Kd.R_drew)); exact HO214.out) (Kd.R_base ho0) hb); have n2_ := Aside0.mk (Kd.R_lower (Kd.R_new' (Kd.R_new' ho0 (Kd.R_lt (by (with_reducible repeat (first | apply Kd.R_alloc | apply Kd.R_drewN | apply Kd.R_drew)); exact HO211.out))) (Kd.R_lt (by (with_reducible repeat (first | apply Kd.R_alloc | apply Kd.R_drewN | apply Kd.R_drew)); exact HO214.out))) (below_size (by repeat (first | (with_reducible first | exact HB.out | apply below_alloc | apply pw_below_drewN | apply below_drew1) | exact HB.out)))); have n3_ := Aside0.mk (below_step (by repeat (first | (with_reducible first | exact HB.out | apply below_alloc | apply pw_below_drewN | apply below_drew1) | exact HB.out)) hb); clear HO211; clear HO214; clear HB; have HO211 := n0_; have HO214 := n1_; have HO218 := n2_; have HB := n3_; clear n0_ n1_ n2_ n3_; (try clear hb); (try clear hb2); (try clear hk); (try clear hi); (try clear ho0)) | (go_at_call 19; (with_reducible refine (newelref08_Row.calls k _ _ l1 t219 _ ?side1 ?side2 A14.out).mono ?_); (case side1 => repeat (first | exact (Kd.C_below HR1.out HB.out) | (with_reducible refine Kd.C_alloc ?_ _) | (with_reducible refine Kd.C_drewN ?_ _) | (with_reducible refine Kd.C_drew ?_))); (case side2 => exact HC1.out); rintro e w22 ⟨v220, rfl, ho0, hb⟩; have n0_ := Aside0.mk (Kd.R_elder' (by (with_reducible repeat (first | apply Kd.R_alloc | apply Kd.R_drewN | apply Kd.R_drew)); exact HO211.out) (Kd.R_base ho0) hb); have n1_ := Aside0.mk (Kd.R_elder' (by (with_reducible repeat (first | apply Kd.R_alloc | apply Kd.R_drewN | apply Kd.R_drew)); exact HO214.out) (Kd.R_base ho0) hb); have n2_ := Aside0.mk (Kd.R_elder' (by (with_reducible repeat (first | apply Kd.R_alloc | apply Kd.R_drewN | apply Kd.R_drew)); exact HO218.out) (Kd.R_base ho0) hb); have n3_ := Aside0.mk (Kd.R_lower (Kd.R_new' (Kd.R_new' (Kd.R_new' ho0 (Kd.R_lt (by (with_reducible repeat (first | apply Kd.R_alloc | apply Kd.R_drewN | apply Kd.R_drew)); exact HO211.out))) (Kd.R_lt (by (with_reducible repeat (first | apply Kd.R_alloc | apply Kd.R_drewN | apply Kd.R_drew)); exact HO214.out))) (Kd.R_lt (by (with_reducible repeat (first | apply Kd.R_alloc | apply Kd.R_drewN | apply Kd.R_drew)); exact HO218.out))) (below_size (by repeat (first | (with_reducible first | exact HB.out | apply below_alloc | apply pw_below_drewN | apply below_drew1) | exact HB.out)))); have n4_ := Aside0.mk (below_step (by repeat (first | (with_reducible first | exact HB.out | apply below_alloc | apply pw_below_drewN | apply below_drew1) | exact HB.out)) hb); clear HO211; clear HO214; clear HO218; clear HB; have HO211 := n0_; have HO214 := n1_; have HO218 := n2_; have HO221 := n3_; have HB := n4_; clear n0_ n1_ n2_ n3_ n4_; (try clear hb); (try clear hb2); (try clear hk); (try clear hi); (try clear ho0); obtain ⟨Ao23, co23, eo23⟩ := Kd.R_slice HO218.out; subst eo23; obtain ⟨Ao24, co24, eo24⟩ := Kd.R_slice HO221.out; subst eo24) | (go_at_call 15; (with_reducible refine (newelref08_Same.calls k _ _ t216 _ _ t219 t222 _ ?side1 ?side2 ?side3 ?side4 A15.out).mono ?_); (case side1 => repeat (first | exact (Kd.R_reads' HO218.out).2.2 | (with_reducible refine Kd.C_alloc ?_ _) | (with_reducible refine Kd.C_drewN ?_ _) | (with_reducible refine Kd.C_drew ?_))); (case side2 => exact (Kd.R_reads' HO218.out).2.1); (case side3 => repeat (first | exact (Kd.R_reads' HO221.out).2.2 | (with_reducible refine Kd.C_alloc ?_ _) | (with_reducible refine Kd.C_drewN ?_ _) | (with_reducible refine Kd.C_drew ?_))); (case side4 => exact (Kd.R_reads' HO221.out).2.1); rintro e w' ⟨rfl, ⟨nd, rfl⟩⟩))
     go_meet
     case rel => exact ⟨_, (t222), (by first | rfl | (simp; done) | (simp [*]; done)), H', ⟨by first | omega | exact Nat.le_refl _⟩, ⟨by repeat (first | (with_reducible first | exact HB.out | apply below_alloc | apply pw_below_drewN | apply below_drew1) | exact HB.out)⟩⟩
    ·replace c12 := Bool.eq_false_iff.mpr c12
     subst c12
     have H1 : (none) = some r := by rw [if_neg (show ¬ (false = true) by decide)] at H; exact H
     clear H
     have H := H1
     clear H1
     exact absurd H (by simp)
   ·replace c8 := Bool.eq_false_iff.mpr c8
    subst c8
    have H1 : (none) = some r := by rw [if_neg (show ¬ (false = true) by decide)] at H; exact H
    clear H
    have H := H1
    clear H1
    exact absurd H (by simp)
  case rest =>
   clear HC6
   try clear c1
   try clear p2
   try clear c3
   try clear c3b0
   try clear c3b1
   try clear c5
   try clear c8
   try clear c12
   try clear c13
   obtain ⟨kq, x4_5, rfl, HA, HJ5, HB⟩ := hcut
   cases kq with
   | zero => exact absurd HA.out (by simp [newellaw08_WirePuts.j0])
   | succ kj5 =>
    have H := HA.out
    clear HA
    simp only [newellaw08_WirePuts.j0] at H
    obtain rfl := Option.some.inj H
    go_wp2
    go_ret
    exact ⟨by first | rfl | (simp [errW_none, errW_some] <;> rfl) | (simp [*, errW_none, errW_some] <;> rfl), by repeat (first | (with_reducible first | exact HB.out | apply below_alloc | apply pw_below_drewN | apply below_drew1) | exact HB.out)⟩

/-- THE ONE PURE STATEMENT of newellaw08_WirePuts: yours. -/
def newellaw08_WirePuts.Pure : Prop := ∀ (a0 : Int) (l1 : List Int), (Lit.int .i64 a0).wf = true → l1.length ≤ maxLen → l1.length * 8 ≤ 140737488351232 → (∀ x ∈ l1, (Lit.int .i64 x).wf = true) → ∃ k, newellaw08_WirePuts.f k a0 l1 = some true
theorem newellaw08_WirePuts.walk (P : newellaw08_WirePuts.Pure) (a0 : Int) (a1 : Option Addr) (len1 cap1 : Nat) (z1 : List Int) (w : World) (w0 : (Lit.int .i64 a0).wf = true) (w1 : (a1 = none ∧ len1 = 0 ∧ cap1 = 0 ∧ z1 = []) ∨ ∃ x, a1 = some x ∧ len1 ≤ cap1 ∧ cap1 ≤ maxLen ∧ z1.length = cap1 ∧ (∀ i, i < z1.length → w.cell? (x.add i) = some (.int .i64 (z1.getD i 0))) ∧ ∀ n ∈ z1, (Lit.int .i64 n).wf = true) (y1 : len1 * 8 ≤ 140737488351232) :
  Calls Try.prog 5 #[.int .i64 a0, .slice a1 len1 cap1] w fun e w' => e = .returned (.bool true) ∧ Below w.heap.size w w' := by
 obtain ⟨l1, rfl, hr1, hm1, hw1, hc1⟩ := ReadsInt.ofRowC w1
 obtain ⟨k, h⟩ := P a0 l1 w0 hm1 y1 hw1
 refine (newellaw08_WirePuts.calls k a0 _ _ l1 true w (Kd.C_of_reads (d := (0 : Int)) (h1 := fun _ => rfl) hr1) hc1 h).mono ?_
 rintro e w' ⟨rfl, hd⟩
 exact ⟨rfl, hd⟩

end Go.Proofs.Ytjfikeahafflfaa.C
