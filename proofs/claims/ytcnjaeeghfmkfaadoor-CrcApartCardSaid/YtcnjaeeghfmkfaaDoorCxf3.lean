-- Written by a program of this session (wip/pp: the kit's print, changed), out of the translation. Lean checks it.
import Derived.Test.YtcnjaeeghfmkfaaDoorCx0
import Derived.Test.YtcnjaeeghfmkfaaDoorLaid
import Derived.Test.YtcnjaeeghfmkfaaDoorCxf10
import Derived.Test.YtcnjaeeghfmkfaaDoorCxf11
import Derived.Test.YtcnjaeeghfmkfaaDoorCxf12
import Derived.Test.YtcnjaeeghfmkfaaDoorCxf9
namespace Go.Proofs.YtcnjaeeghfmkfaaDoor.C
open Go.RowKit Go.Proofs.YtcnjaeeghfmkfaaDoorW.PrintWords Go.Proofs.YtcnjaeeghfmkfaaDoorW.PrintLast Go.Proofs.YtcnjaeeghfmkfaaDoorW.PrintMore
attribute [local go_sem] max2_int min2_int max_two min_two max_three min_three max_four min_four   -- for this text's walks alone
set_option linter.unusedVariables false
set_option linter.unusedSimpArgs false

/-! ### newellaw09_CrcTells: function 3 -/
def newellaw09_CrcTells.j0 : Nat → Bool → Option (Bool)
 | 0, _ => none
 | k + 1, x4 => some x4
def newellaw09_CrcTells.f (k : Nat) (a0 : Int) (l1 : List Int) : Option (Bool) := if (l1.length : Int) > 300 then ((newellaw09_awake.f k).bind fun t132 => (some t132)) else ((newellaw09_awake.f k).bind fun t133 => (if t133 = true then ((crc_More.f k a0 l1).bind fun t134 => ((newelref09_More.f k a0 l1).bind fun t135 => (if t134 = t135 then ((crc_Sum.f k l1).bind fun t136 => ((newelref09_More.f k 65535 l1).bind fun t137 => (newellaw09_CrcTells.j0 k (t136 == t137)))) else (none)))) else (none)))
theorem newellaw09_CrcTells.mono_l : ∀ k, (∀ y0, LeO (newellaw09_CrcTells.j0 k y0) (newellaw09_CrcTells.j0 (k + 1) y0))
 | 0 => fun _ r h => by simp [newellaw09_CrcTells.j0] at h
 | k + 1 => by
  have ih0 := newellaw09_CrcTells.mono_l k
  ·intro y0
   unfold newellaw09_CrcTells.j0
   repeat' first
   | (with_reducible exact ih0 _)
   | (with_reducible exact crc_More.mono _ _ _)
   | (with_reducible exact crc_Sum.mono _ _)
   | (with_reducible exact newellaw09_awake.mono _)
   | (with_reducible exact newelref09_More.mono _ _ _)
   | (with_reducible exact LeO.refl _)
   | (with_reducible exact LeO.none _)
   | (with_reducible refine LeO.ite ?_ ?_)
   | (with_reducible refine LeO.bind ?_ (fun _ => ?_))
   | exact ih0 _
   | exact crc_More.mono _ _ _
   | exact crc_Sum.mono _ _
   | exact newellaw09_awake.mono _
   | exact newelref09_More.mono _ _ _
   | exact LeO.none _
   | refine LeO.ite ?_ ?_
   | refine LeO.bind ?_ (fun _ => ?_)
theorem newellaw09_CrcTells.mono : ∀ a0 a1 k, LeO (newellaw09_CrcTells.f k a0 a1) (newellaw09_CrcTells.f (k + 1) a0 a1) := by
 intro a0 a1 k
 have ih0 := newellaw09_CrcTells.mono_l k
 unfold newellaw09_CrcTells.f
 repeat' first
   | (with_reducible exact ih0 _)
   | (with_reducible exact crc_More.mono _ _ _)
   | (with_reducible exact crc_Sum.mono _ _)
   | (with_reducible exact newellaw09_awake.mono _)
   | (with_reducible exact newelref09_More.mono _ _ _)
   | (with_reducible exact LeO.refl _)
   | (with_reducible exact LeO.none _)
   | (with_reducible refine LeO.ite ?_ ?_)
   | (with_reducible refine LeO.bind ?_ (fun _ => ?_))
   | exact ih0 _
   | exact crc_More.mono _ _ _
   | exact crc_Sum.mono _ _
   | exact newellaw09_awake.mono _
   | exact newelref09_More.mono _ _ _
   | exact LeO.none _
   | refine LeO.ite ?_ ?_
   | refine LeO.bind ?_ (fun _ => ?_)
set_option maxHeartbeats 8000000 in
set_option maxRecDepth 100000 in
theorem newellaw09_CrcTells.calls (k : Nat) (a0 : Int) (A1 : Option Addr) (c1 : Nat) (l1 : List Int) (r : Bool) (w : World) (hr1 : Kd.C (Kd.int .u8) w A1 l1.length l1) (hc1 : l1.length ≤ c1) (h : newellaw09_CrcTells.f k a0 l1 = some r) (ht_ : Laid.TabAt w) :
  Calls Tryd.prog 3 #[.int .i64 a0, .slice A1 l1.length c1] w fun e w' => e = .returned (.bool r) ∧ Below w.heap.size w w' := by
 have HTAB := Aside0.mk ht_
 clear ht_
 have HR1 := Aside0.mk hr1
 have HC1 := Aside0.mk hc1
 clear hr1 hc1
 have HB := Aside0.mk (Below.refl w.heap.size w)
 have H : (if (l1.length : Int) > 300 then ((newellaw09_awake.f k).bind fun t132 => (some t132)) else ((newellaw09_awake.f k).bind fun t133 => (if t133 = true then ((crc_More.f k a0 l1).bind fun t134 => ((newelref09_More.f k a0 l1).bind fun t135 => (if t134 = t135 then ((crc_Sum.f k l1).bind fun t136 => ((newelref09_More.f k 65535 l1).bind fun t137 => (newellaw09_CrcTells.j0 k (t136 == t137)))) else (none)))) else (none)))) = some r := h
 clear h
 by_cases c3 : (l1.length : Int) > 300
 ·rw [if_pos c3] at H
  have c3b0 : decide (300 < (l1.length : Int)) = true := decide_eq_true c3
  have c3b1 : decide (300 < l1.length) = true := decide_eq_true (by omega)
  clear c3
  replace H := Option.bind_eq_some_iff.mp H
  obtain ⟨t132, A40, H⟩ := H
  replace H : (some t132) = some r := H
  have A4 := Aside0.mk A40
  clear A40
  obtain rfl := Option.some.inj H
  go_enter Tryd.func3, Tryd.ntmps3
  go_wp2_with (first | ((with_reducible refine gate_callee (f := 9) rfl ?_); refine goesL_ (some 8) rfl rfl Tryd.func9 (by kernel_rfl) rfl #[] rfl (by (try simp only [List.map_toArray, List.map_cons, List.map_nil]); first | done | rfl | (simp only [List.length_drop, List.length_take]; rfl)) ?_; (with_reducible refine (newellaw09_awake.calls k  t132 _ A4.out (by first | exact HTAB.out | ((repeat (first | exact HTAB.out | (with_reducible refine Laid.tab_alloc ?_ _) | (with_reducible refine Laid.tab_drewN ?_ _) | (with_reducible refine Laid.tab_drew ?_))); done) | (refine Laid.tab_below' HTAB.out ?_; (repeat (first | (with_reducible first | exact HB.out | apply below_alloc | apply pw_below_drewN | apply below_drew1) | exact HB.out | (refine below_set ?_ (Aside0.out (by assumption)))))))).mono ?_); rintro e w5 ⟨rfl, hb⟩; refine ⟨_, rfl, ?_⟩; have n0_ := Aside0.mk (below_step (by repeat (first | (with_reducible first | exact HB.out | apply below_alloc | apply pw_below_drewN | apply below_drew1) | exact HB.out)) hb); clear HB; have HB := n0_; clear n0_; (try clear hb); (try clear hb2); (try clear hk); (try clear hi)))
  go_ret
  exact ⟨by first | rfl | (simp [errW_none, errW_some] <;> rfl) | (simp [*, errW_none, errW_some] <;> rfl), by repeat (first | (with_reducible first | exact HB.out | apply below_alloc | apply pw_below_drewN | apply below_drew1) | exact HB.out)⟩
 ·rw [if_neg c3] at H
  have c3b0 : decide (300 < (l1.length : Int)) = false := decide_eq_false c3
  have c3b1 : decide (300 < l1.length) = false := decide_eq_false (by omega)
  clear c3
  have HC6 := Aside0.mk H
  clear H
  go_enter Tryd.func3, Tryd.ntmps3
  go_upto_region 3 with (fail)
  go_cut [4] (fun v4 wc => ∃ (kq : Nat) (x4_5 : Bool), v4 = .bool x4_5 ∧ Aside0 (newellaw09_CrcTells.j0 kq x4_5 = some r) ∧ Aside0 (kq ≤ k) ∧ Aside0 (Below w.heap.size w wc))
  case first =>
   have H := HC6.out
   clear HC6
   replace H := Option.bind_eq_some_iff.mp H
   obtain ⟨t133, A70, H⟩ := H
   replace H : (if t133 = true then ((crc_More.f k a0 l1).bind fun t134 => ((newelref09_More.f k a0 l1).bind fun t135 => (if t134 = t135 then ((crc_Sum.f k l1).bind fun t136 => ((newelref09_More.f k 65535 l1).bind fun t137 => (newellaw09_CrcTells.j0 k (t136 == t137)))) else (none)))) else (none)) = some r := H
   have A7 := Aside0.mk A70
   clear A70
   by_cases c8 : t133 = true
   ·subst c8
    have H1 : ((crc_More.f k a0 l1).bind fun t134 => ((newelref09_More.f k a0 l1).bind fun t135 => (if t134 = t135 then ((crc_Sum.f k l1).bind fun t136 => ((newelref09_More.f k 65535 l1).bind fun t137 => (newellaw09_CrcTells.j0 k (t136 == t137)))) else (none)))) = some r := by rw [if_pos rfl] at H; exact H
    clear H
    have H := H1
    clear H1
    replace H := Option.bind_eq_some_iff.mp H
    obtain ⟨t134, A90, H⟩ := H
    replace H : ((newelref09_More.f k a0 l1).bind fun t135 => (if t134 = t135 then ((crc_Sum.f k l1).bind fun t136 => ((newelref09_More.f k 65535 l1).bind fun t137 => (newellaw09_CrcTells.j0 k (t136 == t137)))) else (none))) = some r := H
    have A9 := Aside0.mk A90
    clear A90
    replace H := Option.bind_eq_some_iff.mp H
    obtain ⟨t135, A100, H⟩ := H
    replace H : (if t134 = t135 then ((crc_Sum.f k l1).bind fun t136 => ((newelref09_More.f k 65535 l1).bind fun t137 => (newellaw09_CrcTells.j0 k (t136 == t137)))) else (none)) = some r := H
    have A10 := Aside0.mk A100
    clear A100
    by_cases c11 : t134 = t135
    ·rw [if_pos c11] at H
     have c11b0 : (t134 == t135) = true := beq_iff_eq.mpr c11
     have c11b1 : (t134 != t135) = false := bne_eq_false_iff_eq.mpr c11
     clear c11
     (first | rw [c11b0] | (simp only [i64_w, i32_w]; rw [c11b0]) | skip)
     replace H := Option.bind_eq_some_iff.mp H
     obtain ⟨t136, A120, H⟩ := H
     replace H : ((newelref09_More.f k 65535 l1).bind fun t137 => (newellaw09_CrcTells.j0 k (t136 == t137))) = some r := H
     have A12 := Aside0.mk A120
     clear A120
     replace H := Option.bind_eq_some_iff.mp H
     obtain ⟨t137, A130, H⟩ := H
     replace H : (newellaw09_CrcTells.j0 k (t136 == t137)) = some r := H
     have A13 := Aside0.mk A130
     clear A130
     have H' := Aside0.mk H
     clear H
     go_wp2_with (first | ((with_reducible refine gate_callee (f := 9) rfl ?_); refine goesL_ (some 9) rfl rfl Tryd.func9 (by kernel_rfl) rfl #[] rfl (by (try simp only [List.map_toArray, List.map_cons, List.map_nil]); first | done | rfl | (simp only [List.length_drop, List.length_take]; rfl)) ?_; (with_reducible refine (newellaw09_awake.calls k  true _ A7.out (by first | exact HTAB.out | ((repeat (first | exact HTAB.out | (with_reducible refine Laid.tab_alloc ?_ _) | (with_reducible refine Laid.tab_drewN ?_ _) | (with_reducible refine Laid.tab_drew ?_))); done) | (refine Laid.tab_below' HTAB.out ?_; (repeat (first | (with_reducible first | exact HB.out | apply below_alloc | apply pw_below_drewN | apply below_drew1) | exact HB.out | (refine below_set ?_ (Aside0.out (by assumption)))))))).mono ?_); rintro e w14 ⟨rfl, hb⟩; refine ⟨_, rfl, ?_⟩; have n0_ := Aside0.mk (below_step (by repeat (first | (with_reducible first | exact HB.out | apply below_alloc | apply pw_below_drewN | apply below_drew1) | exact HB.out)) hb); clear HB; have HB := n0_; clear n0_; (try clear hb); (try clear hb2); (try clear hk); (try clear hi)) | (go_at_call 10; (with_reducible refine (crc_More.calls k a0 _ _ l1 t134 _ ?side1 ?side2 A9.out (by first | exact HTAB.out | ((repeat (first | exact HTAB.out | (with_reducible refine Laid.tab_alloc ?_ _) | (with_reducible refine Laid.tab_drewN ?_ _) | (with_reducible refine Laid.tab_drew ?_))); done) | (refine Laid.tab_below' HTAB.out ?_; (repeat (first | (with_reducible first | exact HB.out | apply below_alloc | apply pw_below_drewN | apply below_drew1) | exact HB.out | (refine below_set ?_ (Aside0.out (by assumption)))))))).mono ?_); (case side1 => repeat (first | exact (Kd.C_below HR1.out HB.out) | (with_reducible refine Kd.C_alloc ?_ _) | (with_reducible refine Kd.C_drewN ?_ _) | (with_reducible refine Kd.C_drew ?_))); (case side2 => exact HC1.out); rintro e w' ⟨rfl, ⟨nd, rfl⟩⟩) | (go_at_call 11; (with_reducible refine (newelref09_More.calls k a0 _ _ l1 t135 _ ?side1 ?side2 A10.out).mono ?_); (case side1 => repeat (first | exact (Kd.C_below HR1.out (by repeat (first | (with_reducible first | exact HB.out | apply below_alloc | apply pw_below_drewN | apply below_drew1) | exact HB.out))) | (with_reducible refine Kd.C_alloc ?_ _) | (with_reducible refine Kd.C_drewN ?_ _) | (with_reducible refine Kd.C_drew ?_))); (case side2 => exact HC1.out); rintro e w' ⟨rfl, ⟨nd, rfl⟩⟩) | (go_at_call 12; (with_reducible refine (crc_Sum.calls k _ _ l1 t136 _ ?side1 ?side2 A12.out (by first | exact HTAB.out | ((repeat (first | exact HTAB.out | (with_reducible refine Laid.tab_alloc ?_ _) | (with_reducible refine Laid.tab_drewN ?_ _) | (with_reducible refine Laid.tab_drew ?_))); done) | (refine Laid.tab_below' HTAB.out ?_; (repeat (first | (with_reducible first | exact HB.out | apply below_alloc | apply pw_below_drewN | apply below_drew1) | exact HB.out | (refine below_set ?_ (Aside0.out (by assumption)))))))).mono ?_); (case side1 => repeat (first | exact (Kd.C_below HR1.out (by repeat (first | (with_reducible first | exact HB.out | apply below_alloc | apply pw_below_drewN | apply below_drew1) | exact HB.out))) | (with_reducible refine Kd.C_alloc ?_ _) | (with_reducible refine Kd.C_drewN ?_ _) | (with_reducible refine Kd.C_drew ?_))); (case side2 => exact HC1.out); rintro e w' ⟨rfl, ⟨nd, rfl⟩⟩) | (go_at_call 11; (with_reducible refine (newelref09_More.calls k 65535 _ _ l1 t137 _ ?side1 ?side2 A13.out).mono ?_); (case side1 => repeat (first | exact (Kd.C_below HR1.out (by repeat (first | (with_reducible first | exact HB.out | apply below_alloc | apply pw_below_drewN | apply below_drew1) | exact HB.out))) | (with_reducible refine Kd.C_alloc ?_ _) | (with_reducible refine Kd.C_drewN ?_ _) | (with_reducible refine Kd.C_drew ?_))); (case side2 => exact HC1.out); rintro e w' ⟨rfl, ⟨nd, rfl⟩⟩))
     go_meet
     case rel => exact ⟨_, ((t136 == t137)), (by first | rfl | (simp; done) | (simp [*]; done)), H', ⟨by first | omega | exact Nat.le_refl _⟩, ⟨by repeat (first | (with_reducible first | exact HB.out | apply below_alloc | apply pw_below_drewN | apply below_drew1) | exact HB.out)⟩⟩
    ·rw [if_neg c11] at H
     exact absurd H (by simp)
   ·replace c8 := Bool.eq_false_iff.mpr c8
    subst c8
    have H1 : (none) = some r := by rw [if_neg (show ¬ (false = true) by decide)] at H; exact H
    clear H
    have H := H1
    clear H1
    exact absurd H (by simp)
  case rest =>
   clear HC6
   try clear c1
   try clear p2
   try clear c3
   try clear c3b0
   try clear c3b1
   try clear c8
   try clear c9
   try clear c11
   try clear c11b0
   try clear c11b1
   obtain ⟨kq, x4_5, rfl, HA, HJ5, HB⟩ := hcut
   cases kq with
   | zero => exact absurd HA.out (by simp [newellaw09_CrcTells.j0])
   | succ kj5 =>
    have H := HA.out
    clear HA
    simp only [newellaw09_CrcTells.j0] at H
    obtain rfl := Option.some.inj H
    go_wp2
    go_ret
    exact ⟨by first | rfl | (simp [errW_none, errW_some] <;> rfl) | (simp [*, errW_none, errW_some] <;> rfl), by repeat (first | (with_reducible first | exact HB.out | apply below_alloc | apply pw_below_drewN | apply below_drew1) | exact HB.out)⟩


end Go.Proofs.YtcnjaeeghfmkfaaDoor.C
