-- Written by a program of this session (wip/pp: the kit's print, changed), out of the translation. Lean checks it.
import Derived.Test.YtjfikeahafflfaaCx0
import Derived.Test.YtjfikeahafflfaaCxf33
namespace Go.Proofs.Ytjfikeahafflfaa.C
open Go.RowKit Go.Proofs.YtjfikeahafflfaaW.PrintWords Go.Proofs.YtjfikeahafflfaaW.PrintLast Go.Proofs.YtjfikeahafflfaaW.PrintMore
attribute [local go_sem] max2_int min2_int max_two min_two max_three min_three max_four min_four   -- for this text's walks alone
set_option linter.unusedVariables false
set_option linter.unusedSimpArgs false

/-! ### wire_Get: function 14 -/
def wire_Get.j0 : Nat → List Int → Int → Bool → Option (Int × Int × Int)
 | 0, _, _, _ => none
 | k + 1, x0, x1, x18 => if x18 = true then (some (0, 0, 80)) else (if 0 ≤ x1 then (if x1 ≤ (x0.length : Int) then ((wire_read.f k (x0.drop (x1 : Int).toNat)).bind fun bt103 => (if bt103.2.2 = 0 then (some (0, 0, 81)) else (if bt103.2.2 = 1 then (some (0, 0, 82)) else (if (Go.bits .and .u64 bt103.1 1) = 1 then (some (Go.bits .xor .i64 (-1) (wrap64 (bt103.1 / 2)), wrap64 (x1 + bt103.2.1), 0)) else (some (wrap64 (bt103.1 / 2), wrap64 (x1 + bt103.2.1), 0)))))) else (none)) else (none))
def wire_Get.f (k : Nat) (l0 : List Int) (a1 : Int) : Option (Int × Int × Int) := if a1 < 0 then (wire_Get.j0 k l0 a1 true) else (wire_Get.j0 k l0 a1 (decide (a1 > (l0.length : Int))))
theorem wire_Get.mono_l : ∀ k, (∀ y0 y1 y2, LeO (wire_Get.j0 k y0 y1 y2) (wire_Get.j0 (k + 1) y0 y1 y2))
 | 0 => fun _ _ _ r h => by simp [wire_Get.j0] at h
 | k + 1 => by
  have ih0 := wire_Get.mono_l k
  ·intro y0 y1 y2
   unfold wire_Get.j0
   repeat' first
   | (with_reducible exact ih0 _ _ _)
   | (with_reducible exact wire_read.mono _ _)
   | (with_reducible exact LeO.refl _)
   | (with_reducible exact LeO.none _)
   | (with_reducible refine LeO.ite ?_ ?_)
   | (with_reducible refine LeO.bind ?_ (fun _ => ?_))
   | exact ih0 _ _ _
   | exact wire_read.mono _ _
   | exact LeO.none _
   | refine LeO.ite ?_ ?_
   | refine LeO.bind ?_ (fun _ => ?_)
theorem wire_Get.mono : ∀ a0 a1 k, LeO (wire_Get.f k a0 a1) (wire_Get.f (k + 1) a0 a1) := by
 intro a0 a1 k
 have ih0 := wire_Get.mono_l k
 unfold wire_Get.f
 repeat' first
   | (with_reducible exact ih0 _ _ _)
   | (with_reducible exact wire_read.mono _ _)
   | (with_reducible exact LeO.refl _)
   | (with_reducible exact LeO.none _)
   | (with_reducible refine LeO.ite ?_ ?_)
   | (with_reducible refine LeO.bind ?_ (fun _ => ?_))
   | exact ih0 _ _ _
   | exact wire_read.mono _ _
   | exact LeO.none _
   | refine LeO.ite ?_ ?_
   | refine LeO.bind ?_ (fun _ => ?_)
set_option maxHeartbeats 8000000 in
set_option maxRecDepth 100000 in
theorem wire_Get.calls (k : Nat) (A0 : Option Addr) (c0 : Nat) (l0 : List Int) (a1 : Int) (r1 : Int) (r2 : Int) (r3 : Int) (w : World) (hr0 : Kd.C (Kd.int .u8) w A0 l0.length l0) (hc0 : l0.length ≤ c0) (h : wire_Get.f k l0 a1 = some (r1, r2, r3)) :
  Calls Try.prog 14 #[.slice A0 l0.length c0, .int .i64 a1] w fun e w' => e = .returned (.tuple #[.int .i64 r1, .int .i64 r2, .int .i64 r3]) ∧ Drawn0 w w' := by
 have HR0 := Aside0.mk hr0
 have HC0 := Aside0.mk hc0
 clear hr0 hc0
 have H : (if a1 < 0 then (wire_Get.j0 k l0 a1 true) else (wire_Get.j0 k l0 a1 (decide (a1 > (l0.length : Int))))) = some (r1, r2, r3) := h
 clear h
 have HC3 := Aside0.mk H
 clear H
 go_enter Try.func14, Try.ntmps14
 go_upto_region 1 with (fail)
 go_cut [18] (fun v18 wc => ∃ (kq : Nat) (x18_2 : Bool), v18 = .bool x18_2 ∧ Aside0 (wire_Get.j0 kq l0 a1 x18_2 = some (r1, r2, r3)) ∧ Aside0 (kq ≤ k) ∧ Drawn0 w wc)
 case first =>
  have H := HC3.out
  clear HC3
  by_cases c4 : a1 < 0
  ·rw [if_pos c4] at H
   have c4b0 : decide (a1 < 0) = true := decide_eq_true c4
   clear c4
   (first | rw [c4b0] | (simp only [i64_w, i32_w]; rw [c4b0]) | skip)
   have H' := Aside0.mk H
   clear H
   go_wp2
   go_meet
   case rel => exact ⟨_, (true), (by first | rfl | (simp; done) | (simp [*]; done)), H', ⟨by first | omega | exact Nat.le_refl _⟩, by repeat (first | exact Drawn0.refl _ | apply Drawn0.step)⟩
  ·rw [if_neg c4] at H
   have c4b0 : decide (a1 < 0) = false := decide_eq_false c4
   clear c4
   (first | rw [c4b0] | (simp only [i64_w, i32_w]; rw [c4b0]) | skip)
   have H' := Aside0.mk H
   clear H
   go_wp2
   go_meet
   case rel => exact ⟨_, (decide (a1 > (l0.length : Int))), (by first | rfl | (simp; done) | (simp [*]; done)), H', ⟨by first | omega | exact Nat.le_refl _⟩, by repeat (first | exact Drawn0.refl _ | apply Drawn0.step)⟩
 case rest =>
  clear HC3
  try clear c1
  try clear p2
  try clear c4
  try clear c4b0
  obtain ⟨kq, x18_2, rfl, HA, HJ2, ⟨mc2, rfl⟩⟩ := hcut
  cases kq with
  | zero => exact absurd HA.out (by simp [wire_Get.j0])
  | succ kj2 =>
   have H := HA.out
   clear HA
   simp only [wire_Get.j0] at H
   by_cases c5 : x18_2 = true
   ·subst c5
    have H1 : (some (0, 0, 80)) = some (r1, r2, r3) := by rw [if_pos rfl] at H; exact H
    clear H
    have H := H1
    clear H1
    simp only [Option.some.injEq, Prod.mk.injEq] at H
    obtain ⟨rfl, rfl, rfl⟩ := H
    go_wp2
    go_ret3
    exact ⟨by first | rfl | (simp; done) | (simp [*]; done), by repeat (first | exact Drawn0.refl _ | apply Drawn0.step)⟩
   ·replace c5 := Bool.eq_false_iff.mpr c5
    subst c5
    have H1 : (if 0 ≤ a1 then (if a1 ≤ (l0.length : Int) then ((wire_read.f kj2 (l0.drop (a1 : Int).toNat)).bind fun bt103 => (if bt103.2.2 = 0 then (some (0, 0, 81)) else (if bt103.2.2 = 1 then (some (0, 0, 82)) else (if (Go.bits .and .u64 bt103.1 1) = 1 then (some (Go.bits .xor .i64 (-1) (wrap64 (bt103.1 / 2)), wrap64 (a1 + bt103.2.1), 0)) else (some (wrap64 (bt103.1 / 2), wrap64 (a1 + bt103.2.1), 0)))))) else (none)) else (none)) = some (r1, r2, r3) := by rw [if_neg (show ¬ (false = true) by decide)] at H; exact H
    clear H
    have H := H1
    clear H1
    by_cases c6 : 0 ≤ a1
    ·rw [if_pos c6] at H
     have c6b0 := eq_true c6
     have c6b1 : decide (0 ≤ a1) = true := decide_eq_true c6
     clear c6
     by_cases c7 : a1 ≤ (l0.length : Int)
     ·rw [if_pos c7] at H
      have c7b0 := eq_true c7
      have c7b1 : decide (a1 ≤ (l0.length : Int)) = true := decide_eq_true c7
      clear c7
      replace H := Option.bind_eq_some_iff.mp H
      obtain ⟨⟨t103, t104, t105⟩, A80, H⟩ := H
      replace H : (if t105 = 0 then (some (0, 0, 81)) else (if t105 = 1 then (some (0, 0, 82)) else (if (Go.bits .and .u64 t103 1) = 1 then (some (Go.bits .xor .i64 (-1) (wrap64 (t103 / 2)), wrap64 (a1 + t104), 0)) else (some (wrap64 (t103 / 2), wrap64 (a1 + t104), 0))))) = some (r1, r2, r3) := H
      have A8 := Aside0.mk A80
      clear A80
      by_cases c9 : t105 = 0
      ·rw [if_pos c9] at H
       have c9b0 : (t105 == 0) = true := beq_iff_eq.mpr c9
       have c9b1 : (t105 != 0) = false := bne_eq_false_iff_eq.mpr c9
       clear c9
       simp only [Option.some.injEq, Prod.mk.injEq] at H
       obtain ⟨rfl, rfl, rfl⟩ := H
       obtain ⟨i010, hi010, _, hsz10, _⟩ := info_parts info5
       obtain ⟨A10, hcut10, hA10, hC10⟩ := print_drop_of (P := Try.prog) (Value.int .u8) 0 22 5 .i64 Try.underlying22 hi010 hsz10 A0 c0 l0 a1 (of_decide_eq_true (by first | (with_reducible assumption) | assumption)) (of_decide_eq_true (by first | (with_reducible assumption) | assumption)) HC0.out
       have HR102 := Aside0.mk (Kd.C_of_reads (h1 := fun _ => rfl) (hA10 _ (Kd.reads_of_C HR0.out)))
       have HC102 := Aside0.mk hC10
       clear hA10 hC10 hi010 hsz10
       go_wp2_with (first | ((with_reducible refine gate_callee (f := 33) rfl ?_); refine goesL_ (some 23) rfl rfl Try.func33 (by kernel_rfl) rfl #[.slice A10 (l0.drop (a1 : Int).toNat).length (c0 - a1.toNat)] rfl (by (try simp only [List.map_toArray, List.map_cons, List.map_nil]); first | done | (rw [show (l0.drop (a1 : Int).toNat).length = (l0.length - a1.toNat) from List.length_drop] <;> rfl) | rfl | (simp only [List.length_drop, List.length_take]; rfl)) ?_; (with_reducible refine (wire_read.calls kj2 _ _ (l0.drop (a1 : Int).toNat) t103 t104 t105 _ ?side1 ?side2 A8.out).mono ?_); (case side1 => repeat (first | exact HR102.out | (with_reducible refine Kd.C_alloc ?_ _) | (with_reducible refine Kd.C_drewN ?_ _) | (with_reducible refine Kd.C_drew ?_))); (case side2 => exact HC102.out); rintro e w' ⟨rfl, ⟨nd, rfl⟩⟩; refine ⟨_, rfl, ?_⟩))
       go_ret3
       exact ⟨by first | rfl | (simp; done) | (simp [*]; done), by repeat (first | exact Drawn0.refl _ | apply Drawn0.step)⟩
      ·rw [if_neg c9] at H
       have c9b0 : (t105 == 0) = false := beq_eq_false_iff_ne.mpr c9
       have c9b1 : (t105 != 0) = true := bne_iff_ne.mpr c9
       by_cases c11 : t105 = 1
       ·rw [if_pos c11] at H
        have c11b0 : (t105 == 1) = true := beq_iff_eq.mpr c11
        have c11b1 : (t105 != 1) = false := bne_eq_false_iff_eq.mpr c11
        clear c11
        simp only [Option.some.injEq, Prod.mk.injEq] at H
        obtain ⟨rfl, rfl, rfl⟩ := H
        obtain ⟨i012, hi012, _, hsz12, _⟩ := info_parts info5
        obtain ⟨A12, hcut12, hA12, hC12⟩ := print_drop_of (P := Try.prog) (Value.int .u8) 0 22 5 .i64 Try.underlying22 hi012 hsz12 A0 c0 l0 a1 (of_decide_eq_true (by first | (with_reducible assumption) | assumption)) (of_decide_eq_true (by first | (with_reducible assumption) | assumption)) HC0.out
        have HR102 := Aside0.mk (Kd.C_of_reads (h1 := fun _ => rfl) (hA12 _ (Kd.reads_of_C HR0.out)))
        have HC102 := Aside0.mk hC12
        clear hA12 hC12 hi012 hsz12
        go_wp2_with (first | ((with_reducible refine gate_callee (f := 33) rfl ?_); refine goesL_ (some 23) rfl rfl Try.func33 (by kernel_rfl) rfl #[.slice A12 (l0.drop (a1 : Int).toNat).length (c0 - a1.toNat)] rfl (by (try simp only [List.map_toArray, List.map_cons, List.map_nil]); first | done | (rw [show (l0.drop (a1 : Int).toNat).length = (l0.length - a1.toNat) from List.length_drop] <;> rfl) | rfl | (simp only [List.length_drop, List.length_take]; rfl)) ?_; (with_reducible refine (wire_read.calls kj2 _ _ (l0.drop (a1 : Int).toNat) t103 t104 t105 _ ?side1 ?side2 A8.out).mono ?_); (case side1 => repeat (first | exact HR102.out | (with_reducible refine Kd.C_alloc ?_ _) | (with_reducible refine Kd.C_drewN ?_ _) | (with_reducible refine Kd.C_drew ?_))); (case side2 => exact HC102.out); rintro e w' ⟨rfl, ⟨nd, rfl⟩⟩; refine ⟨_, rfl, ?_⟩))
        go_ret3
        exact ⟨by first | rfl | (simp; done) | (simp [*]; done), by repeat (first | exact Drawn0.refl _ | apply Drawn0.step)⟩
       ·rw [if_neg c11] at H
        have c11b0 : (t105 == 1) = false := beq_eq_false_iff_ne.mpr c11
        have c11b1 : (t105 != 1) = true := bne_iff_ne.mpr c11
        by_cases c13 : (Go.bits .and .u64 t103 1) = 1
        ·rw [if_pos c13] at H
         have c13b0 : ((Go.bits .and .u64 t103 1) == 1) = true := beq_iff_eq.mpr c13
         have c13b1 : ((Go.bits .and .u64 t103 1) != 1) = false := bne_eq_false_iff_eq.mpr c13
         clear c13
         simp only [Option.some.injEq, Prod.mk.injEq] at H
         obtain ⟨rfl, rfl, rfl⟩ := H
         obtain ⟨i014, hi014, _, hsz14, _⟩ := info_parts info5
         obtain ⟨A14, hcut14, hA14, hC14⟩ := print_drop_of (P := Try.prog) (Value.int .u8) 0 22 5 .i64 Try.underlying22 hi014 hsz14 A0 c0 l0 a1 (of_decide_eq_true (by first | (with_reducible assumption) | assumption)) (of_decide_eq_true (by first | (with_reducible assumption) | assumption)) HC0.out
         have HR102 := Aside0.mk (Kd.C_of_reads (h1 := fun _ => rfl) (hA14 _ (Kd.reads_of_C HR0.out)))
         have HC102 := Aside0.mk hC14
         clear hA14 hC14 hi014 hsz14
         go_wp2_with (first | ((with_reducible refine gate_callee (f := 33) rfl ?_); refine goesL_ (some 23) rfl rfl Try.func33 (by kernel_rfl) rfl #[.slice A14 (l0.drop (a1 : Int).toNat).length (c0 - a1.toNat)] rfl (by (try simp only [List.map_toArray, List.map_cons, List.map_nil]); first | done | (rw [show (l0.drop (a1 : Int).toNat).length = (l0.length - a1.toNat) from List.length_drop] <;> rfl) | rfl | (simp only [List.length_drop, List.length_take]; rfl)) ?_; (with_reducible refine (wire_read.calls kj2 _ _ (l0.drop (a1 : Int).toNat) t103 t104 t105 _ ?side1 ?side2 A8.out).mono ?_); (case side1 => repeat (first | exact HR102.out | (with_reducible refine Kd.C_alloc ?_ _) | (with_reducible refine Kd.C_drewN ?_ _) | (with_reducible refine Kd.C_drew ?_))); (case side2 => exact HC102.out); rintro e w' ⟨rfl, ⟨nd, rfl⟩⟩; refine ⟨_, rfl, ?_⟩))
         go_ret3
         exact ⟨by first | rfl | (simp; done) | (simp [*]; done), by repeat (first | exact Drawn0.refl _ | apply Drawn0.step)⟩
        ·rw [if_neg c13] at H
         have c13b0 : ((Go.bits .and .u64 t103 1) == 1) = false := beq_eq_false_iff_ne.mpr c13
         have c13b1 : ((Go.bits .and .u64 t103 1) != 1) = true := bne_iff_ne.mpr c13
         simp only [Option.some.injEq, Prod.mk.injEq] at H
         obtain ⟨rfl, rfl, rfl⟩ := H
         obtain ⟨i015, hi015, _, hsz15, _⟩ := info_parts info5
         obtain ⟨A15, hcut15, hA15, hC15⟩ := print_drop_of (P := Try.prog) (Value.int .u8) 0 22 5 .i64 Try.underlying22 hi015 hsz15 A0 c0 l0 a1 (of_decide_eq_true (by first | (with_reducible assumption) | assumption)) (of_decide_eq_true (by first | (with_reducible assumption) | assumption)) HC0.out
         have HR102 := Aside0.mk (Kd.C_of_reads (h1 := fun _ => rfl) (hA15 _ (Kd.reads_of_C HR0.out)))
         have HC102 := Aside0.mk hC15
         clear hA15 hC15 hi015 hsz15
         go_wp2_with (first | ((with_reducible refine gate_callee (f := 33) rfl ?_); refine goesL_ (some 23) rfl rfl Try.func33 (by kernel_rfl) rfl #[.slice A15 (l0.drop (a1 : Int).toNat).length (c0 - a1.toNat)] rfl (by (try simp only [List.map_toArray, List.map_cons, List.map_nil]); first | done | (rw [show (l0.drop (a1 : Int).toNat).length = (l0.length - a1.toNat) from List.length_drop] <;> rfl) | rfl | (simp only [List.length_drop, List.length_take]; rfl)) ?_; (with_reducible refine (wire_read.calls kj2 _ _ (l0.drop (a1 : Int).toNat) t103 t104 t105 _ ?side1 ?side2 A8.out).mono ?_); (case side1 => repeat (first | exact HR102.out | (with_reducible refine Kd.C_alloc ?_ _) | (with_reducible refine Kd.C_drewN ?_ _) | (with_reducible refine Kd.C_drew ?_))); (case side2 => exact HC102.out); rintro e w' ⟨rfl, ⟨nd, rfl⟩⟩; refine ⟨_, rfl, ?_⟩))
         go_ret3
         exact ⟨by first | rfl | (simp; done) | (simp [*]; done), by repeat (first | exact Drawn0.refl _ | apply Drawn0.step)⟩
     ·rw [if_neg c7] at H
      exact absurd H (by simp)
    ·rw [if_neg c6] at H
     exact absurd H (by simp)

end Go.Proofs.Ytjfikeahafflfaa.C
