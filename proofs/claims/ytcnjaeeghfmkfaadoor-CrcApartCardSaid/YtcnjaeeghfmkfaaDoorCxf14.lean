-- Written by a program of this session (wip/pp: the kit's print, changed), out of the translation. Lean checks it.
import Derived.Test.YtcnjaeeghfmkfaaDoorCx0
import Derived.Test.YtcnjaeeghfmkfaaDoorCxf11
namespace Go.Proofs.YtcnjaeeghfmkfaaDoor.C
open Go.RowKit Go.Proofs.YtcnjaeeghfmkfaaDoorW.PrintWords Go.Proofs.YtcnjaeeghfmkfaaDoorW.PrintLast Go.Proofs.YtcnjaeeghfmkfaaDoorW.PrintMore
attribute [local go_sem] max2_int min2_int max_two min_two max_three min_three max_four min_four   -- for this text's walks alone
set_option linter.unusedVariables false
set_option linter.unusedSimpArgs false

/-! ### newelref09_Open: function 14 -/
def newelref09_Open.f (k : Nat) (l0 : List Int) : Option (List Int × Int) := if (l0.length : Int) < 2 then (some (([] : List Int), 90)) else (if 0 ≤ (wrap64 ((l0.length : Int) - 2)) then (if (wrap64 ((l0.length : Int) - 2)) ≤ (l0.length : Int) then ((newelref09_More.f k 65535 (l0.take ((wrap64 ((l0.length : Int) - 2)) : Int).toNat)).bind fun t143 => (if (wrap64 ((l0.length : Int) - 2)) < (l0.length : Int) then (if (wrap64 (rd l0 (wrap64 ((l0.length : Int) - 2)))) = (wrap64 (Int.tdiv t143 256)) then (if 0 ≤ (wrap64 ((wrap64 ((l0.length : Int) - 2)) + 1)) then (if (wrap64 ((wrap64 ((l0.length : Int) - 2)) + 1)) < (l0.length : Int) then (if (wrap64 (rd l0 (wrap64 ((wrap64 ((l0.length : Int) - 2)) + 1)))) = (Int.tmod t143 256) then (some ((l0.take ((wrap64 ((l0.length : Int) - 2)) : Int).toNat), 0)) else (some (([] : List Int), 91))) else (none)) else (none)) else (some (([] : List Int), 91))) else (none))) else (none)) else (none))
theorem newelref09_Open.mono : ∀ a0 k, LeO (newelref09_Open.f k a0) (newelref09_Open.f (k + 1) a0) := by
 intro a0 k
 unfold newelref09_Open.f
 repeat' first
   | (with_reducible exact newelref09_More.mono _ _ _)
   | (with_reducible exact LeO.refl _)
   | (with_reducible exact LeO.none _)
   | (with_reducible refine LeO.ite ?_ ?_)
   | (with_reducible refine LeO.bind ?_ (fun _ => ?_))
   | exact newelref09_More.mono _ _ _
   | exact LeO.none _
   | refine LeO.ite ?_ ?_
   | refine LeO.bind ?_ (fun _ => ?_)
set_option maxHeartbeats 8000000 in
set_option maxRecDepth 100000 in
theorem newelref09_Open.calls (k : Nat) (P0_ : Nat → Prop) (A0 : Option Addr) (c0 : Nat) (l0 : List Int) (r1 : List Int) (r2 : Int) (w : World) (hs0 : Kd.V (Kd.int .u8) 5 w w.heap.size (fun k_ => P0_ k_) (.slice A0 l0.length c0) l0) (h : newelref09_Open.f k l0 = some (r1, r2)) :
  Calls Tryd.prog 14 #[.slice A0 l0.length c0] w fun e w' => ∃ v0_ : Value, e = .returned (.tuple #[v0_, .int .i64 r2]) ∧ Kd.V (Kd.int .u8) 5 w' w.heap.size (fun k_ => (P0_ k_ ∨ w.heap.size ≤ k_)) v0_ r1 ∧ Below w.heap.size w w' := by
 have HO0 := Aside0.mk (show Kd.V (Kd.int .u8) 5 w w.heap.size (fun k_ => (P0_ k_ ∨ w.heap.size ≤ k_)) (.slice A0 l0.length c0) l0 from Kd.V_mono hs0 (fun k_ hk => .inl hk))
 have HB := Aside0.mk (Below.refl w.heap.size w)
 have H : (if (l0.length : Int) < 2 then (some (([] : List Int), 90)) else (if 0 ≤ (wrap64 ((l0.length : Int) - 2)) then (if (wrap64 ((l0.length : Int) - 2)) ≤ (l0.length : Int) then ((newelref09_More.f k 65535 (l0.take ((wrap64 ((l0.length : Int) - 2)) : Int).toNat)).bind fun t143 => (if (wrap64 ((l0.length : Int) - 2)) < (l0.length : Int) then (if (wrap64 (rd l0 (wrap64 ((l0.length : Int) - 2)))) = (wrap64 (Int.tdiv t143 256)) then (if 0 ≤ (wrap64 ((wrap64 ((l0.length : Int) - 2)) + 1)) then (if (wrap64 ((wrap64 ((l0.length : Int) - 2)) + 1)) < (l0.length : Int) then (if (wrap64 (rd l0 (wrap64 ((wrap64 ((l0.length : Int) - 2)) + 1)))) = (Int.tmod t143 256) then (some ((l0.take ((wrap64 ((l0.length : Int) - 2)) : Int).toNat), 0)) else (some (([] : List Int), 91))) else (none)) else (none)) else (some (([] : List Int), 91))) else (none))) else (none)) else (none))) = some (r1, r2) := h
 clear h
 by_cases c2 : (l0.length : Int) < 2
 ·rw [if_pos c2] at H
  have c2b0 : decide ((l0.length : Int) < 2) = true := decide_eq_true c2
  have c2b1 : decide (l0.length < 2) = true := decide_eq_true (by omega)
  clear c2
  simp only [Option.some.injEq, Prod.mk.injEq] at H
  obtain ⟨rfl, rfl⟩ := H
  go_enter Tryd.func14, Tryd.ntmps14
  go_wp2
  go_ret2
  refine ⟨.slice none 0 0, by first | rfl | (simp [errW_none, errW_some] <;> rfl) | (simp [*, errW_none, errW_some] <;> rfl), Kd.V_mono (Kd.R_V (Kd.R_nil _ _ _ w.heap.size _)) (fun k_ hk => by first | exact ⟨(.inr (hk.1)), hk.2⟩ | exact (.inr (hk))), by repeat (first | (with_reducible first | exact HB.out | apply below_alloc | apply pw_below_drewN | apply below_drew1) | exact HB.out)⟩
 ·rw [if_neg c2] at H
  have c2b0 : decide ((l0.length : Int) < 2) = false := decide_eq_false c2
  have c2b1 : decide (l0.length < 2) = false := decide_eq_false (by omega)
  clear c2
  obtain ⟨ji3, hji3⟩ : ∃ j_ : Int, (wrap64 ((l0.length : Int) - 2)) = j_ := ⟨_, rfl⟩
  replace H : (if 0 ≤ (ji3) then (if (ji3) ≤ (l0.length : Int) then ((newelref09_More.f k 65535 (l0.take ((ji3) : Int).toNat)).bind fun t143 => (if (ji3) < (l0.length : Int) then (if (wrap64 (rd l0 (ji3))) = (wrap64 (Int.tdiv t143 256)) then (if 0 ≤ (wrap64 ((ji3) + 1)) then (if (wrap64 ((ji3) + 1)) < (l0.length : Int) then (if (wrap64 (rd l0 (wrap64 ((ji3) + 1)))) = (Int.tmod t143 256) then (some ((l0.take ((ji3) : Int).toNat), 0)) else (some (([] : List Int), 91))) else (none)) else (none)) else (some (([] : List Int), 91))) else (none))) else (none)) else (none)) = some (r1, r2) := by first | (rw [hji3] at H; exact H) | (simp only [hji3] at H ⊢; exact H)
  have hji3w : (IntKind.i64.wrap ((l0.length : Int) - 2)) = ji3 := (i64_w _).trans hji3
  by_cases c4 : 0 ≤ (ji3)
  ·rw [if_pos c4] at H
   have c4b0 := eq_true c4
   have c4b1 : decide (0 ≤ (ji3)) = true := decide_eq_true c4
   clear c4
   by_cases c5 : (ji3) ≤ (l0.length : Int)
   ·rw [if_pos c5] at H
    have c5b0 := eq_true c5
    have c5b1 : decide ((ji3) ≤ (l0.length : Int)) = true := decide_eq_true c5
    clear c5
    obtain ⟨y138, hy138⟩ : ∃ y_ : List Int, y_ = (l0.take ((ji3) : Int).toNat) := ⟨_, rfl⟩
    replace H : ((newelref09_More.f k 65535 y138).bind fun t143 => (if (ji3) < (l0.length : Int) then (if (wrap64 (rd l0 (ji3))) = (wrap64 (Int.tdiv t143 256)) then (if 0 ≤ (wrap64 ((ji3) + 1)) then (if (wrap64 ((ji3) + 1)) < (l0.length : Int) then (if (wrap64 (rd l0 (wrap64 ((ji3) + 1)))) = (Int.tmod t143 256) then (some ((l0.take ((ji3) : Int).toNat), 0)) else (some (([] : List Int), 91))) else (none)) else (none)) else (some (([] : List Int), 91))) else (none))) = some (r1, r2) := by first | (rw [hy138]; with_reducible exact H) | (have H2_ := (Option.bind_some _ _).symm.trans H; rw [hy138]; with_reducible exact H2_) | (have H2_ := (Option.bind_some _ _).symm.trans H; with_reducible exact H2_) | with_reducible exact H | (rw [hy138]; exact H) | exact H
    have Ny138 := Aside0.mk hy138
    clear hy138
    replace H := Option.bind_eq_some_iff.mp H
    obtain ⟨t143, A60, H⟩ := H
    replace H : (if (ji3) < (l0.length : Int) then (if (wrap64 (rd l0 (ji3))) = (wrap64 (Int.tdiv t143 256)) then (if 0 ≤ (wrap64 ((ji3) + 1)) then (if (wrap64 ((ji3) + 1)) < (l0.length : Int) then (if (wrap64 (rd l0 (wrap64 ((ji3) + 1)))) = (Int.tmod t143 256) then (some ((l0.take ((ji3) : Int).toNat), 0)) else (some (([] : List Int), 91))) else (none)) else (none)) else (some (([] : List Int), 91))) else (none)) = some (r1, r2) := H
    have A6 := Aside0.mk A60
    clear A60
    by_cases c7 : (ji3) < (l0.length : Int)
    ·rw [if_pos c7] at H
     have c7b0 : decide ((ji3) < (l0.length : Int)) = true := decide_eq_true c7
     clear c7
     by_cases c8 : (wrap64 (rd l0 (ji3))) = (wrap64 (Int.tdiv t143 256))
     ·rw [if_pos c8] at H
      have c8b0 : ((wrap64 (rd l0 (ji3))) == (wrap64 (Int.tdiv t143 256))) = true := beq_iff_eq.mpr c8
      have c8b1 : ((wrap64 (rd l0 (ji3))) != (wrap64 (Int.tdiv t143 256))) = false := bne_eq_false_iff_eq.mpr c8
      clear c8
      obtain ⟨ji9, hji9⟩ : ∃ j_ : Int, (wrap64 ((ji3) + 1)) = j_ := ⟨_, rfl⟩
      replace H : (if 0 ≤ (ji9) then (if (ji9) < (l0.length : Int) then (if (wrap64 (rd l0 (ji9))) = (Int.tmod t143 256) then (some ((l0.take ((ji3) : Int).toNat), 0)) else (some (([] : List Int), 91))) else (none)) else (none)) = some (r1, r2) := by first | (rw [hji9] at H; exact H) | (simp only [hji9] at H ⊢; exact H)
      (try rw [hji9] at A6)
      have hji9w : (IntKind.i64.wrap ((ji3) + 1)) = ji9 := (i64_w _).trans hji9
      by_cases c10 : 0 ≤ (ji9)
      ·rw [if_pos c10] at H
       have c10b0 : decide (0 ≤ (ji9)) = true := decide_eq_true c10
       clear c10
       by_cases c11 : (ji9) < (l0.length : Int)
       ·rw [if_pos c11] at H
        have c11b0 : decide ((ji9) < (l0.length : Int)) = true := decide_eq_true c11
        clear c11
        by_cases c12 : (wrap64 (rd l0 (ji9))) = (Int.tmod t143 256)
        ·rw [if_pos c12] at H
         have c12b0 : ((wrap64 (rd l0 (ji9))) == (Int.tmod t143 256)) = true := beq_iff_eq.mpr c12
         have c12b1 : ((wrap64 (rd l0 (ji9))) != (Int.tmod t143 256)) = false := bne_eq_false_iff_eq.mpr c12
         clear c12
         have c13b0 := eq_true (of_decide_eq_true (by first | (with_reducible assumption) | assumption) : 0 ≤ (ji3))
         have c14b0 := eq_true (of_decide_eq_true (by first | (with_reducible assumption) | assumption) : (ji3) ≤ (l0.length : Int))
         obtain ⟨y146, hy146⟩ : ∃ y_ : List Int, y_ = (l0.take ((ji3) : Int).toNat) := ⟨_, rfl⟩
         replace H : (some (y146, 0)) = some (r1, r2) := by first | (rw [hy146]; with_reducible exact H) | (have H2_ := (Option.bind_some _ _).symm.trans H; rw [hy146]; with_reducible exact H2_) | (have H2_ := (Option.bind_some _ _).symm.trans H; with_reducible exact H2_) | with_reducible exact H | (rw [hy146]; exact H) | exact H
         have Ny146 := Aside0.mk hy146
         clear hy146
         simp only [Option.some.injEq, Prod.mk.injEq] at H
         obtain ⟨rfl, rfl⟩ := H
         have q15 : ((ji3) : Int) ≤ ((l0.length : Int) : Int) := of_decide_eq_true (by first | (with_reducible assumption) | assumption)
         obtain ⟨i015, hi015, _, hsz15, _⟩ := info_parts info5
         have hroom15 : l0.length ≤ c0 := (Kd.V_reads' HO0.out).2.1
         have hC15 : Kd.F (Kd.int .u8) _ _ A0 l0.length l0 := (Kd.V_at (base := w.heap.size) HO0.out).2.2
         have hcut15 := cut_to (P := Tryd.prog) 22 5 .i64 Tryd.underlying22 hi015 A0 l0.length c0 (ji3) (of_decide_eq_true (by first | (with_reducible assumption) | assumption)) q15 hroom15
         have hr15 := Kd.F_take (m := ((ji3) : Int).toNat) hC15 (by omega)
         have hy15 : y138.length = ((ji3) : Int).toNat := (by rw [Ny138.out, List.length_take]; omega)
         rw [← Ny138.out] at hr15
         rw [← hy15] at hcut15
         have HO142 := Aside0.mk (show Kd.V (Kd.int .u8) 5 _ w.heap.size _ (.slice A0 y138.length c0) y138 from Kd.V_mk (by omega) hr15)
         have HC142 := Aside0.mk (show y138.length ≤ c0 from by omega)
         clear hr15 hC15 hroom15 hi015 hsz15
         have KY15 := Aside0.mk hy15
         clear hy15
         replace q15 := eq_true q15
         go_enter Tryd.func14, Tryd.ntmps14
         go_wp2_with (first | ((with_reducible refine gate_callee (f := 11) rfl ?_); refine goesL_ (some 15) rfl rfl Tryd.func11 (by kernel_rfl) rfl #[.int .i64 65535, .slice A0 y138.length c0] rfl (by (try simp only [List.map_toArray, List.map_cons, List.map_nil]); first | done | rfl | (simp only [List.length_drop, List.length_take]; rfl)) ?_; (with_reducible refine (newelref09_More.calls k 65535 _ _ y138 t143 _ ?side1 ?side2 A6.out).mono ?_); (case side1 => repeat (first | exact (Kd.V_reads' HO142.out).2.2 | (with_reducible refine Kd.C_alloc ?_ _) | (with_reducible refine Kd.C_drewN ?_ _) | (with_reducible refine Kd.C_drew ?_))); (case side2 => exact (Kd.V_reads' HO142.out).2.1); rintro e w' ⟨rfl, ⟨nd, rfl⟩⟩; refine ⟨_, rfl, ?_⟩; have p144 : 0 ≤ ((ji3) : Int) := of_decide_eq_true (by first | (with_reducible assumption) | assumption); have q144 : (ji3) < (l0.length : Int) := of_decide_eq_true (by first | (with_reducible assumption) | assumption); obtain ⟨ad144, e144, hx144_0⟩ := Kd.at_int (Kd.V_reads' HO0.out).2.2 (ji3) p144 q144; cases e144; replace p144 := eq_true p144; replace q144 := eq_true q144; have p145 : 0 ≤ ((ji9) : Int) := of_decide_eq_true (by first | (with_reducible assumption) | assumption); have q145 : (ji9) < (l0.length : Int) := of_decide_eq_true (by first | (with_reducible assumption) | assumption); obtain ⟨ad145, e145, hx145_0⟩ := Kd.at_int (Kd.V_reads' HO0.out).2.2 (ji9) p145 q145; obtain rfl : ad144 = ad145 := (by injection e145); replace p145 := eq_true p145; replace q145 := eq_true q145; have q16 : ((ji3) : Int) ≤ ((l0.length : Int) : Int) := of_decide_eq_true (by first | (with_reducible assumption) | assumption); obtain ⟨i016, hi016, _, hsz16, _⟩ := info_parts info5; have hroom16 : l0.length ≤ c0 := (Kd.V_reads' HO0.out).2.1; have hC16 : Kd.F (Kd.int .u8) _ _ (some ad144) l0.length l0 := (Kd.V_at (base := w.heap.size) HO0.out).2.2; have hcut16 := cut_to (P := Tryd.prog) 22 5 .i64 Tryd.underlying22 hi016 (some ad144) l0.length c0 (ji3) (of_decide_eq_true (by first | (with_reducible assumption) | assumption)) q16 hroom16; have hr16 := Kd.F_take (m := ((ji3) : Int).toNat) hC16 (by omega); have hy16 : y146.length = ((ji3) : Int).toNat := (by rw [Ny146.out, List.length_take]; omega); rw [← Ny146.out] at hr16; rw [← hy16] at hcut16; have HO150 := Aside0.mk (show Kd.V (Kd.int .u8) 5 _ w.heap.size _ (.slice (some ad144) y146.length c0) y146 from Kd.V_mk (by omega) hr16); have HC150 := Aside0.mk (show y146.length ≤ c0 from by omega); clear hr16 hC16 hroom16 hi016 hsz16; have KY16 := Aside0.mk hy16; clear hy16; replace q16 := eq_true q16))
         go_ret2
         (have e_ := Ny146.out.trans Ny138.out.symm; clear Ny146; subst e_); exact ⟨_, by first | rfl | (simp [errW_none, errW_some] <;> rfl) | (simp only [← hji3, ← hji9]; first | rfl | (simp [errW_none, errW_some] <;> rfl)) | (simp [*, errW_none, errW_some] <;> rfl), by (with_reducible repeat (first | apply Kd.V_alloc | apply Kd.V_drewN | apply Kd.V_drew)); exact HO150.out, by repeat (first | (with_reducible first | exact HB.out | apply below_alloc | apply pw_below_drewN | apply below_drew1) | exact HB.out)⟩
        ·rw [if_neg c12] at H
         have c12b0 : ((wrap64 (rd l0 (ji9))) == (Int.tmod t143 256)) = false := beq_eq_false_iff_ne.mpr c12
         have c12b1 : ((wrap64 (rd l0 (ji9))) != (Int.tmod t143 256)) = true := bne_iff_ne.mpr c12
         simp only [Option.some.injEq, Prod.mk.injEq] at H
         obtain ⟨rfl, rfl⟩ := H
         have q17 : ((ji3) : Int) ≤ ((l0.length : Int) : Int) := of_decide_eq_true (by first | (with_reducible assumption) | assumption)
         obtain ⟨i017, hi017, _, hsz17, _⟩ := info_parts info5
         have hroom17 : l0.length ≤ c0 := (Kd.V_reads' HO0.out).2.1
         have hC17 : Kd.F (Kd.int .u8) _ _ A0 l0.length l0 := (Kd.V_at (base := w.heap.size) HO0.out).2.2
         have hcut17 := cut_to (P := Tryd.prog) 22 5 .i64 Tryd.underlying22 hi017 A0 l0.length c0 (ji3) (of_decide_eq_true (by first | (with_reducible assumption) | assumption)) q17 hroom17
         have hr17 := Kd.F_take (m := ((ji3) : Int).toNat) hC17 (by omega)
         have hy17 : y138.length = ((ji3) : Int).toNat := (by rw [Ny138.out, List.length_take]; omega)
         rw [← Ny138.out] at hr17
         rw [← hy17] at hcut17
         have HO142 := Aside0.mk (show Kd.V (Kd.int .u8) 5 _ w.heap.size _ (.slice A0 y138.length c0) y138 from Kd.V_mk (by omega) hr17)
         have HC142 := Aside0.mk (show y138.length ≤ c0 from by omega)
         clear hr17 hC17 hroom17 hi017 hsz17
         have KY17 := Aside0.mk hy17
         clear hy17
         replace q17 := eq_true q17
         go_enter Tryd.func14, Tryd.ntmps14
         go_wp2_with (first | ((with_reducible refine gate_callee (f := 11) rfl ?_); refine goesL_ (some 15) rfl rfl Tryd.func11 (by kernel_rfl) rfl #[.int .i64 65535, .slice A0 y138.length c0] rfl (by (try simp only [List.map_toArray, List.map_cons, List.map_nil]); first | done | rfl | (simp only [List.length_drop, List.length_take]; rfl)) ?_; (with_reducible refine (newelref09_More.calls k 65535 _ _ y138 t143 _ ?side1 ?side2 A6.out).mono ?_); (case side1 => repeat (first | exact (Kd.V_reads' HO142.out).2.2 | (with_reducible refine Kd.C_alloc ?_ _) | (with_reducible refine Kd.C_drewN ?_ _) | (with_reducible refine Kd.C_drew ?_))); (case side2 => exact (Kd.V_reads' HO142.out).2.1); rintro e w' ⟨rfl, ⟨nd, rfl⟩⟩; refine ⟨_, rfl, ?_⟩; have p144 : 0 ≤ ((ji3) : Int) := of_decide_eq_true (by first | (with_reducible assumption) | assumption); have q144 : (ji3) < (l0.length : Int) := of_decide_eq_true (by first | (with_reducible assumption) | assumption); obtain ⟨ad144, e144, hx144_0⟩ := Kd.at_int (Kd.V_reads' HO0.out).2.2 (ji3) p144 q144; cases e144; replace p144 := eq_true p144; replace q144 := eq_true q144; have p145 : 0 ≤ ((ji9) : Int) := of_decide_eq_true (by first | (with_reducible assumption) | assumption); have q145 : (ji9) < (l0.length : Int) := of_decide_eq_true (by first | (with_reducible assumption) | assumption); obtain ⟨ad145, e145, hx145_0⟩ := Kd.at_int (Kd.V_reads' HO0.out).2.2 (ji9) p145 q145; obtain rfl : ad144 = ad145 := (by injection e145); replace p145 := eq_true p145; replace q145 := eq_true q145))
         go_ret2
         refine ⟨.slice none 0 0, by first | rfl | (simp [errW_none, errW_some] <;> rfl) | (simp only [← hji3, ← hji9]; first | rfl | (simp [errW_none, errW_some] <;> rfl)) | (simp [*, errW_none, errW_some] <;> rfl), Kd.V_mono (Kd.R_V (Kd.R_nil _ _ _ w.heap.size _)) (fun k_ hk => by first | exact ⟨(.inr (hk.1)), hk.2⟩ | exact (.inr (hk))), by repeat (first | (with_reducible first | exact HB.out | apply below_alloc | apply pw_below_drewN | apply below_drew1) | exact HB.out)⟩
       ·rw [if_neg c11] at H
        exact absurd H (by simp)
      ·rw [if_neg c10] at H
       exact absurd H (by simp)
     ·rw [if_neg c8] at H
      have c8b0 : ((wrap64 (rd l0 (ji3))) == (wrap64 (Int.tdiv t143 256))) = false := beq_eq_false_iff_ne.mpr c8
      have c8b1 : ((wrap64 (rd l0 (ji3))) != (wrap64 (Int.tdiv t143 256))) = true := bne_iff_ne.mpr c8
      simp only [Option.some.injEq, Prod.mk.injEq] at H
      obtain ⟨rfl, rfl⟩ := H
      have q18 : ((ji3) : Int) ≤ ((l0.length : Int) : Int) := of_decide_eq_true (by first | (with_reducible assumption) | assumption)
      obtain ⟨i018, hi018, _, hsz18, _⟩ := info_parts info5
      have hroom18 : l0.length ≤ c0 := (Kd.V_reads' HO0.out).2.1
      have hC18 : Kd.F (Kd.int .u8) _ _ A0 l0.length l0 := (Kd.V_at (base := w.heap.size) HO0.out).2.2
      have hcut18 := cut_to (P := Tryd.prog) 22 5 .i64 Tryd.underlying22 hi018 A0 l0.length c0 (ji3) (of_decide_eq_true (by first | (with_reducible assumption) | assumption)) q18 hroom18
      have hr18 := Kd.F_take (m := ((ji3) : Int).toNat) hC18 (by omega)
      have hy18 : y138.length = ((ji3) : Int).toNat := (by rw [Ny138.out, List.length_take]; omega)
      rw [← Ny138.out] at hr18
      rw [← hy18] at hcut18
      have HO142 := Aside0.mk (show Kd.V (Kd.int .u8) 5 _ w.heap.size _ (.slice A0 y138.length c0) y138 from Kd.V_mk (by omega) hr18)
      have HC142 := Aside0.mk (show y138.length ≤ c0 from by omega)
      clear hr18 hC18 hroom18 hi018 hsz18
      have KY18 := Aside0.mk hy18
      clear hy18
      replace q18 := eq_true q18
      go_enter Tryd.func14, Tryd.ntmps14
      go_wp2_with (first | ((with_reducible refine gate_callee (f := 11) rfl ?_); refine goesL_ (some 15) rfl rfl Tryd.func11 (by kernel_rfl) rfl #[.int .i64 65535, .slice A0 y138.length c0] rfl (by (try simp only [List.map_toArray, List.map_cons, List.map_nil]); first | done | rfl | (simp only [List.length_drop, List.length_take]; rfl)) ?_; (with_reducible refine (newelref09_More.calls k 65535 _ _ y138 t143 _ ?side1 ?side2 A6.out).mono ?_); (case side1 => repeat (first | exact (Kd.V_reads' HO142.out).2.2 | (with_reducible refine Kd.C_alloc ?_ _) | (with_reducible refine Kd.C_drewN ?_ _) | (with_reducible refine Kd.C_drew ?_))); (case side2 => exact (Kd.V_reads' HO142.out).2.1); rintro e w' ⟨rfl, ⟨nd, rfl⟩⟩; refine ⟨_, rfl, ?_⟩; have p144 : 0 ≤ ((ji3) : Int) := of_decide_eq_true (by first | (with_reducible assumption) | assumption); have q144 : (ji3) < (l0.length : Int) := of_decide_eq_true (by first | (with_reducible assumption) | assumption); obtain ⟨ad144, e144, hx144_0⟩ := Kd.at_int (Kd.V_reads' HO0.out).2.2 (ji3) p144 q144; cases e144; replace p144 := eq_true p144; replace q144 := eq_true q144))
      go_ret2
      refine ⟨.slice none 0 0, by first | rfl | (simp [errW_none, errW_some] <;> rfl) | (simp only [← hji3]; first | rfl | (simp [errW_none, errW_some] <;> rfl)) | (simp [*, errW_none, errW_some] <;> rfl), Kd.V_mono (Kd.R_V (Kd.R_nil _ _ _ w.heap.size _)) (fun k_ hk => by first | exact ⟨(.inr (hk.1)), hk.2⟩ | exact (.inr (hk))), by repeat (first | (with_reducible first | exact HB.out | apply below_alloc | apply pw_below_drewN | apply below_drew1) | exact HB.out)⟩
    ·rw [if_neg c7] at H
     exact absurd H (by simp)
   ·rw [if_neg c5] at H
    exact absurd H (by simp)
  ·rw [if_neg c4] at H
   exact absurd H (by simp)

end Go.Proofs.YtcnjaeeghfmkfaaDoor.C
