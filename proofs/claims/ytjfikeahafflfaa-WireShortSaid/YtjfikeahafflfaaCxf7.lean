-- Written by a program of this session (wip/pp: the kit's print, changed), out of the translation. Lean checks it.
import Derived.Test.YtjfikeahafflfaaCx0
import Derived.Test.YtjfikeahafflfaaCxf13
import Derived.Test.YtjfikeahafflfaaCxf18
import Derived.Test.YtjfikeahafflfaaCxf20
namespace Go.Proofs.Ytjfikeahafflfaa.C
open Go.RowKit Go.Proofs.YtjfikeahafflfaaW.PrintWords Go.Proofs.YtjfikeahafflfaaW.PrintLast Go.Proofs.YtjfikeahafflfaaW.PrintMore
attribute [local go_sem] max2_int min2_int max_two min_two max_three min_three max_four min_four   -- for this text's walks alone
set_option linter.unusedVariables false
set_option linter.unusedSimpArgs false

/-! ### newellaw08_WireShort: function 7 -/
mutual
def newellaw08_WireShort.j0 : Nat → List Int → Int → List Int → Bool → Option (Bool)
 | 0, _, _, _, _ => none
 | k + 1, x0, x1, x5, x22 => if x22 = true then ((newellaw08_awake.f k).bind fun t269 => (some t269)) else (if 0 ≤ x1 then (if x1 ≤ (x5.length : Int) then ((wire_GetRow.f k (x5.take (x1 : Int).toNat) 0 (x0.length : Int)).bind fun bt274 => ((newellaw08_awake.f k).bind fun t279 => (if t279 = true then (if bt274.2.2 = 81 then (if (bt274.1.length : Int) = 0 then (newellaw08_WireShort.j1 k (bt274.2.1 == 0)) else (none)) else (none)) else (none)))) else (none)) else (none))
def newellaw08_WireShort.j1 : Nat → Bool → Option (Bool)
 | 0, _ => none
 | k + 1, x4 => some x4
end
def newellaw08_WireShort.f (k : Nat) (l0 : List Int) (a1 : Int) : Option (Bool) := if (l0.length : Int) > 60 then ((newellaw08_awake.f k).bind fun t265 => (some t265)) else ((wire_Row.f k l0).bind fun t266 => (if a1 < 0 then (newellaw08_WireShort.j0 k l0 a1 t266 true) else (newellaw08_WireShort.j0 k l0 a1 t266 (decide (a1 ≥ (t266.length : Int))))))
theorem newellaw08_WireShort.mono_l : ∀ k, (∀ y0 y1 y2 y3, LeO (newellaw08_WireShort.j0 k y0 y1 y2 y3) (newellaw08_WireShort.j0 (k + 1) y0 y1 y2 y3)) ∧ (∀ y0, LeO (newellaw08_WireShort.j1 k y0) (newellaw08_WireShort.j1 (k + 1) y0))
 | 0 => ⟨fun _ _ _ _ r h => by simp [newellaw08_WireShort.j0] at h, fun _ r h => by simp [newellaw08_WireShort.j1] at h⟩
 | k + 1 => by
  obtain ⟨ih0, ih1⟩ := newellaw08_WireShort.mono_l k
  refine ⟨?_, ?_⟩
  ·intro y0 y1 y2 y3
   unfold newellaw08_WireShort.j0
   repeat' first
   | (with_reducible exact ih0 _ _ _ _)
   | (with_reducible exact ih1 _)
   | (with_reducible exact newellaw08_awake.mono _)
   | (with_reducible exact wire_GetRow.mono _ _ _ _)
   | (with_reducible exact wire_Row.mono _ _)
   | (with_reducible exact LeO.refl _)
   | (with_reducible exact LeO.none _)
   | (with_reducible refine LeO.ite ?_ ?_)
   | (with_reducible refine LeO.bind ?_ (fun _ => ?_))
   | exact ih0 _ _ _ _
   | exact ih1 _
   | exact newellaw08_awake.mono _
   | exact wire_GetRow.mono _ _ _ _
   | exact wire_Row.mono _ _
   | exact LeO.none _
   | refine LeO.ite ?_ ?_
   | refine LeO.bind ?_ (fun _ => ?_)
  ·intro y0
   unfold newellaw08_WireShort.j1
   repeat' first
   | (with_reducible exact ih0 _ _ _ _)
   | (with_reducible exact ih1 _)
   | (with_reducible exact newellaw08_awake.mono _)
   | (with_reducible exact wire_GetRow.mono _ _ _ _)
   | (with_reducible exact wire_Row.mono _ _)
   | (with_reducible exact LeO.refl _)
   | (with_reducible exact LeO.none _)
   | (with_reducible refine LeO.ite ?_ ?_)
   | (with_reducible refine LeO.bind ?_ (fun _ => ?_))
   | exact ih0 _ _ _ _
   | exact ih1 _
   | exact newellaw08_awake.mono _
   | exact wire_GetRow.mono _ _ _ _
   | exact wire_Row.mono _ _
   | exact LeO.none _
   | refine LeO.ite ?_ ?_
   | refine LeO.bind ?_ (fun _ => ?_)
theorem newellaw08_WireShort.mono : ∀ a0 a1 k, LeO (newellaw08_WireShort.f k a0 a1) (newellaw08_WireShort.f (k + 1) a0 a1) := by
 intro a0 a1 k
 obtain ⟨ih0, ih1⟩ := newellaw08_WireShort.mono_l k
 unfold newellaw08_WireShort.f
 repeat' first
   | (with_reducible exact ih0 _ _ _ _)
   | (with_reducible exact ih1 _)
   | (with_reducible exact newellaw08_awake.mono _)
   | (with_reducible exact wire_GetRow.mono _ _ _ _)
   | (with_reducible exact wire_Row.mono _ _)
   | (with_reducible exact LeO.refl _)
   | (with_reducible exact LeO.none _)
   | (with_reducible refine LeO.ite ?_ ?_)
   | (with_reducible refine LeO.bind ?_ (fun _ => ?_))
   | exact ih0 _ _ _ _
   | exact ih1 _
   | exact newellaw08_awake.mono _
   | exact wire_GetRow.mono _ _ _ _
   | exact wire_Row.mono _ _
   | exact LeO.none _
   | refine LeO.ite ?_ ?_
   | refine LeO.bind ?_ (fun _ => ?_)
set_option maxHeartbeats 8000000 in
set_option maxRecDepth 100000 in
theorem newellaw08_WireShort.calls (k : Nat) (A0 : Option Addr) (c0 : Nat) (l0 : List Int) (a1 : Int) (r : Bool) (w : World) (hr0 : Kd.C (Kd.int .i64) w A0 l0.length l0) (hc0 : l0.length ≤ c0) (h : newellaw08_WireShort.f k l0 a1 = some r) :
  Calls Try.prog 7 #[.slice A0 l0.length c0, .int .i64 a1] w fun e w' => e = .returned (.bool r) ∧ Below w.heap.size w w' := by
 have HR0 := Aside0.mk hr0
 have HC0 := Aside0.mk hc0
 clear hr0 hc0
 have HB := Aside0.mk (Below.refl w.heap.size w)
 have H : (if (l0.length : Int) > 60 then ((newellaw08_awake.f k).bind fun t265 => (some t265)) else ((wire_Row.f k l0).bind fun t266 => (if a1 < 0 then (newellaw08_WireShort.j0 k l0 a1 t266 true) else (newellaw08_WireShort.j0 k l0 a1 t266 (decide (a1 ≥ (t266.length : Int))))))) = some r := h
 clear h
 by_cases c3 : (l0.length : Int) > 60
 ·rw [if_pos c3] at H
  have c3b0 : decide (60 < (l0.length : Int)) = true := decide_eq_true c3
  have c3b1 : decide (60 < l0.length) = true := decide_eq_true (by omega)
  clear c3
  replace H := Option.bind_eq_some_iff.mp H
  obtain ⟨t265, A40, H⟩ := H
  replace H : (some t265) = some r := H
  have A4 := Aside0.mk A40
  clear A40
  obtain rfl := Option.some.inj H
  go_enter Try.func7, Try.ntmps7
  go_wp2_with (first | ((with_reducible refine gate_callee (f := 13) rfl ?_); refine goesL_ (some 12) rfl rfl Try.func13 (by kernel_rfl) rfl #[] rfl (by (try simp only [List.map_toArray, List.map_cons, List.map_nil]); first | done | rfl | (simp only [List.length_drop, List.length_take]; rfl)) ?_; (with_reducible refine (newellaw08_awake.calls k  t265 _ A4.out).mono ?_); rintro e w5 ⟨rfl, hb⟩; refine ⟨_, rfl, ?_⟩; have n0_ := Aside0.mk (below_step (by repeat (first | (with_reducible first | exact HB.out | apply below_alloc | apply pw_below_drewN | apply below_drew1) | exact HB.out)) hb); clear HB; have HB := n0_; clear n0_; (try clear hb); (try clear hb2); (try clear hk); (try clear hi)))
  go_ret
  exact ⟨by first | rfl | (simp [errW_none, errW_some] <;> rfl) | (simp [*, errW_none, errW_some] <;> rfl), by repeat (first | (with_reducible first | exact HB.out | apply below_alloc | apply pw_below_drewN | apply below_drew1) | exact HB.out)⟩
 ·rw [if_neg c3] at H
  have c3b0 : decide (60 < (l0.length : Int)) = false := decide_eq_false c3
  have c3b1 : decide (60 < l0.length) = false := decide_eq_false (by omega)
  clear c3
  replace H := Option.bind_eq_some_iff.mp H
  obtain ⟨t266, A60, H⟩ := H
  replace H : (if a1 < 0 then (newellaw08_WireShort.j0 k l0 a1 t266 true) else (newellaw08_WireShort.j0 k l0 a1 t266 (decide (a1 ≥ (t266.length : Int))))) = some r := H
  have A6 := Aside0.mk A60
  clear A60
  have HC7 := Aside0.mk H
  clear H
  go_enter Try.func7, Try.ntmps7
  go_upto_region 4 with (first | ((with_reducible refine gate_callee (f := 18) rfl ?_); refine goesL_ (some 14) rfl rfl Try.func18 (by kernel_rfl) rfl #[.slice A0 l0.length c0] rfl (by (try simp only [List.map_toArray, List.map_cons, List.map_nil]); first | done | rfl | (simp only [List.length_drop, List.length_take]; rfl)) ?_; (with_reducible refine (wire_Row.calls k _ _ l0 t266 _ ?side1 ?side2 A6.out).mono ?_); (case side1 => repeat (first | exact HR0.out | (with_reducible refine Kd.C_alloc ?_ _) | (with_reducible refine Kd.C_drewN ?_ _) | (with_reducible refine Kd.C_drew ?_))); (case side2 => exact HC0.out); rintro e w8 ⟨v267, rfl, ho0, hb⟩; refine ⟨_, rfl, ?_⟩; have n0_ := Aside0.mk (Kd.R_lower ho0 (below_size (by repeat (first | (with_reducible first | exact HB.out | apply below_alloc | apply pw_below_drewN | apply below_drew1) | exact HB.out)))); have n1_ := Aside0.mk (below_step (by repeat (first | (with_reducible first | exact HB.out | apply below_alloc | apply pw_below_drewN | apply below_drew1) | exact HB.out)) hb); clear HB; have HO268 := n0_; have HB := n1_; clear n0_ n1_; (try clear hb); (try clear hb2); (try clear hk); (try clear hi); (try clear ho0)))
  (try simp only [Act.put, List.setIfInBounds_toArray, List.set_cons_zero, List.set_cons_succ])
  go_cut [22] (fun v22 wc => ∃ (kq : Nat) (x22_6 : Bool), v22 = .bool x22_6 ∧ Aside0 (newellaw08_WireShort.j0 kq l0 a1 t266 x22_6 = some r) ∧ Aside0 (kq ≤ k) ∧ Aside0 (Kd.R (Kd.int .u8) 5 wc w.heap.size (fun _ => True) v267 t266) ∧ Aside0 (Below w.heap.size w wc))
  case first =>
   have H := HC7.out
   clear HC7
   by_cases c9 : a1 < 0
   ·rw [if_pos c9] at H
    have c9b0 : decide (a1 < 0) = true := decide_eq_true c9
    clear c9
    (first | rw [c9b0] | (simp only [i64_w, i32_w]; rw [c9b0]) | skip)
    have H' := Aside0.mk H
    clear H
    go_wp2
    go_meet
    case rel => exact ⟨_, (true), (by first | rfl | (simp; done) | (simp [*]; done)), H', ⟨by first | omega | exact Nat.le_refl _⟩, ⟨by (with_reducible repeat (first | apply Kd.R_alloc | apply Kd.R_drewN | apply Kd.R_drew)); exact HO268.out⟩, ⟨by repeat (first | (with_reducible first | exact HB.out | apply below_alloc | apply pw_below_drewN | apply below_drew1) | exact HB.out)⟩⟩
   ·rw [if_neg c9] at H
    have c9b0 : decide (a1 < 0) = false := decide_eq_false c9
    clear c9
    (first | rw [c9b0] | (simp only [i64_w, i32_w]; rw [c9b0]) | skip)
    have H' := Aside0.mk H
    clear H
    obtain ⟨Ao10, co10, eo10⟩ := Kd.R_slice HO268.out
    subst eo10
    go_wp2
    go_meet
    case rel => exact ⟨_, (decide (a1 ≥ (t266.length : Int))), (by first | rfl | (simp; done) | (simp [*]; done)), H', ⟨by first | omega | exact Nat.le_refl _⟩, ⟨by (with_reducible repeat (first | apply Kd.R_alloc | apply Kd.R_drewN | apply Kd.R_drew)); exact HO268.out⟩, ⟨by repeat (first | (with_reducible first | exact HB.out | apply below_alloc | apply pw_below_drewN | apply below_drew1) | exact HB.out)⟩⟩
  case rest =>
   clear HC7
   try clear c1
   try clear p2
   try clear c3
   try clear c3b0
   try clear c3b1
   try clear c7
   try clear c9
   try clear c9b0
   obtain ⟨kq, x22_6, rfl, HA, HJ6, HO_5, HB⟩ := hcut
   cases kq with
   | zero => exact absurd HA.out (by simp [newellaw08_WireShort.j0])
   | succ kj6 =>
    have H := HA.out
    clear HA
    simp only [newellaw08_WireShort.j0] at H
    by_cases c11 : x22_6 = true
    ·subst c11
     have H1 : ((newellaw08_awake.f kj6).bind fun t269 => (some t269)) = some r := by rw [if_pos rfl] at H; exact H
     clear H
     have H := H1
     clear H1
     replace H := Option.bind_eq_some_iff.mp H
     obtain ⟨t269, A120, H⟩ := H
     replace H : (some t269) = some r := H
     have A12 := Aside0.mk A120
     clear A120
     obtain rfl := Option.some.inj H
     go_wp2_with (first | ((with_reducible refine gate_callee (f := 13) rfl ?_); refine goesL_ (some 23) rfl rfl Try.func13 (by kernel_rfl) rfl #[] rfl (by (try simp only [List.map_toArray, List.map_cons, List.map_nil]); first | done | rfl | (simp only [List.length_drop, List.length_take]; rfl)) ?_; (with_reducible refine (newellaw08_awake.calls kj6  t269 _ A12.out).mono ?_); rintro e w13 ⟨rfl, hb⟩; refine ⟨_, rfl, ?_⟩; have n0_ := Aside0.mk (Kd.R_below (by (with_reducible repeat (first | apply Kd.R_alloc | apply Kd.R_drewN | apply Kd.R_drew)); exact HO_5.out) hb); have n1_ := Aside0.mk (below_step (by repeat (first | (with_reducible first | exact HB.out | apply below_alloc | apply pw_below_drewN | apply below_drew1) | exact HB.out)) hb); clear HO_5; clear HB; have HO_5 := n0_; have HB := n1_; clear n0_ n1_; (try clear hb); (try clear hb2); (try clear hk); (try clear hi)))
     go_ret
     exact ⟨by first | rfl | (simp [errW_none, errW_some] <;> rfl) | (simp [*, errW_none, errW_some] <;> rfl), by repeat (first | (with_reducible first | exact HB.out | apply below_alloc | apply pw_below_drewN | apply below_drew1) | exact HB.out)⟩
    ·replace c11 := Bool.eq_false_iff.mpr c11
     subst c11
     have H1 : (if 0 ≤ a1 then (if a1 ≤ (t266.length : Int) then ((wire_GetRow.f kj6 (t266.take (a1 : Int).toNat) 0 (l0.length : Int)).bind fun bt274 => ((newellaw08_awake.f kj6).bind fun t279 => (if t279 = true then (if bt274.2.2 = 81 then (if (bt274.1.length : Int) = 0 then (newellaw08_WireShort.j1 kj6 (bt274.2.1 == 0)) else (none)) else (none)) else (none)))) else (none)) else (none)) = some r := by rw [if_neg (show ¬ (false = true) by decide)] at H; exact H
     clear H
     have H := H1
     clear H1
     by_cases c14 : 0 ≤ a1
     ·rw [if_pos c14] at H
      have c14b0 := eq_true c14
      have c14b1 : decide (0 ≤ a1) = true := decide_eq_true c14
      clear c14
      by_cases c15 : a1 ≤ (t266.length : Int)
      ·rw [if_pos c15] at H
       have c15b0 := eq_true c15
       have c15b1 : decide (a1 ≤ (t266.length : Int)) = true := decide_eq_true c15
       clear c15
       obtain ⟨y270, hy270⟩ : ∃ y_ : List Int, y_ = (t266.take (a1 : Int).toNat) := ⟨_, rfl⟩
       replace H : ((wire_GetRow.f kj6 y270 0 (l0.length : Int)).bind fun bt274 => ((newellaw08_awake.f kj6).bind fun t279 => (if t279 = true then (if bt274.2.2 = 81 then (if (bt274.1.length : Int) = 0 then (newellaw08_WireShort.j1 kj6 (bt274.2.1 == 0)) else (none)) else (none)) else (none)))) = some r := by first | (rw [hy270]; with_reducible exact H) | (have H2_ := (Option.bind_some _ _).symm.trans H; rw [hy270]; with_reducible exact H2_) | (have H2_ := (Option.bind_some _ _).symm.trans H; with_reducible exact H2_) | with_reducible exact H | (rw [hy270]; exact H) | exact H
       have Ny270 := Aside0.mk hy270
       clear hy270
       replace H := Option.bind_eq_some_iff.mp H
       obtain ⟨⟨t274, t275, t276⟩, A160, H⟩ := H
       replace H : ((newellaw08_awake.f kj6).bind fun t279 => (if t279 = true then (if t276 = 81 then (if (t274.length : Int) = 0 then (newellaw08_WireShort.j1 kj6 (t275 == 0)) else (none)) else (none)) else (none))) = some r := H
       have A16 := Aside0.mk A160
       clear A160
       have HC17 := Aside0.mk H
       clear H
       obtain ⟨Ao19, co19, eo19⟩ := Kd.R_slice HO_5.out
       subst eo19
       have q18 : (a1 : Int) ≤ ((t266.length : Int) : Int) := of_decide_eq_true (by first | (with_reducible assumption) | assumption)
       obtain ⟨i018, hi018, _, hsz18, _⟩ := info_parts info5
       have hroom18 : t266.length ≤ co19 := (Kd.R_reads' HO_5.out).2.1
       have hC18 : Kd.C (Kd.int .u8) _ Ao19 t266.length t266 := (Kd.R_reads' HO_5.out).2.2
       have hcut18 := cut_to (P := Try.prog) 22 5 .i64 Try.underlying22 hi018 Ao19 t266.length co19 a1 (of_decide_eq_true (by first | (with_reducible assumption) | assumption)) q18 hroom18
       have hr18 := Kd.C_take (m := (a1 : Int).toNat) hC18 (by omega)
       have hy18 : y270.length = (a1 : Int).toNat := (by rw [Ny270.out, List.length_take]; omega)
       rw [← Ny270.out] at hr18
       rw [← hy18] at hcut18
       have HR273 := Aside0.mk hr18
       have HC273 := Aside0.mk (show y270.length ≤ co19 from by omega)
       clear hr18 hC18 hroom18 hi018 hsz18
       have KY18 := Aside0.mk hy18
       clear hy18
       have KL18 := Aside0.mk (show (a1 : Int).toNat ≤ t266.length from by omega)
       replace q18 := eq_true q18
       go_upto_region 7 with (first | ((with_reducible refine gate_callee (f := 20) rfl ?_); refine goesL_ (some 30) rfl rfl Try.func20 (by kernel_rfl) rfl #[.slice Ao19 y270.length co19, .int .i64 0, .int .i64 (l0.length : Int)] rfl (by (try simp only [List.map_toArray, List.map_cons, List.map_nil]); first | done | rfl | (simp only [List.length_drop, List.length_take]; rfl)) ?_; (with_reducible refine (wire_GetRow.calls kj6 _ _ y270 0 (l0.length : Int) t274 t275 t276 _ ?side1 ?side2 A16.out).mono ?_); (case side1 => repeat (first | exact (by repeat (first | (with_reducible exact HR273.out) | (with_reducible refine Kd.C_alloc ?_ _) | (with_reducible refine Kd.C_drewN ?_ _) | (with_reducible refine Kd.C_drew ?_) | exact HR273.out)) | (with_reducible refine Kd.C_alloc ?_ _) | (with_reducible refine Kd.C_drewN ?_ _) | (with_reducible refine Kd.C_drew ?_))); (case side2 => exact HC273.out); rintro e w20 ⟨v277, rfl, ho0, hb⟩; refine ⟨_, rfl, ?_⟩; have n0_ := Aside0.mk (Kd.R_below (by (with_reducible repeat (first | apply Kd.R_alloc | apply Kd.R_drewN | apply Kd.R_drew)); exact HO_5.out) hb); have n1_ := Aside0.mk (Kd.R_lower ho0 (below_size (by repeat (first | (with_reducible first | exact HB.out | apply below_alloc | apply pw_below_drewN | apply below_drew1) | exact HB.out)))); have n2_ := Aside0.mk (Kd.C_below (by repeat (first | (with_reducible exact HR273.out) | (with_reducible refine Kd.C_alloc ?_ _) | (with_reducible refine Kd.C_drewN ?_ _) | (with_reducible refine Kd.C_drew ?_) | exact HR273.out)) hb); have n3_ := Aside0.mk (below_step (by repeat (first | (with_reducible first | exact HB.out | apply below_alloc | apply pw_below_drewN | apply below_drew1) | exact HB.out)) hb); clear HO_5; clear HR273; clear HB; have HO_5 := n0_; have HO278 := n1_; have HR273 := n2_; have HB := n3_; clear n0_ n1_ n2_ n3_; (try clear hb); (try clear hb2); (try clear hk); (try clear hi); (try clear ho0)))
       (try simp only [Act.put, List.setIfInBounds_toArray, List.set_cons_zero, List.set_cons_succ])
       go_cut [4] (fun v4 wc => ∃ (kq : Nat) (x4_16 : Bool), v4 = .bool x4_16 ∧ Aside0 (newellaw08_WireShort.j1 kq x4_16 = some r) ∧ Aside0 (kq ≤ kj6) ∧ Aside0 (Kd.C (Kd.int .u8) wc Ao19 y270.length y270) ∧ Aside0 (Below w.heap.size w wc))
       case first =>
        have H := HC17.out
        clear HC17
        replace H := Option.bind_eq_some_iff.mp H
        obtain ⟨t279, A210, H⟩ := H
        replace H : (if t279 = true then (if t276 = 81 then (if (t274.length : Int) = 0 then (newellaw08_WireShort.j1 kj6 (t275 == 0)) else (none)) else (none)) else (none)) = some r := H
        have A21 := Aside0.mk A210
        clear A210
        by_cases c22 : t279 = true
        ·subst c22
         have H1 : (if t276 = 81 then (if (t274.length : Int) = 0 then (newellaw08_WireShort.j1 kj6 (t275 == 0)) else (none)) else (none)) = some r := by rw [if_pos rfl] at H; exact H
         clear H
         have H := H1
         clear H1
         by_cases c23 : t276 = 81
         ·rw [if_pos c23] at H
          have c23b0 : (t276 == 81) = true := beq_iff_eq.mpr c23
          have c23b1 : (t276 != 81) = false := bne_eq_false_iff_eq.mpr c23
          clear c23
          (first | rw [c23b0] | (simp only [i64_w, i32_w]; rw [c23b0]) | skip)
          by_cases c24 : (t274.length : Int) = 0
          ·rw [if_pos c24] at H
           have c24b0 : ((t274.length : Int) == 0) = true := beq_iff_eq.mpr c24
           have c24b1 : ((t274.length : Int) != 0) = false := bne_eq_false_iff_eq.mpr c24
           clear c24
           have H' := Aside0.mk H
           clear H
           go_wp2_with (first | ((with_reducible refine gate_callee (f := 13) rfl ?_); refine goesL_ (some 34) rfl rfl Try.func13 (by kernel_rfl) rfl #[] rfl (by (try simp only [List.map_toArray, List.map_cons, List.map_nil]); first | done | rfl | (simp only [List.length_drop, List.length_take]; rfl)) ?_; (with_reducible refine (newellaw08_awake.calls kj6  true _ A21.out).mono ?_); rintro e w25 ⟨rfl, hb⟩; refine ⟨_, rfl, ?_⟩; have n0_ := Aside0.mk (Kd.R_below (by (with_reducible repeat (first | apply Kd.R_alloc | apply Kd.R_drewN | apply Kd.R_drew)); exact HO_5.out) hb); have n1_ := Aside0.mk (Kd.R_below (by (with_reducible repeat (first | apply Kd.R_alloc | apply Kd.R_drewN | apply Kd.R_drew)); exact HO278.out) hb); have n2_ := Aside0.mk (Kd.C_below (by repeat (first | (with_reducible exact HR273.out) | (with_reducible refine Kd.C_alloc ?_ _) | (with_reducible refine Kd.C_drewN ?_ _) | (with_reducible refine Kd.C_drew ?_) | exact HR273.out)) hb); have n3_ := Aside0.mk (below_step (by repeat (first | (with_reducible first | exact HB.out | apply below_alloc | apply pw_below_drewN | apply below_drew1) | exact HB.out)) hb); clear HO_5; clear HO278; clear HR273; clear HB; have HO_5 := n0_; have HO278 := n1_; have HR273 := n2_; have HB := n3_; clear n0_ n1_ n2_ n3_; (try clear hb); (try clear hb2); (try clear hk); (try clear hi); obtain ⟨Ao26, co26, eo26⟩ := Kd.R_slice HO278.out; subst eo26))
           go_meet
           case rel => exact ⟨_, ((t275 == 0)), (by first | rfl | (simp; done) | (simp [*]; done)), H', ⟨by have := HJ6.out; first | omega | exact Nat.le_refl _⟩, ⟨by repeat (first | (with_reducible exact HR273.out) | (with_reducible refine Kd.C_alloc ?_ _) | (with_reducible refine Kd.C_drewN ?_ _) | (with_reducible refine Kd.C_drew ?_) | exact HR273.out)⟩, ⟨by repeat (first | (with_reducible first | exact HB.out | apply below_alloc | apply pw_below_drewN | apply below_drew1) | exact HB.out)⟩⟩
          ·rw [if_neg c24] at H
           exact absurd H (by simp)
         ·rw [if_neg c23] at H
          exact absurd H (by simp)
        ·replace c22 := Bool.eq_false_iff.mpr c22
         subst c22
         have H1 : (none) = some r := by rw [if_neg (show ¬ (false = true) by decide)] at H; exact H
         clear H
         have H := H1
         clear H1
         exact absurd H (by simp)
       case rest =>
        clear HC17
        try clear c1
        try clear q1
        try clear c2
        try clear p2
        try clear c3
        try clear c3b0
        try clear c3b1
        try clear c7
        try clear c9
        try clear c9b0
        try clear c11
        try clear c13
        try clear c14
        try clear c14b0
        try clear c14b1
        try clear c15
        try clear c15b0
        try clear c15b1
        try clear c18
        try clear q18
        try clear c20
        try clear c22
        try clear c23
        try clear c23b0
        try clear c23b1
        try clear c24
        try clear c24b0
        try clear c24b1
        try clear p2
        try clear q18
        obtain ⟨kq, x4_16, rfl, HA, HJ16, HR273, HB⟩ := hcut
        cases kq with
        | zero => exact absurd HA.out (by simp [newellaw08_WireShort.j1])
        | succ kj16 =>
         have H := HA.out
         clear HA
         simp only [newellaw08_WireShort.j1] at H
         obtain rfl := Option.some.inj H
         go_wp2
         go_ret
         exact ⟨by first | rfl | (simp [errW_none, errW_some] <;> rfl) | (simp [*, errW_none, errW_some] <;> rfl), by repeat (first | (with_reducible first | exact HB.out | apply below_alloc | apply pw_below_drewN | apply below_drew1) | exact HB.out)⟩
      ·rw [if_neg c15] at H
       exact absurd H (by simp)
     ·rw [if_neg c14] at H
      exact absurd H (by simp)

/-- THE ONE PURE STATEMENT of newellaw08_WireShort: yours. -/
def newellaw08_WireShort.Pure : Prop := ∀ (l0 : List Int) (a1 : Int), l0.length ≤ maxLen → l0.length * 8 ≤ 140737488351232 → (∀ x ∈ l0, (Lit.int .i64 x).wf = true) → (Lit.int .i64 a1).wf = true → ∃ k, newellaw08_WireShort.f k l0 a1 = some true
theorem newellaw08_WireShort.walk (P : newellaw08_WireShort.Pure) (a0 : Option Addr) (len0 cap0 : Nat) (z0 : List Int) (a1 : Int) (w : World) (w0 : (a0 = none ∧ len0 = 0 ∧ cap0 = 0 ∧ z0 = []) ∨ ∃ x, a0 = some x ∧ len0 ≤ cap0 ∧ cap0 ≤ maxLen ∧ z0.length = cap0 ∧ (∀ i, i < z0.length → w.cell? (x.add i) = some (.int .i64 (z0.getD i 0))) ∧ ∀ n ∈ z0, (Lit.int .i64 n).wf = true) (y0 : len0 * 8 ≤ 140737488351232) (w1 : (Lit.int .i64 a1).wf = true) :
  Calls Try.prog 7 #[.slice a0 len0 cap0, .int .i64 a1] w fun e w' => e = .returned (.bool true) ∧ Below w.heap.size w w' := by
 obtain ⟨l0, rfl, hr0, hm0, hw0, hc0⟩ := ReadsInt.ofRowC w0
 obtain ⟨k, h⟩ := P l0 a1 hm0 y0 hw0 w1
 refine (newellaw08_WireShort.calls k _ _ l0 a1 true w (Kd.C_of_reads (d := (0 : Int)) (h1 := fun _ => rfl) hr0) hc0 h).mono ?_
 rintro e w' ⟨rfl, hd⟩
 exact ⟨rfl, hd⟩

end Go.Proofs.Ytjfikeahafflfaa.C
