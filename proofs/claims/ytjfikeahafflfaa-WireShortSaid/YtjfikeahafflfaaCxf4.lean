-- Written by a program of this session (wip/pp: the kit's print, changed), out of the translation. Lean checks it.
import Derived.Test.YtjfikeahafflfaaCx0
import Derived.Test.YtjfikeahafflfaaCxf13
import Derived.Test.YtjfikeahafflfaaCxf15
import Derived.Test.YtjfikeahafflfaaPut
namespace Go.Proofs.Ytjfikeahafflfaa.C
open Go.RowKit Go.Proofs.YtjfikeahafflfaaW.PrintWords Go.Proofs.YtjfikeahafflfaaW.PrintLast Go.Proofs.YtjfikeahafflfaaW.PrintMore
attribute [local go_sem] max2_int min2_int max_two min_two max_three min_three max_four min_four   -- for this text's walks alone
set_option linter.unusedVariables false
set_option linter.unusedSimpArgs false

/-! ### newellaw08_WireApart: function 4 -/
def newellaw08_WireApart.j0 : Nat → Int → Int → List Int → List Int → Bool → Option (Bool)
 | 0, _, _, _, _, _ => none
 | k + 1, x0, x1, x5, x6, x18 => if x18 = true then (none) else (if (x5.length : Int) > (x6.length : Int) then ((newellaw08_awake.f k).bind fun t168 => (if t168 = true then (if 0 ≤ (x6.length : Int) then (if (x6.length : Int) ≤ (x5.length : Int) then ((newelref08_Same.f k x6 (x5.take ((x6.length : Int) : Int).toNat)).bind fun t173 => (some (!t173))) else (none)) else (none)) else (none))) else ((newellaw08_awake.f k).bind fun t174 => (if t174 = true then (if 0 ≤ (x5.length : Int) then (if (x5.length : Int) ≤ (x6.length : Int) then ((newelref08_Same.f k x5 (x6.take ((x5.length : Int) : Int).toNat)).bind fun t179 => (some (t179 == (x0 == x1)))) else (none)) else (none)) else (none))))
def newellaw08_WireApart.f (k : Nat) (a0 : Int) (a1 : Int) : Option (Bool) := (wire_Put.f a0).bind fun t162 => ((wire_Put.f a1).bind fun t165 => (if (t162.length : Int) = 0 then (none) else (newellaw08_WireApart.j0 k a0 a1 t162 t165 ((t165.length : Int) == 0))))
theorem newellaw08_WireApart.mono_l : ∀ k, (∀ y0 y1 y2 y3 y4, LeO (newellaw08_WireApart.j0 k y0 y1 y2 y3 y4) (newellaw08_WireApart.j0 (k + 1) y0 y1 y2 y3 y4))
 | 0 => fun _ _ _ _ _ r h => by simp [newellaw08_WireApart.j0] at h
 | k + 1 => by
  have ih0 := newellaw08_WireApart.mono_l k
  ·intro y0 y1 y2 y3 y4
   unfold newellaw08_WireApart.j0
   repeat' first
   | (with_reducible exact ih0 _ _ _ _ _)
   | (with_reducible exact newellaw08_awake.mono _)
   | (with_reducible exact newelref08_Same.mono _ _ _)
   | (with_reducible exact LeO.refl _)
   | (with_reducible exact LeO.none _)
   | (with_reducible refine LeO.ite ?_ ?_)
   | (with_reducible refine LeO.bind ?_ (fun _ => ?_))
   | exact ih0 _ _ _ _ _
   | exact newellaw08_awake.mono _
   | exact newelref08_Same.mono _ _ _
   | exact LeO.none _
   | refine LeO.ite ?_ ?_
   | refine LeO.bind ?_ (fun _ => ?_)
theorem newellaw08_WireApart.mono : ∀ a0 a1 k, LeO (newellaw08_WireApart.f k a0 a1) (newellaw08_WireApart.f (k + 1) a0 a1) := by
 intro a0 a1 k
 have ih0 := newellaw08_WireApart.mono_l k
 unfold newellaw08_WireApart.f
 repeat' first
   | (with_reducible exact ih0 _ _ _ _ _)
   | (with_reducible exact newellaw08_awake.mono _)
   | (with_reducible exact newelref08_Same.mono _ _ _)
   | (with_reducible exact LeO.refl _)
   | (with_reducible exact LeO.none _)
   | (with_reducible refine LeO.ite ?_ ?_)
   | (with_reducible refine LeO.bind ?_ (fun _ => ?_))
   | exact ih0 _ _ _ _ _
   | exact newellaw08_awake.mono _
   | exact newelref08_Same.mono _ _ _
   | exact LeO.none _
   | refine LeO.ite ?_ ?_
   | refine LeO.bind ?_ (fun _ => ?_)
set_option maxHeartbeats 8000000 in
set_option maxRecDepth 100000 in
theorem newellaw08_WireApart.calls (k : Nat) (a0 : Int) (a1 : Int) (r : Bool) (w : World) (h : newellaw08_WireApart.f k a0 a1 = some r) :
  Calls Try.prog 4 #[.int .i64 a0, .int .i64 a1] w fun e w' => e = .returned (.bool r) ∧ Below w.heap.size w w' := by
 have HB := Aside0.mk (Below.refl w.heap.size w)
 have H : ((wire_Put.f a0).bind fun t162 => ((wire_Put.f a1).bind fun t165 => (if (t162.length : Int) = 0 then (none) else (newellaw08_WireApart.j0 k a0 a1 t162 t165 ((t165.length : Int) == 0))))) = some r := h
 clear h
 replace H := Option.bind_eq_some_iff.mp H
 obtain ⟨t162, A30, H⟩ := H
 replace H : ((wire_Put.f a1).bind fun t165 => (if (t162.length : Int) = 0 then (none) else (newellaw08_WireApart.j0 k a0 a1 t162 t165 ((t165.length : Int) == 0)))) = some r := H
 have A3 := Aside0.mk A30
 clear A30
 replace H := Option.bind_eq_some_iff.mp H
 obtain ⟨t165, A40, H⟩ := H
 replace H : (if (t162.length : Int) = 0 then (none) else (newellaw08_WireApart.j0 k a0 a1 t162 t165 ((t165.length : Int) == 0))) = some r := H
 have A4 := Aside0.mk A40
 clear A40
 have HC5 := Aside0.mk H
 clear H
 go_enter Try.func4, Try.ntmps4
 go_upto_region 3 with (first | ((with_reducible refine gate_callee (f := 16) rfl ?_); refine goesL_ (some 8) rfl rfl Try.func16 (by kernel_rfl) rfl #[.int .i64 a0] rfl (by (try simp only [List.map_toArray, List.map_cons, List.map_nil]); first | done | rfl | (simp only [List.length_drop, List.length_take]; rfl)) ?_; (with_reducible refine (wire_Put.calls a0 t162 _ A3.out).mono ?_); rintro e w6 ⟨v163, rfl, ho0, hb⟩; refine ⟨_, rfl, ?_⟩; have n0_ := Aside0.mk (Kd.R_lower ho0 (below_size (by repeat (first | (with_reducible first | exact HB.out | apply below_alloc | apply pw_below_drewN | apply below_drew1) | exact HB.out)))); have n1_ := Aside0.mk (below_step (by repeat (first | (with_reducible first | exact HB.out | apply below_alloc | apply pw_below_drewN | apply below_drew1) | exact HB.out)) hb); clear HB; have HO164 := n0_; have HB := n1_; clear n0_ n1_; (try clear hb); (try clear hb2); (try clear hk); (try clear hi); (try clear ho0)) | ((with_reducible refine gate_callee (f := 16) rfl ?_); refine goesL_ (some 10) rfl rfl Try.func16 (by kernel_rfl) rfl #[.int .i64 a1] rfl (by (try simp only [List.map_toArray, List.map_cons, List.map_nil]); first | done | rfl | (simp only [List.length_drop, List.length_take]; rfl)) ?_; (with_reducible refine (wire_Put.calls a1 t165 _ A4.out).mono ?_); rintro e w7 ⟨v166, rfl, ho0, hb⟩; refine ⟨_, rfl, ?_⟩; have n0_ := Aside0.mk (Kd.R_elder' (by (with_reducible repeat (first | apply Kd.R_alloc | apply Kd.R_drewN | apply Kd.R_drew)); exact HO164.out) (Kd.R_base ho0) hb); have n1_ := Aside0.mk (Kd.R_lower (Kd.R_new' ho0 (Kd.R_lt (by (with_reducible repeat (first | apply Kd.R_alloc | apply Kd.R_drewN | apply Kd.R_drew)); exact HO164.out))) (below_size (by repeat (first | (with_reducible first | exact HB.out | apply below_alloc | apply pw_below_drewN | apply below_drew1) | exact HB.out)))); have n2_ := Aside0.mk (below_step (by repeat (first | (with_reducible first | exact HB.out | apply below_alloc | apply pw_below_drewN | apply below_drew1) | exact HB.out)) hb); clear HO164; clear HB; have HO164 := n0_; have HO167 := n1_; have HB := n2_; clear n0_ n1_ n2_; (try clear hb); (try clear hb2); (try clear hk); (try clear hi); (try clear ho0)))
 (try simp only [Act.put, List.setIfInBounds_toArray, List.set_cons_zero, List.set_cons_succ])
 go_cut [18] (fun v18 wc => ∃ (kq : Nat) (x18_4 : Bool), v18 = .bool x18_4 ∧ Aside0 (newellaw08_WireApart.j0 kq a0 a1 t162 t165 x18_4 = some r) ∧ Aside0 (kq ≤ k) ∧ Aside0 (Kd.R (Kd.int .u8) 5 wc w.heap.size (fun k_ => some k_ ≠ (v166 : Value).ownBlock) v163 t162) ∧ Aside0 (Kd.R (Kd.int .u8) 5 wc w.heap.size (fun k_ => some k_ ≠ (v163 : Value).ownBlock) v166 t165) ∧ Aside0 (Below w.heap.size w wc))
 case first =>
  have H := HC5.out
  clear HC5
  by_cases c8 : (t162.length : Int) = 0
  ·rw [if_pos c8] at H
   exact absurd H (by simp)
  ·rw [if_neg c8] at H
   have c8b0 : ((t162.length : Int) == 0) = false := beq_eq_false_iff_ne.mpr c8
   have c8b1 : ((t162.length : Int) != 0) = true := bne_iff_ne.mpr c8
   have c8b2 : ¬ (t162 = []) := fun h_ => c8 (by rw [h_]; rfl)
   (first | rw [c8b0] | (simp only [i64_w, i32_w]; rw [c8b0]) | skip)
   have H' := Aside0.mk H
   clear H
   obtain ⟨Ao9, co9, eo9⟩ := Kd.R_slice HO164.out
   subst eo9
   obtain ⟨Ao10, co10, eo10⟩ := Kd.R_slice HO167.out
   subst eo10
   go_wp2
   go_meet
   case rel => exact ⟨_, (((t165.length : Int) == 0)), (by first | rfl | (simp; done) | (simp [*]; done)), H', ⟨by first | omega | exact Nat.le_refl _⟩, ⟨by (with_reducible repeat (first | apply Kd.R_alloc | apply Kd.R_drewN | apply Kd.R_drew)); exact Kd.R_mono HO164.out (fun _ hk => hk.2)⟩, ⟨by (with_reducible repeat (first | apply Kd.R_alloc | apply Kd.R_drewN | apply Kd.R_drew)); exact Kd.R_mono HO167.out (fun _ hk => hk.2)⟩, ⟨by repeat (first | (with_reducible first | exact HB.out | apply below_alloc | apply pw_below_drewN | apply below_drew1) | exact HB.out)⟩⟩
 case rest =>
  clear HC5
  try clear c1
  try clear p2
  try clear c4
  try clear c8
  try clear c8b0
  try clear c8b1
  try clear c8b2
  obtain ⟨kq, x18_4, rfl, HA, HJ4, HO_5, HO_6, HB⟩ := hcut
  cases kq with
  | zero => exact absurd HA.out (by simp [newellaw08_WireApart.j0])
  | succ kj4 =>
   have H := HA.out
   clear HA
   simp only [newellaw08_WireApart.j0] at H
   by_cases c11 : x18_4 = true
   ·subst c11
    have H1 : (none) = some r := by rw [if_pos rfl] at H; exact H
    clear H
    have H := H1
    clear H1
    exact absurd H (by simp)
   ·replace c11 := Bool.eq_false_iff.mpr c11
    subst c11
    have H1 : (if (t162.length : Int) > (t165.length : Int) then ((newellaw08_awake.f kj4).bind fun t168 => (if t168 = true then (if 0 ≤ (t165.length : Int) then (if (t165.length : Int) ≤ (t162.length : Int) then ((newelref08_Same.f kj4 t165 (t162.take ((t165.length : Int) : Int).toNat)).bind fun t173 => (some (!t173))) else (none)) else (none)) else (none))) else ((newellaw08_awake.f kj4).bind fun t174 => (if t174 = true then (if 0 ≤ (t162.length : Int) then (if (t162.length : Int) ≤ (t165.length : Int) then ((newelref08_Same.f kj4 t162 (t165.take ((t162.length : Int) : Int).toNat)).bind fun t179 => (some (t179 == (a0 == a1)))) else (none)) else (none)) else (none)))) = some r := by rw [if_neg (show ¬ (false = true) by decide)] at H; exact H
    clear H
    have H := H1
    clear H1
    by_cases c12 : (t162.length : Int) > (t165.length : Int)
    ·rw [if_pos c12] at H
     have c12b0 : decide ((t165.length : Int) < (t162.length : Int)) = true := decide_eq_true c12
     have c12b1 : decide (t165.length < t162.length) = true := decide_eq_true (Int.ofNat_lt.mp c12)
     clear c12
     replace H := Option.bind_eq_some_iff.mp H
     obtain ⟨t168, A130, H⟩ := H
     replace H : (if t168 = true then (if 0 ≤ (t165.length : Int) then (if (t165.length : Int) ≤ (t162.length : Int) then ((newelref08_Same.f kj4 t165 (t162.take ((t165.length : Int) : Int).toNat)).bind fun t173 => (some (!t173))) else (none)) else (none)) else (none)) = some r := H
     have A13 := Aside0.mk A130
     clear A130
     by_cases c14 : t168 = true
     ·subst c14
      have H1 : (if 0 ≤ (t165.length : Int) then (if (t165.length : Int) ≤ (t162.length : Int) then ((newelref08_Same.f kj4 t165 (t162.take ((t165.length : Int) : Int).toNat)).bind fun t173 => (some (!t173))) else (none)) else (none)) = some r := by rw [if_pos rfl] at H; exact H
      clear H
      have H := H1
      clear H1
      by_cases c15 : 0 ≤ (t165.length : Int)
      ·rw [if_pos c15] at H
       have c15b0 := eq_true c15
       have c15b1 : decide (0 ≤ (t165.length : Int)) = true := decide_eq_true c15
       clear c15
       by_cases c16 : (t165.length : Int) ≤ (t162.length : Int)
       ·rw [if_pos c16] at H
        have c16b0 := eq_true c16
        have c16b1 : decide ((t165.length : Int) ≤ (t162.length : Int)) = true := decide_eq_true c16
        clear c16
        obtain ⟨y169, hy169⟩ : ∃ y_ : List Int, y_ = (t162.take ((t165.length : Int) : Int).toNat) := ⟨_, rfl⟩
        replace H : ((newelref08_Same.f kj4 t165 y169).bind fun t173 => (some (!t173))) = some r := by first | (rw [hy169]; with_reducible exact H) | (have H2_ := (Option.bind_some _ _).symm.trans H; rw [hy169]; with_reducible exact H2_) | (have H2_ := (Option.bind_some _ _).symm.trans H; with_reducible exact H2_) | with_reducible exact H | (rw [hy169]; exact H) | exact H
        have Ny169 := Aside0.mk hy169
        clear hy169
        replace H := Option.bind_eq_some_iff.mp H
        obtain ⟨t173, A170, H⟩ := H
        replace H : (some (!t173)) = some r := H
        have A17 := Aside0.mk A170
        clear A170
        obtain rfl := Option.some.inj H
        obtain ⟨Ao18, co18, eo18⟩ := Kd.R_slice HO_5.out
        subst eo18
        obtain ⟨Ao19, co19, eo19⟩ := Kd.R_slice HO_6.out
        subst eo19
        go_wp2_with (first | ((with_reducible refine gate_callee (f := 13) rfl ?_); refine goesL_ (some 24) rfl rfl Try.func13 (by kernel_rfl) rfl #[] rfl (by (try simp only [List.map_toArray, List.map_cons, List.map_nil]); first | done | rfl | (simp only [List.length_drop, List.length_take]; rfl)) ?_; (with_reducible refine (newellaw08_awake.calls kj4  true _ A13.out).mono ?_); rintro e w20 ⟨rfl, hb⟩; refine ⟨_, rfl, ?_⟩; have n0_ := Aside0.mk (Kd.R_below (by (with_reducible repeat (first | apply Kd.R_alloc | apply Kd.R_drewN | apply Kd.R_drew)); exact HO_5.out) hb); have n1_ := Aside0.mk (Kd.R_below (by (with_reducible repeat (first | apply Kd.R_alloc | apply Kd.R_drewN | apply Kd.R_drew)); exact HO_6.out) hb); have n2_ := Aside0.mk (below_step (by repeat (first | (with_reducible first | exact HB.out | apply below_alloc | apply pw_below_drewN | apply below_drew1) | exact HB.out)) hb); clear HO_5; clear HO_6; clear HB; have HO_5 := n0_; have HO_6 := n1_; have HB := n2_; clear n0_ n1_ n2_; (try clear hb); (try clear hb2); (try clear hk); (try clear hi); have q21 : ((t165.length : Int) : Int) ≤ ((t162.length : Int) : Int) := of_decide_eq_true (by first | (with_reducible assumption) | assumption); obtain ⟨i021, hi021, _, hsz21, _⟩ := info_parts info5; have hroom21 : t162.length ≤ co18 := (Kd.R_reads' HO_5.out).2.1; have hC21 : Kd.C (Kd.int .u8) _ Ao18 t162.length t162 := (Kd.R_reads' HO_5.out).2.2; have hcut21 := cut_to (P := Try.prog) 22 5 .i64 Try.underlying22 hi021 Ao18 t162.length co18 (t165.length : Int) (of_decide_eq_true (by first | (with_reducible assumption) | assumption)) q21 hroom21; have hr21 := Kd.C_take (m := ((t165.length : Int) : Int).toNat) hC21 (by omega); have hy21 : y169.length = ((t165.length : Int) : Int).toNat := (by rw [Ny169.out, List.length_take]; omega); rw [← Ny169.out] at hr21; rw [← hy21] at hcut21; have HR172 := Aside0.mk hr21; have HC172 := Aside0.mk (show y169.length ≤ co18 from by omega); clear hr21 hC21 hroom21 hi021 hsz21; have KY21 := Aside0.mk hy21; clear hy21; have KL21 := Aside0.mk (show ((t165.length : Int) : Int).toNat ≤ t162.length from by omega); replace q21 := eq_true q21) | (go_at_call 15; (with_reducible refine (newelref08_Same.calls kj4 _ _ t165 _ _ y169 t173 _ ?side1 ?side2 ?side3 ?side4 A17.out).mono ?_); (case side1 => repeat (first | exact (Kd.R_reads' HO_6.out).2.2 | (with_reducible refine Kd.C_alloc ?_ _) | (with_reducible refine Kd.C_drewN ?_ _) | (with_reducible refine Kd.C_drew ?_))); (case side2 => exact (Kd.R_reads' HO_6.out).2.1); (case side3 => repeat (first | exact (by repeat (first | (with_reducible exact HR172.out) | (with_reducible refine Kd.C_alloc ?_ _) | (with_reducible refine Kd.C_drewN ?_ _) | (with_reducible refine Kd.C_drew ?_) | exact HR172.out)) | (with_reducible refine Kd.C_alloc ?_ _) | (with_reducible refine Kd.C_drewN ?_ _) | (with_reducible refine Kd.C_drew ?_))); (case side4 => exact HC172.out); rintro e w' ⟨rfl, ⟨nd, rfl⟩⟩))
        go_ret
        exact ⟨by first | rfl | (simp [errW_none, errW_some] <;> rfl) | (simp [*, errW_none, errW_some] <;> rfl), by repeat (first | (with_reducible first | exact HB.out | apply below_alloc | apply pw_below_drewN | apply below_drew1) | exact HB.out)⟩
       ·rw [if_neg c16] at H
        exact absurd H (by simp)
      ·rw [if_neg c15] at H
       exact absurd H (by simp)
     ·replace c14 := Bool.eq_false_iff.mpr c14
      subst c14
      have H1 : (none) = some r := by rw [if_neg (show ¬ (false = true) by decide)] at H; exact H
      clear H
      have H := H1
      clear H1
      exact absurd H (by simp)
    ·rw [if_neg c12] at H
     have c12b0 : decide ((t165.length : Int) < (t162.length : Int)) = false := decide_eq_false c12
     have c12b1 : decide (t165.length < t162.length) = false := decide_eq_false (fun h => c12 (Int.ofNat_lt.mpr h))
     clear c12
     replace H := Option.bind_eq_some_iff.mp H
     obtain ⟨t174, A220, H⟩ := H
     replace H : (if t174 = true then (if 0 ≤ (t162.length : Int) then (if (t162.length : Int) ≤ (t165.length : Int) then ((newelref08_Same.f kj4 t162 (t165.take ((t162.length : Int) : Int).toNat)).bind fun t179 => (some (t179 == (a0 == a1)))) else (none)) else (none)) else (none)) = some r := H
     have A22 := Aside0.mk A220
     clear A220
     by_cases c23 : t174 = true
     ·subst c23
      have H1 : (if 0 ≤ (t162.length : Int) then (if (t162.length : Int) ≤ (t165.length : Int) then ((newelref08_Same.f kj4 t162 (t165.take ((t162.length : Int) : Int).toNat)).bind fun t179 => (some (t179 == (a0 == a1)))) else (none)) else (none)) = some r := by rw [if_pos rfl] at H; exact H
      clear H
      have H := H1
      clear H1
      by_cases c24 : 0 ≤ (t162.length : Int)
      ·rw [if_pos c24] at H
       have c24b0 := eq_true c24
       have c24b1 : decide (0 ≤ (t162.length : Int)) = true := decide_eq_true c24
       clear c24
       by_cases c25 : (t162.length : Int) ≤ (t165.length : Int)
       ·rw [if_pos c25] at H
        have c25b0 := eq_true c25
        have c25b1 : decide ((t162.length : Int) ≤ (t165.length : Int)) = true := decide_eq_true c25
        clear c25
        obtain ⟨y175, hy175⟩ : ∃ y_ : List Int, y_ = (t165.take ((t162.length : Int) : Int).toNat) := ⟨_, rfl⟩
        replace H : ((newelref08_Same.f kj4 t162 y175).bind fun t179 => (some (t179 == (a0 == a1)))) = some r := by first | (rw [hy175]; with_reducible exact H) | (have H2_ := (Option.bind_some _ _).symm.trans H; rw [hy175]; with_reducible exact H2_) | (have H2_ := (Option.bind_some _ _).symm.trans H; with_reducible exact H2_) | with_reducible exact H | (rw [hy175]; exact H) | exact H
        have Ny175 := Aside0.mk hy175
        clear hy175
        replace H := Option.bind_eq_some_iff.mp H
        obtain ⟨t179, A260, H⟩ := H
        replace H : (some (t179 == (a0 == a1))) = some r := H
        have A26 := Aside0.mk A260
        clear A260
        obtain rfl := Option.some.inj H
        obtain ⟨Ao27, co27, eo27⟩ := Kd.R_slice HO_5.out
        subst eo27
        obtain ⟨Ao28, co28, eo28⟩ := Kd.R_slice HO_6.out
        subst eo28
        go_wp2_with (first | ((with_reducible refine gate_callee (f := 13) rfl ?_); refine goesL_ (some 34) rfl rfl Try.func13 (by kernel_rfl) rfl #[] rfl (by (try simp only [List.map_toArray, List.map_cons, List.map_nil]); first | done | rfl | (simp only [List.length_drop, List.length_take]; rfl)) ?_; (with_reducible refine (newellaw08_awake.calls kj4  true _ A22.out).mono ?_); rintro e w29 ⟨rfl, hb⟩; refine ⟨_, rfl, ?_⟩; have n0_ := Aside0.mk (Kd.R_below (by (with_reducible repeat (first | apply Kd.R_alloc | apply Kd.R_drewN | apply Kd.R_drew)); exact HO_5.out) hb); have n1_ := Aside0.mk (Kd.R_below (by (with_reducible repeat (first | apply Kd.R_alloc | apply Kd.R_drewN | apply Kd.R_drew)); exact HO_6.out) hb); have n2_ := Aside0.mk (below_step (by repeat (first | (with_reducible first | exact HB.out | apply below_alloc | apply pw_below_drewN | apply below_drew1) | exact HB.out)) hb); clear HO_5; clear HO_6; clear HB; have HO_5 := n0_; have HO_6 := n1_; have HB := n2_; clear n0_ n1_ n2_; (try clear hb); (try clear hb2); (try clear hk); (try clear hi); have q30 : ((t162.length : Int) : Int) ≤ ((t165.length : Int) : Int) := of_decide_eq_true (by first | (with_reducible assumption) | assumption); obtain ⟨i030, hi030, _, hsz30, _⟩ := info_parts info5; have hroom30 : t165.length ≤ co28 := (Kd.R_reads' HO_6.out).2.1; have hC30 : Kd.C (Kd.int .u8) _ Ao28 t165.length t165 := (Kd.R_reads' HO_6.out).2.2; have hcut30 := cut_to (P := Try.prog) 22 5 .i64 Try.underlying22 hi030 Ao28 t165.length co28 (t162.length : Int) (of_decide_eq_true (by first | (with_reducible assumption) | assumption)) q30 hroom30; have hr30 := Kd.C_take (m := ((t162.length : Int) : Int).toNat) hC30 (by omega); have hy30 : y175.length = ((t162.length : Int) : Int).toNat := (by rw [Ny175.out, List.length_take]; omega); rw [← Ny175.out] at hr30; rw [← hy30] at hcut30; have HR178 := Aside0.mk hr30; have HC178 := Aside0.mk (show y175.length ≤ co28 from by omega); clear hr30 hC30 hroom30 hi030 hsz30; have KY30 := Aside0.mk hy30; clear hy30; have KL30 := Aside0.mk (show ((t162.length : Int) : Int).toNat ≤ t165.length from by omega); replace q30 := eq_true q30) | (go_at_call 15; (with_reducible refine (newelref08_Same.calls kj4 _ _ t162 _ _ y175 t179 _ ?side1 ?side2 ?side3 ?side4 A26.out).mono ?_); (case side1 => repeat (first | exact (Kd.R_reads' HO_5.out).2.2 | (with_reducible refine Kd.C_alloc ?_ _) | (with_reducible refine Kd.C_drewN ?_ _) | (with_reducible refine Kd.C_drew ?_))); (case side2 => exact (Kd.R_reads' HO_5.out).2.1); (case side3 => repeat (first | exact (by repeat (first | (with_reducible exact HR178.out) | (with_reducible refine Kd.C_alloc ?_ _) | (with_reducible refine Kd.C_drewN ?_ _) | (with_reducible refine Kd.C_drew ?_) | exact HR178.out)) | (with_reducible refine Kd.C_alloc ?_ _) | (with_reducible refine Kd.C_drewN ?_ _) | (with_reducible refine Kd.C_drew ?_))); (case side4 => exact HC178.out); rintro e w' ⟨rfl, ⟨nd, rfl⟩⟩))
        go_ret
        exact ⟨by first | rfl | (simp [errW_none, errW_some] <;> rfl) | (simp [*, errW_none, errW_some] <;> rfl), by repeat (first | (with_reducible first | exact HB.out | apply below_alloc | apply pw_below_drewN | apply below_drew1) | exact HB.out)⟩
       ·rw [if_neg c25] at H
        exact absurd H (by simp)
      ·rw [if_neg c24] at H
       exact absurd H (by simp)
     ·replace c23 := Bool.eq_false_iff.mpr c23
      subst c23
      have H1 : (none) = some r := by rw [if_neg (show ¬ (false = true) by decide)] at H; exact H
      clear H
      have H := H1
      clear H1
      exact absurd H (by simp)

/-- THE ONE PURE STATEMENT of newellaw08_WireApart: yours. -/
def newellaw08_WireApart.Pure : Prop := ∀ (a0 : Int) (a1 : Int), (Lit.int .i64 a0).wf = true → (Lit.int .i64 a1).wf = true → ∃ k, newellaw08_WireApart.f k a0 a1 = some true
theorem newellaw08_WireApart.walk (P : newellaw08_WireApart.Pure) (a0 : Int) (a1 : Int) (w : World) (w0 : (Lit.int .i64 a0).wf = true) (w1 : (Lit.int .i64 a1).wf = true) :
  Calls Try.prog 4 #[.int .i64 a0, .int .i64 a1] w fun e w' => e = .returned (.bool true) ∧ Below w.heap.size w w' := by
 obtain ⟨k, h⟩ := P a0 a1 w0 w1
 refine (newellaw08_WireApart.calls k a0 a1 true w h).mono ?_
 rintro e w' ⟨rfl, hd⟩
 exact ⟨rfl, hd⟩

end Go.Proofs.Ytjfikeahafflfaa.C
