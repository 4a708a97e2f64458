-- Written by a program of this session (wip/pp: the kit's print, changed), out of the translation. Lean checks it.
import Derived.Test.YtcnjaeeghfmkfaaDx0
import Derived.Test.YtcnjaeeghfmkfaaDx1
import Derived.Test.YtcnjaeeghfmkfaaDx5
import Derived.Test.YtcnjaeeghfmkfaaDx6
import Derived.Test.YtcnjaeeghfmkfaaDx7
namespace Go.Proofs.Ytcnjaeeghfmkfaa.D
open Go.RowKit Go.Proofs.YtcnjaeeghfmkfaaW.PrintWords Go.Proofs.YtcnjaeeghfmkfaaW.PrintLast Go.Proofs.YtcnjaeeghfmkfaaW.PrintMore
attribute [local go_sem] max2_int min2_int max_two min_two max_three min_three max_four min_four   -- for this text's walks alone
set_option linter.unusedVariables false
set_option linter.unusedSimpArgs false

attribute [local go_sem high] eqA23
/-! ### newellaw16_awake: function 11 -/
def newellaw16_awake.f (k : Nat)  : Option (Bool) := (clock_All.f k true false 5000 0 (([9000, 9010] : List Int))).bind fun bt128 => ((clock_Read.f k true false 5000 0 9000).bind fun bt135 => (if (bt128.1 && (!bt128.2.1 && (bt128.2.2.1 == 9010 && (bt128.2.2.2.1 == 0)))) = true then (if bt128.2.2.2.2.1 = 1 then (if bt128.2.2.2.2.2 = 0 then (if (bt135.1 && (bt135.2.1 && (bt135.2.2.1 == 5000 && (bt135.2.2.2.1 == 9000)))) = true then (if bt135.2.2.2.2.1 = true then (none) else (if bt135.2.2.2.2.2 = 0 then ((clock_Check.f k bt135.1 bt135.2.1 bt135.2.2.1 bt135.2.2.2.1).bind fun t142 => (some (t142 == 0))) else (none))) else (none)) else (none)) else (none)) else (none)))
theorem newellaw16_awake.mono : ∀ k, LeO (newellaw16_awake.f k ) (newellaw16_awake.f (k + 1) ) := by
 intro  k
 unfold newellaw16_awake.f
 repeat' first
   | (with_reducible exact clock_All.mono _ _ _ _ _ _)
   | (with_reducible exact clock_Check.mono _ _ _ _ _)
   | (with_reducible exact clock_Read.mono _ _ _ _ _ _)
   | (with_reducible exact LeO.refl _)
   | (with_reducible exact LeO.none _)
   | (with_reducible refine LeO.ite ?_ ?_)
   | (with_reducible refine LeO.bind ?_ (fun _ => ?_))
   | exact clock_All.mono _ _ _ _ _ _
   | exact clock_Check.mono _ _ _ _ _
   | exact clock_Read.mono _ _ _ _ _ _
   | exact LeO.none _
   | refine LeO.ite ?_ ?_
   | refine LeO.bind ?_ (fun _ => ?_)
set_option maxHeartbeats 8000000 in
set_option maxRecDepth 100000 in
theorem newellaw16_awake.calls (k : Nat)  (r : Bool) (w : World) (h : newellaw16_awake.f k  = some r) :
  Calls Try.prog 11 #[] w fun e w' => e = .returned (.bool r) ∧ Below w.heap.size w w' := by
 have hu23 := Try.underlying23
 have HB := Aside0.mk (Below.refl w.heap.size w)
 have H : ((clock_All.f k true false 5000 0 (([9000, 9010] : List Int))).bind fun bt128 => ((clock_Read.f k true false 5000 0 9000).bind fun bt135 => (if (bt128.1 && (!bt128.2.1 && (bt128.2.2.1 == 9010 && (bt128.2.2.2.1 == 0)))) = true then (if bt128.2.2.2.2.1 = 1 then (if bt128.2.2.2.2.2 = 0 then (if (bt135.1 && (bt135.2.1 && (bt135.2.2.1 == 5000 && (bt135.2.2.2.1 == 9000)))) = true then (if bt135.2.2.2.2.1 = true then (none) else (if bt135.2.2.2.2.2 = 0 then ((clock_Check.f k bt135.1 bt135.2.1 bt135.2.2.1 bt135.2.2.2.1).bind fun t142 => (some (t142 == 0))) else (none))) else (none)) else (none)) else (none)) else (none)))) = some r := h
 clear h
 obtain ⟨y125, hy125⟩ : ∃ y_ : List Int, y_ = (([9000, 9010] : List Int)) := ⟨_, rfl⟩
 replace H : ((clock_All.f k true false 5000 0 y125).bind fun bt128 => ((clock_Read.f k true false 5000 0 9000).bind fun bt135 => (if (bt128.1 && (!bt128.2.1 && (bt128.2.2.1 == 9010 && (bt128.2.2.2.1 == 0)))) = true then (if bt128.2.2.2.2.1 = 1 then (if bt128.2.2.2.2.2 = 0 then (if (bt135.1 && (bt135.2.1 && (bt135.2.2.1 == 5000 && (bt135.2.2.2.1 == 9000)))) = true then (if bt135.2.2.2.2.1 = true then (none) else (if bt135.2.2.2.2.2 = 0 then ((clock_Check.f k bt135.1 bt135.2.1 bt135.2.2.1 bt135.2.2.2.1).bind fun t142 => (some (t142 == 0))) else (none))) else (none)) else (none)) else (none)) else (none)))) = some r := by first | (rw [hy125]; with_reducible exact H) | (have H2_ := (Option.bind_some _ _).symm.trans H; rw [hy125]; with_reducible exact H2_) | (have H2_ := (Option.bind_some _ _).symm.trans H; with_reducible exact H2_) | with_reducible exact H | (rw [hy125]; exact H) | exact H
 have Ny125 := Aside0.mk hy125
 clear hy125
 replace H := Option.bind_eq_some_iff.mp H
 obtain ⟨⟨t128, t129, t130, t131, t132, t133⟩, A10, H⟩ := H
 replace H : ((clock_Read.f k true false 5000 0 9000).bind fun bt135 => (if (t128 && (!t129 && (t130 == 9010 && (t131 == 0)))) = true then (if t132 = 1 then (if t133 = 0 then (if (bt135.1 && (bt135.2.1 && (bt135.2.2.1 == 5000 && (bt135.2.2.2.1 == 9000)))) = true then (if bt135.2.2.2.2.1 = true then (none) else (if bt135.2.2.2.2.2 = 0 then ((clock_Check.f k bt135.1 bt135.2.1 bt135.2.2.1 bt135.2.2.2.1).bind fun t142 => (some (t142 == 0))) else (none))) else (none)) else (none)) else (none)) else (none))) = some r := H
 have A1 := Aside0.mk A10
 clear A10
 replace H := Option.bind_eq_some_iff.mp H
 obtain ⟨⟨t135, t136, t137, t138, t139, t140⟩, A20, H⟩ := H
 replace H : (if (t128 && (!t129 && (t130 == 9010 && (t131 == 0)))) = true then (if t132 = 1 then (if t133 = 0 then (if (t135 && (t136 && (t137 == 5000 && (t138 == 9000)))) = true then (if t139 = true then (none) else (if t140 = 0 then ((clock_Check.f k t135 t136 t137 t138).bind fun t142 => (some (t142 == 0))) else (none))) else (none)) else (none)) else (none)) else (none)) = some r := H
 have A2 := Aside0.mk A20
 clear A20
 by_cases c3 : (t128 && (!t129 && (t130 == 9010 && (t131 == 0)))) = true
 ·rw [if_pos c3] at H
  have c3b0 : (t128 && (!t129 && (t130 == 9010 && (t131 == 0)))) = true := c3
  (try (have c3s0 := c3b0; simp only [beq_self_eq_true, bne_self_eq_false, Bool.not_true, Bool.not_false, Bool.true_and, Bool.and_true, Bool.false_or, Bool.or_false] at c3s0))
  clear c3
  by_cases c4 : t132 = 1
  ·rw [if_pos c4] at H
   have c4b0 : (t132 == 1) = true := beq_iff_eq.mpr c4
   have c4b1 : (t132 != 1) = false := bne_eq_false_iff_eq.mpr c4
   clear c4
   by_cases c5 : t133 = 0
   ·rw [if_pos c5] at H
    have c5b0 : (t133 == 0) = true := beq_iff_eq.mpr c5
    have c5b1 : (t133 != 0) = false := bne_eq_false_iff_eq.mpr c5
    clear c5
    by_cases c6 : (t135 && (t136 && (t137 == 5000 && (t138 == 9000)))) = true
    ·rw [if_pos c6] at H
     have c6b0 : (t135 && (t136 && (t137 == 5000 && (t138 == 9000)))) = true := c6
     (try (have c6s0 := c6b0; simp only [beq_self_eq_true, bne_self_eq_false, Bool.not_true, Bool.not_false, Bool.true_and, Bool.and_true, Bool.false_or, Bool.or_false] at c6s0))
     clear c6
     by_cases c7 : t139 = true
     ·subst c7
      have H1 : (none) = some r := by rw [if_pos rfl] at H; exact H
      clear H
      have H := H1
      clear H1
      exact absurd H (by simp)
     ·replace c7 := Bool.eq_false_iff.mpr c7
      subst c7
      have H1 : (if t140 = 0 then ((clock_Check.f k t135 t136 t137 t138).bind fun t142 => (some (t142 == 0))) else (none)) = some r := by rw [if_neg (show ¬ (false = true) by decide)] at H; exact H
      clear H
      have H := H1
      clear H1
      by_cases c8 : t140 = 0
      ·rw [if_pos c8] at H
       have c8b0 : (t140 == 0) = true := beq_iff_eq.mpr c8
       have c8b1 : (t140 != 0) = false := bne_eq_false_iff_eq.mpr c8
       clear c8
       replace H := Option.bind_eq_some_iff.mp H
       obtain ⟨t142, A90, H⟩ := H
       replace H : (some (t142 == 0)) = some r := H
       have A9 := Aside0.mk A90
       clear A90
       obtain rfl := Option.some.inj H
       go_enter Try.func11, Try.ntmps11
       go_wp2_with (first | ((with_reducible refine gate_dst (N := 9) rfl ?_); refine Kd.R_lit (Kd.int .i64) _ 3 ?hg (N := 9) ?hd (xs := ([9000, 9010] : List Int)) (inner := [.int .i64 9000, .int .i64 9010]) (ok := fun _ => True) (okp := fun _ => True) ?hr ?hp (fun _ hk => hk) trivial (Below.refl _ _) (Nat.le_refl _) (by simp) ?_; (case hd => rfl); (case hg => rfl); (case hr => first | (go_simp; done) | (go_simp; rfl)); (case hp => exact (Reps.one (show Kd.M (Kd.int .i64) _ _ _ 9000 [.int .i64 9000] from rfl) (Reps.one (show Kd.M (Kd.int .i64) _ _ _ 9010 [.int .i64 9010] from rfl) (Reps.none _ _)))); intro v126 w10 ho11 hb hg_ hnew_; clear hg_ hnew_; (first | rw [← Ny125.out] at ho11 | (simp only [Int.reduceToNat] at ho11; rw [← Ny125.out] at ho11)); have n0_ := Aside0.mk (Kd.R_lower ho11 (below_size (by repeat (first | (with_reducible first | exact HB.out | apply below_alloc | apply pw_below_drewN | apply below_drew1) | exact HB.out)))); have n1_ := Aside0.mk (below_step (by repeat (first | (with_reducible first | exact HB.out | apply below_alloc | apply pw_below_drewN | apply below_drew1) | exact HB.out)) hb); clear HB; have HO127 := n0_; have HB := n1_; clear n0_ n1_; clear hb ho11; obtain ⟨Ao12, co12, eo12⟩ := Kd.R_slice HO127.out; subst eo12) | ((with_reducible refine gate_callee (f := 15) rfl ?_); refine goesL_ (some 10) rfl rfl Try.func15 (by kernel_rfl) rfl #[.agg #[.bool true, .bool false, .int .i64 5000, .int .i64 0], .slice Ao12 y125.length co12] rfl (by (try simp only [List.map_toArray, List.map_cons, List.map_nil]); first | done | rfl | (simp only [List.length_drop, List.length_take]; rfl)) ?_; (with_reducible refine (clock_All.calls k true false 5000 0 _ _ y125 t128 t129 t130 t131 t132 t133 _ ?side1 ?side2 A1.out).mono ?_); (case side1 => repeat (first | exact (Kd.R_reads' HO127.out).2.2 | (with_reducible refine Kd.C_alloc ?_ _) | (with_reducible refine Kd.C_drewN ?_ _) | (with_reducible refine Kd.C_drew ?_))); (case side2 => exact (Kd.R_reads' HO127.out).2.1); rintro e w13 ⟨rfl, hb⟩; refine ⟨_, rfl, ?_⟩; have n0_ := Aside0.mk (Kd.R_below (by (with_reducible repeat (first | apply Kd.R_alloc | apply Kd.R_drewN | apply Kd.R_drew)); exact HO127.out) hb); have n1_ := Aside0.mk (below_step (by repeat (first | (with_reducible first | exact HB.out | apply below_alloc | apply pw_below_drewN | apply below_drew1) | exact HB.out)) hb); clear HO127; clear HB; have HO127 := n0_; have HB := n1_; clear n0_ n1_; (try clear hb); (try clear hb2); (try clear hk); (try clear hi)) | ((with_reducible refine gate_dst (N := 1) rfl ?_); refine box_event ?hg (N := 1) ?hd (cs := #[.bool false, .bool false, .int .i64 0, .int .i64 0]) (t := 23) ?hr ?_; (case hd => rfl); (case hg => rfl); (case hr => first | (go_simp; done) | (go_simp; rfl)); intro gb134 hg w14 hbox hb; have n0_ := Aside0.mk (Kd.R_below (by (with_reducible repeat (first | apply Kd.R_alloc | apply Kd.R_drewN | apply Kd.R_drew)); exact HO127.out) hb); have n1_ := Aside0.mk (below_step (by repeat (first | (with_reducible first | exact HB.out | apply below_alloc | apply pw_below_drewN | apply below_drew1) | exact HB.out)) hb); have n2_ := Aside0.mk (hbox); have n3_ := Aside0.mk ((by rw [hg]; exact (below_size (by repeat (first | (with_reducible first | exact HB.out | apply below_alloc | apply pw_below_drewN | apply below_drew1) | exact HB.out))) : w.heap.size ≤ gb134)); have n4_ := Aside0.mk ((by rw [hg]; exact (below_size (by repeat (first | (with_reducible first | exact HB.out | apply below_alloc | apply pw_below_drewN | apply below_drew1) | exact HB.out))) : w.heap.size ≤ gb134)); clear HO127; clear HB; have HO127 := n0_; have HB := n1_; have BK134 := n2_; have GW134 := n3_; have GE134 := n4_; clear n0_ n1_ n2_ n3_ n4_; clear hb hbox hg; have hcz15_0 : w14.cell? ⟨gb134, 0, none⟩ = some (.bool false) := (blk_cell BK134.out 0).trans rfl; have hcz15_1 : w14.cell? ⟨gb134, 1, none⟩ = some (.bool false) := (blk_cell BK134.out 1).trans rfl; have hcz15_2 : w14.cell? ⟨gb134, 2, none⟩ = some (.int .i64 0) := (blk_cell BK134.out 2).trans rfl; have hcz15_3 : w14.cell? ⟨gb134, 3, none⟩ = some (.int .i64 0) := (blk_cell BK134.out 3).trans rfl; have hfz15_0 := blk_frozen BK134.out 0; have hfz15_1 := blk_frozen BK134.out 1; have hfz15_2 := blk_frozen BK134.out 2; have hfz15_3 := blk_frozen BK134.out 3) | ((with_reducible refine gate_callee (f := 9) rfl ?_); refine goesL_ (some 16) rfl rfl Try.func9 (by kernel_rfl) rfl #[.agg #[.bool true, .bool false, .int .i64 5000, .int .i64 0], .int .i64 9000] rfl (by (try simp only [List.map_toArray, List.map_cons, List.map_nil]); first | done | rfl | (simp only [List.length_drop, List.length_take]; rfl)) ?_; (with_reducible refine (clock_Read.calls k true false 5000 0 9000 t135 t136 t137 t138 false t140 _ A2.out).mono ?_); rintro e w16 ⟨rfl, hb⟩; refine ⟨_, rfl, ?_⟩; have n0_ := Aside0.mk (Kd.R_below (by (with_reducible repeat (first | apply Kd.R_alloc | apply Kd.R_drewN | apply Kd.R_drew)); exact (Kd.R_mono (Kd.R_far (p := ⟨gb134, 3, none⟩) (Kd.R_far (p := ⟨gb134, 2, none⟩) (Kd.R_far (p := ⟨gb134, 1, none⟩) (Kd.R_far (p := ⟨gb134, 0, none⟩) (Kd.R_types HO127.out BK134.out (by decide)) (fun _ hk => hk.2) (.bool t128)) (fun _ hk => hk.2) (.bool t129)) (fun _ hk => hk.2) (.int .i64 t130)) (fun _ hk => hk.2) (.int .i64 t131)) (fun _ h_ => h_.1))) hb); have n1_ := Aside0.mk (blk_below (g := gb134) (o := .cells #[.bool t128, .bool t129, .int .i64 t130, .int .i64 t131] 23 (0, 0)) (by (with_reducible repeat (first | refine blk_drewN ?_ _ | refine blk_drew ?_ | refine blk_alloc ?_ _)); refine blk_put (cs := #[.bool t128, .bool t129, .int .i64 t130, .int .i64 0]) ?_ 3 _ rfl; (with_reducible repeat (first | refine blk_drewN ?_ _ | refine blk_drew ?_ | refine blk_alloc ?_ _)); refine blk_put (cs := #[.bool t128, .bool t129, .int .i64 0, .int .i64 0]) ?_ 2 _ rfl; (with_reducible repeat (first | refine blk_drewN ?_ _ | refine blk_drew ?_ | refine blk_alloc ?_ _)); refine blk_put (cs := #[.bool t128, .bool false, .int .i64 0, .int .i64 0]) ?_ 1 _ rfl; (with_reducible repeat (first | refine blk_drewN ?_ _ | refine blk_drew ?_ | refine blk_alloc ?_ _)); refine blk_put (cs := #[.bool false, .bool false, .int .i64 0, .int .i64 0]) ?_ 0 _ rfl; (with_reducible repeat (first | refine blk_drewN ?_ _ | refine blk_drew ?_ | refine blk_alloc ?_ _)); exact BK134.out) hb); have n2_ := Aside0.mk (below_step (by repeat (first | (with_reducible first | exact HB.out | apply below_alloc | apply pw_below_drewN | apply below_drew1 | refine below_set ?_ GE134.out) | exact HB.out)) hb); clear HO127; clear BK134; clear HB; have HO127 := n0_; have BK134 := n1_; have HB := n2_; clear n0_ n1_ n2_; (try clear hb); (try clear hb2); (try clear hk); (try clear hi)) | ((with_reducible refine gate_dst (N := 4) rfl ?_); refine box_event ?hg (N := 4) ?hd (cs := #[.bool false, .bool false, .int .i64 0, .int .i64 0]) (t := 23) ?hr ?_; (case hd => rfl); (case hg => rfl); (case hr => first | (go_simp; done) | (go_simp; rfl)); intro gb141 hg w17 hbox hb; have n0_ := Aside0.mk (Kd.R_below (by (with_reducible repeat (first | apply Kd.R_alloc | apply Kd.R_drewN | apply Kd.R_drew)); exact HO127.out) hb); have n1_ := Aside0.mk (blk_below (g := gb134) (o := .cells #[.bool t128, .bool t129, .int .i64 t130, .int .i64 t131] 23 (0, 0)) (by (with_reducible repeat (first | refine blk_drewN ?_ _ | refine blk_drew ?_ | refine blk_alloc ?_ _)); exact BK134.out) hb); have n2_ := Aside0.mk (below_step (by repeat (first | (with_reducible first | exact HB.out | apply below_alloc | apply pw_below_drewN | apply below_drew1 | refine below_set ?_ GE134.out) | exact HB.out)) hb); have n3_ := Aside0.mk (hbox); have n4_ := Aside0.mk ((by rw [hg]; exact (below_size (by repeat (first | (with_reducible first | exact HB.out | apply below_alloc | apply pw_below_drewN | apply below_drew1 | refine below_set ?_ GE134.out) | exact HB.out))) : w.heap.size ≤ gb141)); have n5_ := Aside0.mk ((by rw [hg]; exact (below_size (by repeat (first | (with_reducible first | exact HB.out | apply below_alloc | apply pw_below_drewN | apply below_drew1 | refine below_set ?_ GE134.out) | exact HB.out))) : w.heap.size ≤ gb141)); have n6_ := Aside0.mk ((by rw [hg]; exact Nat.ne_of_lt (blk_lt (g := gb134) (o := .cells #[.bool t128, .bool t129, .int .i64 t130, .int .i64 t131] 23 (0, 0)) (by (with_reducible repeat (first | refine blk_drewN ?_ _ | refine blk_drew ?_ | refine blk_alloc ?_ _)); exact BK134.out)) : gb134 ≠ gb141)); have n7_ := Aside0.mk ((by rw [hg]; exact Nat.ne_of_gt (blk_lt (g := gb134) (o := .cells #[.bool t128, .bool t129, .int .i64 t130, .int .i64 t131] 23 (0, 0)) (by (with_reducible repeat (first | refine blk_drewN ?_ _ | refine blk_drew ?_ | refine blk_alloc ?_ _)); exact BK134.out)) : gb141 ≠ gb134)); clear HO127; clear BK134; clear HB; have HO127 := n0_; have BK134 := n1_; have HB := n2_; have BK141 := n3_; have GW141 := n4_; have GE141 := n5_; have NB134_141 := n6_; have NB141_134 := n7_; clear n0_ n1_ n2_ n3_ n4_ n5_ n6_ n7_; clear hb hbox hg; have hnb18 := NB141_134.out; have hnc18 := NB134_141.out; have hcz19_0 : w17.cell? ⟨gb141, 0, none⟩ = some (.bool false) := (blk_cell BK141.out 0).trans rfl; have hcz19_1 : w17.cell? ⟨gb141, 1, none⟩ = some (.bool false) := (blk_cell BK141.out 1).trans rfl; have hcz19_2 : w17.cell? ⟨gb141, 2, none⟩ = some (.int .i64 0) := (blk_cell BK141.out 2).trans rfl; have hcz19_3 : w17.cell? ⟨gb141, 3, none⟩ = some (.int .i64 0) := (blk_cell BK141.out 3).trans rfl; have hfz19_0 := blk_frozen BK141.out 0; have hfz19_1 := blk_frozen BK141.out 1; have hfz19_2 := blk_frozen BK141.out 2; have hfz19_3 := blk_frozen BK141.out 3; have hcz20_0 : w17.cell? ⟨gb134, 0, none⟩ = some (.bool t128) := (blk_cell BK134.out 0).trans rfl; have hcz20_1 : w17.cell? ⟨gb134, 1, none⟩ = some (.bool t129) := (blk_cell BK134.out 1).trans rfl; have hcz20_2 : w17.cell? ⟨gb134, 2, none⟩ = some (.int .i64 t130) := (blk_cell BK134.out 2).trans rfl; have hcz20_3 : w17.cell? ⟨gb134, 3, none⟩ = some (.int .i64 t131) := (blk_cell BK134.out 3).trans rfl; have hfz20_0 := blk_frozen BK134.out 0; have hfz20_1 := blk_frozen BK134.out 1; have hfz20_2 := blk_frozen BK134.out 2; have hfz20_3 := blk_frozen BK134.out 3) | (go_at_call 12; (with_reducible refine (clock_Check.calls k t135 t136 t137 t138 t142 _ A9.out).mono ?_); rintro e w21 ⟨rfl, hb⟩; have n0_ := Aside0.mk (Kd.R_below (by (with_reducible repeat (first | apply Kd.R_alloc | apply Kd.R_drewN | apply Kd.R_drew)); exact (Kd.R_mono (Kd.R_far (p := ⟨gb141, 3, none⟩) (Kd.R_far (p := ⟨gb141, 2, none⟩) (Kd.R_far (p := ⟨gb141, 1, none⟩) (Kd.R_far (p := ⟨gb141, 0, none⟩) (Kd.R_types HO127.out BK141.out (by decide)) (fun _ hk => hk.2) (.bool t135)) (fun _ hk => hk.2) (.bool t136)) (fun _ hk => hk.2) (.int .i64 t137)) (fun _ hk => hk.2) (.int .i64 t138)) (fun _ h_ => h_.1))) hb); have n1_ := Aside0.mk (blk_below (g := gb134) (o := .cells #[.bool t128, .bool t129, .int .i64 t130, .int .i64 t131] 23 (0, 0)) (by (with_reducible repeat (first | refine blk_drewN ?_ _ | refine blk_drew ?_ | refine blk_alloc ?_ _)); refine blk_far ?_ NB134_141.out _; (with_reducible repeat (first | refine blk_drewN ?_ _ | refine blk_drew ?_ | refine blk_alloc ?_ _)); refine blk_far ?_ NB134_141.out _; (with_reducible repeat (first | refine blk_drewN ?_ _ | refine blk_drew ?_ | refine blk_alloc ?_ _)); refine blk_far ?_ NB134_141.out _; (with_reducible repeat (first | refine blk_drewN ?_ _ | refine blk_drew ?_ | refine blk_alloc ?_ _)); refine blk_far ?_ NB134_141.out _; (with_reducible repeat (first | refine blk_drewN ?_ _ | refine blk_drew ?_ | refine blk_alloc ?_ _)); exact BK134.out) hb); have n2_ := Aside0.mk (blk_below (g := gb141) (o := .cells #[.bool t135, .bool t136, .int .i64 t137, .int .i64 t138] 23 (0, 0)) (by (with_reducible repeat (first | refine blk_drewN ?_ _ | refine blk_drew ?_ | refine blk_alloc ?_ _)); refine blk_put (cs := #[.bool t135, .bool t136, .int .i64 t137, .int .i64 0]) ?_ 3 _ rfl; (with_reducible repeat (first | refine blk_drewN ?_ _ | refine blk_drew ?_ | refine blk_alloc ?_ _)); refine blk_put (cs := #[.bool t135, .bool t136, .int .i64 0, .int .i64 0]) ?_ 2 _ rfl; (with_reducible repeat (first | refine blk_drewN ?_ _ | refine blk_drew ?_ | refine blk_alloc ?_ _)); refine blk_put (cs := #[.bool t135, .bool false, .int .i64 0, .int .i64 0]) ?_ 1 _ rfl; (with_reducible repeat (first | refine blk_drewN ?_ _ | refine blk_drew ?_ | refine blk_alloc ?_ _)); refine blk_put (cs := #[.bool false, .bool false, .int .i64 0, .int .i64 0]) ?_ 0 _ rfl; (with_reducible repeat (first | refine blk_drewN ?_ _ | refine blk_drew ?_ | refine blk_alloc ?_ _)); exact BK141.out) hb); have n3_ := Aside0.mk (below_step (by repeat (first | (with_reducible first | exact HB.out | apply below_alloc | apply pw_below_drewN | apply below_drew1 | refine below_set ?_ GE134.out | refine below_set ?_ GE141.out) | exact HB.out)) hb); clear HO127; clear BK134; clear BK141; clear HB; have HO127 := n0_; have BK134 := n1_; have BK141 := n2_; have HB := n3_; clear n0_ n1_ n2_ n3_; (try clear hb); (try clear hb2); (try clear hk); (try clear hi)))
       go_ret
       exact ⟨by first | rfl | (simp [errW_none, errW_some] <;> rfl) | (simp [*, errW_none, errW_some] <;> rfl), by repeat (first | (with_reducible first | exact HB.out | apply below_alloc | apply pw_below_drewN | apply below_drew1 | refine below_set ?_ GE134.out | refine below_set ?_ GE141.out) | exact HB.out)⟩
      ·rw [if_neg c8] at H
       exact absurd H (by simp)
    ·rw [if_neg c6] at H
     exact absurd H (by simp)
   ·rw [if_neg c5] at H
    exact absurd H (by simp)
  ·rw [if_neg c4] at H
   exact absurd H (by simp)
 ·rw [if_neg c3] at H
  exact absurd H (by simp)

end Go.Proofs.Ytcnjaeeghfmkfaa.D
