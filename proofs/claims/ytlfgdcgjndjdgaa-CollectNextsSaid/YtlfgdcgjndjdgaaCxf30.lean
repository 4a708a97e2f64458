-- Written by a program of this session (wip/pp: the kit's print, changed), out of the translation. Lean checks it.
import Derived.Test.YtlfgdcgjndjdgaaCx0
import Derived.Test.YtlfgdcgjndjdgaaCxf14
namespace Go.Proofs.Ytlfgdcgjndjdgaa.C
open Go.RowKit Go.Proofs.YtlfgdcgjndjdgaaW.PrintWords Go.Proofs.YtlfgdcgjndjdgaaW.PrintLast Go.Proofs.YtlfgdcgjndjdgaaW.PrintMore
attribute [local go_sem] max2_int min2_int max_two min_two max_three min_three max_four min_four   -- for this text's walks alone
set_option linter.unusedVariables false
set_option linter.unusedSimpArgs false

/-! ### newelref20_Beyond: function 30 -/
def newelref20_Beyond.l0 : Nat → Int → Int → Int → Int → Int → Bool → Bool → List Int → List Int → List Int → Option (Bool)
 | 0, _, _, _, _, _, _, _, _, _, _ => none
 | k + 1, x1, x5, x159000, x159001, x159002, x159003, x159004, x159005, x159006, x159007 => if x5 < x159000 then ((newelref20_Called.f k x159005 x159006 x159007 x5).bind fun t159 => (if t159 = true then (if x1 > 0 then (if x5 > x159001 then (some true) else (if x1 < 0 then (if x5 < x159001 then (some true) else (newelref20_Beyond.l0 k x1 (wrap64 (x5 + 1)) x159000 x159001 x159002 x159003 x159004 x159005 x159006 x159007)) else (newelref20_Beyond.l0 k x1 (wrap64 (x5 + 1)) x159000 x159001 x159002 x159003 x159004 x159005 x159006 x159007))) else (if x1 < 0 then (if x5 < x159001 then (some true) else (newelref20_Beyond.l0 k x1 (wrap64 (x5 + 1)) x159000 x159001 x159002 x159003 x159004 x159005 x159006 x159007)) else (newelref20_Beyond.l0 k x1 (wrap64 (x5 + 1)) x159000 x159001 x159002 x159003 x159004 x159005 x159006 x159007))) else (newelref20_Beyond.l0 k x1 (wrap64 (x5 + 1)) x159000 x159001 x159002 x159003 x159004 x159005 x159006 x159007))) else (some false)
def newelref20_Beyond.f (k : Nat) (a0_0 : Int) (a0_1 : Int) (a0_2 : Int) (a0_3 : Bool) (a0_4 : Bool) (l0_5 : List Int) (l0_6 : List Int) (l0_7 : List Int) (a1 : Int) : Option (Bool) := newelref20_Beyond.l0 k a1 0 a0_0 a0_1 a0_2 a0_3 a0_4 l0_5 l0_6 l0_7
theorem newelref20_Beyond.mono_l : ∀ k, (∀ y0 y1 y2 y3 y4 y5 y6 y7 y8 y9, LeO (newelref20_Beyond.l0 k y0 y1 y2 y3 y4 y5 y6 y7 y8 y9) (newelref20_Beyond.l0 (k + 1) y0 y1 y2 y3 y4 y5 y6 y7 y8 y9))
 | 0 => fun _ _ _ _ _ _ _ _ _ _ r h => by simp [newelref20_Beyond.l0] at h
 | k + 1 => by
  have ih0 := newelref20_Beyond.mono_l k
  ·intro y0 y1 y2 y3 y4 y5 y6 y7 y8 y9
   unfold newelref20_Beyond.l0
   repeat' first
   | (with_reducible exact ih0 _ _ _ _ _ _ _ _ _ _)
   | (with_reducible exact newelref20_Called.mono _ _ _ _ _)
   | (with_reducible exact LeO.refl _)
   | (with_reducible exact LeO.none _)
   | (with_reducible refine LeO.ite ?_ ?_)
   | (with_reducible refine LeO.bind ?_ (fun _ => ?_))
   | exact ih0 _ _ _ _ _ _ _ _ _ _
   | exact newelref20_Called.mono _ _ _ _ _
   | exact LeO.none _
   | refine LeO.ite ?_ ?_
   | refine LeO.bind ?_ (fun _ => ?_)
theorem newelref20_Beyond.mono : ∀ a0 a1 a2 a3 a4 a5 a6 a7 a8 k, LeO (newelref20_Beyond.f k a0 a1 a2 a3 a4 a5 a6 a7 a8) (newelref20_Beyond.f (k + 1) a0 a1 a2 a3 a4 a5 a6 a7 a8) := by
 intro a0 a1 a2 a3 a4 a5 a6 a7 a8 k
 have ih0 := newelref20_Beyond.mono_l k
 unfold newelref20_Beyond.f
 repeat' first
   | (with_reducible exact ih0 _ _ _ _ _ _ _ _ _ _)
   | (with_reducible exact newelref20_Called.mono _ _ _ _ _)
   | (with_reducible exact LeO.refl _)
   | (with_reducible exact LeO.none _)
   | (with_reducible refine LeO.ite ?_ ?_)
   | (with_reducible refine LeO.bind ?_ (fun _ => ?_))
   | exact ih0 _ _ _ _ _ _ _ _ _ _
   | exact newelref20_Called.mono _ _ _ _ _
   | exact LeO.none _
   | refine LeO.ite ?_ ?_
   | refine LeO.bind ?_ (fun _ => ?_)
set_option maxHeartbeats 8000000 in
set_option maxRecDepth 100000 in
theorem newelref20_Beyond.calls (k : Nat) (a0_0 : Int) (a0_1 : Int) (a0_2 : Int) (a0_3 : Bool) (a0_4 : Bool) (A0_5 : Option Addr) (c0_5 : Nat) (l0_5 : List Int) (A0_6 : Option Addr) (c0_6 : Nat) (l0_6 : List Int) (A0_7 : Option Addr) (c0_7 : Nat) (l0_7 : List Int) (a1 : Int) (r : Bool) (w : World) (hr0_5 : Kd.C (Kd.int .i64) w A0_5 l0_5.length l0_5) (hc0_5 : l0_5.length ≤ c0_5) (hr0_6 : Kd.C (Kd.int .i64) w A0_6 l0_6.length l0_6) (hc0_6 : l0_6.length ≤ c0_6) (hr0_7 : Kd.C (Kd.int .i64) w A0_7 l0_7.length l0_7) (hc0_7 : l0_7.length ≤ c0_7) (h : newelref20_Beyond.f k a0_0 a0_1 a0_2 a0_3 a0_4 l0_5 l0_6 l0_7 a1 = some r) :
  Calls Try.prog 30 #[.agg #[.int .i64 a0_0, .int .i64 a0_1, .int .i64 a0_2, .bool a0_3, .bool a0_4, .slice A0_5 l0_5.length c0_5, .slice A0_6 l0_6.length c0_6, .slice A0_7 l0_7.length c0_7], .int .i64 a1] w fun e w' => e = .returned (.bool r) ∧ Below w.heap.size w w' := by
 have hu26 := Try.underlying26
 have hu24 := Try.underlying24
 have HR0_5 := Aside0.mk hr0_5
 have HC0_5 := Aside0.mk hc0_5
 clear hr0_5 hc0_5
 have HR0_6 := Aside0.mk hr0_6
 have HC0_6 := Aside0.mk hc0_6
 clear hr0_6 hc0_6
 have HR0_7 := Aside0.mk hr0_7
 have HC0_7 := Aside0.mk hc0_7
 clear hr0_7 hc0_7
 have HB := Aside0.mk (Below.refl w.heap.size w)
 have H : (newelref20_Beyond.l0 k a1 0 a0_0 a0_1 a0_2 a0_3 a0_4 l0_5 l0_6 l0_7) = some r := h
 clear h
 have H' := Aside0.mk H
 clear H
 go_enter Try.func30, Try.ntmps30
 go_wp2_with (first | ((with_reducible refine gate_dst (N := 2) rfl ?_); refine box_event ?hg (N := 2) ?hd (cs := #[.int .i64 a0_0, .int .i64 a0_1, .int .i64 a0_2, .bool a0_3, .bool a0_4, .slice A0_5 l0_5.length c0_5, .slice A0_6 l0_6.length c0_6, .slice A0_7 l0_7.length c0_7]) (t := 26) ?hr ?_; (case hd => rfl); (case hg => rfl); (case hr => first | (go_simp; done) | (go_simp; rfl)); intro gb158 hg w3 hbox hb; have n0_ := Aside0.mk (below_step (by repeat (first | (with_reducible first | exact HB.out | apply below_alloc | apply pw_below_drewN | apply below_drew1) | exact HB.out)) hb); have n1_ := Aside0.mk (hbox); have n2_ := Aside0.mk ((by rw [hg]; exact (below_size (by repeat (first | (with_reducible first | exact HB.out | apply below_alloc | apply pw_below_drewN | apply below_drew1) | exact HB.out))) : w.heap.size ≤ gb158)); have n3_ := Aside0.mk ((by rw [hg]; exact (below_size (by repeat (first | (with_reducible first | exact HB.out | apply below_alloc | apply pw_below_drewN | apply below_drew1) | exact HB.out))) : w.heap.size ≤ gb158)); clear HB; have HB := n0_; have BK158 := n1_; have GW158 := n2_; have GE158 := n3_; clear n0_ n1_ n2_ n3_; clear hb hbox hg))
 go_loopg [5] k (fun kq v5 w' => ∃ (x5_1 : Int), v5 = .int .i64 x5_1 ∧ Aside0 (newelref20_Beyond.l0 kq a1 x5_1 a0_0 a0_1 a0_2 a0_3 a0_4 l0_5 l0_6 l0_7 = some r) ∧ Aside0 (kq ≤ k) ∧ Aside0 (w'.heap[gb158]? = some (.cells #[.int .i64 a0_0, .int .i64 a0_1, .int .i64 a0_2, .bool a0_3, .bool a0_4, (.slice A0_5 l0_5.length c0_5), (.slice A0_6 l0_6.length c0_6), (.slice A0_7 l0_7.length c0_7)] 26 (0, 0))) ∧ Aside0 (Below w.heap.size w w'))
 case atStart => exact ⟨(0), (by first | rfl | (simp; done) | (simp [*]; done)), H', ⟨Nat.le_refl _⟩, ⟨by (with_reducible repeat (first | refine blk_drewN ?_ _ | refine blk_drew ?_ | refine blk_alloc ?_ _)); exact BK158.out⟩, ⟨by repeat (first | (with_reducible first | exact HB.out | apply below_alloc | apply pw_below_drewN | apply below_drew1 | refine below_set ?_ GE158.out) | exact HB.out)⟩⟩
 case round =>
  clear H'
  try clear p2
  try clear c3
  obtain ⟨x5_1, rfl, HA, HK1, BK158, HB⟩ := hrel
  cases gk with
  | zero => exact absurd HA.out (by simp [newelref20_Beyond.l0])
  | succ k1 =>
   have H := HA.out
   clear HA
   simp only [newelref20_Beyond.l0] at H
   by_cases c4 : x5_1 < a0_0
   ·rw [if_pos c4] at H
    have c4b0 : decide (x5_1 < a0_0) = true := decide_eq_true c4
    clear c4
    replace H := Option.bind_eq_some_iff.mp H
    obtain ⟨t159, A50, H⟩ := H
    replace H : (if t159 = true then (if a1 > 0 then (if x5_1 > a0_1 then (some true) else (if a1 < 0 then (if x5_1 < a0_1 then (some true) else (newelref20_Beyond.l0 k1 a1 (wrap64 (x5_1 + 1)) a0_0 a0_1 a0_2 a0_3 a0_4 l0_5 l0_6 l0_7)) else (newelref20_Beyond.l0 k1 a1 (wrap64 (x5_1 + 1)) a0_0 a0_1 a0_2 a0_3 a0_4 l0_5 l0_6 l0_7))) else (if a1 < 0 then (if x5_1 < a0_1 then (some true) else (newelref20_Beyond.l0 k1 a1 (wrap64 (x5_1 + 1)) a0_0 a0_1 a0_2 a0_3 a0_4 l0_5 l0_6 l0_7)) else (newelref20_Beyond.l0 k1 a1 (wrap64 (x5_1 + 1)) a0_0 a0_1 a0_2 a0_3 a0_4 l0_5 l0_6 l0_7))) else (newelref20_Beyond.l0 k1 a1 (wrap64 (x5_1 + 1)) a0_0 a0_1 a0_2 a0_3 a0_4 l0_5 l0_6 l0_7)) = some r := H
    have A5 := Aside0.mk A50
    clear A50
    by_cases c6 : t159 = true
    ·subst c6
     have H1 : (if a1 > 0 then (if x5_1 > a0_1 then (some true) else (if a1 < 0 then (if x5_1 < a0_1 then (some true) else (newelref20_Beyond.l0 k1 a1 (wrap64 (x5_1 + 1)) a0_0 a0_1 a0_2 a0_3 a0_4 l0_5 l0_6 l0_7)) else (newelref20_Beyond.l0 k1 a1 (wrap64 (x5_1 + 1)) a0_0 a0_1 a0_2 a0_3 a0_4 l0_5 l0_6 l0_7))) else (if a1 < 0 then (if x5_1 < a0_1 then (some true) else (newelref20_Beyond.l0 k1 a1 (wrap64 (x5_1 + 1)) a0_0 a0_1 a0_2 a0_3 a0_4 l0_5 l0_6 l0_7)) else (newelref20_Beyond.l0 k1 a1 (wrap64 (x5_1 + 1)) a0_0 a0_1 a0_2 a0_3 a0_4 l0_5 l0_6 l0_7))) = some r := by rw [if_pos rfl] at H; exact H
     clear H
     have H := H1
     clear H1
     by_cases c7 : a1 > 0
     ·rw [if_pos c7] at H
      have c7b0 : decide (0 < a1) = true := decide_eq_true c7
      clear c7
      by_cases c8 : x5_1 > a0_1
      ·rw [if_pos c8] at H
       have c8b0 : decide (a0_1 < x5_1) = true := decide_eq_true c8
       clear c8
       obtain rfl := Option.some.inj H
       have hcz9_0 : wr.cell? ⟨gb158, 0, none⟩ = some (.int .i64 a0_0) := (blk_cell BK158.out 0).trans rfl
       have hcz9_1 : wr.cell? ⟨gb158, 1, none⟩ = some (.int .i64 a0_1) := (blk_cell BK158.out 1).trans rfl
       have hcz9_2 : wr.cell? ⟨gb158, 2, none⟩ = some (.int .i64 a0_2) := (blk_cell BK158.out 2).trans rfl
       have hcz9_3 : wr.cell? ⟨gb158, 3, none⟩ = some (.bool a0_3) := (blk_cell BK158.out 3).trans rfl
       have hcz9_4 : wr.cell? ⟨gb158, 4, none⟩ = some (.bool a0_4) := (blk_cell BK158.out 4).trans rfl
       have hcz9_5 : wr.cell? ⟨gb158, 5, none⟩ = some (.slice A0_5 l0_5.length c0_5) := (blk_cell BK158.out 5).trans rfl
       have hcz9_6 : wr.cell? ⟨gb158, 6, none⟩ = some (.slice A0_6 l0_6.length c0_6) := (blk_cell BK158.out 6).trans rfl
       have hcz9_7 : wr.cell? ⟨gb158, 7, none⟩ = some (.slice A0_7 l0_7.length c0_7) := (blk_cell BK158.out 7).trans rfl
       have hfz9_0 := blk_frozen BK158.out 0
       have hfz9_1 := blk_frozen BK158.out 1
       have hfz9_2 := blk_frozen BK158.out 2
       have hfz9_3 := blk_frozen BK158.out 3
       have hfz9_4 := blk_frozen BK158.out 4
       have hfz9_5 := blk_frozen BK158.out 5
       have hfz9_6 := blk_frozen BK158.out 6
       have hfz9_7 := blk_frozen BK158.out 7
       go_wp2_with (first | ((with_reducible refine gate_callee (f := 14) rfl ?_); refine goesL_ (some 16) rfl rfl Try.func14 (by kernel_rfl) rfl #[.agg #[.slice A0_5 l0_5.length c0_5, .slice A0_6 l0_6.length c0_6, .slice A0_7 l0_7.length c0_7], .int .i64 x5_1] rfl (by (try simp only [List.map_toArray, List.map_cons, List.map_nil]); first | done | rfl | (simp only [List.length_drop, List.length_take]; rfl)) ?_; (with_reducible refine (newelref20_Called.calls k1 _ _ l0_5 _ _ l0_6 _ _ l0_7 x5_1 true _ ?side1 ?side2 ?side3 ?side4 ?side5 ?side6 A5.out).mono ?_); (case side1 => repeat (first | exact (Kd.C_below HR0_5.out HB.out) | (with_reducible refine Kd.C_alloc ?_ _) | (with_reducible refine Kd.C_drewN ?_ _) | (with_reducible refine Kd.C_drew ?_))); (case side2 => exact HC0_5.out); (case side3 => repeat (first | exact (Kd.C_below HR0_6.out HB.out) | (with_reducible refine Kd.C_alloc ?_ _) | (with_reducible refine Kd.C_drewN ?_ _) | (with_reducible refine Kd.C_drew ?_))); (case side4 => exact HC0_6.out); (case side5 => repeat (first | exact (Kd.C_below HR0_7.out HB.out) | (with_reducible refine Kd.C_alloc ?_ _) | (with_reducible refine Kd.C_drewN ?_ _) | (with_reducible refine Kd.C_drew ?_))); (case side6 => exact HC0_7.out); rintro e w10 ⟨rfl, hb⟩; refine ⟨_, rfl, ?_⟩; have n0_ := Aside0.mk (blk_below (g := gb158) (o := .cells #[.int .i64 a0_0, .int .i64 a0_1, .int .i64 a0_2, .bool a0_3, .bool a0_4, .slice A0_5 l0_5.length c0_5, .slice A0_6 l0_6.length c0_6, .slice A0_7 l0_7.length c0_7] 26 (0, 0)) (by (with_reducible repeat (first | refine blk_drewN ?_ _ | refine blk_drew ?_ | refine blk_alloc ?_ _)); exact BK158.out) hb); have n1_ := Aside0.mk (below_step (by repeat (first | (with_reducible first | exact HB.out | apply below_alloc | apply pw_below_drewN | apply below_drew1 | refine below_set ?_ GE158.out) | exact HB.out)) hb); clear BK158; clear HB; have BK158 := n0_; have HB := n1_; clear n0_ n1_; (try clear hb); (try clear hb2); (try clear hk); (try clear hi); have hcz11_0 : w10.cell? ⟨gb158, 0, none⟩ = some (.int .i64 a0_0) := (blk_cell BK158.out 0).trans rfl; have hcz11_1 : w10.cell? ⟨gb158, 1, none⟩ = some (.int .i64 a0_1) := (blk_cell BK158.out 1).trans rfl; have hcz11_2 : w10.cell? ⟨gb158, 2, none⟩ = some (.int .i64 a0_2) := (blk_cell BK158.out 2).trans rfl; have hcz11_3 : w10.cell? ⟨gb158, 3, none⟩ = some (.bool a0_3) := (blk_cell BK158.out 3).trans rfl; have hcz11_4 : w10.cell? ⟨gb158, 4, none⟩ = some (.bool a0_4) := (blk_cell BK158.out 4).trans rfl; have hcz11_5 : w10.cell? ⟨gb158, 5, none⟩ = some (.slice A0_5 l0_5.length c0_5) := (blk_cell BK158.out 5).trans rfl; have hcz11_6 : w10.cell? ⟨gb158, 6, none⟩ = some (.slice A0_6 l0_6.length c0_6) := (blk_cell BK158.out 6).trans rfl; have hcz11_7 : w10.cell? ⟨gb158, 7, none⟩ = some (.slice A0_7 l0_7.length c0_7) := (blk_cell BK158.out 7).trans rfl; have hfz11_0 := blk_frozen BK158.out 0; have hfz11_1 := blk_frozen BK158.out 1; have hfz11_2 := blk_frozen BK158.out 2; have hfz11_3 := blk_frozen BK158.out 3; have hfz11_4 := blk_frozen BK158.out 4; have hfz11_5 := blk_frozen BK158.out 5; have hfz11_6 := blk_frozen BK158.out 6; have hfz11_7 := blk_frozen BK158.out 7))
       go_ret
       exact ⟨by first | rfl | (simp [errW_none, errW_some] <;> rfl) | (simp [*, errW_none, errW_some] <;> rfl), by repeat (first | (with_reducible first | exact HB.out | apply below_alloc | apply pw_below_drewN | apply below_drew1 | refine below_set ?_ GE158.out) | exact HB.out)⟩
      ·rw [if_neg c8] at H
       have c8b0 : decide (a0_1 < x5_1) = false := decide_eq_false c8
       clear c8
       by_cases c12 : a1 < 0
       ·rw [if_pos c12] at H
        have c12b0 : decide (a1 < 0) = true := decide_eq_true c12
        clear c12
        by_cases c13 : x5_1 < a0_1
        ·rw [if_pos c13] at H
         have c13b0 : decide (x5_1 < a0_1) = true := decide_eq_true c13
         clear c13
         obtain rfl := Option.some.inj H
         have hcz14_0 : wr.cell? ⟨gb158, 0, none⟩ = some (.int .i64 a0_0) := (blk_cell BK158.out 0).trans rfl
         have hcz14_1 : wr.cell? ⟨gb158, 1, none⟩ = some (.int .i64 a0_1) := (blk_cell BK158.out 1).trans rfl
         have hcz14_2 : wr.cell? ⟨gb158, 2, none⟩ = some (.int .i64 a0_2) := (blk_cell BK158.out 2).trans rfl
         have hcz14_3 : wr.cell? ⟨gb158, 3, none⟩ = some (.bool a0_3) := (blk_cell BK158.out 3).trans rfl
         have hcz14_4 : wr.cell? ⟨gb158, 4, none⟩ = some (.bool a0_4) := (blk_cell BK158.out 4).trans rfl
         have hcz14_5 : wr.cell? ⟨gb158, 5, none⟩ = some (.slice A0_5 l0_5.length c0_5) := (blk_cell BK158.out 5).trans rfl
         have hcz14_6 : wr.cell? ⟨gb158, 6, none⟩ = some (.slice A0_6 l0_6.length c0_6) := (blk_cell BK158.out 6).trans rfl
         have hcz14_7 : wr.cell? ⟨gb158, 7, none⟩ = some (.slice A0_7 l0_7.length c0_7) := (blk_cell BK158.out 7).trans rfl
         have hfz14_0 := blk_frozen BK158.out 0
         have hfz14_1 := blk_frozen BK158.out 1
         have hfz14_2 := blk_frozen BK158.out 2
         have hfz14_3 := blk_frozen BK158.out 3
         have hfz14_4 := blk_frozen BK158.out 4
         have hfz14_5 := blk_frozen BK158.out 5
         have hfz14_6 := blk_frozen BK158.out 6
         have hfz14_7 := blk_frozen BK158.out 7
         go_wp2_with (first | ((with_reducible refine gate_callee (f := 14) rfl ?_); refine goesL_ (some 16) rfl rfl Try.func14 (by kernel_rfl) rfl #[.agg #[.slice A0_5 l0_5.length c0_5, .slice A0_6 l0_6.length c0_6, .slice A0_7 l0_7.length c0_7], .int .i64 x5_1] rfl (by (try simp only [List.map_toArray, List.map_cons, List.map_nil]); first | done | rfl | (simp only [List.length_drop, List.length_take]; rfl)) ?_; (with_reducible refine (newelref20_Called.calls k1 _ _ l0_5 _ _ l0_6 _ _ l0_7 x5_1 true _ ?side1 ?side2 ?side3 ?side4 ?side5 ?side6 A5.out).mono ?_); (case side1 => repeat (first | exact (Kd.C_below HR0_5.out HB.out) | (with_reducible refine Kd.C_alloc ?_ _) | (with_reducible refine Kd.C_drewN ?_ _) | (with_reducible refine Kd.C_drew ?_))); (case side2 => exact HC0_5.out); (case side3 => repeat (first | exact (Kd.C_below HR0_6.out HB.out) | (with_reducible refine Kd.C_alloc ?_ _) | (with_reducible refine Kd.C_drewN ?_ _) | (with_reducible refine Kd.C_drew ?_))); (case side4 => exact HC0_6.out); (case side5 => repeat (first | exact (Kd.C_below HR0_7.out HB.out) | (with_reducible refine Kd.C_alloc ?_ _) | (with_reducible refine Kd.C_drewN ?_ _) | (with_reducible refine Kd.C_drew ?_))); (case side6 => exact HC0_7.out); rintro e w15 ⟨rfl, hb⟩; refine ⟨_, rfl, ?_⟩; have n0_ := Aside0.mk (blk_below (g := gb158) (o := .cells #[.int .i64 a0_0, .int .i64 a0_1, .int .i64 a0_2, .bool a0_3, .bool a0_4, .slice A0_5 l0_5.length c0_5, .slice A0_6 l0_6.length c0_6, .slice A0_7 l0_7.length c0_7] 26 (0, 0)) (by (with_reducible repeat (first | refine blk_drewN ?_ _ | refine blk_drew ?_ | refine blk_alloc ?_ _)); exact BK158.out) hb); have n1_ := Aside0.mk (below_step (by repeat (first | (with_reducible first | exact HB.out | apply below_alloc | apply pw_below_drewN | apply below_drew1 | refine below_set ?_ GE158.out) | exact HB.out)) hb); clear BK158; clear HB; have BK158 := n0_; have HB := n1_; clear n0_ n1_; (try clear hb); (try clear hb2); (try clear hk); (try clear hi); have hcz16_0 : w15.cell? ⟨gb158, 0, none⟩ = some (.int .i64 a0_0) := (blk_cell BK158.out 0).trans rfl; have hcz16_1 : w15.cell? ⟨gb158, 1, none⟩ = some (.int .i64 a0_1) := (blk_cell BK158.out 1).trans rfl; have hcz16_2 : w15.cell? ⟨gb158, 2, none⟩ = some (.int .i64 a0_2) := (blk_cell BK158.out 2).trans rfl; have hcz16_3 : w15.cell? ⟨gb158, 3, none⟩ = some (.bool a0_3) := (blk_cell BK158.out 3).trans rfl; have hcz16_4 : w15.cell? ⟨gb158, 4, none⟩ = some (.bool a0_4) := (blk_cell BK158.out 4).trans rfl; have hcz16_5 : w15.cell? ⟨gb158, 5, none⟩ = some (.slice A0_5 l0_5.length c0_5) := (blk_cell BK158.out 5).trans rfl; have hcz16_6 : w15.cell? ⟨gb158, 6, none⟩ = some (.slice A0_6 l0_6.length c0_6) := (blk_cell BK158.out 6).trans rfl; have hcz16_7 : w15.cell? ⟨gb158, 7, none⟩ = some (.slice A0_7 l0_7.length c0_7) := (blk_cell BK158.out 7).trans rfl; have hfz16_0 := blk_frozen BK158.out 0; have hfz16_1 := blk_frozen BK158.out 1; have hfz16_2 := blk_frozen BK158.out 2; have hfz16_3 := blk_frozen BK158.out 3; have hfz16_4 := blk_frozen BK158.out 4; have hfz16_5 := blk_frozen BK158.out 5; have hfz16_6 := blk_frozen BK158.out 6; have hfz16_7 := blk_frozen BK158.out 7))
         go_ret
         exact ⟨by first | rfl | (simp [errW_none, errW_some] <;> rfl) | (simp [*, errW_none, errW_some] <;> rfl), by repeat (first | (with_reducible first | exact HB.out | apply below_alloc | apply pw_below_drewN | apply below_drew1 | refine below_set ?_ GE158.out) | exact HB.out)⟩
        ·rw [if_neg c13] at H
         have c13b0 : decide (x5_1 < a0_1) = false := decide_eq_false c13
         clear c13
         have H' := Aside0.mk H
         clear H
         have hcz17_0 : wr.cell? ⟨gb158, 0, none⟩ = some (.int .i64 a0_0) := (blk_cell BK158.out 0).trans rfl
         have hcz17_1 : wr.cell? ⟨gb158, 1, none⟩ = some (.int .i64 a0_1) := (blk_cell BK158.out 1).trans rfl
         have hcz17_2 : wr.cell? ⟨gb158, 2, none⟩ = some (.int .i64 a0_2) := (blk_cell BK158.out 2).trans rfl
         have hcz17_3 : wr.cell? ⟨gb158, 3, none⟩ = some (.bool a0_3) := (blk_cell BK158.out 3).trans rfl
         have hcz17_4 : wr.cell? ⟨gb158, 4, none⟩ = some (.bool a0_4) := (blk_cell BK158.out 4).trans rfl
         have hcz17_5 : wr.cell? ⟨gb158, 5, none⟩ = some (.slice A0_5 l0_5.length c0_5) := (blk_cell BK158.out 5).trans rfl
         have hcz17_6 : wr.cell? ⟨gb158, 6, none⟩ = some (.slice A0_6 l0_6.length c0_6) := (blk_cell BK158.out 6).trans rfl
         have hcz17_7 : wr.cell? ⟨gb158, 7, none⟩ = some (.slice A0_7 l0_7.length c0_7) := (blk_cell BK158.out 7).trans rfl
         have hfz17_0 := blk_frozen BK158.out 0
         have hfz17_1 := blk_frozen BK158.out 1
         have hfz17_2 := blk_frozen BK158.out 2
         have hfz17_3 := blk_frozen BK158.out 3
         have hfz17_4 := blk_frozen BK158.out 4
         have hfz17_5 := blk_frozen BK158.out 5
         have hfz17_6 := blk_frozen BK158.out 6
         have hfz17_7 := blk_frozen BK158.out 7
         go_wp2_with (first | ((with_reducible refine gate_callee (f := 14) rfl ?_); refine goesL_ (some 16) rfl rfl Try.func14 (by kernel_rfl) rfl #[.agg #[.slice A0_5 l0_5.length c0_5, .slice A0_6 l0_6.length c0_6, .slice A0_7 l0_7.length c0_7], .int .i64 x5_1] rfl (by (try simp only [List.map_toArray, List.map_cons, List.map_nil]); first | done | rfl | (simp only [List.length_drop, List.length_take]; rfl)) ?_; (with_reducible refine (newelref20_Called.calls k1 _ _ l0_5 _ _ l0_6 _ _ l0_7 x5_1 true _ ?side1 ?side2 ?side3 ?side4 ?side5 ?side6 A5.out).mono ?_); (case side1 => repeat (first | exact (Kd.C_below HR0_5.out HB.out) | (with_reducible refine Kd.C_alloc ?_ _) | (with_reducible refine Kd.C_drewN ?_ _) | (with_reducible refine Kd.C_drew ?_))); (case side2 => exact HC0_5.out); (case side3 => repeat (first | exact (Kd.C_below HR0_6.out HB.out) | (with_reducible refine Kd.C_alloc ?_ _) | (with_reducible refine Kd.C_drewN ?_ _) | (with_reducible refine Kd.C_drew ?_))); (case side4 => exact HC0_6.out); (case side5 => repeat (first | exact (Kd.C_below HR0_7.out HB.out) | (with_reducible refine Kd.C_alloc ?_ _) | (with_reducible refine Kd.C_drewN ?_ _) | (with_reducible refine Kd.C_drew ?_))); (case side6 => exact HC0_7.out); rintro e w18 ⟨rfl, hb⟩; refine ⟨_, rfl, ?_⟩; have n0_ := Aside0.mk (blk_below (g := gb158) (o := .cells #[.int .i64 a0_0, .int .i64 a0_1, .int .i64 a0_2, .bool a0_3, .bool a0_4, .slice A0_5 l0_5.length c0_5, .slice A0_6 l0_6.length c0_6, .slice A0_7 l0_7.length c0_7] 26 (0, 0)) (by (with_reducible repeat (first | refine blk_drewN ?_ _ | refine blk_drew ?_ | refine blk_alloc ?_ _)); exact BK158.out) hb); have n1_ := Aside0.mk (below_step (by repeat (first | (with_reducible first | exact HB.out | apply below_alloc | apply pw_below_drewN | apply below_drew1 | refine below_set ?_ GE158.out) | exact HB.out)) hb); clear BK158; clear HB; have BK158 := n0_; have HB := n1_; clear n0_ n1_; (try clear hb); (try clear hb2); (try clear hk); (try clear hi); have hcz19_0 : w18.cell? ⟨gb158, 0, none⟩ = some (.int .i64 a0_0) := (blk_cell BK158.out 0).trans rfl; have hcz19_1 : w18.cell? ⟨gb158, 1, none⟩ = some (.int .i64 a0_1) := (blk_cell BK158.out 1).trans rfl; have hcz19_2 : w18.cell? ⟨gb158, 2, none⟩ = some (.int .i64 a0_2) := (blk_cell BK158.out 2).trans rfl; have hcz19_3 : w18.cell? ⟨gb158, 3, none⟩ = some (.bool a0_3) := (blk_cell BK158.out 3).trans rfl; have hcz19_4 : w18.cell? ⟨gb158, 4, none⟩ = some (.bool a0_4) := (blk_cell BK158.out 4).trans rfl; have hcz19_5 : w18.cell? ⟨gb158, 5, none⟩ = some (.slice A0_5 l0_5.length c0_5) := (blk_cell BK158.out 5).trans rfl; have hcz19_6 : w18.cell? ⟨gb158, 6, none⟩ = some (.slice A0_6 l0_6.length c0_6) := (blk_cell BK158.out 6).trans rfl; have hcz19_7 : w18.cell? ⟨gb158, 7, none⟩ = some (.slice A0_7 l0_7.length c0_7) := (blk_cell BK158.out 7).trans rfl; have hfz19_0 := blk_frozen BK158.out 0; have hfz19_1 := blk_frozen BK158.out 1; have hfz19_2 := blk_frozen BK158.out 2; have hfz19_3 := blk_frozen BK158.out 3; have hfz19_4 := blk_frozen BK158.out 4; have hfz19_5 := blk_frozen BK158.out 5; have hfz19_6 := blk_frozen BK158.out 6; have hfz19_7 := blk_frozen BK158.out 7))
         go_roundg k1
         case measure => have := HK1.out; omega
         case rel => exact ⟨(wrap64 (x5_1 + 1)), (by first | rfl | (simp; done) | (simp [*]; done)), H', ⟨by have := HK1.out; omega⟩, ⟨by (with_reducible repeat (first | refine blk_drewN ?_ _ | refine blk_drew ?_ | refine blk_alloc ?_ _)); exact BK158.out⟩, ⟨by repeat (first | (with_reducible first | exact HB.out | apply below_alloc | apply pw_below_drewN | apply below_drew1 | refine below_set ?_ GE158.out) | exact HB.out)⟩⟩
       ·rw [if_neg c12] at H
        have c12b0 : decide (a1 < 0) = false := decide_eq_false c12
        clear c12
        have H' := Aside0.mk H
        clear H
        have hcz20_0 : wr.cell? ⟨gb158, 0, none⟩ = some (.int .i64 a0_0) := (blk_cell BK158.out 0).trans rfl
        have hcz20_1 : wr.cell? ⟨gb158, 1, none⟩ = some (.int .i64 a0_1) := (blk_cell BK158.out 1).trans rfl
        have hcz20_2 : wr.cell? ⟨gb158, 2, none⟩ = some (.int .i64 a0_2) := (blk_cell BK158.out 2).trans rfl
        have hcz20_3 : wr.cell? ⟨gb158, 3, none⟩ = some (.bool a0_3) := (blk_cell BK158.out 3).trans rfl
        have hcz20_4 : wr.cell? ⟨gb158, 4, none⟩ = some (.bool a0_4) := (blk_cell BK158.out 4).trans rfl
        have hcz20_5 : wr.cell? ⟨gb158, 5, none⟩ = some (.slice A0_5 l0_5.length c0_5) := (blk_cell BK158.out 5).trans rfl
        have hcz20_6 : wr.cell? ⟨gb158, 6, none⟩ = some (.slice A0_6 l0_6.length c0_6) := (blk_cell BK158.out 6).trans rfl
        have hcz20_7 : wr.cell? ⟨gb158, 7, none⟩ = some (.slice A0_7 l0_7.length c0_7) := (blk_cell BK158.out 7).trans rfl
        have hfz20_0 := blk_frozen BK158.out 0
        have hfz20_1 := blk_frozen BK158.out 1
        have hfz20_2 := blk_frozen BK158.out 2
        have hfz20_3 := blk_frozen BK158.out 3
        have hfz20_4 := blk_frozen BK158.out 4
        have hfz20_5 := blk_frozen BK158.out 5
        have hfz20_6 := blk_frozen BK158.out 6
        have hfz20_7 := blk_frozen BK158.out 7
        go_wp2_with (first | ((with_reducible refine gate_callee (f := 14) rfl ?_); refine goesL_ (some 16) rfl rfl Try.func14 (by kernel_rfl) rfl #[.agg #[.slice A0_5 l0_5.length c0_5, .slice A0_6 l0_6.length c0_6, .slice A0_7 l0_7.length c0_7], .int .i64 x5_1] rfl (by (try simp only [List.map_toArray, List.map_cons, List.map_nil]); first | done | rfl | (simp only [List.length_drop, List.length_take]; rfl)) ?_; (with_reducible refine (newelref20_Called.calls k1 _ _ l0_5 _ _ l0_6 _ _ l0_7 x5_1 true _ ?side1 ?side2 ?side3 ?side4 ?side5 ?side6 A5.out).mono ?_); (case side1 => repeat (first | exact (Kd.C_below HR0_5.out HB.out) | (with_reducible refine Kd.C_alloc ?_ _) | (with_reducible refine Kd.C_drewN ?_ _) | (with_reducible refine Kd.C_drew ?_))); (case side2 => exact HC0_5.out); (case side3 => repeat (first | exact (Kd.C_below HR0_6.out HB.out) | (with_reducible refine Kd.C_alloc ?_ _) | (with_reducible refine Kd.C_drewN ?_ _) | (with_reducible refine Kd.C_drew ?_))); (case side4 => exact HC0_6.out); (case side5 => repeat (first | exact (Kd.C_below HR0_7.out HB.out) | (with_reducible refine Kd.C_alloc ?_ _) | (with_reducible refine Kd.C_drewN ?_ _) | (with_reducible refine Kd.C_drew ?_))); (case side6 => exact HC0_7.out); rintro e w21 ⟨rfl, hb⟩; refine ⟨_, rfl, ?_⟩; have n0_ := Aside0.mk (blk_below (g := gb158) (o := .cells #[.int .i64 a0_0, .int .i64 a0_1, .int .i64 a0_2, .bool a0_3, .bool a0_4, .slice A0_5 l0_5.length c0_5, .slice A0_6 l0_6.length c0_6, .slice A0_7 l0_7.length c0_7] 26 (0, 0)) (by (with_reducible repeat (first | refine blk_drewN ?_ _ | refine blk_drew ?_ | refine blk_alloc ?_ _)); exact BK158.out) hb); have n1_ := Aside0.mk (below_step (by repeat (first | (with_reducible first | exact HB.out | apply below_alloc | apply pw_below_drewN | apply below_drew1 | refine below_set ?_ GE158.out) | exact HB.out)) hb); clear BK158; clear HB; have BK158 := n0_; have HB := n1_; clear n0_ n1_; (try clear hb); (try clear hb2); (try clear hk); (try clear hi); have hcz22_0 : w21.cell? ⟨gb158, 0, none⟩ = some (.int .i64 a0_0) := (blk_cell BK158.out 0).trans rfl; have hcz22_1 : w21.cell? ⟨gb158, 1, none⟩ = some (.int .i64 a0_1) := (blk_cell BK158.out 1).trans rfl; have hcz22_2 : w21.cell? ⟨gb158, 2, none⟩ = some (.int .i64 a0_2) := (blk_cell BK158.out 2).trans rfl; have hcz22_3 : w21.cell? ⟨gb158, 3, none⟩ = some (.bool a0_3) := (blk_cell BK158.out 3).trans rfl; have hcz22_4 : w21.cell? ⟨gb158, 4, none⟩ = some (.bool a0_4) := (blk_cell BK158.out 4).trans rfl; have hcz22_5 : w21.cell? ⟨gb158, 5, none⟩ = some (.slice A0_5 l0_5.length c0_5) := (blk_cell BK158.out 5).trans rfl; have hcz22_6 : w21.cell? ⟨gb158, 6, none⟩ = some (.slice A0_6 l0_6.length c0_6) := (blk_cell BK158.out 6).trans rfl; have hcz22_7 : w21.cell? ⟨gb158, 7, none⟩ = some (.slice A0_7 l0_7.length c0_7) := (blk_cell BK158.out 7).trans rfl; have hfz22_0 := blk_frozen BK158.out 0; have hfz22_1 := blk_frozen BK158.out 1; have hfz22_2 := blk_frozen BK158.out 2; have hfz22_3 := blk_frozen BK158.out 3; have hfz22_4 := blk_frozen BK158.out 4; have hfz22_5 := blk_frozen BK158.out 5; have hfz22_6 := blk_frozen BK158.out 6; have hfz22_7 := blk_frozen BK158.out 7))
        go_roundg k1
        case measure => have := HK1.out; omega
        case rel => exact ⟨(wrap64 (x5_1 + 1)), (by first | rfl | (simp; done) | (simp [*]; done)), H', ⟨by have := HK1.out; omega⟩, ⟨by (with_reducible repeat (first | refine blk_drewN ?_ _ | refine blk_drew ?_ | refine blk_alloc ?_ _)); exact BK158.out⟩, ⟨by repeat (first | (with_reducible first | exact HB.out | apply below_alloc | apply pw_below_drewN | apply below_drew1 | refine below_set ?_ GE158.out) | exact HB.out)⟩⟩
     ·rw [if_neg c7] at H
      have c7b0 : decide (0 < a1) = false := decide_eq_false c7
      clear c7
      by_cases c23 : a1 < 0
      ·rw [if_pos c23] at H
       have c23b0 : decide (a1 < 0) = true := decide_eq_true c23
       clear c23
       by_cases c24 : x5_1 < a0_1
       ·rw [if_pos c24] at H
        have c24b0 : decide (x5_1 < a0_1) = true := decide_eq_true c24
        clear c24
        obtain rfl := Option.some.inj H
        have hcz25_0 : wr.cell? ⟨gb158, 0, none⟩ = some (.int .i64 a0_0) := (blk_cell BK158.out 0).trans rfl
        have hcz25_1 : wr.cell? ⟨gb158, 1, none⟩ = some (.int .i64 a0_1) := (blk_cell BK158.out 1).trans rfl
        have hcz25_2 : wr.cell? ⟨gb158, 2, none⟩ = some (.int .i64 a0_2) := (blk_cell BK158.out 2).trans rfl
        have hcz25_3 : wr.cell? ⟨gb158, 3, none⟩ = some (.bool a0_3) := (blk_cell BK158.out 3).trans rfl
        have hcz25_4 : wr.cell? ⟨gb158, 4, none⟩ = some (.bool a0_4) := (blk_cell BK158.out 4).trans rfl
        have hcz25_5 : wr.cell? ⟨gb158, 5, none⟩ = some (.slice A0_5 l0_5.length c0_5) := (blk_cell BK158.out 5).trans rfl
        have hcz25_6 : wr.cell? ⟨gb158, 6, none⟩ = some (.slice A0_6 l0_6.length c0_6) := (blk_cell BK158.out 6).trans rfl
        have hcz25_7 : wr.cell? ⟨gb158, 7, none⟩ = some (.slice A0_7 l0_7.length c0_7) := (blk_cell BK158.out 7).trans rfl
        have hfz25_0 := blk_frozen BK158.out 0
        have hfz25_1 := blk_frozen BK158.out 1
        have hfz25_2 := blk_frozen BK158.out 2
        have hfz25_3 := blk_frozen BK158.out 3
        have hfz25_4 := blk_frozen BK158.out 4
        have hfz25_5 := blk_frozen BK158.out 5
        have hfz25_6 := blk_frozen BK158.out 6
        have hfz25_7 := blk_frozen BK158.out 7
        go_wp2_with (first | ((with_reducible refine gate_callee (f := 14) rfl ?_); refine goesL_ (some 16) rfl rfl Try.func14 (by kernel_rfl) rfl #[.agg #[.slice A0_5 l0_5.length c0_5, .slice A0_6 l0_6.length c0_6, .slice A0_7 l0_7.length c0_7], .int .i64 x5_1] rfl (by (try simp only [List.map_toArray, List.map_cons, List.map_nil]); first | done | rfl | (simp only [List.length_drop, List.length_take]; rfl)) ?_; (with_reducible refine (newelref20_Called.calls k1 _ _ l0_5 _ _ l0_6 _ _ l0_7 x5_1 true _ ?side1 ?side2 ?side3 ?side4 ?side5 ?side6 A5.out).mono ?_); (case side1 => repeat (first | exact (Kd.C_below HR0_5.out HB.out) | (with_reducible refine Kd.C_alloc ?_ _) | (with_reducible refine Kd.C_drewN ?_ _) | (with_reducible refine Kd.C_drew ?_))); (case side2 => exact HC0_5.out); (case side3 => repeat (first | exact (Kd.C_below HR0_6.out HB.out) | (with_reducible refine Kd.C_alloc ?_ _) | (with_reducible refine Kd.C_drewN ?_ _) | (with_reducible refine Kd.C_drew ?_))); (case side4 => exact HC0_6.out); (case side5 => repeat (first | exact (Kd.C_below HR0_7.out HB.out) | (with_reducible refine Kd.C_alloc ?_ _) | (with_reducible refine Kd.C_drewN ?_ _) | (with_reducible refine Kd.C_drew ?_))); (case side6 => exact HC0_7.out); rintro e w26 ⟨rfl, hb⟩; refine ⟨_, rfl, ?_⟩; have n0_ := Aside0.mk (blk_below (g := gb158) (o := .cells #[.int .i64 a0_0, .int .i64 a0_1, .int .i64 a0_2, .bool a0_3, .bool a0_4, .slice A0_5 l0_5.length c0_5, .slice A0_6 l0_6.length c0_6, .slice A0_7 l0_7.length c0_7] 26 (0, 0)) (by (with_reducible repeat (first | refine blk_drewN ?_ _ | refine blk_drew ?_ | refine blk_alloc ?_ _)); exact BK158.out) hb); have n1_ := Aside0.mk (below_step (by repeat (first | (with_reducible first | exact HB.out | apply below_alloc | apply pw_below_drewN | apply below_drew1 | refine below_set ?_ GE158.out) | exact HB.out)) hb); clear BK158; clear HB; have BK158 := n0_; have HB := n1_; clear n0_ n1_; (try clear hb); (try clear hb2); (try clear hk); (try clear hi); have hcz27_0 : w26.cell? ⟨gb158, 0, none⟩ = some (.int .i64 a0_0) := (blk_cell BK158.out 0).trans rfl; have hcz27_1 : w26.cell? ⟨gb158, 1, none⟩ = some (.int .i64 a0_1) := (blk_cell BK158.out 1).trans rfl; have hcz27_2 : w26.cell? ⟨gb158, 2, none⟩ = some (.int .i64 a0_2) := (blk_cell BK158.out 2).trans rfl; have hcz27_3 : w26.cell? ⟨gb158, 3, none⟩ = some (.bool a0_3) := (blk_cell BK158.out 3).trans rfl; have hcz27_4 : w26.cell? ⟨gb158, 4, none⟩ = some (.bool a0_4) := (blk_cell BK158.out 4).trans rfl; have hcz27_5 : w26.cell? ⟨gb158, 5, none⟩ = some (.slice A0_5 l0_5.length c0_5) := (blk_cell BK158.out 5).trans rfl; have hcz27_6 : w26.cell? ⟨gb158, 6, none⟩ = some (.slice A0_6 l0_6.length c0_6) := (blk_cell BK158.out 6).trans rfl; have hcz27_7 : w26.cell? ⟨gb158, 7, none⟩ = some (.slice A0_7 l0_7.length c0_7) := (blk_cell BK158.out 7).trans rfl; have hfz27_0 := blk_frozen BK158.out 0; have hfz27_1 := blk_frozen BK158.out 1; have hfz27_2 := blk_frozen BK158.out 2; have hfz27_3 := blk_frozen BK158.out 3; have hfz27_4 := blk_frozen BK158.out 4; have hfz27_5 := blk_frozen BK158.out 5; have hfz27_6 := blk_frozen BK158.out 6; have hfz27_7 := blk_frozen BK158.out 7))
        go_ret
        exact ⟨by first | rfl | (simp [errW_none, errW_some] <;> rfl) | (simp [*, errW_none, errW_some] <;> rfl), by repeat (first | (with_reducible first | exact HB.out | apply below_alloc | apply pw_below_drewN | apply below_drew1 | refine below_set ?_ GE158.out) | exact HB.out)⟩
       ·rw [if_neg c24] at H
        have c24b0 : decide (x5_1 < a0_1) = false := decide_eq_false c24
        clear c24
        have H' := Aside0.mk H
        clear H
        have hcz28_0 : wr.cell? ⟨gb158, 0, none⟩ = some (.int .i64 a0_0) := (blk_cell BK158.out 0).trans rfl
        have hcz28_1 : wr.cell? ⟨gb158, 1, none⟩ = some (.int .i64 a0_1) := (blk_cell BK158.out 1).trans rfl
        have hcz28_2 : wr.cell? ⟨gb158, 2, none⟩ = some (.int .i64 a0_2) := (blk_cell BK158.out 2).trans rfl
        have hcz28_3 : wr.cell? ⟨gb158, 3, none⟩ = some (.bool a0_3) := (blk_cell BK158.out 3).trans rfl
        have hcz28_4 : wr.cell? ⟨gb158, 4, none⟩ = some (.bool a0_4) := (blk_cell BK158.out 4).trans rfl
        have hcz28_5 : wr.cell? ⟨gb158, 5, none⟩ = some (.slice A0_5 l0_5.length c0_5) := (blk_cell BK158.out 5).trans rfl
        have hcz28_6 : wr.cell? ⟨gb158, 6, none⟩ = some (.slice A0_6 l0_6.length c0_6) := (blk_cell BK158.out 6).trans rfl
        have hcz28_7 : wr.cell? ⟨gb158, 7, none⟩ = some (.slice A0_7 l0_7.length c0_7) := (blk_cell BK158.out 7).trans rfl
        have hfz28_0 := blk_frozen BK158.out 0
        have hfz28_1 := blk_frozen BK158.out 1
        have hfz28_2 := blk_frozen BK158.out 2
        have hfz28_3 := blk_frozen BK158.out 3
        have hfz28_4 := blk_frozen BK158.out 4
        have hfz28_5 := blk_frozen BK158.out 5
        have hfz28_6 := blk_frozen BK158.out 6
        have hfz28_7 := blk_frozen BK158.out 7
        go_wp2_with (first | ((with_reducible refine gate_callee (f := 14) rfl ?_); refine goesL_ (some 16) rfl rfl Try.func14 (by kernel_rfl) rfl #[.agg #[.slice A0_5 l0_5.length c0_5, .slice A0_6 l0_6.length c0_6, .slice A0_7 l0_7.length c0_7], .int .i64 x5_1] rfl (by (try simp only [List.map_toArray, List.map_cons, List.map_nil]); first | done | rfl | (simp only [List.length_drop, List.length_take]; rfl)) ?_; (with_reducible refine (newelref20_Called.calls k1 _ _ l0_5 _ _ l0_6 _ _ l0_7 x5_1 true _ ?side1 ?side2 ?side3 ?side4 ?side5 ?side6 A5.out).mono ?_); (case side1 => repeat (first | exact (Kd.C_below HR0_5.out HB.out) | (with_reducible refine Kd.C_alloc ?_ _) | (with_reducible refine Kd.C_drewN ?_ _) | (with_reducible refine Kd.C_drew ?_))); (case side2 => exact HC0_5.out); (case side3 => repeat (first | exact (Kd.C_below HR0_6.out HB.out) | (with_reducible refine Kd.C_alloc ?_ _) | (with_reducible refine Kd.C_drewN ?_ _) | (with_reducible refine Kd.C_drew ?_))); (case side4 => exact HC0_6.out); (case side5 => repeat (first | exact (Kd.C_below HR0_7.out HB.out) | (with_reducible refine Kd.C_alloc ?_ _) | (with_reducible refine Kd.C_drewN ?_ _) | (with_reducible refine Kd.C_drew ?_))); (case side6 => exact HC0_7.out); rintro e w29 ⟨rfl, hb⟩; refine ⟨_, rfl, ?_⟩; have n0_ := Aside0.mk (blk_below (g := gb158) (o := .cells #[.int .i64 a0_0, .int .i64 a0_1, .int .i64 a0_2, .bool a0_3, .bool a0_4, .slice A0_5 l0_5.length c0_5, .slice A0_6 l0_6.length c0_6, .slice A0_7 l0_7.length c0_7] 26 (0, 0)) (by (with_reducible repeat (first | refine blk_drewN ?_ _ | refine blk_drew ?_ | refine blk_alloc ?_ _)); exact BK158.out) hb); have n1_ := Aside0.mk (below_step (by repeat (first | (with_reducible first | exact HB.out | apply below_alloc | apply pw_below_drewN | apply below_drew1 | refine below_set ?_ GE158.out) | exact HB.out)) hb); clear BK158; clear HB; have BK158 := n0_; have HB := n1_; clear n0_ n1_; (try clear hb); (try clear hb2); (try clear hk); (try clear hi); have hcz30_0 : w29.cell? ⟨gb158, 0, none⟩ = some (.int .i64 a0_0) := (blk_cell BK158.out 0).trans rfl; have hcz30_1 : w29.cell? ⟨gb158, 1, none⟩ = some (.int .i64 a0_1) := (blk_cell BK158.out 1).trans rfl; have hcz30_2 : w29.cell? ⟨gb158, 2, none⟩ = some (.int .i64 a0_2) := (blk_cell BK158.out 2).trans rfl; have hcz30_3 : w29.cell? ⟨gb158, 3, none⟩ = some (.bool a0_3) := (blk_cell BK158.out 3).trans rfl; have hcz30_4 : w29.cell? ⟨gb158, 4, none⟩ = some (.bool a0_4) := (blk_cell BK158.out 4).trans rfl; have hcz30_5 : w29.cell? ⟨gb158, 5, none⟩ = some (.slice A0_5 l0_5.length c0_5) := (blk_cell BK158.out 5).trans rfl; have hcz30_6 : w29.cell? ⟨gb158, 6, none⟩ = some (.slice A0_6 l0_6.length c0_6) := (blk_cell BK158.out 6).trans rfl; have hcz30_7 : w29.cell? ⟨gb158, 7, none⟩ = some (.slice A0_7 l0_7.length c0_7) := (blk_cell BK158.out 7).trans rfl; have hfz30_0 := blk_frozen BK158.out 0; have hfz30_1 := blk_frozen BK158.out 1; have hfz30_2 := blk_frozen BK158.out 2; have hfz30_3 := blk_frozen BK158.out 3; have hfz30_4 := blk_frozen BK158.out 4; have hfz30_5 := blk_frozen BK158.out 5; have hfz30_6 := blk_frozen BK158.out 6; have hfz30_7 := blk_frozen BK158.out 7))
        go_roundg k1
        case measure => have := HK1.out; omega
        case rel => exact ⟨(wrap64 (x5_1 + 1)), (by first | rfl | (simp; done) | (simp [*]; done)), H', ⟨by have := HK1.out; omega⟩, ⟨by (with_reducible repeat (first | refine blk_drewN ?_ _ | refine blk_drew ?_ | refine blk_alloc ?_ _)); exact BK158.out⟩, ⟨by repeat (first | (with_reducible first | exact HB.out | apply below_alloc | apply pw_below_drewN | apply below_drew1 | refine below_set ?_ GE158.out) | exact HB.out)⟩⟩
      ·rw [if_neg c23] at H
       have c23b0 : decide (a1 < 0) = false := decide_eq_false c23
       clear c23
       have H' := Aside0.mk H
       clear H
       have hcz31_0 : wr.cell? ⟨gb158, 0, none⟩ = some (.int .i64 a0_0) := (blk_cell BK158.out 0).trans rfl
       have hcz31_1 : wr.cell? ⟨gb158, 1, none⟩ = some (.int .i64 a0_1) := (blk_cell BK158.out 1).trans rfl
       have hcz31_2 : wr.cell? ⟨gb158, 2, none⟩ = some (.int .i64 a0_2) := (blk_cell BK158.out 2).trans rfl
       have hcz31_3 : wr.cell? ⟨gb158, 3, none⟩ = some (.bool a0_3) := (blk_cell BK158.out 3).trans rfl
       have hcz31_4 : wr.cell? ⟨gb158, 4, none⟩ = some (.bool a0_4) := (blk_cell BK158.out 4).trans rfl
       have hcz31_5 : wr.cell? ⟨gb158, 5, none⟩ = some (.slice A0_5 l0_5.length c0_5) := (blk_cell BK158.out 5).trans rfl
       have hcz31_6 : wr.cell? ⟨gb158, 6, none⟩ = some (.slice A0_6 l0_6.length c0_6) := (blk_cell BK158.out 6).trans rfl
       have hcz31_7 : wr.cell? ⟨gb158, 7, none⟩ = some (.slice A0_7 l0_7.length c0_7) := (blk_cell BK158.out 7).trans rfl
       have hfz31_0 := blk_frozen BK158.out 0
       have hfz31_1 := blk_frozen BK158.out 1
       have hfz31_2 := blk_frozen BK158.out 2
       have hfz31_3 := blk_frozen BK158.out 3
       have hfz31_4 := blk_frozen BK158.out 4
       have hfz31_5 := blk_frozen BK158.out 5
       have hfz31_6 := blk_frozen BK158.out 6
       have hfz31_7 := blk_frozen BK158.out 7
       go_wp2_with (first | ((with_reducible refine gate_callee (f := 14) rfl ?_); refine goesL_ (some 16) rfl rfl Try.func14 (by kernel_rfl) rfl #[.agg #[.slice A0_5 l0_5.length c0_5, .slice A0_6 l0_6.length c0_6, .slice A0_7 l0_7.length c0_7], .int .i64 x5_1] rfl (by (try simp only [List.map_toArray, List.map_cons, List.map_nil]); first | done | rfl | (simp only [List.length_drop, List.length_take]; rfl)) ?_; (with_reducible refine (newelref20_Called.calls k1 _ _ l0_5 _ _ l0_6 _ _ l0_7 x5_1 true _ ?side1 ?side2 ?side3 ?side4 ?side5 ?side6 A5.out).mono ?_); (case side1 => repeat (first | exact (Kd.C_below HR0_5.out HB.out) | (with_reducible refine Kd.C_alloc ?_ _) | (with_reducible refine Kd.C_drewN ?_ _) | (with_reducible refine Kd.C_drew ?_))); (case side2 => exact HC0_5.out); (case side3 => repeat (first | exact (Kd.C_below HR0_6.out HB.out) | (with_reducible refine Kd.C_alloc ?_ _) | (with_reducible refine Kd.C_drewN ?_ _) | (with_reducible refine Kd.C_drew ?_))); (case side4 => exact HC0_6.out); (case side5 => repeat (first | exact (Kd.C_below HR0_7.out HB.out) | (with_reducible refine Kd.C_alloc ?_ _) | (with_reducible refine Kd.C_drewN ?_ _) | (with_reducible refine Kd.C_drew ?_))); (case side6 => exact HC0_7.out); rintro e w32 ⟨rfl, hb⟩; refine ⟨_, rfl, ?_⟩; have n0_ := Aside0.mk (blk_below (g := gb158) (o := .cells #[.int .i64 a0_0, .int .i64 a0_1, .int .i64 a0_2, .bool a0_3, .bool a0_4, .slice A0_5 l0_5.length c0_5, .slice A0_6 l0_6.length c0_6, .slice A0_7 l0_7.length c0_7] 26 (0, 0)) (by (with_reducible repeat (first | refine blk_drewN ?_ _ | refine blk_drew ?_ | refine blk_alloc ?_ _)); exact BK158.out) hb); have n1_ := Aside0.mk (below_step (by repeat (first | (with_reducible first | exact HB.out | apply below_alloc | apply pw_below_drewN | apply below_drew1 | refine below_set ?_ GE158.out) | exact HB.out)) hb); clear BK158; clear HB; have BK158 := n0_; have HB := n1_; clear n0_ n1_; (try clear hb); (try clear hb2); (try clear hk); (try clear hi)))
       go_roundg k1
       case measure => have := HK1.out; omega
       case rel => exact ⟨(wrap64 (x5_1 + 1)), (by first | rfl | (simp; done) | (simp [*]; done)), H', ⟨by have := HK1.out; omega⟩, ⟨by (with_reducible repeat (first | refine blk_drewN ?_ _ | refine blk_drew ?_ | refine blk_alloc ?_ _)); exact BK158.out⟩, ⟨by repeat (first | (with_reducible first | exact HB.out | apply below_alloc | apply pw_below_drewN | apply below_drew1 | refine below_set ?_ GE158.out) | exact HB.out)⟩⟩
    ·replace c6 := Bool.eq_false_iff.mpr c6
     subst c6
     have H1 : (newelref20_Beyond.l0 k1 a1 (wrap64 (x5_1 + 1)) a0_0 a0_1 a0_2 a0_3 a0_4 l0_5 l0_6 l0_7) = some r := by rw [if_neg (show ¬ (false = true) by decide)] at H; exact H
     clear H
     have H := H1
     clear H1
     have H' := Aside0.mk H
     clear H
     have hcz33_0 : wr.cell? ⟨gb158, 0, none⟩ = some (.int .i64 a0_0) := (blk_cell BK158.out 0).trans rfl
     have hcz33_1 : wr.cell? ⟨gb158, 1, none⟩ = some (.int .i64 a0_1) := (blk_cell BK158.out 1).trans rfl
     have hcz33_2 : wr.cell? ⟨gb158, 2, none⟩ = some (.int .i64 a0_2) := (blk_cell BK158.out 2).trans rfl
     have hcz33_3 : wr.cell? ⟨gb158, 3, none⟩ = some (.bool a0_3) := (blk_cell BK158.out 3).trans rfl
     have hcz33_4 : wr.cell? ⟨gb158, 4, none⟩ = some (.bool a0_4) := (blk_cell BK158.out 4).trans rfl
     have hcz33_5 : wr.cell? ⟨gb158, 5, none⟩ = some (.slice A0_5 l0_5.length c0_5) := (blk_cell BK158.out 5).trans rfl
     have hcz33_6 : wr.cell? ⟨gb158, 6, none⟩ = some (.slice A0_6 l0_6.length c0_6) := (blk_cell BK158.out 6).trans rfl
     have hcz33_7 : wr.cell? ⟨gb158, 7, none⟩ = some (.slice A0_7 l0_7.length c0_7) := (blk_cell BK158.out 7).trans rfl
     have hfz33_0 := blk_frozen BK158.out 0
     have hfz33_1 := blk_frozen BK158.out 1
     have hfz33_2 := blk_frozen BK158.out 2
     have hfz33_3 := blk_frozen BK158.out 3
     have hfz33_4 := blk_frozen BK158.out 4
     have hfz33_5 := blk_frozen BK158.out 5
     have hfz33_6 := blk_frozen BK158.out 6
     have hfz33_7 := blk_frozen BK158.out 7
     go_wp2_with (first | ((with_reducible refine gate_callee (f := 14) rfl ?_); refine goesL_ (some 16) rfl rfl Try.func14 (by kernel_rfl) rfl #[.agg #[.slice A0_5 l0_5.length c0_5, .slice A0_6 l0_6.length c0_6, .slice A0_7 l0_7.length c0_7], .int .i64 x5_1] rfl (by (try simp only [List.map_toArray, List.map_cons, List.map_nil]); first | done | rfl | (simp only [List.length_drop, List.length_take]; rfl)) ?_; (with_reducible refine (newelref20_Called.calls k1 _ _ l0_5 _ _ l0_6 _ _ l0_7 x5_1 false _ ?side1 ?side2 ?side3 ?side4 ?side5 ?side6 A5.out).mono ?_); (case side1 => repeat (first | exact (Kd.C_below HR0_5.out HB.out) | (with_reducible refine Kd.C_alloc ?_ _) | (with_reducible refine Kd.C_drewN ?_ _) | (with_reducible refine Kd.C_drew ?_))); (case side2 => exact HC0_5.out); (case side3 => repeat (first | exact (Kd.C_below HR0_6.out HB.out) | (with_reducible refine Kd.C_alloc ?_ _) | (with_reducible refine Kd.C_drewN ?_ _) | (with_reducible refine Kd.C_drew ?_))); (case side4 => exact HC0_6.out); (case side5 => repeat (first | exact (Kd.C_below HR0_7.out HB.out) | (with_reducible refine Kd.C_alloc ?_ _) | (with_reducible refine Kd.C_drewN ?_ _) | (with_reducible refine Kd.C_drew ?_))); (case side6 => exact HC0_7.out); rintro e w34 ⟨rfl, hb⟩; refine ⟨_, rfl, ?_⟩; have n0_ := Aside0.mk (blk_below (g := gb158) (o := .cells #[.int .i64 a0_0, .int .i64 a0_1, .int .i64 a0_2, .bool a0_3, .bool a0_4, .slice A0_5 l0_5.length c0_5, .slice A0_6 l0_6.length c0_6, .slice A0_7 l0_7.length c0_7] 26 (0, 0)) (by (with_reducible repeat (first | refine blk_drewN ?_ _ | refine blk_drew ?_ | refine blk_alloc ?_ _)); exact BK158.out) hb); have n1_ := Aside0.mk (below_step (by repeat (first | (with_reducible first | exact HB.out | apply below_alloc | apply pw_below_drewN | apply below_drew1 | refine below_set ?_ GE158.out) | exact HB.out)) hb); clear BK158; clear HB; have BK158 := n0_; have HB := n1_; clear n0_ n1_; (try clear hb); (try clear hb2); (try clear hk); (try clear hi)))
     go_roundg k1
     case measure => have := HK1.out; omega
     case rel => exact ⟨(wrap64 (x5_1 + 1)), (by first | rfl | (simp; done) | (simp [*]; done)), H', ⟨by have := HK1.out; omega⟩, ⟨by (with_reducible repeat (first | refine blk_drewN ?_ _ | refine blk_drew ?_ | refine blk_alloc ?_ _)); exact BK158.out⟩, ⟨by repeat (first | (with_reducible first | exact HB.out | apply below_alloc | apply pw_below_drewN | apply below_drew1 | refine below_set ?_ GE158.out) | exact HB.out)⟩⟩
   ·rw [if_neg c4] at H
    have c4b0 : decide (x5_1 < a0_0) = false := decide_eq_false c4
    clear c4
    obtain rfl := Option.some.inj H
    have hcz35_0 : wr.cell? ⟨gb158, 0, none⟩ = some (.int .i64 a0_0) := (blk_cell BK158.out 0).trans rfl
    have hcz35_1 : wr.cell? ⟨gb158, 1, none⟩ = some (.int .i64 a0_1) := (blk_cell BK158.out 1).trans rfl
    have hcz35_2 : wr.cell? ⟨gb158, 2, none⟩ = some (.int .i64 a0_2) := (blk_cell BK158.out 2).trans rfl
    have hcz35_3 : wr.cell? ⟨gb158, 3, none⟩ = some (.bool a0_3) := (blk_cell BK158.out 3).trans rfl
    have hcz35_4 : wr.cell? ⟨gb158, 4, none⟩ = some (.bool a0_4) := (blk_cell BK158.out 4).trans rfl
    have hcz35_5 : wr.cell? ⟨gb158, 5, none⟩ = some (.slice A0_5 l0_5.length c0_5) := (blk_cell BK158.out 5).trans rfl
    have hcz35_6 : wr.cell? ⟨gb158, 6, none⟩ = some (.slice A0_6 l0_6.length c0_6) := (blk_cell BK158.out 6).trans rfl
    have hcz35_7 : wr.cell? ⟨gb158, 7, none⟩ = some (.slice A0_7 l0_7.length c0_7) := (blk_cell BK158.out 7).trans rfl
    have hfz35_0 := blk_frozen BK158.out 0
    have hfz35_1 := blk_frozen BK158.out 1
    have hfz35_2 := blk_frozen BK158.out 2
    have hfz35_3 := blk_frozen BK158.out 3
    have hfz35_4 := blk_frozen BK158.out 4
    have hfz35_5 := blk_frozen BK158.out 5
    have hfz35_6 := blk_frozen BK158.out 6
    have hfz35_7 := blk_frozen BK158.out 7
    go_wp2
    go_ret
    exact ⟨by first | rfl | (simp [errW_none, errW_some] <;> rfl) | (simp [*, errW_none, errW_some] <;> rfl), by repeat (first | (with_reducible first | exact HB.out | apply below_alloc | apply pw_below_drewN | apply below_drew1 | refine below_set ?_ GE158.out) | exact HB.out)⟩

end Go.Proofs.Ytlfgdcgjndjdgaa.C
