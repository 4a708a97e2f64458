-- Written by a program of this session (wip/pp: the kit's print, changed), out of the translation. Lean checks it.
import Derived.Test.YtlfgdcgjndjdgaaCx0
import Derived.Test.YtlfgdcgjndjdgaaCxf10
import Derived.Test.YtlfgdcgjndjdgaaCxf12
import Derived.Test.YtlfgdcgjndjdgaaCxf16
import Derived.Test.YtlfgdcgjndjdgaaCxf20
import Derived.Test.YtlfgdcgjndjdgaaCxf9
import Derived.Test.YtlfgdcgjndjdgaaNext2
namespace Go.Proofs.Ytlfgdcgjndjdgaa.C
open Go.RowKit Go.Proofs.YtlfgdcgjndjdgaaW.PrintWords Go.Proofs.YtlfgdcgjndjdgaaW.PrintLast Go.Proofs.YtlfgdcgjndjdgaaW.PrintMore
attribute [local go_sem] max2_int min2_int max_two min_two max_three min_three max_four min_four   -- for this text's walks alone
set_option linter.unusedVariables false
set_option linter.unusedSimpArgs false

/-! ### newellaw20_CollectMirror: function 8 -/
mutual
def newellaw20_CollectMirror.j0 : Nat → Bool → Int → Int → Int → Bool → Bool → List Int → List Int → List Int → Option (Bool)
 | 0, _, _, _, _, _, _, _, _, _ => none
 | k + 1, x25, x388000, x388001, x388002, x388003, x388004, x388005, x388006, x388007 => if x25 = true then ((newellaw20_awake.f k).bind fun t404 => (some t404)) else ((newellaw20_turned.f k x388005 (wrap64 (x388000 - 1))).bind fun t405 => ((newellaw20_turned.f k x388007 (wrap64 (x388000 - 1))).bind fun t408 => ((newellaw20_turned.f k x388006 (wrap64 (x388000 - 1))).bind fun t411 => ((newellaw20_Own.f x388000 x388001 x388002 x388003 x388004 x388005 x388006 x388007).bind fun bt415 => ((collect_Next.f k bt415.1 bt415.2.1 bt415.2.2.1 bt415.2.2.2.1 bt415.2.2.2.2.1 bt415.2.2.2.2.2.1 bt415.2.2.2.2.2.2.1 bt415.2.2.2.2.2.2.2).bind fun bt429 => ((collect_Next.f k x388000 (wrap64 ((wrap64 (x388000 - 1)) - x388001)) (wrap64 (-x388002)) x388004 x388003 t405 t408 t411).bind fun bt432 => (if bt429.2.2 = 0 then (if bt432.2.2 = 0 then (newellaw20_CollectMirror.j1 k bt429.1 bt432.1 (bt432.2.1 != (wrap64 (-bt429.2.1)))) else (none)) else (none))))))))
def newellaw20_CollectMirror.j1 : Nat → Int → Int → Bool → Option (Bool)
 | 0, _, _, _ => none
 | k + 1, x5, x8, x84 => if x84 = true then (none) else (if x5 = 1 then (newellaw20_CollectMirror.j2 k x5 x8 true) else (newellaw20_CollectMirror.j2 k x5 x8 (x5 == 2)))
def newellaw20_CollectMirror.j2 : Nat → Int → Int → Bool → Option (Bool)
 | 0, _, _, _ => none
 | k + 1, x5, x8, x90 => if x90 = true then ((newellaw20_awake.f k).bind fun t435 => (if t435 = true then (some (x8 == (wrap64 (3 - x5)))) else (none))) else ((newellaw20_awake.f k).bind fun t436 => (if t436 = true then (some (x5 == x8)) else (none)))
end
def newellaw20_CollectMirror.f (k : Nat) (a0_0 : Int) (a0_1 : Int) (a0_2 : Int) (a0_3 : Bool) (a0_4 : Bool) (l0_5 : List Int) (l0_6 : List Int) (l0_7 : List Int) : Option (Bool) := (newellaw20_few.f l0_5 l0_6 l0_7).bind fun t388 => (if t388 = true then ((newellaw20_Own.f a0_0 a0_1 a0_2 a0_3 a0_4 l0_5 l0_6 l0_7).bind fun bt389 => ((collect_Check.f k bt389.1 bt389.2.1 bt389.2.2.1 bt389.2.2.2.1 bt389.2.2.2.2.1 bt389.2.2.2.2.2.1 bt389.2.2.2.2.2.2.1 bt389.2.2.2.2.2.2.2).bind fun t403 => (if t403 = 0 then (newellaw20_CollectMirror.j0 k (a0_2 == 0) a0_0 a0_1 a0_2 a0_3 a0_4 l0_5 l0_6 l0_7) else (newellaw20_CollectMirror.j0 k true a0_0 a0_1 a0_2 a0_3 a0_4 l0_5 l0_6 l0_7)))) else (newellaw20_CollectMirror.j0 k true a0_0 a0_1 a0_2 a0_3 a0_4 l0_5 l0_6 l0_7))
theorem newellaw20_CollectMirror.mono_l : ∀ k, (∀ y0 y1 y2 y3 y4 y5 y6 y7 y8, LeO (newellaw20_CollectMirror.j0 k y0 y1 y2 y3 y4 y5 y6 y7 y8) (newellaw20_CollectMirror.j0 (k + 1) y0 y1 y2 y3 y4 y5 y6 y7 y8)) ∧ (∀ y0 y1 y2, LeO (newellaw20_CollectMirror.j1 k y0 y1 y2) (newellaw20_CollectMirror.j1 (k + 1) y0 y1 y2)) ∧ (∀ y0 y1 y2, LeO (newellaw20_CollectMirror.j2 k y0 y1 y2) (newellaw20_CollectMirror.j2 (k + 1) y0 y1 y2))
 | 0 => ⟨fun _ _ _ _ _ _ _ _ _ r h => by simp [newellaw20_CollectMirror.j0] at h, fun _ _ _ r h => by simp [newellaw20_CollectMirror.j1] at h, fun _ _ _ r h => by simp [newellaw20_CollectMirror.j2] at h⟩
 | k + 1 => by
  obtain ⟨ih0, ih1, ih2⟩ := newellaw20_CollectMirror.mono_l k
  refine ⟨?_, ?_, ?_⟩
  ·intro y0 y1 y2 y3 y4 y5 y6 y7 y8
   unfold newellaw20_CollectMirror.j0
   repeat' first
   | (with_reducible exact ih0 _ _ _ _ _ _ _ _ _)
   | (with_reducible exact ih1 _ _ _)
   | (with_reducible exact ih2 _ _ _)
   | (with_reducible exact collect_Check.mono _ _ _ _ _ _ _ _ _)
   | (with_reducible exact collect_Next.mono _ _ _ _ _ _ _ _ _)
   | (with_reducible exact newellaw20_awake.mono _)
   | (with_reducible exact newellaw20_turned.mono _ _ _)
   | (with_reducible exact LeO.refl _)
   | (with_reducible exact LeO.none _)
   | (with_reducible refine LeO.ite ?_ ?_)
   | (with_reducible refine LeO.bind ?_ (fun _ => ?_))
   | exact ih0 _ _ _ _ _ _ _ _ _
   | exact ih1 _ _ _
   | exact ih2 _ _ _
   | exact collect_Check.mono _ _ _ _ _ _ _ _ _
   | exact collect_Next.mono _ _ _ _ _ _ _ _ _
   | exact newellaw20_awake.mono _
   | exact newellaw20_turned.mono _ _ _
   | exact LeO.none _
   | refine LeO.ite ?_ ?_
   | refine LeO.bind ?_ (fun _ => ?_)
  ·intro y0 y1 y2
   unfold newellaw20_CollectMirror.j1
   repeat' first
   | (with_reducible exact ih0 _ _ _ _ _ _ _ _ _)
   | (with_reducible exact ih1 _ _ _)
   | (with_reducible exact ih2 _ _ _)
   | (with_reducible exact collect_Check.mono _ _ _ _ _ _ _ _ _)
   | (with_reducible exact collect_Next.mono _ _ _ _ _ _ _ _ _)
   | (with_reducible exact newellaw20_awake.mono _)
   | (with_reducible exact newellaw20_turned.mono _ _ _)
   | (with_reducible exact LeO.refl _)
   | (with_reducible exact LeO.none _)
   | (with_reducible refine LeO.ite ?_ ?_)
   | (with_reducible refine LeO.bind ?_ (fun _ => ?_))
   | exact ih0 _ _ _ _ _ _ _ _ _
   | exact ih1 _ _ _
   | exact ih2 _ _ _
   | exact collect_Check.mono _ _ _ _ _ _ _ _ _
   | exact collect_Next.mono _ _ _ _ _ _ _ _ _
   | exact newellaw20_awake.mono _
   | exact newellaw20_turned.mono _ _ _
   | exact LeO.none _
   | refine LeO.ite ?_ ?_
   | refine LeO.bind ?_ (fun _ => ?_)
  ·intro y0 y1 y2
   unfold newellaw20_CollectMirror.j2
   repeat' first
   | (with_reducible exact ih0 _ _ _ _ _ _ _ _ _)
   | (with_reducible exact ih1 _ _ _)
   | (with_reducible exact ih2 _ _ _)
   | (with_reducible exact collect_Check.mono _ _ _ _ _ _ _ _ _)
   | (with_reducible exact collect_Next.mono _ _ _ _ _ _ _ _ _)
   | (with_reducible exact newellaw20_awake.mono _)
   | (with_reducible exact newellaw20_turned.mono _ _ _)
   | (with_reducible exact LeO.refl _)
   | (with_reducible exact LeO.none _)
   | (with_reducible refine LeO.ite ?_ ?_)
   | (with_reducible refine LeO.bind ?_ (fun _ => ?_))
   | exact ih0 _ _ _ _ _ _ _ _ _
   | exact ih1 _ _ _
   | exact ih2 _ _ _
   | exact collect_Check.mono _ _ _ _ _ _ _ _ _
   | exact collect_Next.mono _ _ _ _ _ _ _ _ _
   | exact newellaw20_awake.mono _
   | exact newellaw20_turned.mono _ _ _
   | exact LeO.none _
   | refine LeO.ite ?_ ?_
   | refine LeO.bind ?_ (fun _ => ?_)
theorem newellaw20_CollectMirror.mono : ∀ a0 a1 a2 a3 a4 a5 a6 a7 k, LeO (newellaw20_CollectMirror.f k a0 a1 a2 a3 a4 a5 a6 a7) (newellaw20_CollectMirror.f (k + 1) a0 a1 a2 a3 a4 a5 a6 a7) := by
 intro a0 a1 a2 a3 a4 a5 a6 a7 k
 obtain ⟨ih0, ih1, ih2⟩ := newellaw20_CollectMirror.mono_l k
 unfold newellaw20_CollectMirror.f
 repeat' first
   | (with_reducible exact ih0 _ _ _ _ _ _ _ _ _)
   | (with_reducible exact ih1 _ _ _)
   | (with_reducible exact ih2 _ _ _)
   | (with_reducible exact collect_Check.mono _ _ _ _ _ _ _ _ _)
   | (with_reducible exact collect_Next.mono _ _ _ _ _ _ _ _ _)
   | (with_reducible exact newellaw20_awake.mono _)
   | (with_reducible exact newellaw20_turned.mono _ _ _)
   | (with_reducible exact LeO.refl _)
   | (with_reducible exact LeO.none _)
   | (with_reducible refine LeO.ite ?_ ?_)
   | (with_reducible refine LeO.bind ?_ (fun _ => ?_))
   | exact ih0 _ _ _ _ _ _ _ _ _
   | exact ih1 _ _ _
   | exact ih2 _ _ _
   | exact collect_Check.mono _ _ _ _ _ _ _ _ _
   | exact collect_Next.mono _ _ _ _ _ _ _ _ _
   | exact newellaw20_awake.mono _
   | exact newellaw20_turned.mono _ _ _
   | exact LeO.none _
   | refine LeO.ite ?_ ?_
   | refine LeO.bind ?_ (fun _ => ?_)
def newellaw20_CollectMirror.T4 : Bool × List (List Nat × List Nat) := (true, [([], []), ([0], [0]), ([], []), ([], []), ([3], [3]), ([2, 4], [2, 4]), ([], []), ([6], [6]), ([7], [7]), ([], []), ([9], [9]), ([], []), ([11], [11]), ([], []), ([13], [13]), ([14], [14]), ([], []), ([15, 16], [15, 16]), ([], []), ([18], [18]), ([19], [19]), ([], []), ([20, 21, 17], [20, 21]), ([], []), ([23], [23]), ([24], [24]), ([], []), ([25, 26, 22], [25, 26]), ([17, 22, 27], [17, 22, 27]), ([1, 5, 8, 10, 12, 28], [1, 5, 8, 10, 12, 28]), ([], []), ([30, 29, 27, 0, 1, 2, 3, 4, 5, 6, 7, 8, 9, 10, 11, 12, 13, 14, 15, 16, 17, 18, 19, 20, 21, 22, 23, 24, 25, 26, 27, 28, 29, 30], [29, 30])])
def newellaw20_CollectMirror.B4 : List Nat := [0, 1, 0, 0, 8, 28, 0, 64, 192, 0, 512, 0, 2048, 0, 8192, 24576, 0, 122880, 0, 262144, 786432, 0, 4186112, 0, 8388608, 25165824, 0, 134209536, 268427264, 536870911, 0, 2147483647]
theorem newellaw20_CollectMirror.tab4 : rtab .any (opsOf Try.f8 4) = newellaw20_CollectMirror.T4 := by kernel_rfl
theorem newellaw20_CollectMirror.bits4 : waitsOk newellaw20_CollectMirror.T4.2 newellaw20_CollectMirror.B4 = true := by kernel_rfl
set_option maxHeartbeats 8000000 in
set_option maxRecDepth 100000 in
theorem newellaw20_CollectMirror.calls (k : Nat) (a0_0 : Int) (a0_1 : Int) (a0_2 : Int) (a0_3 : Bool) (a0_4 : Bool) (A0_5 : Option Addr) (c0_5 : Nat) (l0_5 : List Int) (A0_6 : Option Addr) (c0_6 : Nat) (l0_6 : List Int) (A0_7 : Option Addr) (c0_7 : Nat) (l0_7 : List Int) (r : Bool) (w : World) (hr0_5 : Kd.C (Kd.int .i64) w A0_5 l0_5.length l0_5) (hc0_5 : l0_5.length ≤ c0_5) (hr0_6 : Kd.C (Kd.int .i64) w A0_6 l0_6.length l0_6) (hc0_6 : l0_6.length ≤ c0_6) (hr0_7 : Kd.C (Kd.int .i64) w A0_7 l0_7.length l0_7) (hc0_7 : l0_7.length ≤ c0_7) (h : newellaw20_CollectMirror.f k a0_0 a0_1 a0_2 a0_3 a0_4 l0_5 l0_6 l0_7 = some r) :
  Calls Try.prog 8 #[.agg #[.int .i64 a0_0, .int .i64 a0_1, .int .i64 a0_2, .bool a0_3, .bool a0_4, .slice A0_5 l0_5.length c0_5, .slice A0_6 l0_6.length c0_6, .slice A0_7 l0_7.length c0_7]] w fun e w' => e = .returned (.bool r) ∧ Below w.heap.size w w' := by
 have hu26 := Try.underlying26
 have hu24 := Try.underlying24
 have HR0_5 := Aside0.mk hr0_5
 have HC0_5 := Aside0.mk hc0_5
 clear hr0_5 hc0_5
 have HR0_6 := Aside0.mk hr0_6
 have HC0_6 := Aside0.mk hc0_6
 clear hr0_6 hc0_6
 have HR0_7 := Aside0.mk hr0_7
 have HC0_7 := Aside0.mk hc0_7
 clear hr0_7 hc0_7
 have HB := Aside0.mk (Below.refl w.heap.size w)
 have H : ((newellaw20_few.f l0_5 l0_6 l0_7).bind fun t388 => (if t388 = true then ((newellaw20_Own.f a0_0 a0_1 a0_2 a0_3 a0_4 l0_5 l0_6 l0_7).bind fun bt389 => ((collect_Check.f k bt389.1 bt389.2.1 bt389.2.2.1 bt389.2.2.2.1 bt389.2.2.2.2.1 bt389.2.2.2.2.2.1 bt389.2.2.2.2.2.2.1 bt389.2.2.2.2.2.2.2).bind fun t403 => (if t403 = 0 then (newellaw20_CollectMirror.j0 k (a0_2 == 0) a0_0 a0_1 a0_2 a0_3 a0_4 l0_5 l0_6 l0_7) else (newellaw20_CollectMirror.j0 k true a0_0 a0_1 a0_2 a0_3 a0_4 l0_5 l0_6 l0_7)))) else (newellaw20_CollectMirror.j0 k true a0_0 a0_1 a0_2 a0_3 a0_4 l0_5 l0_6 l0_7))) = some r := h
 clear h
 have HC2 := Aside0.mk H
 clear H
 go_enter Try.func8, Try.ntmps8
 go_upto_region 1 with (first | ((with_reducible refine gate_dst (N := 1) rfl ?_); refine box_event ?hg (N := 1) ?hd (cs := #[.int .i64 a0_0, .int .i64 a0_1, .int .i64 a0_2, .bool a0_3, .bool a0_4, .slice A0_5 l0_5.length c0_5, .slice A0_6 l0_6.length c0_6, .slice A0_7 l0_7.length c0_7]) (t := 26) ?hr ?_; (case hd => rfl); (case hg => rfl); (case hr => first | (go_simp; done) | (go_simp; rfl)); intro gb387 hg w3 hbox hb; have n0_ := Aside0.mk (below_step (by repeat (first | (with_reducible first | exact HB.out | apply below_alloc | apply pw_below_drewN | apply below_drew1) | exact HB.out)) hb); have n1_ := Aside0.mk (hbox); have n2_ := Aside0.mk ((by rw [hg]; exact (below_size (by repeat (first | (with_reducible first | exact HB.out | apply below_alloc | apply pw_below_drewN | apply below_drew1) | exact HB.out))) : w.heap.size ≤ gb387)); have n3_ := Aside0.mk ((by rw [hg]; exact (below_size (by repeat (first | (with_reducible first | exact HB.out | apply below_alloc | apply pw_below_drewN | apply below_drew1) | exact HB.out))) : w.heap.size ≤ gb387)); clear HB; have HB := n0_; have BK387 := n1_; have GW387 := n2_; have GE387 := n3_; clear n0_ n1_ n2_ n3_; clear hb hbox hg))
 (try simp only [Act.put, List.setIfInBounds_toArray, List.set_cons_zero, List.set_cons_succ])
 go_cut [25] (fun v25 wc => ∃ (kq : Nat) (x25_1 : Bool), v25 = .bool x25_1 ∧ Aside0 (newellaw20_CollectMirror.j0 kq x25_1 a0_0 a0_1 a0_2 a0_3 a0_4 l0_5 l0_6 l0_7 = some r) ∧ Aside0 (kq ≤ k) ∧ Aside0 (wc.heap[gb387]? = some (.cells #[.int .i64 a0_0, .int .i64 a0_1, .int .i64 a0_2, .bool a0_3, .bool a0_4, (.slice A0_5 l0_5.length c0_5), (.slice A0_6 l0_6.length c0_6), (.slice A0_7 l0_7.length c0_7)] 26 (0, 0))) ∧ Aside0 (Below w.heap.size w wc))
 case first =>
  have H := HC2.out
  clear HC2
  replace H := Option.bind_eq_some_iff.mp H
  obtain ⟨t388, A40, H⟩ := H
  replace H : (if t388 = true then ((newellaw20_Own.f a0_0 a0_1 a0_2 a0_3 a0_4 l0_5 l0_6 l0_7).bind fun bt389 => ((collect_Check.f k bt389.1 bt389.2.1 bt389.2.2.1 bt389.2.2.2.1 bt389.2.2.2.2.1 bt389.2.2.2.2.2.1 bt389.2.2.2.2.2.2.1 bt389.2.2.2.2.2.2.2).bind fun t403 => (if t403 = 0 then (newellaw20_CollectMirror.j0 k (a0_2 == 0) a0_0 a0_1 a0_2 a0_3 a0_4 l0_5 l0_6 l0_7) else (newellaw20_CollectMirror.j0 k true a0_0 a0_1 a0_2 a0_3 a0_4 l0_5 l0_6 l0_7)))) else (newellaw20_CollectMirror.j0 k true a0_0 a0_1 a0_2 a0_3 a0_4 l0_5 l0_6 l0_7)) = some r := H
  have A4 := Aside0.mk A40
  clear A40
  by_cases c5 : t388 = true
  ·subst c5
   have H1 : ((newellaw20_Own.f a0_0 a0_1 a0_2 a0_3 a0_4 l0_5 l0_6 l0_7).bind fun bt389 => ((collect_Check.f k bt389.1 bt389.2.1 bt389.2.2.1 bt389.2.2.2.1 bt389.2.2.2.2.1 bt389.2.2.2.2.2.1 bt389.2.2.2.2.2.2.1 bt389.2.2.2.2.2.2.2).bind fun t403 => (if t403 = 0 then (newellaw20_CollectMirror.j0 k (a0_2 == 0) a0_0 a0_1 a0_2 a0_3 a0_4 l0_5 l0_6 l0_7) else (newellaw20_CollectMirror.j0 k true a0_0 a0_1 a0_2 a0_3 a0_4 l0_5 l0_6 l0_7)))) = some r := by rw [if_pos rfl] at H; exact H
   clear H
   have H := H1
   clear H1
   replace H := Option.bind_eq_some_iff.mp H
   obtain ⟨⟨t389, t390, t391, t392, t393, t394, t397, t400⟩, A60, H⟩ := H
   replace H : ((collect_Check.f k t389 t390 t391 t392 t393 t394 t397 t400).bind fun t403 => (if t403 = 0 then (newellaw20_CollectMirror.j0 k (a0_2 == 0) a0_0 a0_1 a0_2 a0_3 a0_4 l0_5 l0_6 l0_7) else (newellaw20_CollectMirror.j0 k true a0_0 a0_1 a0_2 a0_3 a0_4 l0_5 l0_6 l0_7))) = some r := H
   have A6 := Aside0.mk A60
   clear A60
   replace H := Option.bind_eq_some_iff.mp H
   obtain ⟨t403, A70, H⟩ := H
   replace H : (if t403 = 0 then (newellaw20_CollectMirror.j0 k (a0_2 == 0) a0_0 a0_1 a0_2 a0_3 a0_4 l0_5 l0_6 l0_7) else (newellaw20_CollectMirror.j0 k true a0_0 a0_1 a0_2 a0_3 a0_4 l0_5 l0_6 l0_7)) = some r := H
   have A7 := Aside0.mk A70
   clear A70
   by_cases c8 : t403 = 0
   ·rw [if_pos c8] at H
    have c8b0 : (t403 == 0) = true := beq_iff_eq.mpr c8
    have c8b1 : (t403 != 0) = false := bne_eq_false_iff_eq.mpr c8
    clear c8
    (first | rw [c8b0] | (simp only [i64_w, i32_w]; rw [c8b0]) | skip)
    have H' := Aside0.mk H
    clear H
    have hcz9_0 : w3.cell? ⟨gb387, 0, none⟩ = some (.int .i64 a0_0) := (blk_cell BK387.out 0).trans rfl
    have hcz9_1 : w3.cell? ⟨gb387, 1, none⟩ = some (.int .i64 a0_1) := (blk_cell BK387.out 1).trans rfl
    have hcz9_2 : w3.cell? ⟨gb387, 2, none⟩ = some (.int .i64 a0_2) := (blk_cell BK387.out 2).trans rfl
    have hcz9_3 : w3.cell? ⟨gb387, 3, none⟩ = some (.bool a0_3) := (blk_cell BK387.out 3).trans rfl
    have hcz9_4 : w3.cell? ⟨gb387, 4, none⟩ = some (.bool a0_4) := (blk_cell BK387.out 4).trans rfl
    have hcz9_5 : w3.cell? ⟨gb387, 5, none⟩ = some (.slice A0_5 l0_5.length c0_5) := (blk_cell BK387.out 5).trans rfl
    have hcz9_6 : w3.cell? ⟨gb387, 6, none⟩ = some (.slice A0_6 l0_6.length c0_6) := (blk_cell BK387.out 6).trans rfl
    have hcz9_7 : w3.cell? ⟨gb387, 7, none⟩ = some (.slice A0_7 l0_7.length c0_7) := (blk_cell BK387.out 7).trans rfl
    have hfz9_0 := blk_frozen BK387.out 0
    have hfz9_1 := blk_frozen BK387.out 1
    have hfz9_2 := blk_frozen BK387.out 2
    have hfz9_3 := blk_frozen BK387.out 3
    have hfz9_4 := blk_frozen BK387.out 4
    have hfz9_5 := blk_frozen BK387.out 5
    have hfz9_6 := blk_frozen BK387.out 6
    have hfz9_7 := blk_frozen BK387.out 7
    go_wp2_with (first | ((with_reducible refine gate_callee (f := 9) rfl ?_); refine goesL_ (some 13) rfl rfl Try.func9 (by kernel_rfl) rfl #[.agg #[.slice A0_5 l0_5.length c0_5, .slice A0_6 l0_6.length c0_6, .slice A0_7 l0_7.length c0_7]] rfl (by (try simp only [List.map_toArray, List.map_cons, List.map_nil]); first | done | rfl | (simp only [List.length_drop, List.length_take]; rfl)) ?_; (with_reducible refine (newellaw20_few.calls _ _ l0_5 _ _ l0_6 _ _ l0_7 true _ ?side1 ?side2 ?side3 ?side4 ?side5 ?side6 A4.out).mono ?_); (case side1 => repeat (first | exact (Kd.C_below HR0_5.out HB.out) | (with_reducible refine Kd.C_alloc ?_ _) | (with_reducible refine Kd.C_drewN ?_ _) | (with_reducible refine Kd.C_drew ?_))); (case side2 => exact HC0_5.out); (case side3 => repeat (first | exact (Kd.C_below HR0_6.out HB.out) | (with_reducible refine Kd.C_alloc ?_ _) | (with_reducible refine Kd.C_drewN ?_ _) | (with_reducible refine Kd.C_drew ?_))); (case side4 => exact HC0_6.out); (case side5 => repeat (first | exact (Kd.C_below HR0_7.out HB.out) | (with_reducible refine Kd.C_alloc ?_ _) | (with_reducible refine Kd.C_drewN ?_ _) | (with_reducible refine Kd.C_drew ?_))); (case side6 => exact HC0_7.out); rintro e w10 ⟨rfl, hb⟩; refine ⟨_, rfl, ?_⟩; have n0_ := Aside0.mk (blk_below (g := gb387) (o := .cells #[.int .i64 a0_0, .int .i64 a0_1, .int .i64 a0_2, .bool a0_3, .bool a0_4, .slice A0_5 l0_5.length c0_5, .slice A0_6 l0_6.length c0_6, .slice A0_7 l0_7.length c0_7] 26 (0, 0)) (by (with_reducible repeat (first | refine blk_drewN ?_ _ | refine blk_drew ?_ | refine blk_alloc ?_ _)); exact BK387.out) hb); have n1_ := Aside0.mk (below_step (by repeat (first | (with_reducible first | exact HB.out | apply below_alloc | apply pw_below_drewN | apply below_drew1 | refine below_set ?_ GE387.out) | exact HB.out)) hb); clear BK387; clear HB; have BK387 := n0_; have HB := n1_; clear n0_ n1_; (try clear hb); (try clear hb2); (try clear hk); (try clear hi); have hcz11_0 : w10.cell? ⟨gb387, 0, none⟩ = some (.int .i64 a0_0) := (blk_cell BK387.out 0).trans rfl; have hcz11_1 : w10.cell? ⟨gb387, 1, none⟩ = some (.int .i64 a0_1) := (blk_cell BK387.out 1).trans rfl; have hcz11_2 : w10.cell? ⟨gb387, 2, none⟩ = some (.int .i64 a0_2) := (blk_cell BK387.out 2).trans rfl; have hcz11_3 : w10.cell? ⟨gb387, 3, none⟩ = some (.bool a0_3) := (blk_cell BK387.out 3).trans rfl; have hcz11_4 : w10.cell? ⟨gb387, 4, none⟩ = some (.bool a0_4) := (blk_cell BK387.out 4).trans rfl; have hcz11_5 : w10.cell? ⟨gb387, 5, none⟩ = some (.slice A0_5 l0_5.length c0_5) := (blk_cell BK387.out 5).trans rfl; have hcz11_6 : w10.cell? ⟨gb387, 6, none⟩ = some (.slice A0_6 l0_6.length c0_6) := (blk_cell BK387.out 6).trans rfl; have hcz11_7 : w10.cell? ⟨gb387, 7, none⟩ = some (.slice A0_7 l0_7.length c0_7) := (blk_cell BK387.out 7).trans rfl; have hfz11_0 := blk_frozen BK387.out 0; have hfz11_1 := blk_frozen BK387.out 1; have hfz11_2 := blk_frozen BK387.out 2; have hfz11_3 := blk_frozen BK387.out 3; have hfz11_4 := blk_frozen BK387.out 4; have hfz11_5 := blk_frozen BK387.out 5; have hfz11_6 := blk_frozen BK387.out 6; have hfz11_7 := blk_frozen BK387.out 7) | (go_at_call 12; (with_reducible refine (newellaw20_Own.calls a0_0 a0_1 a0_2 a0_3 a0_4 _ _ l0_5 _ _ l0_6 _ _ l0_7 t389 t390 t391 t392 t393 t394 t397 t400 _ ?side1 ?side2 ?side3 ?side4 ?side5 ?side6 A6.out).mono ?_); (case side1 => repeat (first | exact (Kd.C_below HR0_5.out HB.out) | (with_reducible refine Kd.C_alloc ?_ _) | (with_reducible refine Kd.C_drewN ?_ _) | (with_reducible refine Kd.C_drew ?_))); (case side2 => exact HC0_5.out); (case side3 => repeat (first | exact (Kd.C_below HR0_6.out HB.out) | (with_reducible refine Kd.C_alloc ?_ _) | (with_reducible refine Kd.C_drewN ?_ _) | (with_reducible refine Kd.C_drew ?_))); (case side4 => exact HC0_6.out); (case side5 => repeat (first | exact (Kd.C_below HR0_7.out HB.out) | (with_reducible refine Kd.C_alloc ?_ _) | (with_reducible refine Kd.C_drewN ?_ _) | (with_reducible refine Kd.C_drew ?_))); (case side6 => exact HC0_7.out); rintro e w12 ⟨v395, v398, v401, rfl, ho0, ho1, ho2, hb⟩; have n0_ := Aside0.mk (Kd.R_lower ho0 (below_size (by repeat (first | (with_reducible first | exact HB.out | apply below_alloc | apply pw_below_drewN | apply below_drew1 | refine below_set ?_ GE387.out) | exact HB.out)))); have n1_ := Aside0.mk (Kd.R_lower ho1 (below_size (by repeat (first | (with_reducible first | exact HB.out | apply below_alloc | apply pw_below_drewN | apply below_drew1 | refine below_set ?_ GE387.out) | exact HB.out)))); have n2_ := Aside0.mk (Kd.R_lower ho2 (below_size (by repeat (first | (with_reducible first | exact HB.out | apply below_alloc | apply pw_below_drewN | apply below_drew1 | refine below_set ?_ GE387.out) | exact HB.out)))); have n3_ := Aside0.mk (blk_below (g := gb387) (o := .cells #[.int .i64 a0_0, .int .i64 a0_1, .int .i64 a0_2, .bool a0_3, .bool a0_4, .slice A0_5 l0_5.length c0_5, .slice A0_6 l0_6.length c0_6, .slice A0_7 l0_7.length c0_7] 26 (0, 0)) (by (with_reducible repeat (first | refine blk_drewN ?_ _ | refine blk_drew ?_ | refine blk_alloc ?_ _)); exact BK387.out) hb); have n4_ := Aside0.mk (below_step (by repeat (first | (with_reducible first | exact HB.out | apply below_alloc | apply pw_below_drewN | apply below_drew1 | refine below_set ?_ GE387.out) | exact HB.out)) hb); clear BK387; clear HB; have HO396 := n0_; have HO399 := n1_; have HO402 := n2_; have BK387 := n3_; have HB := n4_; clear n0_ n1_ n2_ n3_ n4_; (try clear hb); (try clear hb2); (try clear hk); (try clear hi); (try clear ho0); (try clear ho1); (try clear ho2); obtain ⟨Ao13, co13, eo13⟩ := Kd.R_slice HO396.out; subst eo13; obtain ⟨Ao14, co14, eo14⟩ := Kd.R_slice HO399.out; subst eo14; obtain ⟨Ao15, co15, eo15⟩ := Kd.R_slice HO402.out; subst eo15) | (go_at_call 16; (with_reducible refine (collect_Check.calls k t389 t390 t391 t392 t393 (fun k_ => some k_ = (.slice Ao13 t394.length co13 : Value).ownBlock) _ _ t394 (fun k_ => some k_ = (.slice Ao14 t397.length co14 : Value).ownBlock) _ _ t397 (fun k_ => some k_ = (.slice Ao15 t400.length co15 : Value).ownBlock) _ _ t400 t403 _ ?side1 ?side2 ?side3 A7.out).mono ?_); (case side1 => exact Kd.R_V (Kd.R_tight rfl (Kd.R_types (HO396.out) BK387.out (by decide)))); (case side2 => exact Kd.R_V (Kd.R_tight rfl (Kd.R_types (HO399.out) BK387.out (by decide)))); (case side3 => exact Kd.R_V (Kd.R_tight rfl (Kd.R_types (HO402.out) BK387.out (by decide)))); rintro e w16 ⟨rfl, hb⟩; have n0_ := Aside0.mk (Kd.R_below (by (with_reducible repeat (first | apply Kd.R_alloc | apply Kd.R_drewN | apply Kd.R_drew)); exact HO396.out) hb); have n1_ := Aside0.mk (Kd.R_below (by (with_reducible repeat (first | apply Kd.R_alloc | apply Kd.R_drewN | apply Kd.R_drew)); exact HO399.out) hb); have n2_ := Aside0.mk (Kd.R_below (by (with_reducible repeat (first | apply Kd.R_alloc | apply Kd.R_drewN | apply Kd.R_drew)); exact HO402.out) hb); have n3_ := Aside0.mk (blk_below (g := gb387) (o := .cells #[.int .i64 a0_0, .int .i64 a0_1, .int .i64 a0_2, .bool a0_3, .bool a0_4, .slice A0_5 l0_5.length c0_5, .slice A0_6 l0_6.length c0_6, .slice A0_7 l0_7.length c0_7] 26 (0, 0)) (by (with_reducible repeat (first | refine blk_drewN ?_ _ | refine blk_drew ?_ | refine blk_alloc ?_ _)); exact BK387.out) hb); have n4_ := Aside0.mk (below_step (by repeat (first | (with_reducible first | exact HB.out | apply below_alloc | apply pw_below_drewN | apply below_drew1 | refine below_set ?_ GE387.out) | exact HB.out)) hb); clear HO396; clear HO399; clear HO402; clear BK387; clear HB; have HO396 := n0_; have HO399 := n1_; have HO402 := n2_; have BK387 := n3_; have HB := n4_; clear n0_ n1_ n2_ n3_ n4_; (try clear hb); (try clear hb2); (try clear hk); (try clear hi); have hcz17_0 : w16.cell? ⟨gb387, 0, none⟩ = some (.int .i64 a0_0) := (blk_cell BK387.out 0).trans rfl; have hcz17_1 : w16.cell? ⟨gb387, 1, none⟩ = some (.int .i64 a0_1) := (blk_cell BK387.out 1).trans rfl; have hcz17_2 : w16.cell? ⟨gb387, 2, none⟩ = some (.int .i64 a0_2) := (blk_cell BK387.out 2).trans rfl; have hcz17_3 : w16.cell? ⟨gb387, 3, none⟩ = some (.bool a0_3) := (blk_cell BK387.out 3).trans rfl; have hcz17_4 : w16.cell? ⟨gb387, 4, none⟩ = some (.bool a0_4) := (blk_cell BK387.out 4).trans rfl; have hcz17_5 : w16.cell? ⟨gb387, 5, none⟩ = some (.slice A0_5 l0_5.length c0_5) := (blk_cell BK387.out 5).trans rfl; have hcz17_6 : w16.cell? ⟨gb387, 6, none⟩ = some (.slice A0_6 l0_6.length c0_6) := (blk_cell BK387.out 6).trans rfl; have hcz17_7 : w16.cell? ⟨gb387, 7, none⟩ = some (.slice A0_7 l0_7.length c0_7) := (blk_cell BK387.out 7).trans rfl; have hfz17_0 := blk_frozen BK387.out 0; have hfz17_1 := blk_frozen BK387.out 1; have hfz17_2 := blk_frozen BK387.out 2; have hfz17_3 := blk_frozen BK387.out 3; have hfz17_4 := blk_frozen BK387.out 4; have hfz17_5 := blk_frozen BK387.out 5; have hfz17_6 := blk_frozen BK387.out 6; have hfz17_7 := blk_frozen BK387.out 7))
    go_meet
    case rel => exact ⟨_, ((a0_2 == 0)), (by first | rfl | (simp; done) | (simp [*]; done)), H', ⟨by first | omega | exact Nat.le_refl _⟩, ⟨by (with_reducible repeat (first | refine blk_drewN ?_ _ | refine blk_drew ?_ | refine blk_alloc ?_ _)); exact BK387.out⟩, ⟨by repeat (first | (with_reducible first | exact HB.out | apply below_alloc | apply pw_below_drewN | apply below_drew1 | refine below_set ?_ GE387.out) | exact HB.out)⟩⟩
   ·rw [if_neg c8] at H
    have c8b0 : (t403 == 0) = false := beq_eq_false_iff_ne.mpr c8
    have c8b1 : (t403 != 0) = true := bne_iff_ne.mpr c8
    (first | rw [c8b0] | (simp only [i64_w, i32_w]; rw [c8b0]) | skip)
    have H' := Aside0.mk H
    clear H
    have hcz18_0 : w3.cell? ⟨gb387, 0, none⟩ = some (.int .i64 a0_0) := (blk_cell BK387.out 0).trans rfl
    have hcz18_1 : w3.cell? ⟨gb387, 1, none⟩ = some (.int .i64 a0_1) := (blk_cell BK387.out 1).trans rfl
    have hcz18_2 : w3.cell? ⟨gb387, 2, none⟩ = some (.int .i64 a0_2) := (blk_cell BK387.out 2).trans rfl
    have hcz18_3 : w3.cell? ⟨gb387, 3, none⟩ = some (.bool a0_3) := (blk_cell BK387.out 3).trans rfl
    have hcz18_4 : w3.cell? ⟨gb387, 4, none⟩ = some (.bool a0_4) := (blk_cell BK387.out 4).trans rfl
    have hcz18_5 : w3.cell? ⟨gb387, 5, none⟩ = some (.slice A0_5 l0_5.length c0_5) := (blk_cell BK387.out 5).trans rfl
    have hcz18_6 : w3.cell? ⟨gb387, 6, none⟩ = some (.slice A0_6 l0_6.length c0_6) := (blk_cell BK387.out 6).trans rfl
    have hcz18_7 : w3.cell? ⟨gb387, 7, none⟩ = some (.slice A0_7 l0_7.length c0_7) := (blk_cell BK387.out 7).trans rfl
    have hfz18_0 := blk_frozen BK387.out 0
    have hfz18_1 := blk_frozen BK387.out 1
    have hfz18_2 := blk_frozen BK387.out 2
    have hfz18_3 := blk_frozen BK387.out 3
    have hfz18_4 := blk_frozen BK387.out 4
    have hfz18_5 := blk_frozen BK387.out 5
    have hfz18_6 := blk_frozen BK387.out 6
    have hfz18_7 := blk_frozen BK387.out 7
    go_wp2_with (first | ((with_reducible refine gate_callee (f := 9) rfl ?_); refine goesL_ (some 13) rfl rfl Try.func9 (by kernel_rfl) rfl #[.agg #[.slice A0_5 l0_5.length c0_5, .slice A0_6 l0_6.length c0_6, .slice A0_7 l0_7.length c0_7]] rfl (by (try simp only [List.map_toArray, List.map_cons, List.map_nil]); first | done | rfl | (simp only [List.length_drop, List.length_take]; rfl)) ?_; (with_reducible refine (newellaw20_few.calls _ _ l0_5 _ _ l0_6 _ _ l0_7 true _ ?side1 ?side2 ?side3 ?side4 ?side5 ?side6 A4.out).mono ?_); (case side1 => repeat (first | exact (Kd.C_below HR0_5.out HB.out) | (with_reducible refine Kd.C_alloc ?_ _) | (with_reducible refine Kd.C_drewN ?_ _) | (with_reducible refine Kd.C_drew ?_))); (case side2 => exact HC0_5.out); (case side3 => repeat (first | exact (Kd.C_below HR0_6.out HB.out) | (with_reducible refine Kd.C_alloc ?_ _) | (with_reducible refine Kd.C_drewN ?_ _) | (with_reducible refine Kd.C_drew ?_))); (case side4 => exact HC0_6.out); (case side5 => repeat (first | exact (Kd.C_below HR0_7.out HB.out) | (with_reducible refine Kd.C_alloc ?_ _) | (with_reducible refine Kd.C_drewN ?_ _) | (with_reducible refine Kd.C_drew ?_))); (case side6 => exact HC0_7.out); rintro e w19 ⟨rfl, hb⟩; refine ⟨_, rfl, ?_⟩; have n0_ := Aside0.mk (blk_below (g := gb387) (o := .cells #[.int .i64 a0_0, .int .i64 a0_1, .int .i64 a0_2, .bool a0_3, .bool a0_4, .slice A0_5 l0_5.length c0_5, .slice A0_6 l0_6.length c0_6, .slice A0_7 l0_7.length c0_7] 26 (0, 0)) (by (with_reducible repeat (first | refine blk_drewN ?_ _ | refine blk_drew ?_ | refine blk_alloc ?_ _)); exact BK387.out) hb); have n1_ := Aside0.mk (below_step (by repeat (first | (with_reducible first | exact HB.out | apply below_alloc | apply pw_below_drewN | apply below_drew1 | refine below_set ?_ GE387.out) | exact HB.out)) hb); clear BK387; clear HB; have BK387 := n0_; have HB := n1_; clear n0_ n1_; (try clear hb); (try clear hb2); (try clear hk); (try clear hi); have hcz20_0 : w19.cell? ⟨gb387, 0, none⟩ = some (.int .i64 a0_0) := (blk_cell BK387.out 0).trans rfl; have hcz20_1 : w19.cell? ⟨gb387, 1, none⟩ = some (.int .i64 a0_1) := (blk_cell BK387.out 1).trans rfl; have hcz20_2 : w19.cell? ⟨gb387, 2, none⟩ = some (.int .i64 a0_2) := (blk_cell BK387.out 2).trans rfl; have hcz20_3 : w19.cell? ⟨gb387, 3, none⟩ = some (.bool a0_3) := (blk_cell BK387.out 3).trans rfl; have hcz20_4 : w19.cell? ⟨gb387, 4, none⟩ = some (.bool a0_4) := (blk_cell BK387.out 4).trans rfl; have hcz20_5 : w19.cell? ⟨gb387, 5, none⟩ = some (.slice A0_5 l0_5.length c0_5) := (blk_cell BK387.out 5).trans rfl; have hcz20_6 : w19.cell? ⟨gb387, 6, none⟩ = some (.slice A0_6 l0_6.length c0_6) := (blk_cell BK387.out 6).trans rfl; have hcz20_7 : w19.cell? ⟨gb387, 7, none⟩ = some (.slice A0_7 l0_7.length c0_7) := (blk_cell BK387.out 7).trans rfl; have hfz20_0 := blk_frozen BK387.out 0; have hfz20_1 := blk_frozen BK387.out 1; have hfz20_2 := blk_frozen BK387.out 2; have hfz20_3 := blk_frozen BK387.out 3; have hfz20_4 := blk_frozen BK387.out 4; have hfz20_5 := blk_frozen BK387.out 5; have hfz20_6 := blk_frozen BK387.out 6; have hfz20_7 := blk_frozen BK387.out 7) | (go_at_call 12; (with_reducible refine (newellaw20_Own.calls a0_0 a0_1 a0_2 a0_3 a0_4 _ _ l0_5 _ _ l0_6 _ _ l0_7 t389 t390 t391 t392 t393 t394 t397 t400 _ ?side1 ?side2 ?side3 ?side4 ?side5 ?side6 A6.out).mono ?_); (case side1 => repeat (first | exact (Kd.C_below HR0_5.out HB.out) | (with_reducible refine Kd.C_alloc ?_ _) | (with_reducible refine Kd.C_drewN ?_ _) | (with_reducible refine Kd.C_drew ?_))); (case side2 => exact HC0_5.out); (case side3 => repeat (first | exact (Kd.C_below HR0_6.out HB.out) | (with_reducible refine Kd.C_alloc ?_ _) | (with_reducible refine Kd.C_drewN ?_ _) | (with_reducible refine Kd.C_drew ?_))); (case side4 => exact HC0_6.out); (case side5 => repeat (first | exact (Kd.C_below HR0_7.out HB.out) | (with_reducible refine Kd.C_alloc ?_ _) | (with_reducible refine Kd.C_drewN ?_ _) | (with_reducible refine Kd.C_drew ?_))); (case side6 => exact HC0_7.out); rintro e w21 ⟨v395, v398, v401, rfl, ho0, ho1, ho2, hb⟩; have n0_ := Aside0.mk (Kd.R_lower ho0 (below_size (by repeat (first | (with_reducible first | exact HB.out | apply below_alloc | apply pw_below_drewN | apply below_drew1 | refine below_set ?_ GE387.out) | exact HB.out)))); have n1_ := Aside0.mk (Kd.R_lower ho1 (below_size (by repeat (first | (with_reducible first | exact HB.out | apply below_alloc | apply pw_below_drewN | apply below_drew1 | refine below_set ?_ GE387.out) | exact HB.out)))); have n2_ := Aside0.mk (Kd.R_lower ho2 (below_size (by repeat (first | (with_reducible first | exact HB.out | apply below_alloc | apply pw_below_drewN | apply below_drew1 | refine below_set ?_ GE387.out) | exact HB.out)))); have n3_ := Aside0.mk (blk_below (g := gb387) (o := .cells #[.int .i64 a0_0, .int .i64 a0_1, .int .i64 a0_2, .bool a0_3, .bool a0_4, .slice A0_5 l0_5.length c0_5, .slice A0_6 l0_6.length c0_6, .slice A0_7 l0_7.length c0_7] 26 (0, 0)) (by (with_reducible repeat (first | refine blk_drewN ?_ _ | refine blk_drew ?_ | refine blk_alloc ?_ _)); exact BK387.out) hb); have n4_ := Aside0.mk (below_step (by repeat (first | (with_reducible first | exact HB.out | apply below_alloc | apply pw_below_drewN | apply below_drew1 | refine below_set ?_ GE387.out) | exact HB.out)) hb); clear BK387; clear HB; have HO396 := n0_; have HO399 := n1_; have HO402 := n2_; have BK387 := n3_; have HB := n4_; clear n0_ n1_ n2_ n3_ n4_; (try clear hb); (try clear hb2); (try clear hk); (try clear hi); (try clear ho0); (try clear ho1); (try clear ho2); obtain ⟨Ao22, co22, eo22⟩ := Kd.R_slice HO396.out; subst eo22; obtain ⟨Ao23, co23, eo23⟩ := Kd.R_slice HO399.out; subst eo23; obtain ⟨Ao24, co24, eo24⟩ := Kd.R_slice HO402.out; subst eo24) | (go_at_call 16; (with_reducible refine (collect_Check.calls k t389 t390 t391 t392 t393 (fun k_ => some k_ = (.slice Ao22 t394.length co22 : Value).ownBlock) _ _ t394 (fun k_ => some k_ = (.slice Ao23 t397.length co23 : Value).ownBlock) _ _ t397 (fun k_ => some k_ = (.slice Ao24 t400.length co24 : Value).ownBlock) _ _ t400 t403 _ ?side1 ?side2 ?side3 A7.out).mono ?_); (case side1 => exact Kd.R_V (Kd.R_tight rfl (Kd.R_types (HO396.out) BK387.out (by decide)))); (case side2 => exact Kd.R_V (Kd.R_tight rfl (Kd.R_types (HO399.out) BK387.out (by decide)))); (case side3 => exact Kd.R_V (Kd.R_tight rfl (Kd.R_types (HO402.out) BK387.out (by decide)))); rintro e w25 ⟨rfl, hb⟩; have n0_ := Aside0.mk (Kd.R_below (by (with_reducible repeat (first | apply Kd.R_alloc | apply Kd.R_drewN | apply Kd.R_drew)); exact HO396.out) hb); have n1_ := Aside0.mk (Kd.R_below (by (with_reducible repeat (first | apply Kd.R_alloc | apply Kd.R_drewN | apply Kd.R_drew)); exact HO399.out) hb); have n2_ := Aside0.mk (Kd.R_below (by (with_reducible repeat (first | apply Kd.R_alloc | apply Kd.R_drewN | apply Kd.R_drew)); exact HO402.out) hb); have n3_ := Aside0.mk (blk_below (g := gb387) (o := .cells #[.int .i64 a0_0, .int .i64 a0_1, .int .i64 a0_2, .bool a0_3, .bool a0_4, .slice A0_5 l0_5.length c0_5, .slice A0_6 l0_6.length c0_6, .slice A0_7 l0_7.length c0_7] 26 (0, 0)) (by (with_reducible repeat (first | refine blk_drewN ?_ _ | refine blk_drew ?_ | refine blk_alloc ?_ _)); exact BK387.out) hb); have n4_ := Aside0.mk (below_step (by repeat (first | (with_reducible first | exact HB.out | apply below_alloc | apply pw_below_drewN | apply below_drew1 | refine below_set ?_ GE387.out) | exact HB.out)) hb); clear HO396; clear HO399; clear HO402; clear BK387; clear HB; have HO396 := n0_; have HO399 := n1_; have HO402 := n2_; have BK387 := n3_; have HB := n4_; clear n0_ n1_ n2_ n3_ n4_; (try clear hb); (try clear hb2); (try clear hk); (try clear hi)))
    go_meet
    case rel => exact ⟨_, (true), (by first | rfl | (simp; done) | (simp [*]; done)), H', ⟨by first | omega | exact Nat.le_refl _⟩, ⟨by (with_reducible repeat (first | refine blk_drewN ?_ _ | refine blk_drew ?_ | refine blk_alloc ?_ _)); exact BK387.out⟩, ⟨by repeat (first | (with_reducible first | exact HB.out | apply below_alloc | apply pw_below_drewN | apply below_drew1 | refine below_set ?_ GE387.out) | exact HB.out)⟩⟩
  ·replace c5 := Bool.eq_false_iff.mpr c5
   subst c5
   have H1 : (newellaw20_CollectMirror.j0 k true a0_0 a0_1 a0_2 a0_3 a0_4 l0_5 l0_6 l0_7) = some r := by rw [if_neg (show ¬ (false = true) by decide)] at H; exact H
   clear H
   have H := H1
   clear H1
   have H' := Aside0.mk H
   clear H
   have hcz26_0 : w3.cell? ⟨gb387, 0, none⟩ = some (.int .i64 a0_0) := (blk_cell BK387.out 0).trans rfl
   have hcz26_1 : w3.cell? ⟨gb387, 1, none⟩ = some (.int .i64 a0_1) := (blk_cell BK387.out 1).trans rfl
   have hcz26_2 : w3.cell? ⟨gb387, 2, none⟩ = some (.int .i64 a0_2) := (blk_cell BK387.out 2).trans rfl
   have hcz26_3 : w3.cell? ⟨gb387, 3, none⟩ = some (.bool a0_3) := (blk_cell BK387.out 3).trans rfl
   have hcz26_4 : w3.cell? ⟨gb387, 4, none⟩ = some (.bool a0_4) := (blk_cell BK387.out 4).trans rfl
   have hcz26_5 : w3.cell? ⟨gb387, 5, none⟩ = some (.slice A0_5 l0_5.length c0_5) := (blk_cell BK387.out 5).trans rfl
   have hcz26_6 : w3.cell? ⟨gb387, 6, none⟩ = some (.slice A0_6 l0_6.length c0_6) := (blk_cell BK387.out 6).trans rfl
   have hcz26_7 : w3.cell? ⟨gb387, 7, none⟩ = some (.slice A0_7 l0_7.length c0_7) := (blk_cell BK387.out 7).trans rfl
   have hfz26_0 := blk_frozen BK387.out 0
   have hfz26_1 := blk_frozen BK387.out 1
   have hfz26_2 := blk_frozen BK387.out 2
   have hfz26_3 := blk_frozen BK387.out 3
   have hfz26_4 := blk_frozen BK387.out 4
   have hfz26_5 := blk_frozen BK387.out 5
   have hfz26_6 := blk_frozen BK387.out 6
   have hfz26_7 := blk_frozen BK387.out 7
   go_wp2_with (first | ((with_reducible refine gate_callee (f := 9) rfl ?_); refine goesL_ (some 13) rfl rfl Try.func9 (by kernel_rfl) rfl #[.agg #[.slice A0_5 l0_5.length c0_5, .slice A0_6 l0_6.length c0_6, .slice A0_7 l0_7.length c0_7]] rfl (by (try simp only [List.map_toArray, List.map_cons, List.map_nil]); first | done | rfl | (simp only [List.length_drop, List.length_take]; rfl)) ?_; (with_reducible refine (newellaw20_few.calls _ _ l0_5 _ _ l0_6 _ _ l0_7 false _ ?side1 ?side2 ?side3 ?side4 ?side5 ?side6 A4.out).mono ?_); (case side1 => repeat (first | exact (Kd.C_below HR0_5.out HB.out) | (with_reducible refine Kd.C_alloc ?_ _) | (with_reducible refine Kd.C_drewN ?_ _) | (with_reducible refine Kd.C_drew ?_))); (case side2 => exact HC0_5.out); (case side3 => repeat (first | exact (Kd.C_below HR0_6.out HB.out) | (with_reducible refine Kd.C_alloc ?_ _) | (with_reducible refine Kd.C_drewN ?_ _) | (with_reducible refine Kd.C_drew ?_))); (case side4 => exact HC0_6.out); (case side5 => repeat (first | exact (Kd.C_below HR0_7.out HB.out) | (with_reducible refine Kd.C_alloc ?_ _) | (with_reducible refine Kd.C_drewN ?_ _) | (with_reducible refine Kd.C_drew ?_))); (case side6 => exact HC0_7.out); rintro e w27 ⟨rfl, hb⟩; refine ⟨_, rfl, ?_⟩; have n0_ := Aside0.mk (blk_below (g := gb387) (o := .cells #[.int .i64 a0_0, .int .i64 a0_1, .int .i64 a0_2, .bool a0_3, .bool a0_4, .slice A0_5 l0_5.length c0_5, .slice A0_6 l0_6.length c0_6, .slice A0_7 l0_7.length c0_7] 26 (0, 0)) (by (with_reducible repeat (first | refine blk_drewN ?_ _ | refine blk_drew ?_ | refine blk_alloc ?_ _)); exact BK387.out) hb); have n1_ := Aside0.mk (below_step (by repeat (first | (with_reducible first | exact HB.out | apply below_alloc | apply pw_below_drewN | apply below_drew1 | refine below_set ?_ GE387.out) | exact HB.out)) hb); clear BK387; clear HB; have BK387 := n0_; have HB := n1_; clear n0_ n1_; (try clear hb); (try clear hb2); (try clear hk); (try clear hi)))
   go_meet
   case rel => exact ⟨_, (true), (by first | rfl | (simp; done) | (simp [*]; done)), H', ⟨by first | omega | exact Nat.le_refl _⟩, ⟨by (with_reducible repeat (first | refine blk_drewN ?_ _ | refine blk_drew ?_ | refine blk_alloc ?_ _)); exact BK387.out⟩, ⟨by repeat (first | (with_reducible first | exact HB.out | apply below_alloc | apply pw_below_drewN | apply below_drew1 | refine below_set ?_ GE387.out) | exact HB.out)⟩⟩
 case rest =>
  clear HC2
  try clear p2
  try clear c5
  try clear c8
  try clear c8b0
  try clear c8b1
  try clear c9
  try clear hcz11_0
  try clear hcz11_1
  try clear hcz11_2
  try clear hcz11_3
  try clear hcz11_4
  try clear hcz11_5
  try clear hcz11_6
  try clear hcz11_7
  try clear hcz17_0
  try clear hcz17_1
  try clear hcz17_2
  try clear hcz17_3
  try clear hcz17_4
  try clear hcz17_5
  try clear hcz17_6
  try clear hcz17_7
  try clear hcz18_0
  try clear hcz18_1
  try clear hcz18_2
  try clear hcz18_3
  try clear hcz18_4
  try clear hcz18_5
  try clear hcz18_6
  try clear hcz18_7
  try clear hcz20_0
  try clear hcz20_1
  try clear hcz20_2
  try clear hcz20_3
  try clear hcz20_4
  try clear hcz20_5
  try clear hcz20_6
  try clear hcz20_7
  try clear hcz26_0
  try clear hcz26_1
  try clear hcz26_2
  try clear hcz26_3
  try clear hcz26_4
  try clear hcz26_5
  try clear hcz26_6
  try clear hcz26_7
  try clear hcz9_0
  try clear hcz9_1
  try clear hcz9_2
  try clear hcz9_3
  try clear hcz9_4
  try clear hcz9_5
  try clear hcz9_6
  try clear hcz9_7
  try clear hfz11_0
  try clear hfz11_1
  try clear hfz11_2
  try clear hfz11_3
  try clear hfz11_4
  try clear hfz11_5
  try clear hfz11_6
  try clear hfz11_7
  try clear hfz17_0
  try clear hfz17_1
  try clear hfz17_2
  try clear hfz17_3
  try clear hfz17_4
  try clear hfz17_5
  try clear hfz17_6
  try clear hfz17_7
  try clear hfz18_0
  try clear hfz18_1
  try clear hfz18_2
  try clear hfz18_3
  try clear hfz18_4
  try clear hfz18_5
  try clear hfz18_6
  try clear hfz18_7
  try clear hfz20_0
  try clear hfz20_1
  try clear hfz20_2
  try clear hfz20_3
  try clear hfz20_4
  try clear hfz20_5
  try clear hfz20_6
  try clear hfz20_7
  try clear hfz26_0
  try clear hfz26_1
  try clear hfz26_2
  try clear hfz26_3
  try clear hfz26_4
  try clear hfz26_5
  try clear hfz26_6
  try clear hfz26_7
  try clear hfz9_0
  try clear hfz9_1
  try clear hfz9_2
  try clear hfz9_3
  try clear hfz9_4
  try clear hfz9_5
  try clear hfz9_6
  try clear hfz9_7
  obtain ⟨kq, x25_1, rfl, HA, HJ1, BK387, HB⟩ := hcut
  cases kq with
  | zero => exact absurd HA.out (by simp [newellaw20_CollectMirror.j0])
  | succ kj1 =>
   have H := HA.out
   clear HA
   simp only [newellaw20_CollectMirror.j0] at H
   by_cases c28 : x25_1 = true
   ·subst c28
    have H1 : ((newellaw20_awake.f kj1).bind fun t404 => (some t404)) = some r := by rw [if_pos rfl] at H; exact H
    clear H
    have H := H1
    clear H1
    replace H := Option.bind_eq_some_iff.mp H
    obtain ⟨t404, A290, H⟩ := H
    replace H : (some t404) = some r := H
    have A29 := Aside0.mk A290
    clear A290
    obtain rfl := Option.some.inj H
    go_wp2_with (first | ((with_reducible refine gate_callee (f := 10) rfl ?_); refine goesL_ (some 26) rfl rfl Try.func10 (by kernel_rfl) rfl #[] rfl (by (try simp only [List.map_toArray, List.map_cons, List.map_nil]); first | done | rfl | (simp only [List.length_drop, List.length_take]; rfl)) ?_; (with_reducible refine (newellaw20_awake.calls kj1  t404 _ A29.out).mono ?_); rintro e w30 ⟨rfl, hb⟩; refine ⟨_, rfl, ?_⟩; have n0_ := Aside0.mk (blk_below (g := gb387) (o := .cells #[.int .i64 a0_0, .int .i64 a0_1, .int .i64 a0_2, .bool a0_3, .bool a0_4, .slice A0_5 l0_5.length c0_5, .slice A0_6 l0_6.length c0_6, .slice A0_7 l0_7.length c0_7] 26 (0, 0)) (by (with_reducible repeat (first | refine blk_drewN ?_ _ | refine blk_drew ?_ | refine blk_alloc ?_ _)); exact BK387.out) hb); have n1_ := Aside0.mk (below_step (by repeat (first | (with_reducible first | exact HB.out | apply below_alloc | apply pw_below_drewN | apply below_drew1 | refine below_set ?_ GE387.out) | exact HB.out)) hb); clear BK387; clear HB; have BK387 := n0_; have HB := n1_; clear n0_ n1_; (try clear hb); (try clear hb2); (try clear hk); (try clear hi)))
    go_ret
    exact ⟨by first | rfl | (simp [errW_none, errW_some] <;> rfl) | (simp [*, errW_none, errW_some] <;> rfl), by repeat (first | (with_reducible first | exact HB.out | apply below_alloc | apply pw_below_drewN | apply below_drew1 | refine below_set ?_ GE387.out) | exact HB.out)⟩
   ·replace c28 := Bool.eq_false_iff.mpr c28
    subst c28
    have H1 : ((newellaw20_turned.f kj1 l0_5 (wrap64 (a0_0 - 1))).bind fun t405 => ((newellaw20_turned.f kj1 l0_7 (wrap64 (a0_0 - 1))).bind fun t408 => ((newellaw20_turned.f kj1 l0_6 (wrap64 (a0_0 - 1))).bind fun t411 => ((newellaw20_Own.f a0_0 a0_1 a0_2 a0_3 a0_4 l0_5 l0_6 l0_7).bind fun bt415 => ((collect_Next.f kj1 bt415.1 bt415.2.1 bt415.2.2.1 bt415.2.2.2.1 bt415.2.2.2.2.1 bt415.2.2.2.2.2.1 bt415.2.2.2.2.2.2.1 bt415.2.2.2.2.2.2.2).bind fun bt429 => ((collect_Next.f kj1 a0_0 (wrap64 ((wrap64 (a0_0 - 1)) - a0_1)) (wrap64 (-a0_2)) a0_4 a0_3 t405 t408 t411).bind fun bt432 => (if bt429.2.2 = 0 then (if bt432.2.2 = 0 then (newellaw20_CollectMirror.j1 kj1 bt429.1 bt432.1 (bt432.2.1 != (wrap64 (-bt429.2.1)))) else (none)) else (none)))))))) = some r := by rw [if_neg (show ¬ (false = true) by decide)] at H; exact H
    clear H
    have H := H1
    clear H1
    replace H := Option.bind_eq_some_iff.mp H
    obtain ⟨t405, A310, H⟩ := H
    replace H : ((newellaw20_turned.f kj1 l0_7 (wrap64 (a0_0 - 1))).bind fun t408 => ((newellaw20_turned.f kj1 l0_6 (wrap64 (a0_0 - 1))).bind fun t411 => ((newellaw20_Own.f a0_0 a0_1 a0_2 a0_3 a0_4 l0_5 l0_6 l0_7).bind fun bt415 => ((collect_Next.f kj1 bt415.1 bt415.2.1 bt415.2.2.1 bt415.2.2.2.1 bt415.2.2.2.2.1 bt415.2.2.2.2.2.1 bt415.2.2.2.2.2.2.1 bt415.2.2.2.2.2.2.2).bind fun bt429 => ((collect_Next.f kj1 a0_0 (wrap64 ((wrap64 (a0_0 - 1)) - a0_1)) (wrap64 (-a0_2)) a0_4 a0_3 t405 t408 t411).bind fun bt432 => (if bt429.2.2 = 0 then (if bt432.2.2 = 0 then (newellaw20_CollectMirror.j1 kj1 bt429.1 bt432.1 (bt432.2.1 != (wrap64 (-bt429.2.1)))) else (none)) else (none))))))) = some r := H
    have A31 := Aside0.mk A310
    clear A310
    replace H := Option.bind_eq_some_iff.mp H
    obtain ⟨t408, A320, H⟩ := H
    replace H : ((newellaw20_turned.f kj1 l0_6 (wrap64 (a0_0 - 1))).bind fun t411 => ((newellaw20_Own.f a0_0 a0_1 a0_2 a0_3 a0_4 l0_5 l0_6 l0_7).bind fun bt415 => ((collect_Next.f kj1 bt415.1 bt415.2.1 bt415.2.2.1 bt415.2.2.2.1 bt415.2.2.2.2.1 bt415.2.2.2.2.2.1 bt415.2.2.2.2.2.2.1 bt415.2.2.2.2.2.2.2).bind fun bt429 => ((collect_Next.f kj1 a0_0 (wrap64 ((wrap64 (a0_0 - 1)) - a0_1)) (wrap64 (-a0_2)) a0_4 a0_3 t405 t408 t411).bind fun bt432 => (if bt429.2.2 = 0 then (if bt432.2.2 = 0 then (newellaw20_CollectMirror.j1 kj1 bt429.1 bt432.1 (bt432.2.1 != (wrap64 (-bt429.2.1)))) else (none)) else (none)))))) = some r := H
    have A32 := Aside0.mk A320
    clear A320
    replace H := Option.bind_eq_some_iff.mp H
    obtain ⟨t411, A330, H⟩ := H
    replace H : ((newellaw20_Own.f a0_0 a0_1 a0_2 a0_3 a0_4 l0_5 l0_6 l0_7).bind fun bt415 => ((collect_Next.f kj1 bt415.1 bt415.2.1 bt415.2.2.1 bt415.2.2.2.1 bt415.2.2.2.2.1 bt415.2.2.2.2.2.1 bt415.2.2.2.2.2.2.1 bt415.2.2.2.2.2.2.2).bind fun bt429 => ((collect_Next.f kj1 a0_0 (wrap64 ((wrap64 (a0_0 - 1)) - a0_1)) (wrap64 (-a0_2)) a0_4 a0_3 t405 t408 t411).bind fun bt432 => (if bt429.2.2 = 0 then (if bt432.2.2 = 0 then (newellaw20_CollectMirror.j1 kj1 bt429.1 bt432.1 (bt432.2.1 != (wrap64 (-bt429.2.1)))) else (none)) else (none))))) = some r := H
    have A33 := Aside0.mk A330
    clear A330
    replace H := Option.bind_eq_some_iff.mp H
    obtain ⟨⟨t415, t416, t417, t418, t419, t420, t423, t426⟩, A340, H⟩ := H
    replace H : ((collect_Next.f kj1 t415 t416 t417 t418 t419 t420 t423 t426).bind fun bt429 => ((collect_Next.f kj1 a0_0 (wrap64 ((wrap64 (a0_0 - 1)) - a0_1)) (wrap64 (-a0_2)) a0_4 a0_3 t405 t408 t411).bind fun bt432 => (if bt429.2.2 = 0 then (if bt432.2.2 = 0 then (newellaw20_CollectMirror.j1 kj1 bt429.1 bt432.1 (bt432.2.1 != (wrap64 (-bt429.2.1)))) else (none)) else (none)))) = some r := H
    have A34 := Aside0.mk A340
    clear A340
    replace H := Option.bind_eq_some_iff.mp H
    obtain ⟨⟨t429, t430, t431⟩, A350, H⟩ := H
    replace H : ((collect_Next.f kj1 a0_0 (wrap64 ((wrap64 (a0_0 - 1)) - a0_1)) (wrap64 (-a0_2)) a0_4 a0_3 t405 t408 t411).bind fun bt432 => (if t431 = 0 then (if bt432.2.2 = 0 then (newellaw20_CollectMirror.j1 kj1 t429 bt432.1 (bt432.2.1 != (wrap64 (-t430)))) else (none)) else (none))) = some r := H
    have A35 := Aside0.mk A350
    clear A350
    replace H := Option.bind_eq_some_iff.mp H
    obtain ⟨⟨t432, t433, t434⟩, A360, H⟩ := H
    replace H : (if t431 = 0 then (if t434 = 0 then (newellaw20_CollectMirror.j1 kj1 t429 t432 (t433 != (wrap64 (-t430)))) else (none)) else (none)) = some r := H
    have A36 := Aside0.mk A360
    clear A360
    have HC37 := Aside0.mk H
    clear H
    have hcz38_0 : wc.cell? ⟨gb387, 0, none⟩ = some (.int .i64 a0_0) := (blk_cell BK387.out 0).trans rfl
    have hcz38_1 : wc.cell? ⟨gb387, 1, none⟩ = some (.int .i64 a0_1) := (blk_cell BK387.out 1).trans rfl
    have hcz38_2 : wc.cell? ⟨gb387, 2, none⟩ = some (.int .i64 a0_2) := (blk_cell BK387.out 2).trans rfl
    have hcz38_3 : wc.cell? ⟨gb387, 3, none⟩ = some (.bool a0_3) := (blk_cell BK387.out 3).trans rfl
    have hcz38_4 : wc.cell? ⟨gb387, 4, none⟩ = some (.bool a0_4) := (blk_cell BK387.out 4).trans rfl
    have hcz38_5 : wc.cell? ⟨gb387, 5, none⟩ = some (.slice A0_5 l0_5.length c0_5) := (blk_cell BK387.out 5).trans rfl
    have hcz38_6 : wc.cell? ⟨gb387, 6, none⟩ = some (.slice A0_6 l0_6.length c0_6) := (blk_cell BK387.out 6).trans rfl
    have hcz38_7 : wc.cell? ⟨gb387, 7, none⟩ = some (.slice A0_7 l0_7.length c0_7) := (blk_cell BK387.out 7).trans rfl
    have hfz38_0 := blk_frozen BK387.out 0
    have hfz38_1 := blk_frozen BK387.out 1
    have hfz38_2 := blk_frozen BK387.out 2
    have hfz38_3 := blk_frozen BK387.out 3
    have hfz38_4 := blk_frozen BK387.out 4
    have hfz38_5 := blk_frozen BK387.out 5
    have hfz38_6 := blk_frozen BK387.out 6
    have hfz38_7 := blk_frozen BK387.out 7
    try go_wp2
    have n0_ := Aside0.mk (blk_drew BK387.out)
    have n1_ := Aside0.mk (below_drew1 HB.out)
    clear BK387
    clear HB
    have BK387 := n0_
    have HB := n1_
    clear n0_ n1_
    refine start_ (n := 32) (S := fun w' => w'.cell? ⟨gb387, 0, none⟩ = some (.int .i64 a0_0) ∧ w'.cell? ⟨gb387, 1, none⟩ = some (.int .i64 a0_1) ∧ w'.cell? ⟨gb387, 2, none⟩ = some (.int .i64 a0_2) ∧ w'.cell? ⟨gb387, 3, none⟩ = some (.bool a0_3) ∧ w'.cell? ⟨gb387, 4, none⟩ = some (.bool a0_4) ∧ w'.cell? ⟨gb387, 5, none⟩ = some (.slice A0_5 l0_5.length c0_5) ∧ w'.cell? ⟨gb387, 6, none⟩ = some (.slice A0_6 l0_6.length c0_6) ∧ w'.cell? ⟨gb387, 7, none⟩ = some (.slice A0_7 l0_7.length c0_7)) (ds := []) #[false, false, false, false, false, false, false, false, false, false, false, false, false, false, false, false, false, false, false, false, false, false, false, false, false, false, false, false, false, false, false, false] (by kernel_rfl) rfl rfl ⟨(blk_cell BK387.out 0).trans rfl, (blk_cell BK387.out 1).trans rfl, (blk_cell BK387.out 2).trans rfl, (blk_cell BK387.out 3).trans rfl, (blk_cell BK387.out 4).trans rfl, (blk_cell BK387.out 5).trans rfl, (blk_cell BK387.out 6).trans rfl, (blk_cell BK387.out 7).trans rfl⟩ (fun hHeld => ?_); refine with_tabW newellaw20_CollectMirror.tab4 newellaw20_CollectMirror.bits4 (fun HT_ HW_ => ?_)
    generalize wc.drew = w39 at BK387 HB hHeld ⊢
    refine pure_ (i := 0) (N := some 30) (v := ?_) (a' := ?_) #[true, false, false, false, false, false, false, false, false, false, false, false, false, false, false, false, false, false, false, false, false, false, false, false, false, false, false, false, false, false, false, false] rfl rfl (any_of HT_.out (by kernel_rfl)) (fun _ _ _ h => h) (Or.inl ⟨by rfl, ?_⟩) ?_ ?_
    rotate_left
    ·intro w'
     go_simp
     with_reducible rfl
    rotate_left
    ·simp only [Act.put, List.setIfInBounds_toArray, List.set_cons_zero, List.set_cons_succ, i64_w, i32_w]
     rfl
    refine pure_ (i := 2) (N := some 32) (v := ?_) (a' := ?_) #[true, false, true, false, false, false, false, false, false, false, false, false, false, false, false, false, false, false, false, false, false, false, false, false, false, false, false, false, false, false, false, false] rfl rfl (any_of HT_.out (by kernel_rfl)) (fun _ _ _ h => h) (Or.inl ⟨by rfl, ?_⟩) ?_ ?_
    rotate_left
    ·intro w'
     go_simp
     with_reducible rfl
    rotate_left
    ·simp only [Act.put, List.setIfInBounds_toArray, List.set_cons_zero, List.set_cons_succ, i64_w, i32_w]
     rfl
    refine pure_ (i := 3) (N := some 33) (v := ?_) (a' := ?_) #[true, false, true, true, false, false, false, false, false, false, false, false, false, false, false, false, false, false, false, false, false, false, false, false, false, false, false, false, false, false, false, false] rfl rfl (any_of HT_.out (by kernel_rfl)) (fun _ _ _ h => h) (Or.inl ⟨by rfl, ?_⟩) ?_ ?_
    rotate_left
    ·intro w'
     go_simp
     with_reducible rfl
    rotate_left
    ·simp only [Act.put, List.setIfInBounds_toArray, List.set_cons_zero, List.set_cons_succ, i64_w, i32_w]
     rfl
    refine pure_ (i := 6) (N := some 36) (v := ?_) (a' := ?_) #[true, false, true, true, false, false, true, false, false, false, false, false, false, false, false, false, false, false, false, false, false, false, false, false, false, false, false, false, false, false, false, false] rfl rfl (any_of HT_.out (by kernel_rfl)) (fun _ _ _ h => h) (Or.inl ⟨by rfl, ?_⟩) ?_ ?_
    rotate_left
    ·intro w'
     go_simp
     with_reducible rfl
    rotate_left
    ·simp only [Act.put, List.setIfInBounds_toArray, List.set_cons_zero, List.set_cons_succ, i64_w, i32_w]
     rfl
    refine pure_ (i := 9) (N := some 39) (v := ?_) (a' := ?_) #[true, false, true, true, false, false, true, false, false, true, false, false, false, false, false, false, false, false, false, false, false, false, false, false, false, false, false, false, false, false, false, false] rfl rfl (any_of HT_.out (by kernel_rfl)) (fun _ _ _ h => h) (Or.inl ⟨by rfl, ?_⟩) ?_ ?_
    rotate_left
    ·intro w'
     go_simp
     with_reducible rfl
    rotate_left
    ·simp only [Act.put, List.setIfInBounds_toArray, List.set_cons_zero, List.set_cons_succ, i64_w, i32_w]
     rfl
    refine pure_ (i := 11) (N := some 41) (v := ?_) (a' := ?_) #[true, false, true, true, false, false, true, false, false, true, false, true, false, false, false, false, false, false, false, false, false, false, false, false, false, false, false, false, false, false, false, false] rfl rfl (any_of HT_.out (by kernel_rfl)) (fun _ _ _ h => h) (Or.inl ⟨by rfl, ?_⟩) ?_ ?_
    rotate_left
    ·intro w'
     go_simp
     with_reducible rfl
    rotate_left
    ·simp only [Act.put, List.setIfInBounds_toArray, List.set_cons_zero, List.set_cons_succ, i64_w, i32_w]
     rfl
    refine pure_ (i := 13) (N := some 43) (v := ?_) (a' := ?_) #[true, false, true, true, false, false, true, false, false, true, false, true, false, true, false, false, false, false, false, false, false, false, false, false, false, false, false, false, false, false, false, false] rfl rfl (any_of HT_.out (by kernel_rfl)) (fun _ _ _ h => h) (Or.inl ⟨by rfl, ?_⟩) ?_ ?_
    rotate_left
    ·intro w'
     go_simp
     with_reducible rfl
    rotate_left
    ·simp only [Act.put, List.setIfInBounds_toArray, List.set_cons_zero, List.set_cons_succ, i64_w, i32_w]
     rfl
    refine pure_ (i := 14) (N := some 44) (v := ?_) (a' := ?_) #[true, false, true, true, false, false, true, false, false, true, false, true, false, true, true, false, false, false, false, false, false, false, false, false, false, false, false, false, false, false, false, false] rfl rfl (any_of HT_.out (by kernel_rfl)) (fun _ _ _ h => h) (Or.inl ⟨by rfl, ?_⟩) ?_ ?_
    rotate_left
    ·intro w'
     go_simp
     with_reducible rfl
    rotate_left
    ·simp only [Act.put, List.setIfInBounds_toArray, List.set_cons_zero, List.set_cons_succ, i64_w, i32_w]
     rfl
    refine pure_ (i := 16) (N := some 46) (v := ?_) (a' := ?_) #[true, false, true, true, false, false, true, false, false, true, false, true, false, true, true, false, true, false, false, false, false, false, false, false, false, false, false, false, false, false, false, false] rfl rfl (any_of HT_.out (by kernel_rfl)) (fun _ _ _ h => h) (Or.inl ⟨by rfl, ?_⟩) ?_ ?_
    rotate_left
    ·intro w'
     go_simp
     with_reducible rfl
    rotate_left
    ·simp only [Act.put, List.setIfInBounds_toArray, List.set_cons_zero, List.set_cons_succ, i64_w, i32_w]
     rfl
    refine pure_ (i := 18) (N := some 48) (v := ?_) (a' := ?_) #[true, false, true, true, false, false, true, false, false, true, false, true, false, true, true, false, true, false, true, false, false, false, false, false, false, false, false, false, false, false, false, false] rfl rfl (any_of HT_.out (by kernel_rfl)) (fun _ _ _ h => h) (Or.inl ⟨by rfl, ?_⟩) ?_ ?_
    rotate_left
    ·intro w'
     go_simp
     with_reducible rfl
    rotate_left
    ·simp only [Act.put, List.setIfInBounds_toArray, List.set_cons_zero, List.set_cons_succ, i64_w, i32_w]
     rfl
    refine pure_ (i := 19) (N := some 49) (v := ?_) (a' := ?_) #[true, false, true, true, false, false, true, false, false, true, false, true, false, true, true, false, true, false, true, true, false, false, false, false, false, false, false, false, false, false, false, false] rfl rfl (any_of HT_.out (by kernel_rfl)) (fun _ _ _ h => h) (Or.inl ⟨by rfl, ?_⟩) ?_ ?_
    rotate_left
    ·intro w'
     go_simp
     with_reducible rfl
    rotate_left
    ·simp only [Act.put, List.setIfInBounds_toArray, List.set_cons_zero, List.set_cons_succ, i64_w, i32_w]
     rfl
    refine pure_ (i := 21) (N := some 51) (v := ?_) (a' := ?_) #[true, false, true, true, false, false, true, false, false, true, false, true, false, true, true, false, true, false, true, true, false, true, false, false, false, false, false, false, false, false, false, false] rfl rfl (any_of HT_.out (by kernel_rfl)) (fun _ _ _ h => h) (Or.inl ⟨by rfl, ?_⟩) ?_ ?_
    rotate_left
    ·intro w'
     go_simp
     with_reducible rfl
    rotate_left
    ·simp only [Act.put, List.setIfInBounds_toArray, List.set_cons_zero, List.set_cons_succ, i64_w, i32_w]
     rfl
    refine pure_ (i := 23) (N := some 53) (v := ?_) (a' := ?_) #[true, false, true, true, false, false, true, false, false, true, false, true, false, true, true, false, true, false, true, true, false, true, false, true, false, false, false, false, false, false, false, false] rfl rfl (any_of HT_.out (by kernel_rfl)) (fun _ _ _ h => h) (Or.inl ⟨by rfl, ?_⟩) ?_ ?_
    rotate_left
    ·intro w'
     go_simp
     with_reducible rfl
    rotate_left
    ·simp only [Act.put, List.setIfInBounds_toArray, List.set_cons_zero, List.set_cons_succ, i64_w, i32_w]
     rfl
    refine pure_ (i := 24) (N := some 54) (v := ?_) (a' := ?_) #[true, false, true, true, false, false, true, false, false, true, false, true, false, true, true, false, true, false, true, true, false, true, false, true, true, false, false, false, false, false, false, false] rfl rfl (any_of HT_.out (by kernel_rfl)) (fun _ _ _ h => h) (Or.inl ⟨by rfl, ?_⟩) ?_ ?_
    rotate_left
    ·intro w'
     go_simp
     with_reducible rfl
    rotate_left
    ·simp only [Act.put, List.setIfInBounds_toArray, List.set_cons_zero, List.set_cons_succ, i64_w, i32_w]
     rfl
    refine pure_ (i := 26) (N := some 56) (v := ?_) (a' := ?_) #[true, false, true, true, false, false, true, false, false, true, false, true, false, true, true, false, true, false, true, true, false, true, false, true, true, false, true, false, false, false, false, false] rfl rfl (any_of HT_.out (by kernel_rfl)) (fun _ _ _ h => h) (Or.inl ⟨by rfl, ?_⟩) ?_ ?_
    rotate_left
    ·intro w'
     go_simp
     with_reducible rfl
    rotate_left
    ·simp only [Act.put, List.setIfInBounds_toArray, List.set_cons_zero, List.set_cons_succ, i64_w, i32_w]
     rfl
    refine take_ (i := 1) (N := some 31) (v := ?_) (a' := ?_) #[true, true, true, true, false, false, true, false, false, true, false, true, false, true, true, false, true, false, true, true, false, true, false, true, true, false, true, false, false, false, false, false] rfl rfl (take_ofW HT_.out HW_.out (by kernel_rfl)) (fun _ _ _ h => h) (Or.inl ⟨by rfl, ?_⟩) hHeld ?_ ?_
    rotate_left
    ·rintro w' ⟨s0, s1, s2, s3, s4, s5, s6, s7⟩
     go_simp
     with_reducible rfl
    rotate_left
    ·simp only [Act.put, List.setIfInBounds_toArray, List.set_cons_zero, List.set_cons_succ, i64_w, i32_w]
     rfl
    refine take_ (i := 4) (N := some 34) (v := ?_) (a' := ?_) #[true, true, true, true, true, false, true, false, false, true, false, true, false, true, true, false, true, false, true, true, false, true, false, true, true, false, true, false, false, false, false, false] rfl rfl (take_ofW HT_.out HW_.out (by kernel_rfl)) (fun _ _ _ h => h) (Or.inl ⟨by rfl, ?_⟩) hHeld ?_ ?_
    rotate_left
    ·rintro w' ⟨s0, s1, s2, s3, s4, s5, s6, s7⟩
     go_simp
     with_reducible rfl
    rotate_left
    ·simp only [Act.put, List.setIfInBounds_toArray, List.set_cons_zero, List.set_cons_succ, i64_w, i32_w]
     rfl
    refine pure_ (i := 5) (N := some 35) (v := ?_) (a' := ?_) #[true, true, true, true, true, true, true, false, false, true, false, true, false, true, true, false, true, false, true, true, false, true, false, true, true, false, true, false, false, false, false, false] rfl rfl (any_of HT_.out (by kernel_rfl)) (fun _ _ _ h => h) (Or.inl ⟨by rfl, ?_⟩) ?_ ?_
    rotate_left
    ·intro w'
     go_simp
     with_reducible rfl
    rotate_left
    ·simp only [Act.put, List.setIfInBounds_toArray, List.set_cons_zero, List.set_cons_succ, i64_w, i32_w]
     rfl
    refine take_ (i := 7) (N := some 37) (v := ?_) (a' := ?_) #[true, true, true, true, true, true, true, true, false, true, false, true, false, true, true, false, true, false, true, true, false, true, false, true, true, false, true, false, false, false, false, false] rfl rfl (take_ofW HT_.out HW_.out (by kernel_rfl)) (fun _ _ _ h => h) (Or.inl ⟨by rfl, ?_⟩) hHeld ?_ ?_
    rotate_left
    ·rintro w' ⟨s0, s1, s2, s3, s4, s5, s6, s7⟩
     go_simp
     with_reducible rfl
    rotate_left
    ·simp only [Act.put, List.setIfInBounds_toArray, List.set_cons_zero, List.set_cons_succ, i64_w, i32_w]
     rfl
    refine pure_ (i := 8) (N := some 38) (v := ?_) (a' := ?_) #[true, true, true, true, true, true, true, true, true, true, false, true, false, true, true, false, true, false, true, true, false, true, false, true, true, false, true, false, false, false, false, false] rfl rfl (any_of HT_.out (by kernel_rfl)) (fun _ _ _ h => h) (Or.inl ⟨by rfl, ?_⟩) ?_ ?_
    rotate_left
    ·intro w'
     go_simp
     with_reducible rfl
    rotate_left
    ·simp only [Act.put, List.setIfInBounds_toArray, List.set_cons_zero, List.set_cons_succ, i64_w, i32_w]
     rfl
    refine take_ (i := 10) (N := some 40) (v := ?_) (a' := ?_) #[true, true, true, true, true, true, true, true, true, true, true, true, false, true, true, false, true, false, true, true, false, true, false, true, true, false, true, false, false, false, false, false] rfl rfl (take_ofW HT_.out HW_.out (by kernel_rfl)) (fun _ _ _ h => h) (Or.inl ⟨by rfl, ?_⟩) hHeld ?_ ?_
    rotate_left
    ·rintro w' ⟨s0, s1, s2, s3, s4, s5, s6, s7⟩
     go_simp
     with_reducible rfl
    rotate_left
    ·simp only [Act.put, List.setIfInBounds_toArray, List.set_cons_zero, List.set_cons_succ, i64_w, i32_w]
     rfl
    refine take_ (i := 12) (N := some 42) (v := ?_) (a' := ?_) #[true, true, true, true, true, true, true, true, true, true, true, true, true, true, true, false, true, false, true, true, false, true, false, true, true, false, true, false, false, false, false, false] rfl rfl (take_ofW HT_.out HW_.out (by kernel_rfl)) (fun _ _ _ h => h) (Or.inl ⟨by rfl, ?_⟩) hHeld ?_ ?_
    rotate_left
    ·rintro w' ⟨s0, s1, s2, s3, s4, s5, s6, s7⟩
     go_simp
     with_reducible rfl
    rotate_left
    ·simp only [Act.put, List.setIfInBounds_toArray, List.set_cons_zero, List.set_cons_succ, i64_w, i32_w]
     rfl
    refine take_ (i := 15) (N := some 45) (v := ?_) (a' := ?_) #[true, true, true, true, true, true, true, true, true, true, true, true, true, true, true, true, true, false, true, true, false, true, false, true, true, false, true, false, false, false, false, false] rfl rfl (take_ofW HT_.out HW_.out (by kernel_rfl)) (fun _ _ _ h => h) (Or.inl ⟨by rfl, ?_⟩) hHeld ?_ ?_
    rotate_left
    ·rintro w' ⟨s0, s1, s2, s3, s4, s5, s6, s7⟩
     go_simp
     with_reducible rfl
    rotate_left
    ·simp only [Act.put, List.setIfInBounds_toArray, List.set_cons_zero, List.set_cons_succ, i64_w, i32_w]
     rfl
    refine take_ (i := 20) (N := some 50) (v := ?_) (a' := ?_) #[true, true, true, true, true, true, true, true, true, true, true, true, true, true, true, true, true, false, true, true, true, true, false, true, true, false, true, false, false, false, false, false] rfl rfl (take_ofW HT_.out HW_.out (by kernel_rfl)) (fun _ _ _ h => h) (Or.inl ⟨by rfl, ?_⟩) hHeld ?_ ?_
    rotate_left
    ·rintro w' ⟨s0, s1, s2, s3, s4, s5, s6, s7⟩
     go_simp
     with_reducible rfl
    rotate_left
    ·simp only [Act.put, List.setIfInBounds_toArray, List.set_cons_zero, List.set_cons_succ, i64_w, i32_w]
     rfl
    refine take_ (i := 25) (N := some 55) (v := ?_) (a' := ?_) #[true, true, true, true, true, true, true, true, true, true, true, true, true, true, true, true, true, false, true, true, true, true, false, true, true, true, true, false, false, false, false, false] rfl rfl (take_ofW HT_.out HW_.out (by kernel_rfl)) (fun _ _ _ h => h) (Or.inl ⟨by rfl, ?_⟩) hHeld ?_ ?_
    rotate_left
    ·rintro w' ⟨s0, s1, s2, s3, s4, s5, s6, s7⟩
     go_simp
     with_reducible rfl
    rotate_left
    ·simp only [Act.put, List.setIfInBounds_toArray, List.set_cons_zero, List.set_cons_succ, i64_w, i32_w]
     rfl
    refine join_ (σ := Value × Value × Value × Nat) 1 #[true, true, true, true, true, true, true, true, true, true, true, true, true, true, true, true, true, true, true, true, true, true, true, true, true, true, true, true, true, true, true, false] (fun s_ => [(47, s_.1), (52, s_.2.1), (57, s_.2.2.1), (4, .pointer (some ⟨s_.2.2.2, 0, none⟩)), (58, .agg #[s_.1, s_.2.1, s_.2.2.1]), (59, .agg #[.int .i64 a0_0, .int .i64 (wrap64 ((wrap64 (a0_0 - 1)) - a0_1)), .int .i64 (wrap64 (-a0_2)), .bool a0_4, .bool a0_3, s_.1, s_.2.1, s_.2.2.1])]) (fun s_ w' => (w'.cell? ⟨gb387, 0, none⟩ = some (.int .i64 a0_0) ∧ w'.cell? ⟨gb387, 1, none⟩ = some (.int .i64 a0_1) ∧ w'.cell? ⟨gb387, 2, none⟩ = some (.int .i64 a0_2) ∧ w'.cell? ⟨gb387, 3, none⟩ = some (.bool a0_3) ∧ w'.cell? ⟨gb387, 4, none⟩ = some (.bool a0_4) ∧ w'.cell? ⟨gb387, 5, none⟩ = some (.slice A0_5 l0_5.length c0_5) ∧ w'.cell? ⟨gb387, 6, none⟩ = some (.slice A0_6 l0_6.length c0_6) ∧ w'.cell? ⟨gb387, 7, none⟩ = some (.slice A0_7 l0_7.length c0_7)) ∧ (Kd.R (Kd.int .i64) 3 w' w.heap.size (fun k_ => some k_ ≠ (s_.2.1 : Value).ownBlock ∧ some k_ ≠ (s_.2.2.1 : Value).ownBlock) s_.1 t405) ∧ (Kd.R (Kd.int .i64) 3 w' w.heap.size (fun k_ => some k_ ≠ (s_.1 : Value).ownBlock ∧ some k_ ≠ (s_.2.2.1 : Value).ownBlock) s_.2.1 t408) ∧ (Kd.R (Kd.int .i64) 3 w' w.heap.size (fun k_ => some k_ ≠ (s_.1 : Value).ownBlock ∧ some k_ ≠ (s_.2.1 : Value).ownBlock) s_.2.2.1 t411) ∧ (w'.heap[gb387]? = some (.cells #[.int .i64 a0_0, .int .i64 a0_1, .int .i64 a0_2, .bool a0_3, .bool a0_4, .slice A0_5 l0_5.length c0_5, .slice A0_6 l0_6.length c0_6, .slice A0_7 l0_7.length c0_7] 26 (0, 0))) ∧ (w'.heap[s_.2.2.2]? = some (.cells #[.int .i64 0, .int .i64 0, .int .i64 0, .bool false, .bool false, .slice none 0 0, .slice none 0 0, .slice none 0 0] 26 (0, 0))) ∧ (w.heap.size ≤ s_.2.2.2) ∧ (w.heap.size ≤ s_.2.2.2) ∧ (gb387 ≠ s_.2.2.2) ∧ (s_.2.2.2 ≠ gb387) ∧ (Below w.heap.size w w')) ?_ ?_
    rotate_left
    ·intro hCont
     refine two_ (i := 17) (j := 30) (Ni := some 47) (Nj := some 4) #[true, true, true, true, true, true, true, true, true, true, true, true, true, true, true, true, true, true, true, true, true, true, false, true, true, true, true, false, false, false, false, false] #[true, true, true, true, true, true, true, true, true, true, true, true, true, true, true, true, true, false, true, true, true, true, false, true, true, true, true, false, false, false, true, false] rfl rfl rfl rfl (two_of HT_.out (by kernel_rfl)) (by decide) (by decide) (fun K hK => ?_) (fun K hK => ?_)
     ·skip
      refine goes_ Try.func20 (by kernel_rfl) rfl #[.slice A0_5 l0_5.length c0_5, .int .i64 (wrap64 (a0_0 - 1))] (by rfl) rfl rfl (by (try simp only [List.map_toArray, List.map_cons, List.map_nil]); first | done | rfl | (simp only [List.length_drop, List.length_take]; rfl)) ?_
      with_reducible refine (newellaw20_turned.calls kj1 _ _ l0_5 (wrap64 (a0_0 - 1)) t405 _ ?side1 ?side2 A31.out).mono ?_
      (case side1 => repeat (first | exact (Kd.C_below HR0_5.out HB.out) | (with_reducible refine Kd.C_alloc ?_ _) | (with_reducible refine Kd.C_drewN ?_ _) | (with_reducible refine Kd.C_drew ?_)))
      (case side2 => exact HC0_5.out)
      rintro e w40 ⟨v406, rfl, ho0, hb⟩
      refine ⟨_, rfl, ?_⟩
      have n0_ := Aside0.mk (Kd.R_lower ho0 (below_size (by repeat (first | (with_reducible first | exact HB.out | apply below_alloc | apply pw_below_drewN | apply below_drew1 | refine below_set ?_ GE387.out) | exact HB.out))))
      have n1_ := Aside0.mk (blk_below (g := gb387) (o := .cells #[.int .i64 a0_0, .int .i64 a0_1, .int .i64 a0_2, .bool a0_3, .bool a0_4, .slice A0_5 l0_5.length c0_5, .slice A0_6 l0_6.length c0_6, .slice A0_7 l0_7.length c0_7] 26 (0, 0)) (by (with_reducible repeat (first | refine blk_drewN ?_ _ | refine blk_drew ?_ | refine blk_alloc ?_ _)); exact BK387.out) hb)
      have n2_ := Aside0.mk (below_step (by repeat (first | (with_reducible first | exact HB.out | apply below_alloc | apply pw_below_drewN | apply below_drew1 | refine below_set ?_ GE387.out) | exact HB.out)) hb)
      clear BK387
      clear HB
      have HO407 := n0_
      have BK387 := n1_
      have HB := n2_
      clear n0_ n1_ n2_
      (try clear hb)
      (try clear hb2)
      (try clear hk)
      (try clear hi)
      (try clear ho0)
      refine hK.out _ _ ⟨(blk_cell BK387.out 0).trans rfl, (blk_cell BK387.out 1).trans rfl, (blk_cell BK387.out 2).trans rfl, (blk_cell BK387.out 3).trans rfl, (blk_cell BK387.out 4).trans rfl, (blk_cell BK387.out 5).trans rfl, (blk_cell BK387.out 6).trans rfl, (blk_cell BK387.out 7).trans rfl⟩ (fun hHeld => ?_)
      clear hK K
      refine norm_ (a' := ?_) ?_ ?_
      rotate_left
      ·show Act.put _ (some 47) _ = _
       simp only [Act.put, List.setIfInBounds_toArray, List.set_cons_zero, List.set_cons_succ, i64_w, i32_w]
       rfl
      refine two_ (i := 22) (j := 30) (Ni := some 52) (Nj := some 4) #[true, true, true, true, true, true, true, true, true, true, true, true, true, true, true, true, true, true, true, true, true, true, true, true, true, true, true, false, false, false, false, false] #[true, true, true, true, true, true, true, true, true, true, true, true, true, true, true, true, true, true, true, true, true, true, false, true, true, true, true, false, false, false, true, false] rfl rfl rfl rfl (two_of HT_.out (by kernel_rfl)) (by decide) (by decide) (fun K hK => ?_) (fun K hK => ?_)
      ·skip
       refine goes_ Try.func20 (by kernel_rfl) rfl #[.slice A0_7 l0_7.length c0_7, .int .i64 (wrap64 (a0_0 - 1))] (by rfl) rfl rfl (by (try simp only [List.map_toArray, List.map_cons, List.map_nil]); first | done | rfl | (simp only [List.length_drop, List.length_take]; rfl)) ?_
       with_reducible refine (newellaw20_turned.calls kj1 _ _ l0_7 (wrap64 (a0_0 - 1)) t408 _ ?side1 ?side2 A32.out).mono ?_
       (case side1 => repeat (first | exact (Kd.C_below HR0_7.out HB.out) | (with_reducible refine Kd.C_alloc ?_ _) | (with_reducible refine Kd.C_drewN ?_ _) | (with_reducible refine Kd.C_drew ?_)))
       (case side2 => exact HC0_7.out)
       rintro e w41 ⟨v409, rfl, ho0, hb⟩
       refine ⟨_, rfl, ?_⟩
       have n0_ := Aside0.mk (Kd.R_elder' (by (with_reducible repeat (first | apply Kd.R_alloc | apply Kd.R_drewN | apply Kd.R_drew)); exact HO407.out) (Kd.R_base ho0) hb)
       have n1_ := Aside0.mk (Kd.R_lower (Kd.R_new' ho0 (Kd.R_lt (by (with_reducible repeat (first | apply Kd.R_alloc | apply Kd.R_drewN | apply Kd.R_drew)); exact HO407.out))) (below_size (by repeat (first | (with_reducible first | exact HB.out | apply below_alloc | apply pw_below_drewN | apply below_drew1 | refine below_set ?_ GE387.out) | exact HB.out))))
       have n2_ := Aside0.mk (blk_below (g := gb387) (o := .cells #[.int .i64 a0_0, .int .i64 a0_1, .int .i64 a0_2, .bool a0_3, .bool a0_4, .slice A0_5 l0_5.length c0_5, .slice A0_6 l0_6.length c0_6, .slice A0_7 l0_7.length c0_7] 26 (0, 0)) (by (with_reducible repeat (first | refine blk_drewN ?_ _ | refine blk_drew ?_ | refine blk_alloc ?_ _)); exact BK387.out) hb)
       have n3_ := Aside0.mk (below_step (by repeat (first | (with_reducible first | exact HB.out | apply below_alloc | apply pw_below_drewN | apply below_drew1 | refine below_set ?_ GE387.out) | exact HB.out)) hb)
       clear HO407
       clear BK387
       clear HB
       have HO407 := n0_
       have HO410 := n1_
       have BK387 := n2_
       have HB := n3_
       clear n0_ n1_ n2_ n3_
       (try clear hb)
       (try clear hb2)
       (try clear hk)
       (try clear hi)
       (try clear ho0)
       refine hK.out _ _ ⟨(blk_cell BK387.out 0).trans rfl, (blk_cell BK387.out 1).trans rfl, (blk_cell BK387.out 2).trans rfl, (blk_cell BK387.out 3).trans rfl, (blk_cell BK387.out 4).trans rfl, (blk_cell BK387.out 5).trans rfl, (blk_cell BK387.out 6).trans rfl, (blk_cell BK387.out 7).trans rfl⟩ (fun hHeld => ?_)
       clear hK K
       refine norm_ (a' := ?_) ?_ ?_
       rotate_left
       ·show Act.put _ (some 52) _ = _
        simp only [Act.put, List.setIfInBounds_toArray, List.set_cons_zero, List.set_cons_succ, i64_w, i32_w]
        rfl
       refine two_ (i := 27) (j := 30) (Ni := some 57) (Nj := some 4) #[true, true, true, true, true, true, true, true, true, true, true, true, true, true, true, true, true, true, true, true, true, true, true, true, true, true, true, true, false, false, false, false] #[true, true, true, true, true, true, true, true, true, true, true, true, true, true, true, true, true, true, true, true, true, true, true, true, true, true, true, false, false, false, true, false] rfl rfl rfl rfl (two_of HT_.out (by kernel_rfl)) (by decide) (by decide) (fun K hK => ?_) (fun K hK => ?_)
       ·skip
        refine goes_ Try.func20 (by kernel_rfl) rfl #[.slice A0_6 l0_6.length c0_6, .int .i64 (wrap64 (a0_0 - 1))] (by rfl) rfl rfl (by (try simp only [List.map_toArray, List.map_cons, List.map_nil]); first | done | rfl | (simp only [List.length_drop, List.length_take]; rfl)) ?_
        with_reducible refine (newellaw20_turned.calls kj1 _ _ l0_6 (wrap64 (a0_0 - 1)) t411 _ ?side1 ?side2 A33.out).mono ?_
        (case side1 => repeat (first | exact (Kd.C_below HR0_6.out HB.out) | (with_reducible refine Kd.C_alloc ?_ _) | (with_reducible refine Kd.C_drewN ?_ _) | (with_reducible refine Kd.C_drew ?_)))
        (case side2 => exact HC0_6.out)
        rintro e w42 ⟨v412, rfl, ho0, hb⟩
        refine ⟨_, rfl, ?_⟩
        have n0_ := Aside0.mk (Kd.R_elder' (by (with_reducible repeat (first | apply Kd.R_alloc | apply Kd.R_drewN | apply Kd.R_drew)); exact HO407.out) (Kd.R_base ho0) hb)
        have n1_ := Aside0.mk (Kd.R_elder' (by (with_reducible repeat (first | apply Kd.R_alloc | apply Kd.R_drewN | apply Kd.R_drew)); exact HO410.out) (Kd.R_base ho0) hb)
        have n2_ := Aside0.mk (Kd.R_lower (Kd.R_new' (Kd.R_new' ho0 (Kd.R_lt (by (with_reducible repeat (first | apply Kd.R_alloc | apply Kd.R_drewN | apply Kd.R_drew)); exact HO407.out))) (Kd.R_lt (by (with_reducible repeat (first | apply Kd.R_alloc | apply Kd.R_drewN | apply Kd.R_drew)); exact HO410.out))) (below_size (by repeat (first | (with_reducible first | exact HB.out | apply below_alloc | apply pw_below_drewN | apply below_drew1 | refine below_set ?_ GE387.out) | exact HB.out))))
        have n3_ := Aside0.mk (blk_below (g := gb387) (o := .cells #[.int .i64 a0_0, .int .i64 a0_1, .int .i64 a0_2, .bool a0_3, .bool a0_4, .slice A0_5 l0_5.length c0_5, .slice A0_6 l0_6.length c0_6, .slice A0_7 l0_7.length c0_7] 26 (0, 0)) (by (with_reducible repeat (first | refine blk_drewN ?_ _ | refine blk_drew ?_ | refine blk_alloc ?_ _)); exact BK387.out) hb)
        have n4_ := Aside0.mk (below_step (by repeat (first | (with_reducible first | exact HB.out | apply below_alloc | apply pw_below_drewN | apply below_drew1 | refine below_set ?_ GE387.out) | exact HB.out)) hb)
        clear HO407
        clear HO410
        clear BK387
        clear HB
        have HO407 := n0_
        have HO410 := n1_
        have HO413 := n2_
        have BK387 := n3_
        have HB := n4_
        clear n0_ n1_ n2_ n3_ n4_
        (try clear hb)
        (try clear hb2)
        (try clear hk)
        (try clear hi)
        (try clear ho0)
        obtain ⟨Ao43, co43, eo43⟩ := Kd.R_slice HO413.out
        (first | subst eo43 | (injection eo43 with f1_ f2_ f3_; have f4_ := f1_.symm; have f5_ := f3_.symm; clear f1_ f2_ f3_; subst f4_; subst f5_))
        obtain ⟨Ao44, co44, eo44⟩ := Kd.R_slice HO410.out
        (first | subst eo44 | (injection eo44 with f1_ f2_ f3_; have f4_ := f1_.symm; have f5_ := f3_.symm; clear f1_ f2_ f3_; subst f4_; subst f5_))
        obtain ⟨Ao45, co45, eo45⟩ := Kd.R_slice HO407.out
        (first | subst eo45 | (injection eo45 with f1_ f2_ f3_; have f4_ := f1_.symm; have f5_ := f3_.symm; clear f1_ f2_ f3_; subst f4_; subst f5_))
        refine hK.out _ _ ⟨(blk_cell BK387.out 0).trans rfl, (blk_cell BK387.out 1).trans rfl, (blk_cell BK387.out 2).trans rfl, (blk_cell BK387.out 3).trans rfl, (blk_cell BK387.out 4).trans rfl, (blk_cell BK387.out 5).trans rfl, (blk_cell BK387.out 6).trans rfl, (blk_cell BK387.out 7).trans rfl⟩ (fun hHeld => ?_)
        clear hK K
        refine norm_ (a' := ?_) ?_ ?_
        rotate_left
        ·show Act.put _ (some 57) _ = _
         simp only [Act.put, List.setIfInBounds_toArray, List.set_cons_zero, List.set_cons_succ, i64_w, i32_w]
         rfl
        refine pure_ (i := 28) (N := some 58) (v := ?_) (a' := ?_) #[true, true, true, true, true, true, true, true, true, true, true, true, true, true, true, true, true, true, true, true, true, true, true, true, true, true, true, true, true, false, false, false] rfl rfl (any_of HT_.out (by kernel_rfl)) (fun _ _ _ h => h) (Or.inl ⟨by rfl, ?_⟩) ?_ ?_
        rotate_left
        ·intro w'
         go_simp
         with_reducible rfl
        rotate_left
        ·simp only [Act.put, List.setIfInBounds_toArray, List.set_cons_zero, List.set_cons_succ, i64_w, i32_w]
         rfl
        refine pure_ (i := 29) (N := some 59) (v := ?_) (a' := ?_) #[true, true, true, true, true, true, true, true, true, true, true, true, true, true, true, true, true, true, true, true, true, true, true, true, true, true, true, true, true, true, false, false] rfl rfl (any_of HT_.out (by kernel_rfl)) (fun _ _ _ h => h) (Or.inl ⟨by rfl, ?_⟩) ?_ ?_
        rotate_left
        ·intro w'
         go_simp
         with_reducible rfl
        rotate_left
        ·simp only [Act.put, List.setIfInBounds_toArray, List.set_cons_zero, List.set_cons_succ, i64_w, i32_w]
         rfl
        refine one_ (i := 30) (N := some 4) #[true, true, true, true, true, true, true, true, true, true, true, true, true, true, true, true, true, true, true, true, true, true, true, true, true, true, true, true, true, true, true, false] rfl rfl (one_of HT_.out (by kernel_rfl)) (by decide) (fun K hK => ?_)
        refine box_step ?hg (N := 4) ?hd (cs := #[.int .i64 0, .int .i64 0, .int .i64 0, .bool false, .bool false, .slice none 0 0, .slice none 0 0, .slice none 0 0]) (t := 26) ?hr ?_; (case hd => rfl); (case hg => rfl); (case hr => first | (go_simp; done) | (go_simp; rfl))
        intro gb414 hg w46 hbox hb
        have n0_ := Aside0.mk (Kd.R_below (by (with_reducible repeat (first | apply Kd.R_alloc | apply Kd.R_drewN | apply Kd.R_drew)); exact HO407.out) hb)
        have n1_ := Aside0.mk (Kd.R_below (by (with_reducible repeat (first | apply Kd.R_alloc | apply Kd.R_drewN | apply Kd.R_drew)); exact HO410.out) hb)
        have n2_ := Aside0.mk (Kd.R_below (by (with_reducible repeat (first | apply Kd.R_alloc | apply Kd.R_drewN | apply Kd.R_drew)); exact HO413.out) hb)
        have n3_ := Aside0.mk (blk_below (g := gb387) (o := .cells #[.int .i64 a0_0, .int .i64 a0_1, .int .i64 a0_2, .bool a0_3, .bool a0_4, .slice A0_5 l0_5.length c0_5, .slice A0_6 l0_6.length c0_6, .slice A0_7 l0_7.length c0_7] 26 (0, 0)) (by (with_reducible repeat (first | refine blk_drewN ?_ _ | refine blk_drew ?_ | refine blk_alloc ?_ _)); exact BK387.out) hb)
        have n4_ := Aside0.mk (below_step (by repeat (first | (with_reducible first | exact HB.out | apply below_alloc | apply pw_below_drewN | apply below_drew1 | refine below_set ?_ GE387.out) | exact HB.out)) hb)
        have n5_ := Aside0.mk (hbox)
        have n6_ := Aside0.mk ((by rw [hg]; exact (below_size (by repeat (first | (with_reducible first | exact HB.out | apply below_alloc | apply pw_below_drewN | apply below_drew1 | refine below_set ?_ GE387.out) | exact HB.out))) : w.heap.size ≤ gb414))
        have n7_ := Aside0.mk ((by rw [hg]; exact (below_size (by repeat (first | (with_reducible first | exact HB.out | apply below_alloc | apply pw_below_drewN | apply below_drew1 | refine below_set ?_ GE387.out) | exact HB.out))) : w.heap.size ≤ gb414))
        have n8_ := Aside0.mk ((by rw [hg]; exact Nat.ne_of_lt (blk_lt (g := gb387) (o := .cells #[.int .i64 a0_0, .int .i64 a0_1, .int .i64 a0_2, .bool a0_3, .bool a0_4, .slice A0_5 l0_5.length c0_5, .slice A0_6 l0_6.length c0_6, .slice A0_7 l0_7.length c0_7] 26 (0, 0)) (by (with_reducible repeat (first | refine blk_drewN ?_ _ | refine blk_drew ?_ | refine blk_alloc ?_ _)); exact BK387.out)) : gb387 ≠ gb414))
        have n9_ := Aside0.mk ((by rw [hg]; exact Nat.ne_of_gt (blk_lt (g := gb387) (o := .cells #[.int .i64 a0_0, .int .i64 a0_1, .int .i64 a0_2, .bool a0_3, .bool a0_4, .slice A0_5 l0_5.length c0_5, .slice A0_6 l0_6.length c0_6, .slice A0_7 l0_7.length c0_7] 26 (0, 0)) (by (with_reducible repeat (first | refine blk_drewN ?_ _ | refine blk_drew ?_ | refine blk_alloc ?_ _)); exact BK387.out)) : gb414 ≠ gb387))
        clear HO407
        clear HO410
        clear HO413
        clear BK387
        clear HB
        have HO407 := n0_
        have HO410 := n1_
        have HO413 := n2_
        have BK387 := n3_
        have HB := n4_
        have BK414 := n5_
        have GW414 := n6_
        have GE414 := n7_
        have NB387_414 := n8_
        have NB414_387 := n9_
        clear n0_ n1_ n2_ n3_ n4_ n5_ n6_ n7_ n8_ n9_
        clear hb hbox hg
        refine hK.out _ _ ⟨(blk_cell BK387.out 0).trans rfl, (blk_cell BK387.out 1).trans rfl, (blk_cell BK387.out 2).trans rfl, (blk_cell BK387.out 3).trans rfl, (blk_cell BK387.out 4).trans rfl, (blk_cell BK387.out 5).trans rfl, (blk_cell BK387.out 6).trans rfl, (blk_cell BK387.out 7).trans rfl⟩ (fun hHeld => ?_)
        clear hK K
        refine norm_ (a' := ?_) ?_ ?_
        rotate_left
        ·show Act.put _ (some 4) _ = _
         simp only [Act.put, List.setIfInBounds_toArray, List.set_cons_zero, List.set_cons_succ, i64_w, i32_w]
         rfl
        exact norm_ (by simp only [putAll, Act.put, List.setIfInBounds_toArray, List.set_cons_zero, List.set_cons_succ]) (hCont (.slice Ao45 t405.length co45, .slice Ao44 t408.length co44, .slice Ao43 t411.length co43, gb414) _ ⟨hHeld, (by (with_reducible repeat (first | apply Kd.R_alloc | apply Kd.R_drewN | apply Kd.R_drew)); exact Kd.R_mono HO407.out (fun _ hk => ⟨hk.1.2, hk.2⟩)), (by (with_reducible repeat (first | apply Kd.R_alloc | apply Kd.R_drewN | apply Kd.R_drew)); exact Kd.R_mono HO410.out (fun _ hk => ⟨hk.1.2, hk.2⟩)), (by (with_reducible repeat (first | apply Kd.R_alloc | apply Kd.R_drewN | apply Kd.R_drew)); exact Kd.R_mono HO413.out (fun _ hk => ⟨hk.1.2, hk.2⟩)), (by (with_reducible repeat (first | refine blk_drewN ?_ _ | refine blk_drew ?_ | refine blk_alloc ?_ _)); exact BK387.out), (by (with_reducible repeat (first | refine blk_drewN ?_ _ | refine blk_drew ?_ | refine blk_alloc ?_ _)); exact BK414.out), GW414.out, GE414.out, NB387_414.out, NB414_387.out, (by repeat (first | (with_reducible first | exact HB.out | apply below_alloc | apply pw_below_drewN | apply below_drew1 | refine below_set ?_ GE387.out | refine below_set ?_ GE414.out) | exact HB.out))⟩)
       ·skip
        refine box_step ?hg (N := 4) ?hd (cs := #[.int .i64 0, .int .i64 0, .int .i64 0, .bool false, .bool false, .slice none 0 0, .slice none 0 0, .slice none 0 0]) (t := 26) ?hr ?_; (case hd => rfl); (case hg => rfl); (case hr => first | (go_simp; done) | (go_simp; rfl))
        intro gb414 hg w42 hbox hb
        have n0_ := Aside0.mk (Kd.R_below (by (with_reducible repeat (first | apply Kd.R_alloc | apply Kd.R_drewN | apply Kd.R_drew)); exact HO407.out) hb)
        have n1_ := Aside0.mk (Kd.R_below (by (with_reducible repeat (first | apply Kd.R_alloc | apply Kd.R_drewN | apply Kd.R_drew)); exact HO410.out) hb)
        have n2_ := Aside0.mk (blk_below (g := gb387) (o := .cells #[.int .i64 a0_0, .int .i64 a0_1, .int .i64 a0_2, .bool a0_3, .bool a0_4, .slice A0_5 l0_5.length c0_5, .slice A0_6 l0_6.length c0_6, .slice A0_7 l0_7.length c0_7] 26 (0, 0)) (by (with_reducible repeat (first | refine blk_drewN ?_ _ | refine blk_drew ?_ | refine blk_alloc ?_ _)); exact BK387.out) hb)
        have n3_ := Aside0.mk (below_step (by repeat (first | (with_reducible first | exact HB.out | apply below_alloc | apply pw_below_drewN | apply below_drew1 | refine below_set ?_ GE387.out) | exact HB.out)) hb)
        have n4_ := Aside0.mk (hbox)
        have n5_ := Aside0.mk ((by rw [hg]; exact (below_size (by repeat (first | (with_reducible first | exact HB.out | apply below_alloc | apply pw_below_drewN | apply below_drew1 | refine below_set ?_ GE387.out) | exact HB.out))) : w.heap.size ≤ gb414))
        have n6_ := Aside0.mk ((by rw [hg]; exact (below_size (by repeat (first | (with_reducible first | exact HB.out | apply below_alloc | apply pw_below_drewN | apply below_drew1 | refine below_set ?_ GE387.out) | exact HB.out))) : w.heap.size ≤ gb414))
        have n7_ := Aside0.mk ((by rw [hg]; exact Nat.ne_of_lt (blk_lt (g := gb387) (o := .cells #[.int .i64 a0_0, .int .i64 a0_1, .int .i64 a0_2, .bool a0_3, .bool a0_4, .slice A0_5 l0_5.length c0_5, .slice A0_6 l0_6.length c0_6, .slice A0_7 l0_7.length c0_7] 26 (0, 0)) (by (with_reducible repeat (first | refine blk_drewN ?_ _ | refine blk_drew ?_ | refine blk_alloc ?_ _)); exact BK387.out)) : gb387 ≠ gb414))
        have n8_ := Aside0.mk ((by rw [hg]; exact Nat.ne_of_gt (blk_lt (g := gb387) (o := .cells #[.int .i64 a0_0, .int .i64 a0_1, .int .i64 a0_2, .bool a0_3, .bool a0_4, .slice A0_5 l0_5.length c0_5, .slice A0_6 l0_6.length c0_6, .slice A0_7 l0_7.length c0_7] 26 (0, 0)) (by (with_reducible repeat (first | refine blk_drewN ?_ _ | refine blk_drew ?_ | refine blk_alloc ?_ _)); exact BK387.out)) : gb414 ≠ gb387))
        clear HO407
        clear HO410
        clear BK387
        clear HB
        have HO407 := n0_
        have HO410 := n1_
        have BK387 := n2_
        have HB := n3_
        have BK414 := n4_
        have GW414 := n5_
        have GE414 := n6_
        have NB387_414 := n7_
        have NB414_387 := n8_
        clear n0_ n1_ n2_ n3_ n4_ n5_ n6_ n7_ n8_
        clear hb hbox hg
        refine hK.out _ _ ⟨(blk_cell BK387.out 0).trans rfl, (blk_cell BK387.out 1).trans rfl, (blk_cell BK387.out 2).trans rfl, (blk_cell BK387.out 3).trans rfl, (blk_cell BK387.out 4).trans rfl, (blk_cell BK387.out 5).trans rfl, (blk_cell BK387.out 6).trans rfl, (blk_cell BK387.out 7).trans rfl⟩ (fun hHeld => ?_)
        clear hK K
        refine norm_ (a' := ?_) ?_ ?_
        rotate_left
        ·show Act.put _ (some 4) _ = _
         simp only [Act.put, List.setIfInBounds_toArray, List.set_cons_zero, List.set_cons_succ, i64_w, i32_w]
         rfl
        refine one_ (i := 27) (N := some 57) #[true, true, true, true, true, true, true, true, true, true, true, true, true, true, true, true, true, true, true, true, true, true, true, true, true, true, true, true, false, false, true, false] rfl rfl (one_of HT_.out (by kernel_rfl)) (by decide) (fun K hK => ?_)
        refine goes_ Try.func20 (by kernel_rfl) rfl #[.slice A0_6 l0_6.length c0_6, .int .i64 (wrap64 (a0_0 - 1))] (by rfl) rfl rfl (by (try simp only [List.map_toArray, List.map_cons, List.map_nil]); first | done | rfl | (simp only [List.length_drop, List.length_take]; rfl)) ?_
        with_reducible refine (newellaw20_turned.calls kj1 _ _ l0_6 (wrap64 (a0_0 - 1)) t411 _ ?side1 ?side2 A33.out).mono ?_
        (case side1 => repeat (first | exact (Kd.C_below HR0_6.out HB.out) | (with_reducible refine Kd.C_alloc ?_ _) | (with_reducible refine Kd.C_drewN ?_ _) | (with_reducible refine Kd.C_drew ?_)))
        (case side2 => exact HC0_6.out)
        rintro e w43 ⟨v412, rfl, ho0, hb⟩
        refine ⟨_, rfl, ?_⟩
        have n0_ := Aside0.mk (Kd.R_elder' (by (with_reducible repeat (first | apply Kd.R_alloc | apply Kd.R_drewN | apply Kd.R_drew)); exact HO407.out) (Kd.R_base ho0) hb)
        have n1_ := Aside0.mk (Kd.R_elder' (by (with_reducible repeat (first | apply Kd.R_alloc | apply Kd.R_drewN | apply Kd.R_drew)); exact HO410.out) (Kd.R_base ho0) hb)
        have n2_ := Aside0.mk (Kd.R_lower (Kd.R_new' (Kd.R_new' ho0 (Kd.R_lt (by (with_reducible repeat (first | apply Kd.R_alloc | apply Kd.R_drewN | apply Kd.R_drew)); exact HO407.out))) (Kd.R_lt (by (with_reducible repeat (first | apply Kd.R_alloc | apply Kd.R_drewN | apply Kd.R_drew)); exact HO410.out))) (below_size (by repeat (first | (with_reducible first | exact HB.out | apply below_alloc | apply pw_below_drewN | apply below_drew1 | refine below_set ?_ GE387.out | refine below_set ?_ GE414.out) | exact HB.out))))
        have n3_ := Aside0.mk (blk_below (g := gb387) (o := .cells #[.int .i64 a0_0, .int .i64 a0_1, .int .i64 a0_2, .bool a0_3, .bool a0_4, .slice A0_5 l0_5.length c0_5, .slice A0_6 l0_6.length c0_6, .slice A0_7 l0_7.length c0_7] 26 (0, 0)) (by (with_reducible repeat (first | refine blk_drewN ?_ _ | refine blk_drew ?_ | refine blk_alloc ?_ _)); exact BK387.out) hb)
        have n4_ := Aside0.mk (blk_below (g := gb414) (o := .cells #[.int .i64 0, .int .i64 0, .int .i64 0, .bool false, .bool false, .slice none 0 0, .slice none 0 0, .slice none 0 0] 26 (0, 0)) (by (with_reducible repeat (first | refine blk_drewN ?_ _ | refine blk_drew ?_ | refine blk_alloc ?_ _)); exact BK414.out) hb)
        have n5_ := Aside0.mk (below_step (by repeat (first | (with_reducible first | exact HB.out | apply below_alloc | apply pw_below_drewN | apply below_drew1 | refine below_set ?_ GE387.out | refine below_set ?_ GE414.out) | exact HB.out)) hb)
        clear HO407
        clear HO410
        clear BK387
        clear BK414
        clear HB
        have HO407 := n0_
        have HO410 := n1_
        have HO413 := n2_
        have BK387 := n3_
        have BK414 := n4_
        have HB := n5_
        clear n0_ n1_ n2_ n3_ n4_ n5_
        (try clear hb)
        (try clear hb2)
        (try clear hk)
        (try clear hi)
        (try clear ho0)
        obtain ⟨Ao44, co44, eo44⟩ := Kd.R_slice HO413.out
        (first | subst eo44 | (injection eo44 with f1_ f2_ f3_; have f4_ := f1_.symm; have f5_ := f3_.symm; clear f1_ f2_ f3_; subst f4_; subst f5_))
        obtain ⟨Ao45, co45, eo45⟩ := Kd.R_slice HO410.out
        (first | subst eo45 | (injection eo45 with f1_ f2_ f3_; have f4_ := f1_.symm; have f5_ := f3_.symm; clear f1_ f2_ f3_; subst f4_; subst f5_))
        obtain ⟨Ao46, co46, eo46⟩ := Kd.R_slice HO407.out
        (first | subst eo46 | (injection eo46 with f1_ f2_ f3_; have f4_ := f1_.symm; have f5_ := f3_.symm; clear f1_ f2_ f3_; subst f4_; subst f5_))
        refine hK.out _ _ ⟨(blk_cell BK387.out 0).trans rfl, (blk_cell BK387.out 1).trans rfl, (blk_cell BK387.out 2).trans rfl, (blk_cell BK387.out 3).trans rfl, (blk_cell BK387.out 4).trans rfl, (blk_cell BK387.out 5).trans rfl, (blk_cell BK387.out 6).trans rfl, (blk_cell BK387.out 7).trans rfl⟩ (fun hHeld => ?_)
        clear hK K
        refine norm_ (a' := ?_) ?_ ?_
        rotate_left
        ·show Act.put _ (some 57) _ = _
         simp only [Act.put, List.setIfInBounds_toArray, List.set_cons_zero, List.set_cons_succ, i64_w, i32_w]
         rfl
        refine pure_ (i := 28) (N := some 58) (v := ?_) (a' := ?_) #[true, true, true, true, true, true, true, true, true, true, true, true, true, true, true, true, true, true, true, true, true, true, true, true, true, true, true, true, true, false, true, false] rfl rfl (any_of HT_.out (by kernel_rfl)) (fun _ _ _ h => h) (Or.inl ⟨by rfl, ?_⟩) ?_ ?_
        rotate_left
        ·intro w'
         go_simp
         with_reducible rfl
        rotate_left
        ·simp only [Act.put, List.setIfInBounds_toArray, List.set_cons_zero, List.set_cons_succ, i64_w, i32_w]
         rfl
        refine pure_ (i := 29) (N := some 59) (v := ?_) (a' := ?_) #[true, true, true, true, true, true, true, true, true, true, true, true, true, true, true, true, true, true, true, true, true, true, true, true, true, true, true, true, true, true, true, false] rfl rfl (any_of HT_.out (by kernel_rfl)) (fun _ _ _ h => h) (Or.inl ⟨by rfl, ?_⟩) ?_ ?_
        rotate_left
        ·intro w'
         go_simp
         with_reducible rfl
        rotate_left
        ·simp only [Act.put, List.setIfInBounds_toArray, List.set_cons_zero, List.set_cons_succ, i64_w, i32_w]
         rfl
        exact norm_ (by simp only [putAll, Act.put, List.setIfInBounds_toArray, List.set_cons_zero, List.set_cons_succ]) (hCont (.slice Ao46 t405.length co46, .slice Ao45 t408.length co45, .slice Ao44 t411.length co44, gb414) _ ⟨hHeld, (by (with_reducible repeat (first | apply Kd.R_alloc | apply Kd.R_drewN | apply Kd.R_drew)); exact Kd.R_mono HO407.out (fun _ hk => ⟨hk.1.2, hk.2⟩)), (by (with_reducible repeat (first | apply Kd.R_alloc | apply Kd.R_drewN | apply Kd.R_drew)); exact Kd.R_mono HO410.out (fun _ hk => ⟨hk.1.2, hk.2⟩)), (by (with_reducible repeat (first | apply Kd.R_alloc | apply Kd.R_drewN | apply Kd.R_drew)); exact Kd.R_mono HO413.out (fun _ hk => ⟨hk.1.2, hk.2⟩)), (by (with_reducible repeat (first | refine blk_drewN ?_ _ | refine blk_drew ?_ | refine blk_alloc ?_ _)); exact BK387.out), (by (with_reducible repeat (first | refine blk_drewN ?_ _ | refine blk_drew ?_ | refine blk_alloc ?_ _)); exact BK414.out), GW414.out, GE414.out, NB387_414.out, NB414_387.out, (by repeat (first | (with_reducible first | exact HB.out | apply below_alloc | apply pw_below_drewN | apply below_drew1 | refine below_set ?_ GE387.out | refine below_set ?_ GE414.out) | exact HB.out))⟩)
      ·skip
       refine box_step ?hg (N := 4) ?hd (cs := #[.int .i64 0, .int .i64 0, .int .i64 0, .bool false, .bool false, .slice none 0 0, .slice none 0 0, .slice none 0 0]) (t := 26) ?hr ?_; (case hd => rfl); (case hg => rfl); (case hr => first | (go_simp; done) | (go_simp; rfl))
       intro gb414 hg w41 hbox hb
       have n0_ := Aside0.mk (Kd.R_below (by (with_reducible repeat (first | apply Kd.R_alloc | apply Kd.R_drewN | apply Kd.R_drew)); exact HO407.out) hb)
       have n1_ := Aside0.mk (blk_below (g := gb387) (o := .cells #[.int .i64 a0_0, .int .i64 a0_1, .int .i64 a0_2, .bool a0_3, .bool a0_4, .slice A0_5 l0_5.length c0_5, .slice A0_6 l0_6.length c0_6, .slice A0_7 l0_7.length c0_7] 26 (0, 0)) (by (with_reducible repeat (first | refine blk_drewN ?_ _ | refine blk_drew ?_ | refine blk_alloc ?_ _)); exact BK387.out) hb)
       have n2_ := Aside0.mk (below_step (by repeat (first | (with_reducible first | exact HB.out | apply below_alloc | apply pw_below_drewN | apply below_drew1 | refine below_set ?_ GE387.out) | exact HB.out)) hb)
       have n3_ := Aside0.mk (hbox)
       have n4_ := Aside0.mk ((by rw [hg]; exact (below_size (by repeat (first | (with_reducible first | exact HB.out | apply below_alloc | apply pw_below_drewN | apply below_drew1 | refine below_set ?_ GE387.out) | exact HB.out))) : w.heap.size ≤ gb414))
       have n5_ := Aside0.mk ((by rw [hg]; exact (below_size (by repeat (first | (with_reducible first | exact HB.out | apply below_alloc | apply pw_below_drewN | apply below_drew1 | refine below_set ?_ GE387.out) | exact HB.out))) : w.heap.size ≤ gb414))
       have n6_ := Aside0.mk ((by rw [hg]; exact Nat.ne_of_lt (blk_lt (g := gb387) (o := .cells #[.int .i64 a0_0, .int .i64 a0_1, .int .i64 a0_2, .bool a0_3, .bool a0_4, .slice A0_5 l0_5.length c0_5, .slice A0_6 l0_6.length c0_6, .slice A0_7 l0_7.length c0_7] 26 (0, 0)) (by (with_reducible repeat (first | refine blk_drewN ?_ _ | refine blk_drew ?_ | refine blk_alloc ?_ _)); exact BK387.out)) : gb387 ≠ gb414))
       have n7_ := Aside0.mk ((by rw [hg]; exact Nat.ne_of_gt (blk_lt (g := gb387) (o := .cells #[.int .i64 a0_0, .int .i64 a0_1, .int .i64 a0_2, .bool a0_3, .bool a0_4, .slice A0_5 l0_5.length c0_5, .slice A0_6 l0_6.length c0_6, .slice A0_7 l0_7.length c0_7] 26 (0, 0)) (by (with_reducible repeat (first | refine blk_drewN ?_ _ | refine blk_drew ?_ | refine blk_alloc ?_ _)); exact BK387.out)) : gb414 ≠ gb387))
       clear HO407
       clear BK387
       clear HB
       have HO407 := n0_
       have BK387 := n1_
       have HB := n2_
       have BK414 := n3_
       have GW414 := n4_
       have GE414 := n5_
       have NB387_414 := n6_
       have NB414_387 := n7_
       clear n0_ n1_ n2_ n3_ n4_ n5_ n6_ n7_
       clear hb hbox hg
       refine hK.out _ _ ⟨(blk_cell BK387.out 0).trans rfl, (blk_cell BK387.out 1).trans rfl, (blk_cell BK387.out 2).trans rfl, (blk_cell BK387.out 3).trans rfl, (blk_cell BK387.out 4).trans rfl, (blk_cell BK387.out 5).trans rfl, (blk_cell BK387.out 6).trans rfl, (blk_cell BK387.out 7).trans rfl⟩ (fun hHeld => ?_)
       clear hK K
       refine norm_ (a' := ?_) ?_ ?_
       rotate_left
       ·show Act.put _ (some 4) _ = _
        simp only [Act.put, List.setIfInBounds_toArray, List.set_cons_zero, List.set_cons_succ, i64_w, i32_w]
        rfl
       refine one_ (i := 22) (N := some 52) #[true, true, true, true, true, true, true, true, true, true, true, true, true, true, true, true, true, true, true, true, true, true, true, true, true, true, true, false, false, false, true, false] rfl rfl (one_of HT_.out (by kernel_rfl)) (by decide) (fun K hK => ?_)
       refine goes_ Try.func20 (by kernel_rfl) rfl #[.slice A0_7 l0_7.length c0_7, .int .i64 (wrap64 (a0_0 - 1))] (by rfl) rfl rfl (by (try simp only [List.map_toArray, List.map_cons, List.map_nil]); first | done | rfl | (simp only [List.length_drop, List.length_take]; rfl)) ?_
       with_reducible refine (newellaw20_turned.calls kj1 _ _ l0_7 (wrap64 (a0_0 - 1)) t408 _ ?side1 ?side2 A32.out).mono ?_
       (case side1 => repeat (first | exact (Kd.C_below HR0_7.out HB.out) | (with_reducible refine Kd.C_alloc ?_ _) | (with_reducible refine Kd.C_drewN ?_ _) | (with_reducible refine Kd.C_drew ?_)))
       (case side2 => exact HC0_7.out)
       rintro e w42 ⟨v409, rfl, ho0, hb⟩
       refine ⟨_, rfl, ?_⟩
       have n0_ := Aside0.mk (Kd.R_elder' (by (with_reducible repeat (first | apply Kd.R_alloc | apply Kd.R_drewN | apply Kd.R_drew)); exact HO407.out) (Kd.R_base ho0) hb)
       have n1_ := Aside0.mk (Kd.R_lower (Kd.R_new' ho0 (Kd.R_lt (by (with_reducible repeat (first | apply Kd.R_alloc | apply Kd.R_drewN | apply Kd.R_drew)); exact HO407.out))) (below_size (by repeat (first | (with_reducible first | exact HB.out | apply below_alloc | apply pw_below_drewN | apply below_drew1 | refine below_set ?_ GE387.out | refine below_set ?_ GE414.out) | exact HB.out))))
       have n2_ := Aside0.mk (blk_below (g := gb387) (o := .cells #[.int .i64 a0_0, .int .i64 a0_1, .int .i64 a0_2, .bool a0_3, .bool a0_4, .slice A0_5 l0_5.length c0_5, .slice A0_6 l0_6.length c0_6, .slice A0_7 l0_7.length c0_7] 26 (0, 0)) (by (with_reducible repeat (first | refine blk_drewN ?_ _ | refine blk_drew ?_ | refine blk_alloc ?_ _)); exact BK387.out) hb)
       have n3_ := Aside0.mk (blk_below (g := gb414) (o := .cells #[.int .i64 0, .int .i64 0, .int .i64 0, .bool false, .bool false, .slice none 0 0, .slice none 0 0, .slice none 0 0] 26 (0, 0)) (by (with_reducible repeat (first | refine blk_drewN ?_ _ | refine blk_drew ?_ | refine blk_alloc ?_ _)); exact BK414.out) hb)
       have n4_ := Aside0.mk (below_step (by repeat (first | (with_reducible first | exact HB.out | apply below_alloc | apply pw_below_drewN | apply below_drew1 | refine below_set ?_ GE387.out | refine below_set ?_ GE414.out) | exact HB.out)) hb)
       clear HO407
       clear BK387
       clear BK414
       clear HB
       have HO407 := n0_
       have HO410 := n1_
       have BK387 := n2_
       have BK414 := n3_
       have HB := n4_
       clear n0_ n1_ n2_ n3_ n4_
       (try clear hb)
       (try clear hb2)
       (try clear hk)
       (try clear hi)
       (try clear ho0)
       refine hK.out _ _ ⟨(blk_cell BK387.out 0).trans rfl, (blk_cell BK387.out 1).trans rfl, (blk_cell BK387.out 2).trans rfl, (blk_cell BK387.out 3).trans rfl, (blk_cell BK387.out 4).trans rfl, (blk_cell BK387.out 5).trans rfl, (blk_cell BK387.out 6).trans rfl, (blk_cell BK387.out 7).trans rfl⟩ (fun hHeld => ?_)
       clear hK K
       refine norm_ (a' := ?_) ?_ ?_
       rotate_left
       ·show Act.put _ (some 52) _ = _
        simp only [Act.put, List.setIfInBounds_toArray, List.set_cons_zero, List.set_cons_succ, i64_w, i32_w]
        rfl
       refine one_ (i := 27) (N := some 57) #[true, true, true, true, true, true, true, true, true, true, true, true, true, true, true, true, true, true, true, true, true, true, true, true, true, true, true, true, false, false, true, false] rfl rfl (one_of HT_.out (by kernel_rfl)) (by decide) (fun K hK => ?_)
       refine goes_ Try.func20 (by kernel_rfl) rfl #[.slice A0_6 l0_6.length c0_6, .int .i64 (wrap64 (a0_0 - 1))] (by rfl) rfl rfl (by (try simp only [List.map_toArray, List.map_cons, List.map_nil]); first | done | rfl | (simp only [List.length_drop, List.length_take]; rfl)) ?_
       with_reducible refine (newellaw20_turned.calls kj1 _ _ l0_6 (wrap64 (a0_0 - 1)) t411 _ ?side1 ?side2 A33.out).mono ?_
       (case side1 => repeat (first | exact (Kd.C_below HR0_6.out HB.out) | (with_reducible refine Kd.C_alloc ?_ _) | (with_reducible refine Kd.C_drewN ?_ _) | (with_reducible refine Kd.C_drew ?_)))
       (case side2 => exact HC0_6.out)
       rintro e w43 ⟨v412, rfl, ho0, hb⟩
       refine ⟨_, rfl, ?_⟩
       have n0_ := Aside0.mk (Kd.R_elder' (by (with_reducible repeat (first | apply Kd.R_alloc | apply Kd.R_drewN | apply Kd.R_drew)); exact HO407.out) (Kd.R_base ho0) hb)
       have n1_ := Aside0.mk (Kd.R_elder' (by (with_reducible repeat (first | apply Kd.R_alloc | apply Kd.R_drewN | apply Kd.R_drew)); exact HO410.out) (Kd.R_base ho0) hb)
       have n2_ := Aside0.mk (Kd.R_lower (Kd.R_new' (Kd.R_new' ho0 (Kd.R_lt (by (with_reducible repeat (first | apply Kd.R_alloc | apply Kd.R_drewN | apply Kd.R_drew)); exact HO407.out))) (Kd.R_lt (by (with_reducible repeat (first | apply Kd.R_alloc | apply Kd.R_drewN | apply Kd.R_drew)); exact HO410.out))) (below_size (by repeat (first | (with_reducible first | exact HB.out | apply below_alloc | apply pw_below_drewN | apply below_drew1 | refine below_set ?_ GE387.out | refine below_set ?_ GE414.out) | exact HB.out))))
       have n3_ := Aside0.mk (blk_below (g := gb387) (o := .cells #[.int .i64 a0_0, .int .i64 a0_1, .int .i64 a0_2, .bool a0_3, .bool a0_4, .slice A0_5 l0_5.length c0_5, .slice A0_6 l0_6.length c0_6, .slice A0_7 l0_7.length c0_7] 26 (0, 0)) (by (with_reducible repeat (first | refine blk_drewN ?_ _ | refine blk_drew ?_ | refine blk_alloc ?_ _)); exact BK387.out) hb)
       have n4_ := Aside0.mk (blk_below (g := gb414) (o := .cells #[.int .i64 0, .int .i64 0, .int .i64 0, .bool false, .bool false, .slice none 0 0, .slice none 0 0, .slice none 0 0] 26 (0, 0)) (by (with_reducible repeat (first | refine blk_drewN ?_ _ | refine blk_drew ?_ | refine blk_alloc ?_ _)); exact BK414.out) hb)
       have n5_ := Aside0.mk (below_step (by repeat (first | (with_reducible first | exact HB.out | apply below_alloc | apply pw_below_drewN | apply below_drew1 | refine below_set ?_ GE387.out | refine below_set ?_ GE414.out) | exact HB.out)) hb)
       clear HO407
       clear HO410
       clear BK387
       clear BK414
       clear HB
       have HO407 := n0_
       have HO410 := n1_
       have HO413 := n2_
       have BK387 := n3_
       have BK414 := n4_
       have HB := n5_
       clear n0_ n1_ n2_ n3_ n4_ n5_
       (try clear hb)
       (try clear hb2)
       (try clear hk)
       (try clear hi)
       (try clear ho0)
       obtain ⟨Ao44, co44, eo44⟩ := Kd.R_slice HO413.out
       (first | subst eo44 | (injection eo44 with f1_ f2_ f3_; have f4_ := f1_.symm; have f5_ := f3_.symm; clear f1_ f2_ f3_; subst f4_; subst f5_))
       obtain ⟨Ao45, co45, eo45⟩ := Kd.R_slice HO410.out
       (first | subst eo45 | (injection eo45 with f1_ f2_ f3_; have f4_ := f1_.symm; have f5_ := f3_.symm; clear f1_ f2_ f3_; subst f4_; subst f5_))
       obtain ⟨Ao46, co46, eo46⟩ := Kd.R_slice HO407.out
       (first | subst eo46 | (injection eo46 with f1_ f2_ f3_; have f4_ := f1_.symm; have f5_ := f3_.symm; clear f1_ f2_ f3_; subst f4_; subst f5_))
       refine hK.out _ _ ⟨(blk_cell BK387.out 0).trans rfl, (blk_cell BK387.out 1).trans rfl, (blk_cell BK387.out 2).trans rfl, (blk_cell BK387.out 3).trans rfl, (blk_cell BK387.out 4).trans rfl, (blk_cell BK387.out 5).trans rfl, (blk_cell BK387.out 6).trans rfl, (blk_cell BK387.out 7).trans rfl⟩ (fun hHeld => ?_)
       clear hK K
       refine norm_ (a' := ?_) ?_ ?_
       rotate_left
       ·show Act.put _ (some 57) _ = _
        simp only [Act.put, List.setIfInBounds_toArray, List.set_cons_zero, List.set_cons_succ, i64_w, i32_w]
        rfl
       refine pure_ (i := 28) (N := some 58) (v := ?_) (a' := ?_) #[true, true, true, true, true, true, true, true, true, true, true, true, true, true, true, true, true, true, true, true, true, true, true, true, true, true, true, true, true, false, true, false] rfl rfl (any_of HT_.out (by kernel_rfl)) (fun _ _ _ h => h) (Or.inl ⟨by rfl, ?_⟩) ?_ ?_
       rotate_left
       ·intro w'
        go_simp
        with_reducible rfl
       rotate_left
       ·simp only [Act.put, List.setIfInBounds_toArray, List.set_cons_zero, List.set_cons_succ, i64_w, i32_w]
        rfl
       refine pure_ (i := 29) (N := some 59) (v := ?_) (a' := ?_) #[true, true, true, true, true, true, true, true, true, true, true, true, true, true, true, true, true, true, true, true, true, true, true, true, true, true, true, true, true, true, true, false] rfl rfl (any_of HT_.out (by kernel_rfl)) (fun _ _ _ h => h) (Or.inl ⟨by rfl, ?_⟩) ?_ ?_
       rotate_left
       ·intro w'
        go_simp
        with_reducible rfl
       rotate_left
       ·simp only [Act.put, List.setIfInBounds_toArray, List.set_cons_zero, List.set_cons_succ, i64_w, i32_w]
        rfl
       exact norm_ (by simp only [putAll, Act.put, List.setIfInBounds_toArray, List.set_cons_zero, List.set_cons_succ]) (hCont (.slice Ao46 t405.length co46, .slice Ao45 t408.length co45, .slice Ao44 t411.length co44, gb414) _ ⟨hHeld, (by (with_reducible repeat (first | apply Kd.R_alloc | apply Kd.R_drewN | apply Kd.R_drew)); exact Kd.R_mono HO407.out (fun _ hk => ⟨hk.1.2, hk.2⟩)), (by (with_reducible repeat (first | apply Kd.R_alloc | apply Kd.R_drewN | apply Kd.R_drew)); exact Kd.R_mono HO410.out (fun _ hk => ⟨hk.1.2, hk.2⟩)), (by (with_reducible repeat (first | apply Kd.R_alloc | apply Kd.R_drewN | apply Kd.R_drew)); exact Kd.R_mono HO413.out (fun _ hk => ⟨hk.1.2, hk.2⟩)), (by (with_reducible repeat (first | refine blk_drewN ?_ _ | refine blk_drew ?_ | refine blk_alloc ?_ _)); exact BK387.out), (by (with_reducible repeat (first | refine blk_drewN ?_ _ | refine blk_drew ?_ | refine blk_alloc ?_ _)); exact BK414.out), GW414.out, GE414.out, NB387_414.out, NB414_387.out, (by repeat (first | (with_reducible first | exact HB.out | apply below_alloc | apply pw_below_drewN | apply below_drew1 | refine below_set ?_ GE387.out | refine below_set ?_ GE414.out) | exact HB.out))⟩)
     ·skip
      refine box_step ?hg (N := 4) ?hd (cs := #[.int .i64 0, .int .i64 0, .int .i64 0, .bool false, .bool false, .slice none 0 0, .slice none 0 0, .slice none 0 0]) (t := 26) ?hr ?_; (case hd => rfl); (case hg => rfl); (case hr => first | (go_simp; done) | (go_simp; rfl))
      intro gb414 hg w40 hbox hb
      have n0_ := Aside0.mk (blk_below (g := gb387) (o := .cells #[.int .i64 a0_0, .int .i64 a0_1, .int .i64 a0_2, .bool a0_3, .bool a0_4, .slice A0_5 l0_5.length c0_5, .slice A0_6 l0_6.length c0_6, .slice A0_7 l0_7.length c0_7] 26 (0, 0)) (by (with_reducible repeat (first | refine blk_drewN ?_ _ | refine blk_drew ?_ | refine blk_alloc ?_ _)); exact BK387.out) hb)
      have n1_ := Aside0.mk (below_step (by repeat (first | (with_reducible first | exact HB.out | apply below_alloc | apply pw_below_drewN | apply below_drew1 | refine below_set ?_ GE387.out) | exact HB.out)) hb)
      have n2_ := Aside0.mk (hbox)
      have n3_ := Aside0.mk ((by rw [hg]; exact (below_size (by repeat (first | (with_reducible first | exact HB.out | apply below_alloc | apply pw_below_drewN | apply below_drew1 | refine below_set ?_ GE387.out) | exact HB.out))) : w.heap.size ≤ gb414))
      have n4_ := Aside0.mk ((by rw [hg]; exact (below_size (by repeat (first | (with_reducible first | exact HB.out | apply below_alloc | apply pw_below_drewN | apply below_drew1 | refine below_set ?_ GE387.out) | exact HB.out))) : w.heap.size ≤ gb414))
      have n5_ := Aside0.mk ((by rw [hg]; exact Nat.ne_of_lt (blk_lt (g := gb387) (o := .cells #[.int .i64 a0_0, .int .i64 a0_1, .int .i64 a0_2, .bool a0_3, .bool a0_4, .slice A0_5 l0_5.length c0_5, .slice A0_6 l0_6.length c0_6, .slice A0_7 l0_7.length c0_7] 26 (0, 0)) (by (with_reducible repeat (first | refine blk_drewN ?_ _ | refine blk_drew ?_ | refine blk_alloc ?_ _)); exact BK387.out)) : gb387 ≠ gb414))
      have n6_ := Aside0.mk ((by rw [hg]; exact Nat.ne_of_gt (blk_lt (g := gb387) (o := .cells #[.int .i64 a0_0, .int .i64 a0_1, .int .i64 a0_2, .bool a0_3, .bool a0_4, .slice A0_5 l0_5.length c0_5, .slice A0_6 l0_6.length c0_6, .slice A0_7 l0_7.length c0_7] 26 (0, 0)) (by (with_reducible repeat (first | refine blk_drewN ?_ _ | refine blk_drew ?_ | refine blk_alloc ?_ _)); exact BK387.out)) : gb414 ≠ gb387))
      clear BK387
      clear HB
      have BK387 := n0_
      have HB := n1_
      have BK414 := n2_
      have GW414 := n3_
      have GE414 := n4_
      have NB387_414 := n5_
      have NB414_387 := n6_
      clear n0_ n1_ n2_ n3_ n4_ n5_ n6_
      clear hb hbox hg
      refine hK.out _ _ ⟨(blk_cell BK387.out 0).trans rfl, (blk_cell BK387.out 1).trans rfl, (blk_cell BK387.out 2).trans rfl, (blk_cell BK387.out 3).trans rfl, (blk_cell BK387.out 4).trans rfl, (blk_cell BK387.out 5).trans rfl, (blk_cell BK387.out 6).trans rfl, (blk_cell BK387.out 7).trans rfl⟩ (fun hHeld => ?_)
      clear hK K
      refine norm_ (a' := ?_) ?_ ?_
      rotate_left
      ·show Act.put _ (some 4) _ = _
       simp only [Act.put, List.setIfInBounds_toArray, List.set_cons_zero, List.set_cons_succ, i64_w, i32_w]
       rfl
      refine one_ (i := 17) (N := some 47) #[true, true, true, true, true, true, true, true, true, true, true, true, true, true, true, true, true, true, true, true, true, true, false, true, true, true, true, false, false, false, true, false] rfl rfl (one_of HT_.out (by kernel_rfl)) (by decide) (fun K hK => ?_)
      refine goes_ Try.func20 (by kernel_rfl) rfl #[.slice A0_5 l0_5.length c0_5, .int .i64 (wrap64 (a0_0 - 1))] (by rfl) rfl rfl (by (try simp only [List.map_toArray, List.map_cons, List.map_nil]); first | done | rfl | (simp only [List.length_drop, List.length_take]; rfl)) ?_
      with_reducible refine (newellaw20_turned.calls kj1 _ _ l0_5 (wrap64 (a0_0 - 1)) t405 _ ?side1 ?side2 A31.out).mono ?_
      (case side1 => repeat (first | exact (Kd.C_below HR0_5.out HB.out) | (with_reducible refine Kd.C_alloc ?_ _) | (with_reducible refine Kd.C_drewN ?_ _) | (with_reducible refine Kd.C_drew ?_)))
      (case side2 => exact HC0_5.out)
      rintro e w41 ⟨v406, rfl, ho0, hb⟩
      refine ⟨_, rfl, ?_⟩
      have n0_ := Aside0.mk (Kd.R_lower ho0 (below_size (by repeat (first | (with_reducible first | exact HB.out | apply below_alloc | apply pw_below_drewN | apply below_drew1 | refine below_set ?_ GE387.out | refine below_set ?_ GE414.out) | exact HB.out))))
      have n1_ := Aside0.mk (blk_below (g := gb387) (o := .cells #[.int .i64 a0_0, .int .i64 a0_1, .int .i64 a0_2, .bool a0_3, .bool a0_4, .slice A0_5 l0_5.length c0_5, .slice A0_6 l0_6.length c0_6, .slice A0_7 l0_7.length c0_7] 26 (0, 0)) (by (with_reducible repeat (first | refine blk_drewN ?_ _ | refine blk_drew ?_ | refine blk_alloc ?_ _)); exact BK387.out) hb)
      have n2_ := Aside0.mk (blk_below (g := gb414) (o := .cells #[.int .i64 0, .int .i64 0, .int .i64 0, .bool false, .bool false, .slice none 0 0, .slice none 0 0, .slice none 0 0] 26 (0, 0)) (by (with_reducible repeat (first | refine blk_drewN ?_ _ | refine blk_drew ?_ | refine blk_alloc ?_ _)); exact BK414.out) hb)
      have n3_ := Aside0.mk (below_step (by repeat (first | (with_reducible first | exact HB.out | apply below_alloc | apply pw_below_drewN | apply below_drew1 | refine below_set ?_ GE387.out | refine below_set ?_ GE414.out) | exact HB.out)) hb)
      clear BK387
      clear BK414
      clear HB
      have HO407 := n0_
      have BK387 := n1_
      have BK414 := n2_
      have HB := n3_
      clear n0_ n1_ n2_ n3_
      (try clear hb)
      (try clear hb2)
      (try clear hk)
      (try clear hi)
      (try clear ho0)
      refine hK.out _ _ ⟨(blk_cell BK387.out 0).trans rfl, (blk_cell BK387.out 1).trans rfl, (blk_cell BK387.out 2).trans rfl, (blk_cell BK387.out 3).trans rfl, (blk_cell BK387.out 4).trans rfl, (blk_cell BK387.out 5).trans rfl, (blk_cell BK387.out 6).trans rfl, (blk_cell BK387.out 7).trans rfl⟩ (fun hHeld => ?_)
      clear hK K
      refine norm_ (a' := ?_) ?_ ?_
      rotate_left
      ·show Act.put _ (some 47) _ = _
       simp only [Act.put, List.setIfInBounds_toArray, List.set_cons_zero, List.set_cons_succ, i64_w, i32_w]
       rfl
      refine one_ (i := 22) (N := some 52) #[true, true, true, true, true, true, true, true, true, true, true, true, true, true, true, true, true, true, true, true, true, true, true, true, true, true, true, false, false, false, true, false] rfl rfl (one_of HT_.out (by kernel_rfl)) (by decide) (fun K hK => ?_)
      refine goes_ Try.func20 (by kernel_rfl) rfl #[.slice A0_7 l0_7.length c0_7, .int .i64 (wrap64 (a0_0 - 1))] (by rfl) rfl rfl (by (try simp only [List.map_toArray, List.map_cons, List.map_nil]); first | done | rfl | (simp only [List.length_drop, List.length_take]; rfl)) ?_
      with_reducible refine (newellaw20_turned.calls kj1 _ _ l0_7 (wrap64 (a0_0 - 1)) t408 _ ?side1 ?side2 A32.out).mono ?_
      (case side1 => repeat (first | exact (Kd.C_below HR0_7.out HB.out) | (with_reducible refine Kd.C_alloc ?_ _) | (with_reducible refine Kd.C_drewN ?_ _) | (with_reducible refine Kd.C_drew ?_)))
      (case side2 => exact HC0_7.out)
      rintro e w42 ⟨v409, rfl, ho0, hb⟩
      refine ⟨_, rfl, ?_⟩
      have n0_ := Aside0.mk (Kd.R_elder' (by (with_reducible repeat (first | apply Kd.R_alloc | apply Kd.R_drewN | apply Kd.R_drew)); exact HO407.out) (Kd.R_base ho0) hb)
      have n1_ := Aside0.mk (Kd.R_lower (Kd.R_new' ho0 (Kd.R_lt (by (with_reducible repeat (first | apply Kd.R_alloc | apply Kd.R_drewN | apply Kd.R_drew)); exact HO407.out))) (below_size (by repeat (first | (with_reducible first | exact HB.out | apply below_alloc | apply pw_below_drewN | apply below_drew1 | refine below_set ?_ GE387.out | refine below_set ?_ GE414.out) | exact HB.out))))
      have n2_ := Aside0.mk (blk_below (g := gb387) (o := .cells #[.int .i64 a0_0, .int .i64 a0_1, .int .i64 a0_2, .bool a0_3, .bool a0_4, .slice A0_5 l0_5.length c0_5, .slice A0_6 l0_6.length c0_6, .slice A0_7 l0_7.length c0_7] 26 (0, 0)) (by (with_reducible repeat (first | refine blk_drewN ?_ _ | refine blk_drew ?_ | refine blk_alloc ?_ _)); exact BK387.out) hb)
      have n3_ := Aside0.mk (blk_below (g := gb414) (o := .cells #[.int .i64 0, .int .i64 0, .int .i64 0, .bool false, .bool false, .slice none 0 0, .slice none 0 0, .slice none 0 0] 26 (0, 0)) (by (with_reducible repeat (first | refine blk_drewN ?_ _ | refine blk_drew ?_ | refine blk_alloc ?_ _)); exact BK414.out) hb)
      have n4_ := Aside0.mk (below_step (by repeat (first | (with_reducible first | exact HB.out | apply below_alloc | apply pw_below_drewN | apply below_drew1 | refine below_set ?_ GE387.out | refine below_set ?_ GE414.out) | exact HB.out)) hb)
      clear HO407
      clear BK387
      clear BK414
      clear HB
      have HO407 := n0_
      have HO410 := n1_
      have BK387 := n2_
      have BK414 := n3_
      have HB := n4_
      clear n0_ n1_ n2_ n3_ n4_
      (try clear hb)
      (try clear hb2)
      (try clear hk)
      (try clear hi)
      (try clear ho0)
      refine hK.out _ _ ⟨(blk_cell BK387.out 0).trans rfl, (blk_cell BK387.out 1).trans rfl, (blk_cell BK387.out 2).trans rfl, (blk_cell BK387.out 3).trans rfl, (blk_cell BK387.out 4).trans rfl, (blk_cell BK387.out 5).trans rfl, (blk_cell BK387.out 6).trans rfl, (blk_cell BK387.out 7).trans rfl⟩ (fun hHeld => ?_)
      clear hK K
      refine norm_ (a' := ?_) ?_ ?_
      rotate_left
      ·show Act.put _ (some 52) _ = _
       simp only [Act.put, List.setIfInBounds_toArray, List.set_cons_zero, List.set_cons_succ, i64_w, i32_w]
       rfl
      refine one_ (i := 27) (N := some 57) #[true, true, true, true, true, true, true, true, true, true, true, true, true, true, true, true, true, true, true, true, true, true, true, true, true, true, true, true, false, false, true, false] rfl rfl (one_of HT_.out (by kernel_rfl)) (by decide) (fun K hK => ?_)
      refine goes_ Try.func20 (by kernel_rfl) rfl #[.slice A0_6 l0_6.length c0_6, .int .i64 (wrap64 (a0_0 - 1))] (by rfl) rfl rfl (by (try simp only [List.map_toArray, List.map_cons, List.map_nil]); first | done | rfl | (simp only [List.length_drop, List.length_take]; rfl)) ?_
      with_reducible refine (newellaw20_turned.calls kj1 _ _ l0_6 (wrap64 (a0_0 - 1)) t411 _ ?side1 ?side2 A33.out).mono ?_
      (case side1 => repeat (first | exact (Kd.C_below HR0_6.out HB.out) | (with_reducible refine Kd.C_alloc ?_ _) | (with_reducible refine Kd.C_drewN ?_ _) | (with_reducible refine Kd.C_drew ?_)))
      (case side2 => exact HC0_6.out)
      rintro e w43 ⟨v412, rfl, ho0, hb⟩
      refine ⟨_, rfl, ?_⟩
      have n0_ := Aside0.mk (Kd.R_elder' (by (with_reducible repeat (first | apply Kd.R_alloc | apply Kd.R_drewN | apply Kd.R_drew)); exact HO407.out) (Kd.R_base ho0) hb)
      have n1_ := Aside0.mk (Kd.R_elder' (by (with_reducible repeat (first | apply Kd.R_alloc | apply Kd.R_drewN | apply Kd.R_drew)); exact HO410.out) (Kd.R_base ho0) hb)
      have n2_ := Aside0.mk (Kd.R_lower (Kd.R_new' (Kd.R_new' ho0 (Kd.R_lt (by (with_reducible repeat (first | apply Kd.R_alloc | apply Kd.R_drewN | apply Kd.R_drew)); exact HO407.out))) (Kd.R_lt (by (with_reducible repeat (first | apply Kd.R_alloc | apply Kd.R_drewN | apply Kd.R_drew)); exact HO410.out))) (below_size (by repeat (first | (with_reducible first | exact HB.out | apply below_alloc | apply pw_below_drewN | apply below_drew1 | refine below_set ?_ GE387.out | refine below_set ?_ GE414.out) | exact HB.out))))
      have n3_ := Aside0.mk (blk_below (g := gb387) (o := .cells #[.int .i64 a0_0, .int .i64 a0_1, .int .i64 a0_2, .bool a0_3, .bool a0_4, .slice A0_5 l0_5.length c0_5, .slice A0_6 l0_6.length c0_6, .slice A0_7 l0_7.length c0_7] 26 (0, 0)) (by (with_reducible repeat (first | refine blk_drewN ?_ _ | refine blk_drew ?_ | refine blk_alloc ?_ _)); exact BK387.out) hb)
      have n4_ := Aside0.mk (blk_below (g := gb414) (o := .cells #[.int .i64 0, .int .i64 0, .int .i64 0, .bool false, .bool false, .slice none 0 0, .slice none 0 0, .slice none 0 0] 26 (0, 0)) (by (with_reducible repeat (first | refine blk_drewN ?_ _ | refine blk_drew ?_ | refine blk_alloc ?_ _)); exact BK414.out) hb)
      have n5_ := Aside0.mk (below_step (by repeat (first | (with_reducible first | exact HB.out | apply below_alloc | apply pw_below_drewN | apply below_drew1 | refine below_set ?_ GE387.out | refine below_set ?_ GE414.out) | exact HB.out)) hb)
      clear HO407
      clear HO410
      clear BK387
      clear BK414
      clear HB
      have HO407 := n0_
      have HO410 := n1_
      have HO413 := n2_
      have BK387 := n3_
      have BK414 := n4_
      have HB := n5_
      clear n0_ n1_ n2_ n3_ n4_ n5_
      (try clear hb)
      (try clear hb2)
      (try clear hk)
      (try clear hi)
      (try clear ho0)
      obtain ⟨Ao44, co44, eo44⟩ := Kd.R_slice HO413.out
      (first | subst eo44 | (injection eo44 with f1_ f2_ f3_; have f4_ := f1_.symm; have f5_ := f3_.symm; clear f1_ f2_ f3_; subst f4_; subst f5_))
      obtain ⟨Ao45, co45, eo45⟩ := Kd.R_slice HO410.out
      (first | subst eo45 | (injection eo45 with f1_ f2_ f3_; have f4_ := f1_.symm; have f5_ := f3_.symm; clear f1_ f2_ f3_; subst f4_; subst f5_))
      obtain ⟨Ao46, co46, eo46⟩ := Kd.R_slice HO407.out
      (first | subst eo46 | (injection eo46 with f1_ f2_ f3_; have f4_ := f1_.symm; have f5_ := f3_.symm; clear f1_ f2_ f3_; subst f4_; subst f5_))
      refine hK.out _ _ ⟨(blk_cell BK387.out 0).trans rfl, (blk_cell BK387.out 1).trans rfl, (blk_cell BK387.out 2).trans rfl, (blk_cell BK387.out 3).trans rfl, (blk_cell BK387.out 4).trans rfl, (blk_cell BK387.out 5).trans rfl, (blk_cell BK387.out 6).trans rfl, (blk_cell BK387.out 7).trans rfl⟩ (fun hHeld => ?_)
      clear hK K
      refine norm_ (a' := ?_) ?_ ?_
      rotate_left
      ·show Act.put _ (some 57) _ = _
       simp only [Act.put, List.setIfInBounds_toArray, List.set_cons_zero, List.set_cons_succ, i64_w, i32_w]
       rfl
      refine pure_ (i := 28) (N := some 58) (v := ?_) (a' := ?_) #[true, true, true, true, true, true, true, true, true, true, true, true, true, true, true, true, true, true, true, true, true, true, true, true, true, true, true, true, true, false, true, false] rfl rfl (any_of HT_.out (by kernel_rfl)) (fun _ _ _ h => h) (Or.inl ⟨by rfl, ?_⟩) ?_ ?_
      rotate_left
      ·intro w'
       go_simp
       with_reducible rfl
      rotate_left
      ·simp only [Act.put, List.setIfInBounds_toArray, List.set_cons_zero, List.set_cons_succ, i64_w, i32_w]
       rfl
      refine pure_ (i := 29) (N := some 59) (v := ?_) (a' := ?_) #[true, true, true, true, true, true, true, true, true, true, true, true, true, true, true, true, true, true, true, true, true, true, true, true, true, true, true, true, true, true, true, false] rfl rfl (any_of HT_.out (by kernel_rfl)) (fun _ _ _ h => h) (Or.inl ⟨by rfl, ?_⟩) ?_ ?_
      rotate_left
      ·intro w'
       go_simp
       with_reducible rfl
      rotate_left
      ·simp only [Act.put, List.setIfInBounds_toArray, List.set_cons_zero, List.set_cons_succ, i64_w, i32_w]
       rfl
      exact norm_ (by simp only [putAll, Act.put, List.setIfInBounds_toArray, List.set_cons_zero, List.set_cons_succ]) (hCont (.slice Ao46 t405.length co46, .slice Ao45 t408.length co45, .slice Ao44 t411.length co44, gb414) _ ⟨hHeld, (by (with_reducible repeat (first | apply Kd.R_alloc | apply Kd.R_drewN | apply Kd.R_drew)); exact Kd.R_mono HO407.out (fun _ hk => ⟨hk.1.2, hk.2⟩)), (by (with_reducible repeat (first | apply Kd.R_alloc | apply Kd.R_drewN | apply Kd.R_drew)); exact Kd.R_mono HO410.out (fun _ hk => ⟨hk.1.2, hk.2⟩)), (by (with_reducible repeat (first | apply Kd.R_alloc | apply Kd.R_drewN | apply Kd.R_drew)); exact Kd.R_mono HO413.out (fun _ hk => ⟨hk.1.2, hk.2⟩)), (by (with_reducible repeat (first | refine blk_drewN ?_ _ | refine blk_drew ?_ | refine blk_alloc ?_ _)); exact BK387.out), (by (with_reducible repeat (first | refine blk_drewN ?_ _ | refine blk_drew ?_ | refine blk_alloc ?_ _)); exact BK414.out), GW414.out, GE414.out, NB387_414.out, NB414_387.out, (by repeat (first | (with_reducible first | exact HB.out | apply below_alloc | apply pw_below_drewN | apply below_drew1 | refine below_set ?_ GE387.out | refine below_set ?_ GE414.out) | exact HB.out))⟩)
    rintro ⟨v406, v409, v412, gb414⟩ w47 ⟨hS_, h0_, h1_, h2_, h3_, h4_, h5_, h6_, h7_, h8_, h9_⟩
    have n0_ : Aside0 (Kd.R (Kd.int .i64) 3 w47 w.heap.size (fun k_ => some k_ ≠ (v409 : Value).ownBlock ∧ some k_ ≠ (v412 : Value).ownBlock) v406 t405) := ⟨h0_⟩
    have n1_ : Aside0 (Kd.R (Kd.int .i64) 3 w47 w.heap.size (fun k_ => some k_ ≠ (v406 : Value).ownBlock ∧ some k_ ≠ (v412 : Value).ownBlock) v409 t408) := ⟨h1_⟩
    have n2_ : Aside0 (Kd.R (Kd.int .i64) 3 w47 w.heap.size (fun k_ => some k_ ≠ (v406 : Value).ownBlock ∧ some k_ ≠ (v409 : Value).ownBlock) v412 t411) := ⟨h2_⟩
    have n3_ : Aside0 (w47.heap[gb387]? = some (.cells #[.int .i64 a0_0, .int .i64 a0_1, .int .i64 a0_2, .bool a0_3, .bool a0_4, .slice A0_5 l0_5.length c0_5, .slice A0_6 l0_6.length c0_6, .slice A0_7 l0_7.length c0_7] 26 (0, 0))) := ⟨h3_⟩
    have n4_ : Aside0 (w47.heap[gb414]? = some (.cells #[.int .i64 0, .int .i64 0, .int .i64 0, .bool false, .bool false, .slice none 0 0, .slice none 0 0, .slice none 0 0] 26 (0, 0))) := ⟨h4_⟩
    have n5_ : Aside0 (w.heap.size ≤ gb414) := ⟨h5_⟩
    have n6_ : Aside0 (w.heap.size ≤ gb414) := ⟨h6_⟩
    have n7_ : Aside0 (gb387 ≠ gb414) := ⟨h7_⟩
    have n8_ : Aside0 (gb414 ≠ gb387) := ⟨h8_⟩
    have n9_ : Aside0 (Below w.heap.size w w47) := ⟨h9_⟩
    clear BK387
    clear HB
    clear h0_ h1_ h2_ h3_ h4_ h5_ h6_ h7_ h8_ h9_
    have HO407 := n0_
    have HO410 := n1_
    have HO413 := n2_
    have BK387 := n3_
    have BK414 := n4_
    have GW414 := n5_
    have GE414 := n6_
    have NB387_414 := n7_
    have NB414_387 := n8_
    have HB := n9_
    clear n0_ n1_ n2_ n3_ n4_ n5_ n6_ n7_ n8_ n9_
    have hHeld : w47.cell? ⟨gb387, 0, none⟩ = some (.int .i64 a0_0) ∧ w47.cell? ⟨gb387, 1, none⟩ = some (.int .i64 a0_1) ∧ w47.cell? ⟨gb387, 2, none⟩ = some (.int .i64 a0_2) ∧ w47.cell? ⟨gb387, 3, none⟩ = some (.bool a0_3) ∧ w47.cell? ⟨gb387, 4, none⟩ = some (.bool a0_4) ∧ w47.cell? ⟨gb387, 5, none⟩ = some (.slice A0_5 l0_5.length c0_5) ∧ w47.cell? ⟨gb387, 6, none⟩ = some (.slice A0_6 l0_6.length c0_6) ∧ w47.cell? ⟨gb387, 7, none⟩ = some (.slice A0_7 l0_7.length c0_7) := hS_
    obtain ⟨Ao48, co48, eo48⟩ := Kd.R_slice HO413.out
    (first | subst eo48 | (injection eo48 with f1_ f2_ f3_; have f4_ := f1_.symm; have f5_ := f3_.symm; clear f1_ f2_ f3_; subst f4_; subst f5_))
    obtain ⟨Ao49, co49, eo49⟩ := Kd.R_slice HO410.out
    (first | subst eo49 | (injection eo49 with f1_ f2_ f3_; have f4_ := f1_.symm; have f5_ := f3_.symm; clear f1_ f2_ f3_; subst f4_; subst f5_))
    obtain ⟨Ao50, co50, eo50⟩ := Kd.R_slice HO407.out
    (first | subst eo50 | (injection eo50 with f1_ f2_ f3_; have f4_ := f1_.symm; have f5_ := f3_.symm; clear f1_ f2_ f3_; subst f4_; subst f5_))
    refine norm_ (a' := ?_) ?_ ?_
    rotate_left
    ·simp only [putAll, Act.put, List.setIfInBounds_toArray, List.set_cons_zero, List.set_cons_succ]
     rfl
    refine one_ (i := 31) (N := none) #[true, true, true, true, true, true, true, true, true, true, true, true, true, true, true, true, true, true, true, true, true, true, true, true, true, true, true, true, true, true, true, true] rfl rfl (one_of HT_.out (by kernel_rfl)) (by decide) (fun K hK => ?_)
    have hs51 : w47.cell? ⟨gb414, 0, none⟩ = some (.int .i64 0) := (blk_cell BK414.out 0).trans rfl
    have hfs51 := blk_frozen BK414.out 0
    have hns51_0 := NB387_414.out
    have hms51_0 := NB414_387.out
    have hs52 : w47.cell? ⟨gb414, 1, none⟩ = some (.int .i64 0) := (blk_cell BK414.out 1).trans rfl
    have hfs52 := blk_frozen BK414.out 1
    have hns52_0 := NB387_414.out
    have hms52_0 := NB414_387.out
    have hs53 : w47.cell? ⟨gb414, 2, none⟩ = some (.int .i64 0) := (blk_cell BK414.out 2).trans rfl
    have hfs53 := blk_frozen BK414.out 2
    have hns53_0 := NB387_414.out
    have hms53_0 := NB414_387.out
    have hs54 : w47.cell? ⟨gb414, 3, none⟩ = some (.bool false) := (blk_cell BK414.out 3).trans rfl
    have hfs54 := blk_frozen BK414.out 3
    have hns54_0 := NB387_414.out
    have hms54_0 := NB414_387.out
    have hs55 : w47.cell? ⟨gb414, 4, none⟩ = some (.bool false) := (blk_cell BK414.out 4).trans rfl
    have hfs55 := blk_frozen BK414.out 4
    have hns55_0 := NB387_414.out
    have hms55_0 := NB414_387.out
    have hs56 : w47.cell? ⟨gb414, 5, none⟩ = some (.slice none 0 0) := (blk_cell BK414.out 5).trans rfl
    have hfs56 := blk_frozen BK414.out 5
    have hns56_0 := NB387_414.out
    have hms56_0 := NB414_387.out
    have hs57 : w47.cell? ⟨gb414, 6, none⟩ = some (.slice none 0 0) := (blk_cell BK414.out 6).trans rfl
    have hfs57 := blk_frozen BK414.out 6
    have hns57_0 := NB387_414.out
    have hms57_0 := NB414_387.out
    have hs58 : w47.cell? ⟨gb414, 7, none⟩ = some (.slice none 0 0) := (blk_cell BK414.out 7).trans rfl
    have hfs58 := blk_frozen BK414.out 7
    have hns58_0 := NB387_414.out
    have hms58_0 := NB414_387.out
    refine skip_ (w1 := ?_) (by rfl) rfl ?_ ?_
    rotate_left
    ·go_simp
     rfl
    refine hK.out _ _ ⟨((cell_far (p := ⟨gb414, _, none⟩) NB387_414.out _).trans (((cell_far (p := ⟨gb414, _, none⟩) NB387_414.out _).trans (((cell_far (p := ⟨gb414, _, none⟩) NB387_414.out _).trans (((cell_far (p := ⟨gb414, _, none⟩) NB387_414.out _).trans (((cell_far (p := ⟨gb414, _, none⟩) NB387_414.out _).trans (((cell_far (p := ⟨gb414, _, none⟩) NB387_414.out _).trans (((cell_far (p := ⟨gb414, _, none⟩) NB387_414.out _).trans (((cell_far (p := ⟨gb414, _, none⟩) NB387_414.out _).trans (hHeld.1)))))))))))))))), ((cell_far (p := ⟨gb414, _, none⟩) NB387_414.out _).trans (((cell_far (p := ⟨gb414, _, none⟩) NB387_414.out _).trans (((cell_far (p := ⟨gb414, _, none⟩) NB387_414.out _).trans (((cell_far (p := ⟨gb414, _, none⟩) NB387_414.out _).trans (((cell_far (p := ⟨gb414, _, none⟩) NB387_414.out _).trans (((cell_far (p := ⟨gb414, _, none⟩) NB387_414.out _).trans (((cell_far (p := ⟨gb414, _, none⟩) NB387_414.out _).trans (((cell_far (p := ⟨gb414, _, none⟩) NB387_414.out _).trans (hHeld.2.1)))))))))))))))), ((cell_far (p := ⟨gb414, _, none⟩) NB387_414.out _).trans (((cell_far (p := ⟨gb414, _, none⟩) NB387_414.out _).trans (((cell_far (p := ⟨gb414, _, none⟩) NB387_414.out _).trans (((cell_far (p := ⟨gb414, _, none⟩) NB387_414.out _).trans (((cell_far (p := ⟨gb414, _, none⟩) NB387_414.out _).trans (((cell_far (p := ⟨gb414, _, none⟩) NB387_414.out _).trans (((cell_far (p := ⟨gb414, _, none⟩) NB387_414.out _).trans (((cell_far (p := ⟨gb414, _, none⟩) NB387_414.out _).trans (hHeld.2.2.1)))))))))))))))), ((cell_far (p := ⟨gb414, _, none⟩) NB387_414.out _).trans (((cell_far (p := ⟨gb414, _, none⟩) NB387_414.out _).trans (((cell_far (p := ⟨gb414, _, none⟩) NB387_414.out _).trans (((cell_far (p := ⟨gb414, _, none⟩) NB387_414.out _).trans (((cell_far (p := ⟨gb414, _, none⟩) NB387_414.out _).trans (((cell_far (p := ⟨gb414, _, none⟩) NB387_414.out _).trans (((cell_far (p := ⟨gb414, _, none⟩) NB387_414.out _).trans (((cell_far (p := ⟨gb414, _, none⟩) NB387_414.out _).trans (hHeld.2.2.2.1)))))))))))))))), ((cell_far (p := ⟨gb414, _, none⟩) NB387_414.out _).trans (((cell_far (p := ⟨gb414, _, none⟩) NB387_414.out _).trans (((cell_far (p := ⟨gb414, _, none⟩) NB387_414.out _).trans (((cell_far (p := ⟨gb414, _, none⟩) NB387_414.out _).trans (((cell_far (p := ⟨gb414, _, none⟩) NB387_414.out _).trans (((cell_far (p := ⟨gb414, _, none⟩) NB387_414.out _).trans (((cell_far (p := ⟨gb414, _, none⟩) NB387_414.out _).trans (((cell_far (p := ⟨gb414, _, none⟩) NB387_414.out _).trans (hHeld.2.2.2.2.1)))))))))))))))), ((cell_far (p := ⟨gb414, _, none⟩) NB387_414.out _).trans (((cell_far (p := ⟨gb414, _, none⟩) NB387_414.out _).trans (((cell_far (p := ⟨gb414, _, none⟩) NB387_414.out _).trans (((cell_far (p := ⟨gb414, _, none⟩) NB387_414.out _).trans (((cell_far (p := ⟨gb414, _, none⟩) NB387_414.out _).trans (((cell_far (p := ⟨gb414, _, none⟩) NB387_414.out _).trans (((cell_far (p := ⟨gb414, _, none⟩) NB387_414.out _).trans (((cell_far (p := ⟨gb414, _, none⟩) NB387_414.out _).trans (hHeld.2.2.2.2.2.1)))))))))))))))), ((cell_far (p := ⟨gb414, _, none⟩) NB387_414.out _).trans (((cell_far (p := ⟨gb414, _, none⟩) NB387_414.out _).trans (((cell_far (p := ⟨gb414, _, none⟩) NB387_414.out _).trans (((cell_far (p := ⟨gb414, _, none⟩) NB387_414.out _).trans (((cell_far (p := ⟨gb414, _, none⟩) NB387_414.out _).trans (((cell_far (p := ⟨gb414, _, none⟩) NB387_414.out _).trans (((cell_far (p := ⟨gb414, _, none⟩) NB387_414.out _).trans (((cell_far (p := ⟨gb414, _, none⟩) NB387_414.out _).trans (hHeld.2.2.2.2.2.2.1)))))))))))))))), ((cell_far (p := ⟨gb414, _, none⟩) NB387_414.out _).trans (((cell_far (p := ⟨gb414, _, none⟩) NB387_414.out _).trans (((cell_far (p := ⟨gb414, _, none⟩) NB387_414.out _).trans (((cell_far (p := ⟨gb414, _, none⟩) NB387_414.out _).trans (((cell_far (p := ⟨gb414, _, none⟩) NB387_414.out _).trans (((cell_far (p := ⟨gb414, _, none⟩) NB387_414.out _).trans (((cell_far (p := ⟨gb414, _, none⟩) NB387_414.out _).trans (((cell_far (p := ⟨gb414, _, none⟩) NB387_414.out _).trans (hHeld.2.2.2.2.2.2.2))))))))))))))))⟩ (fun hHeld => ?_)
    clear hK K
    refine done_ (done_of HT_.out (by kernel_rfl)) ?_
    have hnb59 := NB387_414.out
    have hnc59 := NB414_387.out
    have hcz60_0 : w47.cell? ⟨gb387, 0, none⟩ = some (.int .i64 a0_0) := (blk_cell BK387.out 0).trans rfl
    have hcz60_1 : w47.cell? ⟨gb387, 1, none⟩ = some (.int .i64 a0_1) := (blk_cell BK387.out 1).trans rfl
    have hcz60_2 : w47.cell? ⟨gb387, 2, none⟩ = some (.int .i64 a0_2) := (blk_cell BK387.out 2).trans rfl
    have hcz60_3 : w47.cell? ⟨gb387, 3, none⟩ = some (.bool a0_3) := (blk_cell BK387.out 3).trans rfl
    have hcz60_4 : w47.cell? ⟨gb387, 4, none⟩ = some (.bool a0_4) := (blk_cell BK387.out 4).trans rfl
    have hcz60_5 : w47.cell? ⟨gb387, 5, none⟩ = some (.slice A0_5 l0_5.length c0_5) := (blk_cell BK387.out 5).trans rfl
    have hcz60_6 : w47.cell? ⟨gb387, 6, none⟩ = some (.slice A0_6 l0_6.length c0_6) := (blk_cell BK387.out 6).trans rfl
    have hcz60_7 : w47.cell? ⟨gb387, 7, none⟩ = some (.slice A0_7 l0_7.length c0_7) := (blk_cell BK387.out 7).trans rfl
    have hfz60_0 := blk_frozen BK387.out 0
    have hfz60_1 := blk_frozen BK387.out 1
    have hfz60_2 := blk_frozen BK387.out 2
    have hfz60_3 := blk_frozen BK387.out 3
    have hfz60_4 := blk_frozen BK387.out 4
    have hfz60_5 := blk_frozen BK387.out 5
    have hfz60_6 := blk_frozen BK387.out 6
    have hfz60_7 := blk_frozen BK387.out 7
    go_upto_region 7 with (first | ((with_reducible refine gate_callee (f := 12) rfl ?_); refine goesL_ (some 62) rfl rfl Try.func12 (by kernel_rfl) rfl #[.agg #[.int .i64 a0_0, .int .i64 a0_1, .int .i64 a0_2, .bool a0_3, .bool a0_4, .slice A0_5 l0_5.length c0_5, .slice A0_6 l0_6.length c0_6, .slice A0_7 l0_7.length c0_7]] rfl (by (try simp only [List.map_toArray, List.map_cons, List.map_nil]); first | done | rfl | (simp only [List.length_drop, List.length_take]; rfl)) ?_; (with_reducible refine (newellaw20_Own.calls a0_0 a0_1 a0_2 a0_3 a0_4 _ _ l0_5 _ _ l0_6 _ _ l0_7 t415 t416 t417 t418 t419 t420 t423 t426 _ ?side1 ?side2 ?side3 ?side4 ?side5 ?side6 A34.out).mono ?_); (case side1 => exact Kd.C_below HR0_5.out (by repeat (first | (with_reducible first | exact HB.out | apply below_alloc | apply pw_below_drewN | apply below_drew1 | refine below_set ?_ GE387.out | refine below_set ?_ GE414.out) | exact HB.out))); (case side2 => exact HC0_5.out); (case side3 => exact Kd.C_below HR0_6.out (by repeat (first | (with_reducible first | exact HB.out | apply below_alloc | apply pw_below_drewN | apply below_drew1 | refine below_set ?_ GE387.out | refine below_set ?_ GE414.out) | exact HB.out))); (case side4 => exact HC0_6.out); (case side5 => exact Kd.C_below HR0_7.out (by repeat (first | (with_reducible first | exact HB.out | apply below_alloc | apply pw_below_drewN | apply below_drew1 | refine below_set ?_ GE387.out | refine below_set ?_ GE414.out) | exact HB.out))); (case side6 => exact HC0_7.out); rintro e w61 ⟨v421, v424, v427, rfl, ho0, ho1, ho2, hb⟩; refine ⟨_, rfl, ?_⟩; have n0_ := Aside0.mk (Kd.R_mono (Kd.R_told (Kd.R_told (Kd.R_told (Kd.R_old (by (with_reducible repeat (first | apply Kd.R_alloc | apply Kd.R_drewN | apply Kd.R_drew)); exact (Kd.R_mono (Kd.R_far (p := ⟨gb414, 7, none⟩) (Kd.R_far (p := ⟨gb414, 6, none⟩) (Kd.R_far (p := ⟨gb414, 5, none⟩) (Kd.R_far (p := ⟨gb414, 4, none⟩) (Kd.R_far (p := ⟨gb414, 3, none⟩) (Kd.R_far (p := ⟨gb414, 2, none⟩) (Kd.R_far (p := ⟨gb414, 1, none⟩) (Kd.R_far (p := ⟨gb414, 0, none⟩) (Kd.R_types HO407.out BK414.out (by decide)) (fun _ hk => hk.2) (.int .i64 a0_0)) (fun _ hk => hk.2) (.int .i64 (wrap64 ((wrap64 (a0_0 - 1)) - a0_1)))) (fun _ hk => hk.2) (.int .i64 (wrap64 (-a0_2)))) (fun _ hk => hk.2) (.bool a0_4)) (fun _ hk => hk.2) (.bool a0_3)) (fun _ hk => hk.2) (.slice Ao50 t405.length co50)) (fun _ hk => hk.2) (.slice Ao49 t408.length co49)) (fun _ hk => hk.2) (.slice Ao48 t411.length co48)) (fun _ h_ => h_.1))) hb) (Kd.R_base ho0)) (Kd.R_base ho1)) (Kd.R_base ho2)) (fun _ h_ => h_.1)); have n1_ := Aside0.mk (Kd.R_mono (Kd.R_told (Kd.R_told (Kd.R_told (Kd.R_old (by (with_reducible repeat (first | apply Kd.R_alloc | apply Kd.R_drewN | apply Kd.R_drew)); exact (Kd.R_mono (Kd.R_far (p := ⟨gb414, 7, none⟩) (Kd.R_far (p := ⟨gb414, 6, none⟩) (Kd.R_far (p := ⟨gb414, 5, none⟩) (Kd.R_far (p := ⟨gb414, 4, none⟩) (Kd.R_far (p := ⟨gb414, 3, none⟩) (Kd.R_far (p := ⟨gb414, 2, none⟩) (Kd.R_far (p := ⟨gb414, 1, none⟩) (Kd.R_far (p := ⟨gb414, 0, none⟩) (Kd.R_types HO410.out BK414.out (by decide)) (fun _ hk => hk.2) (.int .i64 a0_0)) (fun _ hk => hk.2) (.int .i64 (wrap64 ((wrap64 (a0_0 - 1)) - a0_1)))) (fun _ hk => hk.2) (.int .i64 (wrap64 (-a0_2)))) (fun _ hk => hk.2) (.bool a0_4)) (fun _ hk => hk.2) (.bool a0_3)) (fun _ hk => hk.2) (.slice Ao50 t405.length co50)) (fun _ hk => hk.2) (.slice Ao49 t408.length co49)) (fun _ hk => hk.2) (.slice Ao48 t411.length co48)) (fun _ h_ => h_.1))) hb) (Kd.R_base ho0)) (Kd.R_base ho1)) (Kd.R_base ho2)) (fun _ h_ => h_.1)); have n2_ := Aside0.mk (Kd.R_mono (Kd.R_told (Kd.R_told (Kd.R_told (Kd.R_old (by (with_reducible repeat (first | apply Kd.R_alloc | apply Kd.R_drewN | apply Kd.R_drew)); exact (Kd.R_mono (Kd.R_far (p := ⟨gb414, 7, none⟩) (Kd.R_far (p := ⟨gb414, 6, none⟩) (Kd.R_far (p := ⟨gb414, 5, none⟩) (Kd.R_far (p := ⟨gb414, 4, none⟩) (Kd.R_far (p := ⟨gb414, 3, none⟩) (Kd.R_far (p := ⟨gb414, 2, none⟩) (Kd.R_far (p := ⟨gb414, 1, none⟩) (Kd.R_far (p := ⟨gb414, 0, none⟩) (Kd.R_types HO413.out BK414.out (by decide)) (fun _ hk => hk.2) (.int .i64 a0_0)) (fun _ hk => hk.2) (.int .i64 (wrap64 ((wrap64 (a0_0 - 1)) - a0_1)))) (fun _ hk => hk.2) (.int .i64 (wrap64 (-a0_2)))) (fun _ hk => hk.2) (.bool a0_4)) (fun _ hk => hk.2) (.bool a0_3)) (fun _ hk => hk.2) (.slice Ao50 t405.length co50)) (fun _ hk => hk.2) (.slice Ao49 t408.length co49)) (fun _ hk => hk.2) (.slice Ao48 t411.length co48)) (fun _ h_ => h_.1))) hb) (Kd.R_base ho0)) (Kd.R_base ho1)) (Kd.R_base ho2)) (fun _ h_ => h_.1)); have n3_ := Aside0.mk (Kd.R_lower (Kd.R_new' (Kd.R_new' (Kd.R_new' ho0 (Kd.R_lt (by (with_reducible repeat (first | apply Kd.R_alloc | apply Kd.R_drewN | apply Kd.R_drew)); exact (Kd.R_mono (Kd.R_far (p := ⟨gb414, 7, none⟩) (Kd.R_far (p := ⟨gb414, 6, none⟩) (Kd.R_far (p := ⟨gb414, 5, none⟩) (Kd.R_far (p := ⟨gb414, 4, none⟩) (Kd.R_far (p := ⟨gb414, 3, none⟩) (Kd.R_far (p := ⟨gb414, 2, none⟩) (Kd.R_far (p := ⟨gb414, 1, none⟩) (Kd.R_far (p := ⟨gb414, 0, none⟩) (Kd.R_types HO407.out BK414.out (by decide)) (fun _ hk => hk.2) (.int .i64 a0_0)) (fun _ hk => hk.2) (.int .i64 (wrap64 ((wrap64 (a0_0 - 1)) - a0_1)))) (fun _ hk => hk.2) (.int .i64 (wrap64 (-a0_2)))) (fun _ hk => hk.2) (.bool a0_4)) (fun _ hk => hk.2) (.bool a0_3)) (fun _ hk => hk.2) (.slice Ao50 t405.length co50)) (fun _ hk => hk.2) (.slice Ao49 t408.length co49)) (fun _ hk => hk.2) (.slice Ao48 t411.length co48)) (fun _ h_ => h_.1))))) (Kd.R_lt (by (with_reducible repeat (first | apply Kd.R_alloc | apply Kd.R_drewN | apply Kd.R_drew)); exact (Kd.R_mono (Kd.R_far (p := ⟨gb414, 7, none⟩) (Kd.R_far (p := ⟨gb414, 6, none⟩) (Kd.R_far (p := ⟨gb414, 5, none⟩) (Kd.R_far (p := ⟨gb414, 4, none⟩) (Kd.R_far (p := ⟨gb414, 3, none⟩) (Kd.R_far (p := ⟨gb414, 2, none⟩) (Kd.R_far (p := ⟨gb414, 1, none⟩) (Kd.R_far (p := ⟨gb414, 0, none⟩) (Kd.R_types HO410.out BK414.out (by decide)) (fun _ hk => hk.2) (.int .i64 a0_0)) (fun _ hk => hk.2) (.int .i64 (wrap64 ((wrap64 (a0_0 - 1)) - a0_1)))) (fun _ hk => hk.2) (.int .i64 (wrap64 (-a0_2)))) (fun _ hk => hk.2) (.bool a0_4)) (fun _ hk => hk.2) (.bool a0_3)) (fun _ hk => hk.2) (.slice Ao50 t405.length co50)) (fun _ hk => hk.2) (.slice Ao49 t408.length co49)) (fun _ hk => hk.2) (.slice Ao48 t411.length co48)) (fun _ h_ => h_.1))))) (Kd.R_lt (by (with_reducible repeat (first | apply Kd.R_alloc | apply Kd.R_drewN | apply Kd.R_drew)); exact (Kd.R_mono (Kd.R_far (p := ⟨gb414, 7, none⟩) (Kd.R_far (p := ⟨gb414, 6, none⟩) (Kd.R_far (p := ⟨gb414, 5, none⟩) (Kd.R_far (p := ⟨gb414, 4, none⟩) (Kd.R_far (p := ⟨gb414, 3, none⟩) (Kd.R_far (p := ⟨gb414, 2, none⟩) (Kd.R_far (p := ⟨gb414, 1, none⟩) (Kd.R_far (p := ⟨gb414, 0, none⟩) (Kd.R_types HO413.out BK414.out (by decide)) (fun _ hk => hk.2) (.int .i64 a0_0)) (fun _ hk => hk.2) (.int .i64 (wrap64 ((wrap64 (a0_0 - 1)) - a0_1)))) (fun _ hk => hk.2) (.int .i64 (wrap64 (-a0_2)))) (fun _ hk => hk.2) (.bool a0_4)) (fun _ hk => hk.2) (.bool a0_3)) (fun _ hk => hk.2) (.slice Ao50 t405.length co50)) (fun _ hk => hk.2) (.slice Ao49 t408.length co49)) (fun _ hk => hk.2) (.slice Ao48 t411.length co48)) (fun _ h_ => h_.1))))) (below_size (by repeat (first | (with_reducible first | exact HB.out | apply below_alloc | apply pw_below_drewN | apply below_drew1 | refine below_set ?_ GE387.out | refine below_set ?_ GE414.out) | exact HB.out)))); have n4_ := Aside0.mk (Kd.R_lower (Kd.R_new' (Kd.R_new' (Kd.R_new' ho1 (Kd.R_lt (by (with_reducible repeat (first | apply Kd.R_alloc | apply Kd.R_drewN | apply Kd.R_drew)); exact (Kd.R_mono (Kd.R_far (p := ⟨gb414, 7, none⟩) (Kd.R_far (p := ⟨gb414, 6, none⟩) (Kd.R_far (p := ⟨gb414, 5, none⟩) (Kd.R_far (p := ⟨gb414, 4, none⟩) (Kd.R_far (p := ⟨gb414, 3, none⟩) (Kd.R_far (p := ⟨gb414, 2, none⟩) (Kd.R_far (p := ⟨gb414, 1, none⟩) (Kd.R_far (p := ⟨gb414, 0, none⟩) (Kd.R_types HO407.out BK414.out (by decide)) (fun _ hk => hk.2) (.int .i64 a0_0)) (fun _ hk => hk.2) (.int .i64 (wrap64 ((wrap64 (a0_0 - 1)) - a0_1)))) (fun _ hk => hk.2) (.int .i64 (wrap64 (-a0_2)))) (fun _ hk => hk.2) (.bool a0_4)) (fun _ hk => hk.2) (.bool a0_3)) (fun _ hk => hk.2) (.slice Ao50 t405.length co50)) (fun _ hk => hk.2) (.slice Ao49 t408.length co49)) (fun _ hk => hk.2) (.slice Ao48 t411.length co48)) (fun _ h_ => h_.1))))) (Kd.R_lt (by (with_reducible repeat (first | apply Kd.R_alloc | apply Kd.R_drewN | apply Kd.R_drew)); exact (Kd.R_mono (Kd.R_far (p := ⟨gb414, 7, none⟩) (Kd.R_far (p := ⟨gb414, 6, none⟩) (Kd.R_far (p := ⟨gb414, 5, none⟩) (Kd.R_far (p := ⟨gb414, 4, none⟩) (Kd.R_far (p := ⟨gb414, 3, none⟩) (Kd.R_far (p := ⟨gb414, 2, none⟩) (Kd.R_far (p := ⟨gb414, 1, none⟩) (Kd.R_far (p := ⟨gb414, 0, none⟩) (Kd.R_types HO410.out BK414.out (by decide)) (fun _ hk => hk.2) (.int .i64 a0_0)) (fun _ hk => hk.2) (.int .i64 (wrap64 ((wrap64 (a0_0 - 1)) - a0_1)))) (fun _ hk => hk.2) (.int .i64 (wrap64 (-a0_2)))) (fun _ hk => hk.2) (.bool a0_4)) (fun _ hk => hk.2) (.bool a0_3)) (fun _ hk => hk.2) (.slice Ao50 t405.length co50)) (fun _ hk => hk.2) (.slice Ao49 t408.length co49)) (fun _ hk => hk.2) (.slice Ao48 t411.length co48)) (fun _ h_ => h_.1))))) (Kd.R_lt (by (with_reducible repeat (first | apply Kd.R_alloc | apply Kd.R_drewN | apply Kd.R_drew)); exact (Kd.R_mono (Kd.R_far (p := ⟨gb414, 7, none⟩) (Kd.R_far (p := ⟨gb414, 6, none⟩) (Kd.R_far (p := ⟨gb414, 5, none⟩) (Kd.R_far (p := ⟨gb414, 4, none⟩) (Kd.R_far (p := ⟨gb414, 3, none⟩) (Kd.R_far (p := ⟨gb414, 2, none⟩) (Kd.R_far (p := ⟨gb414, 1, none⟩) (Kd.R_far (p := ⟨gb414, 0, none⟩) (Kd.R_types HO413.out BK414.out (by decide)) (fun _ hk => hk.2) (.int .i64 a0_0)) (fun _ hk => hk.2) (.int .i64 (wrap64 ((wrap64 (a0_0 - 1)) - a0_1)))) (fun _ hk => hk.2) (.int .i64 (wrap64 (-a0_2)))) (fun _ hk => hk.2) (.bool a0_4)) (fun _ hk => hk.2) (.bool a0_3)) (fun _ hk => hk.2) (.slice Ao50 t405.length co50)) (fun _ hk => hk.2) (.slice Ao49 t408.length co49)) (fun _ hk => hk.2) (.slice Ao48 t411.length co48)) (fun _ h_ => h_.1))))) (below_size (by repeat (first | (with_reducible first | exact HB.out | apply below_alloc | apply pw_below_drewN | apply below_drew1 | refine below_set ?_ GE387.out | refine below_set ?_ GE414.out) | exact HB.out)))); have n5_ := Aside0.mk (Kd.R_lower (Kd.R_new' (Kd.R_new' (Kd.R_new' ho2 (Kd.R_lt (by (with_reducible repeat (first | apply Kd.R_alloc | apply Kd.R_drewN | apply Kd.R_drew)); exact (Kd.R_mono (Kd.R_far (p := ⟨gb414, 7, none⟩) (Kd.R_far (p := ⟨gb414, 6, none⟩) (Kd.R_far (p := ⟨gb414, 5, none⟩) (Kd.R_far (p := ⟨gb414, 4, none⟩) (Kd.R_far (p := ⟨gb414, 3, none⟩) (Kd.R_far (p := ⟨gb414, 2, none⟩) (Kd.R_far (p := ⟨gb414, 1, none⟩) (Kd.R_far (p := ⟨gb414, 0, none⟩) (Kd.R_types HO407.out BK414.out (by decide)) (fun _ hk => hk.2) (.int .i64 a0_0)) (fun _ hk => hk.2) (.int .i64 (wrap64 ((wrap64 (a0_0 - 1)) - a0_1)))) (fun _ hk => hk.2) (.int .i64 (wrap64 (-a0_2)))) (fun _ hk => hk.2) (.bool a0_4)) (fun _ hk => hk.2) (.bool a0_3)) (fun _ hk => hk.2) (.slice Ao50 t405.length co50)) (fun _ hk => hk.2) (.slice Ao49 t408.length co49)) (fun _ hk => hk.2) (.slice Ao48 t411.length co48)) (fun _ h_ => h_.1))))) (Kd.R_lt (by (with_reducible repeat (first | apply Kd.R_alloc | apply Kd.R_drewN | apply Kd.R_drew)); exact (Kd.R_mono (Kd.R_far (p := ⟨gb414, 7, none⟩) (Kd.R_far (p := ⟨gb414, 6, none⟩) (Kd.R_far (p := ⟨gb414, 5, none⟩) (Kd.R_far (p := ⟨gb414, 4, none⟩) (Kd.R_far (p := ⟨gb414, 3, none⟩) (Kd.R_far (p := ⟨gb414, 2, none⟩) (Kd.R_far (p := ⟨gb414, 1, none⟩) (Kd.R_far (p := ⟨gb414, 0, none⟩) (Kd.R_types HO410.out BK414.out (by decide)) (fun _ hk => hk.2) (.int .i64 a0_0)) (fun _ hk => hk.2) (.int .i64 (wrap64 ((wrap64 (a0_0 - 1)) - a0_1)))) (fun _ hk => hk.2) (.int .i64 (wrap64 (-a0_2)))) (fun _ hk => hk.2) (.bool a0_4)) (fun _ hk => hk.2) (.bool a0_3)) (fun _ hk => hk.2) (.slice Ao50 t405.length co50)) (fun _ hk => hk.2) (.slice Ao49 t408.length co49)) (fun _ hk => hk.2) (.slice Ao48 t411.length co48)) (fun _ h_ => h_.1))))) (Kd.R_lt (by (with_reducible repeat (first | apply Kd.R_alloc | apply Kd.R_drewN | apply Kd.R_drew)); exact (Kd.R_mono (Kd.R_far (p := ⟨gb414, 7, none⟩) (Kd.R_far (p := ⟨gb414, 6, none⟩) (Kd.R_far (p := ⟨gb414, 5, none⟩) (Kd.R_far (p := ⟨gb414, 4, none⟩) (Kd.R_far (p := ⟨gb414, 3, none⟩) (Kd.R_far (p := ⟨gb414, 2, none⟩) (Kd.R_far (p := ⟨gb414, 1, none⟩) (Kd.R_far (p := ⟨gb414, 0, none⟩) (Kd.R_types HO413.out BK414.out (by decide)) (fun _ hk => hk.2) (.int .i64 a0_0)) (fun _ hk => hk.2) (.int .i64 (wrap64 ((wrap64 (a0_0 - 1)) - a0_1)))) (fun _ hk => hk.2) (.int .i64 (wrap64 (-a0_2)))) (fun _ hk => hk.2) (.bool a0_4)) (fun _ hk => hk.2) (.bool a0_3)) (fun _ hk => hk.2) (.slice Ao50 t405.length co50)) (fun _ hk => hk.2) (.slice Ao49 t408.length co49)) (fun _ hk => hk.2) (.slice Ao48 t411.length co48)) (fun _ h_ => h_.1))))) (below_size (by repeat (first | (with_reducible first | exact HB.out | apply below_alloc | apply pw_below_drewN | apply below_drew1 | refine below_set ?_ GE387.out | refine below_set ?_ GE414.out) | exact HB.out)))); have n6_ := Aside0.mk (blk_below (g := gb387) (o := .cells #[.int .i64 a0_0, .int .i64 a0_1, .int .i64 a0_2, .bool a0_3, .bool a0_4, .slice A0_5 l0_5.length c0_5, .slice A0_6 l0_6.length c0_6, .slice A0_7 l0_7.length c0_7] 26 (0, 0)) (by (with_reducible repeat (first | refine blk_drewN ?_ _ | refine blk_drew ?_ | refine blk_alloc ?_ _)); refine blk_far ?_ NB387_414.out _; (with_reducible repeat (first | refine blk_drewN ?_ _ | refine blk_drew ?_ | refine blk_alloc ?_ _)); refine blk_far ?_ NB387_414.out _; (with_reducible repeat (first | refine blk_drewN ?_ _ | refine blk_drew ?_ | refine blk_alloc ?_ _)); refine blk_far ?_ NB387_414.out _; (with_reducible repeat (first | refine blk_drewN ?_ _ | refine blk_drew ?_ | refine blk_alloc ?_ _)); refine blk_far ?_ NB387_414.out _; (with_reducible repeat (first | refine blk_drewN ?_ _ | refine blk_drew ?_ | refine blk_alloc ?_ _)); refine blk_far ?_ NB387_414.out _; (with_reducible repeat (first | refine blk_drewN ?_ _ | refine blk_drew ?_ | refine blk_alloc ?_ _)); refine blk_far ?_ NB387_414.out _; (with_reducible repeat (first | refine blk_drewN ?_ _ | refine blk_drew ?_ | refine blk_alloc ?_ _)); refine blk_far ?_ NB387_414.out _; (with_reducible repeat (first | refine blk_drewN ?_ _ | refine blk_drew ?_ | refine blk_alloc ?_ _)); refine blk_far ?_ NB387_414.out _; (with_reducible repeat (first | refine blk_drewN ?_ _ | refine blk_drew ?_ | refine blk_alloc ?_ _)); exact BK387.out) hb); have n7_ := Aside0.mk (blk_below (g := gb414) (o := .cells #[.int .i64 a0_0, .int .i64 (wrap64 ((wrap64 (a0_0 - 1)) - a0_1)), .int .i64 (wrap64 (-a0_2)), .bool a0_4, .bool a0_3, .slice Ao50 t405.length co50, .slice Ao49 t408.length co49, .slice Ao48 t411.length co48] 26 (0, 0)) (by (with_reducible repeat (first | refine blk_drewN ?_ _ | refine blk_drew ?_ | refine blk_alloc ?_ _)); refine blk_put (cs := #[.int .i64 a0_0, .int .i64 (wrap64 ((wrap64 (a0_0 - 1)) - a0_1)), .int .i64 (wrap64 (-a0_2)), .bool a0_4, .bool a0_3, .slice Ao50 t405.length co50, .slice Ao49 t408.length co49, .slice none 0 0]) ?_ 7 _ rfl; (with_reducible repeat (first | refine blk_drewN ?_ _ | refine blk_drew ?_ | refine blk_alloc ?_ _)); refine blk_put (cs := #[.int .i64 a0_0, .int .i64 (wrap64 ((wrap64 (a0_0 - 1)) - a0_1)), .int .i64 (wrap64 (-a0_2)), .bool a0_4, .bool a0_3, .slice Ao50 t405.length co50, .slice none 0 0, .slice none 0 0]) ?_ 6 _ rfl; (with_reducible repeat (first | refine blk_drewN ?_ _ | refine blk_drew ?_ | refine blk_alloc ?_ _)); refine blk_put (cs := #[.int .i64 a0_0, .int .i64 (wrap64 ((wrap64 (a0_0 - 1)) - a0_1)), .int .i64 (wrap64 (-a0_2)), .bool a0_4, .bool a0_3, .slice none 0 0, .slice none 0 0, .slice none 0 0]) ?_ 5 _ rfl; (with_reducible repeat (first | refine blk_drewN ?_ _ | refine blk_drew ?_ | refine blk_alloc ?_ _)); refine blk_put (cs := #[.int .i64 a0_0, .int .i64 (wrap64 ((wrap64 (a0_0 - 1)) - a0_1)), .int .i64 (wrap64 (-a0_2)), .bool a0_4, .bool false, .slice none 0 0, .slice none 0 0, .slice none 0 0]) ?_ 4 _ rfl; (with_reducible repeat (first | refine blk_drewN ?_ _ | refine blk_drew ?_ | refine blk_alloc ?_ _)); refine blk_put (cs := #[.int .i64 a0_0, .int .i64 (wrap64 ((wrap64 (a0_0 - 1)) - a0_1)), .int .i64 (wrap64 (-a0_2)), .bool false, .bool false, .slice none 0 0, .slice none 0 0, .slice none 0 0]) ?_ 3 _ rfl; (with_reducible repeat (first | refine blk_drewN ?_ _ | refine blk_drew ?_ | refine blk_alloc ?_ _)); refine blk_put (cs := #[.int .i64 a0_0, .int .i64 (wrap64 ((wrap64 (a0_0 - 1)) - a0_1)), .int .i64 0, .bool false, .bool false, .slice none 0 0, .slice none 0 0, .slice none 0 0]) ?_ 2 _ rfl; (with_reducible repeat (first | refine blk_drewN ?_ _ | refine blk_drew ?_ | refine blk_alloc ?_ _)); refine blk_put (cs := #[.int .i64 a0_0, .int .i64 0, .int .i64 0, .bool false, .bool false, .slice none 0 0, .slice none 0 0, .slice none 0 0]) ?_ 1 _ rfl; (with_reducible repeat (first | refine blk_drewN ?_ _ | refine blk_drew ?_ | refine blk_alloc ?_ _)); refine blk_put (cs := #[.int .i64 0, .int .i64 0, .int .i64 0, .bool false, .bool false, .slice none 0 0, .slice none 0 0, .slice none 0 0]) ?_ 0 _ rfl; (with_reducible repeat (first | refine blk_drewN ?_ _ | refine blk_drew ?_ | refine blk_alloc ?_ _)); exact BK414.out) hb); have n8_ := Aside0.mk (below_step (by repeat (first | (with_reducible first | exact HB.out | apply below_alloc | apply pw_below_drewN | apply below_drew1 | refine below_set ?_ GE387.out | refine below_set ?_ GE414.out) | exact HB.out)) hb); clear HO407; clear HO410; clear HO413; clear BK387; clear BK414; clear HB; have HO407 := n0_; have HO410 := n1_; have HO413 := n2_; have HO422 := n3_; have HO425 := n4_; have HO428 := n5_; have BK387 := n6_; have BK414 := n7_; have HB := n8_; clear n0_ n1_ n2_ n3_ n4_ n5_ n6_ n7_ n8_; (try clear hb); (try clear hb2); (try clear hk); (try clear hi); (try clear ho0); (try clear ho1); (try clear ho2); obtain ⟨Ao62, co62, eo62⟩ := Kd.R_slice HO422.out; subst eo62; obtain ⟨Ao63, co63, eo63⟩ := Kd.R_slice HO425.out; subst eo63; obtain ⟨Ao64, co64, eo64⟩ := Kd.R_slice HO428.out; subst eo64) | ((with_reducible refine gate_callee (f := 11) rfl ?_); refine goesL_ (some 63) rfl rfl Try.func11 (by kernel_rfl) rfl #[.agg #[.int .i64 t415, .int .i64 t416, .int .i64 t417, .bool t418, .bool t419, .slice Ao62 t420.length co62, .slice Ao63 t423.length co63, .slice Ao64 t426.length co64]] rfl (by (try simp only [List.map_toArray, List.map_cons, List.map_nil]); first | done | rfl | (simp only [List.length_drop, List.length_take]; rfl)) ?_; (with_reducible refine (collect_Next.calls kj1 t415 t416 t417 t418 t419 _ _ t420 _ _ t423 _ _ t426 t429 t430 t431 _ ?side1 ?side2 ?side3 ?side4 ?side5 ?side6 A35.out).mono ?_); (case side1 => repeat (first | exact (Kd.R_reads' HO422.out).2.2 | (with_reducible refine Kd.C_alloc ?_ _) | (with_reducible refine Kd.C_drewN ?_ _) | (with_reducible refine Kd.C_drew ?_))); (case side2 => exact (Kd.R_reads' HO422.out).2.1); (case side3 => repeat (first | exact (Kd.R_reads' HO425.out).2.2 | (with_reducible refine Kd.C_alloc ?_ _) | (with_reducible refine Kd.C_drewN ?_ _) | (with_reducible refine Kd.C_drew ?_))); (case side4 => exact (Kd.R_reads' HO425.out).2.1); (case side5 => repeat (first | exact (Kd.R_reads' HO428.out).2.2 | (with_reducible refine Kd.C_alloc ?_ _) | (with_reducible refine Kd.C_drewN ?_ _) | (with_reducible refine Kd.C_drew ?_))); (case side6 => exact (Kd.R_reads' HO428.out).2.1); rintro e w65 ⟨rfl, hb⟩; refine ⟨_, rfl, ?_⟩; have n0_ := Aside0.mk (Kd.R_below (by (with_reducible repeat (first | apply Kd.R_alloc | apply Kd.R_drewN | apply Kd.R_drew)); exact HO407.out) hb); have n1_ := Aside0.mk (Kd.R_below (by (with_reducible repeat (first | apply Kd.R_alloc | apply Kd.R_drewN | apply Kd.R_drew)); exact HO410.out) hb); have n2_ := Aside0.mk (Kd.R_below (by (with_reducible repeat (first | apply Kd.R_alloc | apply Kd.R_drewN | apply Kd.R_drew)); exact HO413.out) hb); have n3_ := Aside0.mk (Kd.R_below (by (with_reducible repeat (first | apply Kd.R_alloc | apply Kd.R_drewN | apply Kd.R_drew)); exact HO422.out) hb); have n4_ := Aside0.mk (Kd.R_below (by (with_reducible repeat (first | apply Kd.R_alloc | apply Kd.R_drewN | apply Kd.R_drew)); exact HO425.out) hb); have n5_ := Aside0.mk (Kd.R_below (by (with_reducible repeat (first | apply Kd.R_alloc | apply Kd.R_drewN | apply Kd.R_drew)); exact HO428.out) hb); have n6_ := Aside0.mk (blk_below (g := gb387) (o := .cells #[.int .i64 a0_0, .int .i64 a0_1, .int .i64 a0_2, .bool a0_3, .bool a0_4, .slice A0_5 l0_5.length c0_5, .slice A0_6 l0_6.length c0_6, .slice A0_7 l0_7.length c0_7] 26 (0, 0)) (by (with_reducible repeat (first | refine blk_drewN ?_ _ | refine blk_drew ?_ | refine blk_alloc ?_ _)); exact BK387.out) hb); have n7_ := Aside0.mk (blk_below (g := gb414) (o := .cells #[.int .i64 a0_0, .int .i64 (wrap64 ((wrap64 (a0_0 - 1)) - a0_1)), .int .i64 (wrap64 (-a0_2)), .bool a0_4, .bool a0_3, .slice Ao50 t405.length co50, .slice Ao49 t408.length co49, .slice Ao48 t411.length co48] 26 (0, 0)) (by (with_reducible repeat (first | refine blk_drewN ?_ _ | refine blk_drew ?_ | refine blk_alloc ?_ _)); exact BK414.out) hb); have n8_ := Aside0.mk (below_step (by repeat (first | (with_reducible first | exact HB.out | apply below_alloc | apply pw_below_drewN | apply below_drew1 | refine below_set ?_ GE387.out | refine below_set ?_ GE414.out) | exact HB.out)) hb); clear HO407; clear HO410; clear HO413; clear HO422; clear HO425; clear HO428; clear BK387; clear BK414; clear HB; have HO407 := n0_; have HO410 := n1_; have HO413 := n2_; have HO422 := n3_; have HO425 := n4_; have HO428 := n5_; have BK387 := n6_; have BK414 := n7_; have HB := n8_; clear n0_ n1_ n2_ n3_ n4_ n5_ n6_ n7_ n8_; (try clear hb); (try clear hb2); (try clear hk); (try clear hi); have hcz66_0 : w65.cell? ⟨gb414, 0, none⟩ = some (.int .i64 a0_0) := (blk_cell BK414.out 0).trans rfl; have hcz66_1 : w65.cell? ⟨gb414, 1, none⟩ = some (.int .i64 (wrap64 ((wrap64 (a0_0 - 1)) - a0_1))) := (blk_cell BK414.out 1).trans rfl; have hcz66_2 : w65.cell? ⟨gb414, 2, none⟩ = some (.int .i64 (wrap64 (-a0_2))) := (blk_cell BK414.out 2).trans rfl; have hcz66_3 : w65.cell? ⟨gb414, 3, none⟩ = some (.bool a0_4) := (blk_cell BK414.out 3).trans rfl; have hcz66_4 : w65.cell? ⟨gb414, 4, none⟩ = some (.bool a0_3) := (blk_cell BK414.out 4).trans rfl; have hcz66_5 : w65.cell? ⟨gb414, 5, none⟩ = some (.slice Ao50 t405.length co50) := (blk_cell BK414.out 5).trans rfl; have hcz66_6 : w65.cell? ⟨gb414, 6, none⟩ = some (.slice Ao49 t408.length co49) := (blk_cell BK414.out 6).trans rfl; have hcz66_7 : w65.cell? ⟨gb414, 7, none⟩ = some (.slice Ao48 t411.length co48) := (blk_cell BK414.out 7).trans rfl; have hfz66_0 := blk_frozen BK414.out 0; have hfz66_1 := blk_frozen BK414.out 1; have hfz66_2 := blk_frozen BK414.out 2; have hfz66_3 := blk_frozen BK414.out 3; have hfz66_4 := blk_frozen BK414.out 4; have hfz66_5 := blk_frozen BK414.out 5; have hfz66_6 := blk_frozen BK414.out 6; have hfz66_7 := blk_frozen BK414.out 7) | ((with_reducible refine gate_callee (f := 11) rfl ?_); refine goesL_ (some 69) rfl rfl Try.func11 (by kernel_rfl) rfl #[.agg #[.int .i64 a0_0, .int .i64 (wrap64 ((wrap64 (a0_0 - 1)) - a0_1)), .int .i64 (wrap64 (-a0_2)), .bool a0_4, .bool a0_3, .slice Ao50 t405.length co50, .slice Ao49 t408.length co49, .slice Ao48 t411.length co48]] rfl (by (try simp only [List.map_toArray, List.map_cons, List.map_nil]); first | done | rfl | (simp only [List.length_drop, List.length_take]; rfl)) ?_; (with_reducible refine (collect_Next.calls kj1 a0_0 (wrap64 ((wrap64 (a0_0 - 1)) - a0_1)) (wrap64 (-a0_2)) a0_4 a0_3 _ _ t405 _ _ t408 _ _ t411 t432 t433 t434 _ ?side1 ?side2 ?side3 ?side4 ?side5 ?side6 A36.out).mono ?_); (case side1 => repeat (first | exact (Kd.R_reads' HO407.out).2.2 | (with_reducible refine Kd.C_alloc ?_ _) | (with_reducible refine Kd.C_drewN ?_ _) | (with_reducible refine Kd.C_drew ?_))); (case side2 => exact (Kd.R_reads' HO407.out).2.1); (case side3 => repeat (first | exact (Kd.R_reads' HO410.out).2.2 | (with_reducible refine Kd.C_alloc ?_ _) | (with_reducible refine Kd.C_drewN ?_ _) | (with_reducible refine Kd.C_drew ?_))); (case side4 => exact (Kd.R_reads' HO410.out).2.1); (case side5 => repeat (first | exact (Kd.R_reads' HO413.out).2.2 | (with_reducible refine Kd.C_alloc ?_ _) | (with_reducible refine Kd.C_drewN ?_ _) | (with_reducible refine Kd.C_drew ?_))); (case side6 => exact (Kd.R_reads' HO413.out).2.1); rintro e w67 ⟨rfl, hb⟩; refine ⟨_, rfl, ?_⟩; have n0_ := Aside0.mk (Kd.R_below (by (with_reducible repeat (first | apply Kd.R_alloc | apply Kd.R_drewN | apply Kd.R_drew)); exact HO407.out) hb); have n1_ := Aside0.mk (Kd.R_below (by (with_reducible repeat (first | apply Kd.R_alloc | apply Kd.R_drewN | apply Kd.R_drew)); exact HO410.out) hb); have n2_ := Aside0.mk (Kd.R_below (by (with_reducible repeat (first | apply Kd.R_alloc | apply Kd.R_drewN | apply Kd.R_drew)); exact HO413.out) hb); have n3_ := Aside0.mk (Kd.R_below (by (with_reducible repeat (first | apply Kd.R_alloc | apply Kd.R_drewN | apply Kd.R_drew)); exact HO422.out) hb); have n4_ := Aside0.mk (Kd.R_below (by (with_reducible repeat (first | apply Kd.R_alloc | apply Kd.R_drewN | apply Kd.R_drew)); exact HO425.out) hb); have n5_ := Aside0.mk (Kd.R_below (by (with_reducible repeat (first | apply Kd.R_alloc | apply Kd.R_drewN | apply Kd.R_drew)); exact HO428.out) hb); have n6_ := Aside0.mk (blk_below (g := gb387) (o := .cells #[.int .i64 a0_0, .int .i64 a0_1, .int .i64 a0_2, .bool a0_3, .bool a0_4, .slice A0_5 l0_5.length c0_5, .slice A0_6 l0_6.length c0_6, .slice A0_7 l0_7.length c0_7] 26 (0, 0)) (by (with_reducible repeat (first | refine blk_drewN ?_ _ | refine blk_drew ?_ | refine blk_alloc ?_ _)); exact BK387.out) hb); have n7_ := Aside0.mk (blk_below (g := gb414) (o := .cells #[.int .i64 a0_0, .int .i64 (wrap64 ((wrap64 (a0_0 - 1)) - a0_1)), .int .i64 (wrap64 (-a0_2)), .bool a0_4, .bool a0_3, .slice Ao50 t405.length co50, .slice Ao49 t408.length co49, .slice Ao48 t411.length co48] 26 (0, 0)) (by (with_reducible repeat (first | refine blk_drewN ?_ _ | refine blk_drew ?_ | refine blk_alloc ?_ _)); exact BK414.out) hb); have n8_ := Aside0.mk (below_step (by repeat (first | (with_reducible first | exact HB.out | apply below_alloc | apply pw_below_drewN | apply below_drew1 | refine below_set ?_ GE387.out | refine below_set ?_ GE414.out) | exact HB.out)) hb); clear HO407; clear HO410; clear HO413; clear HO422; clear HO425; clear HO428; clear BK387; clear BK414; clear HB; have HO407 := n0_; have HO410 := n1_; have HO413 := n2_; have HO422 := n3_; have HO425 := n4_; have HO428 := n5_; have BK387 := n6_; have BK414 := n7_; have HB := n8_; clear n0_ n1_ n2_ n3_ n4_ n5_ n6_ n7_ n8_; (try clear hb); (try clear hb2); (try clear hk); (try clear hi)))
    (try simp only [Act.put, List.setIfInBounds_toArray, List.set_cons_zero, List.set_cons_succ])
    go_cut [84] (fun v84 wc => ∃ (kq : Nat) (x84_36 : Bool), v84 = .bool x84_36 ∧ Aside0 (newellaw20_CollectMirror.j1 kq t429 t432 x84_36 = some r) ∧ Aside0 (kq ≤ kj1) ∧ Aside0 (Kd.R (Kd.int .i64) 3 wc w.heap.size (fun k_ => some k_ ≠ ((.slice Ao49 t408.length co49) : Value).ownBlock ∧ some k_ ≠ ((.slice Ao48 t411.length co48) : Value).ownBlock) (.slice Ao50 t405.length co50) t405) ∧ Aside0 (Kd.R (Kd.int .i64) 3 wc w.heap.size (fun k_ => some k_ ≠ ((.slice Ao50 t405.length co50) : Value).ownBlock ∧ some k_ ≠ ((.slice Ao48 t411.length co48) : Value).ownBlock) (.slice Ao49 t408.length co49) t408) ∧ Aside0 (Kd.R (Kd.int .i64) 3 wc w.heap.size (fun k_ => some k_ ≠ ((.slice Ao50 t405.length co50) : Value).ownBlock ∧ some k_ ≠ ((.slice Ao49 t408.length co49) : Value).ownBlock) (.slice Ao48 t411.length co48) t411) ∧ Aside0 (wc.heap[gb387]? = some (.cells #[.int .i64 a0_0, .int .i64 a0_1, .int .i64 a0_2, .bool a0_3, .bool a0_4, (.slice A0_5 l0_5.length c0_5), (.slice A0_6 l0_6.length c0_6), (.slice A0_7 l0_7.length c0_7)] 26 (0, 0))) ∧ Aside0 (wc.heap[gb414]? = some (.cells #[.int .i64 a0_0, .int .i64 (wrap64 ((wrap64 (a0_0 - 1)) - a0_1)), .int .i64 (wrap64 (-a0_2)), .bool a0_4, .bool a0_3, (.slice Ao50 t405.length co50), (.slice Ao49 t408.length co49), (.slice Ao48 t411.length co48)] 26 (0, 0))) ∧ Aside0 (Below w.heap.size w wc))
    case first =>
     have H := HC37.out
     clear HC37
     by_cases c68 : t431 = 0
     ·rw [if_pos c68] at H
      have c68b0 : (t431 == 0) = true := beq_iff_eq.mpr c68
      have c68b1 : (t431 != 0) = false := bne_eq_false_iff_eq.mpr c68
      clear c68
      (first | rw [c68b0] | (simp only [i64_w, i32_w]; rw [c68b0]) | skip)
      by_cases c69 : t434 = 0
      ·rw [if_pos c69] at H
       have c69b0 : (t434 == 0) = true := beq_iff_eq.mpr c69
       have c69b1 : (t434 != 0) = false := bne_eq_false_iff_eq.mpr c69
       clear c69
       have H' := Aside0.mk H
       clear H
       go_wp2
       go_meet
       case rel => exact ⟨_, ((t433 != (wrap64 (-t430)))), (by first | rfl | (simp; done) | (simp [*]; done)), H', ⟨by have := HJ1.out; first | omega | exact Nat.le_refl _⟩, ⟨by (with_reducible repeat (first | apply Kd.R_alloc | apply Kd.R_drewN | apply Kd.R_drew)); exact Kd.R_mono HO407.out (fun _ hk => ⟨hk.1.1.1.1, hk.1.1.1.2⟩)⟩, ⟨by (with_reducible repeat (first | apply Kd.R_alloc | apply Kd.R_drewN | apply Kd.R_drew)); exact Kd.R_mono HO410.out (fun _ hk => ⟨hk.1.1.1.1, hk.1.1.1.2⟩)⟩, ⟨by (with_reducible repeat (first | apply Kd.R_alloc | apply Kd.R_drewN | apply Kd.R_drew)); exact Kd.R_mono HO413.out (fun _ hk => ⟨hk.1.1.1.1, hk.1.1.1.2⟩)⟩, ⟨by (with_reducible repeat (first | refine blk_drewN ?_ _ | refine blk_drew ?_ | refine blk_alloc ?_ _)); exact BK387.out⟩, ⟨by (with_reducible repeat (first | refine blk_drewN ?_ _ | refine blk_drew ?_ | refine blk_alloc ?_ _)); exact BK414.out⟩, ⟨by repeat (first | (with_reducible first | exact HB.out | apply below_alloc | apply pw_below_drewN | apply below_drew1 | refine below_set ?_ GE387.out | refine below_set ?_ GE414.out) | exact HB.out)⟩⟩
      ·rw [if_neg c69] at H
       exact absurd H (by simp)
     ·rw [if_neg c68] at H
      exact absurd H (by simp)
    case rest =>
     clear HC37
     try clear c1
     try clear c2
     try clear p2
     try clear c5
     try clear c6
     try clear p6
     try clear c11
     try clear c12
     try clear c20
     try clear c59
     try clear p64
     try clear c68
     try clear c68b0
     try clear c68b1
     try clear c69
     try clear c69b0
     try clear c69b1
     try clear hcz60_0
     try clear hcz60_1
     try clear hcz60_2
     try clear hcz60_3
     try clear hcz60_4
     try clear hcz60_5
     try clear hcz60_6
     try clear hcz60_7
     try clear hcz66_0
     try clear hcz66_1
     try clear hcz66_2
     try clear hcz66_3
     try clear hcz66_4
     try clear hcz66_5
     try clear hcz66_6
     try clear hcz66_7
     try clear hfz60_0
     try clear hfz60_1
     try clear hfz60_2
     try clear hfz60_3
     try clear hfz60_4
     try clear hfz60_5
     try clear hfz60_6
     try clear hfz60_7
     try clear hfz66_0
     try clear hfz66_1
     try clear hfz66_2
     try clear hfz66_3
     try clear hfz66_4
     try clear hfz66_5
     try clear hfz66_6
     try clear hfz66_7
     obtain ⟨kq, x84_36, rfl, HA, HJ36, HO_415005, HO_415006, HO_415007, BK387, BK414, HB⟩ := hcut
     cases kq with
     | zero => exact absurd HA.out (by simp [newellaw20_CollectMirror.j1])
     | succ kj36 =>
      have H := HA.out
      clear HA
      simp only [newellaw20_CollectMirror.j1] at H
      by_cases c70 : x84_36 = true
      ·subst c70
       have H1 : (none) = some r := by rw [if_pos rfl] at H; exact H
       clear H
       have H := H1
       clear H1
       exact absurd H (by simp)
      ·replace c70 := Bool.eq_false_iff.mpr c70
       subst c70
       have H1 : (if t429 = 1 then (newellaw20_CollectMirror.j2 kj36 t429 t432 true) else (newellaw20_CollectMirror.j2 kj36 t429 t432 (t429 == 2))) = some r := by rw [if_neg (show ¬ (false = true) by decide)] at H; exact H
       clear H
       have H := H1
       clear H1
       have HC71 := Aside0.mk H
       clear H
       go_upto_region 9 with (fail)
       go_cut [90] (fun v90 wc => ∃ (kq : Nat) (x90_70 : Bool), v90 = .bool x90_70 ∧ Aside0 (newellaw20_CollectMirror.j2 kq t429 t432 x90_70 = some r) ∧ Aside0 (kq ≤ kj36) ∧ Aside0 (Kd.R (Kd.int .i64) 3 wc w.heap.size (fun k_ => some k_ ≠ ((.slice Ao49 t408.length co49) : Value).ownBlock ∧ some k_ ≠ ((.slice Ao48 t411.length co48) : Value).ownBlock) (.slice Ao50 t405.length co50) t405) ∧ Aside0 (Kd.R (Kd.int .i64) 3 wc w.heap.size (fun k_ => some k_ ≠ ((.slice Ao50 t405.length co50) : Value).ownBlock ∧ some k_ ≠ ((.slice Ao48 t411.length co48) : Value).ownBlock) (.slice Ao49 t408.length co49) t408) ∧ Aside0 (Kd.R (Kd.int .i64) 3 wc w.heap.size (fun k_ => some k_ ≠ ((.slice Ao50 t405.length co50) : Value).ownBlock ∧ some k_ ≠ ((.slice Ao49 t408.length co49) : Value).ownBlock) (.slice Ao48 t411.length co48) t411) ∧ Aside0 (wc.heap[gb387]? = some (.cells #[.int .i64 a0_0, .int .i64 a0_1, .int .i64 a0_2, .bool a0_3, .bool a0_4, (.slice A0_5 l0_5.length c0_5), (.slice A0_6 l0_6.length c0_6), (.slice A0_7 l0_7.length c0_7)] 26 (0, 0))) ∧ Aside0 (wc.heap[gb414]? = some (.cells #[.int .i64 a0_0, .int .i64 (wrap64 ((wrap64 (a0_0 - 1)) - a0_1)), .int .i64 (wrap64 (-a0_2)), .bool a0_4, .bool a0_3, (.slice Ao50 t405.length co50), (.slice Ao49 t408.length co49), (.slice Ao48 t411.length co48)] 26 (0, 0))) ∧ Aside0 (Below w.heap.size w wc))
       case first =>
        have H := HC71.out
        clear HC71
        by_cases c72 : t429 = 1
        ·rw [if_pos c72] at H
         have c72b0 : (t429 == 1) = true := beq_iff_eq.mpr c72
         have c72b1 : (t429 != 1) = false := bne_eq_false_iff_eq.mpr c72
         clear c72
         (first | rw [c72b0] | (simp only [i64_w, i32_w]; rw [c72b0]) | skip)
         have H' := Aside0.mk H
         clear H
         go_wp2
         go_meet
         case rel => exact ⟨_, (true), (by first | rfl | (simp; done) | (simp [*]; done)), H', ⟨by have := HJ1.out; have := HJ36.out; first | omega | exact Nat.le_refl _⟩, ⟨by (with_reducible repeat (first | apply Kd.R_alloc | apply Kd.R_drewN | apply Kd.R_drew)); exact HO_415005.out⟩, ⟨by (with_reducible repeat (first | apply Kd.R_alloc | apply Kd.R_drewN | apply Kd.R_drew)); exact HO_415006.out⟩, ⟨by (with_reducible repeat (first | apply Kd.R_alloc | apply Kd.R_drewN | apply Kd.R_drew)); exact HO_415007.out⟩, ⟨by (with_reducible repeat (first | refine blk_drewN ?_ _ | refine blk_drew ?_ | refine blk_alloc ?_ _)); exact BK387.out⟩, ⟨by (with_reducible repeat (first | refine blk_drewN ?_ _ | refine blk_drew ?_ | refine blk_alloc ?_ _)); exact BK414.out⟩, ⟨by repeat (first | (with_reducible first | exact HB.out | apply below_alloc | apply pw_below_drewN | apply below_drew1 | refine below_set ?_ GE387.out | refine below_set ?_ GE414.out) | exact HB.out)⟩⟩
        ·rw [if_neg c72] at H
         have c72b0 : (t429 == 1) = false := beq_eq_false_iff_ne.mpr c72
         have c72b1 : (t429 != 1) = true := bne_iff_ne.mpr c72
         (first | rw [c72b0] | (simp only [i64_w, i32_w]; rw [c72b0]) | skip)
         have H' := Aside0.mk H
         clear H
         go_wp2
         go_meet
         case rel => exact ⟨_, ((t429 == 2)), (by first | rfl | (simp; done) | (simp [*]; done)), H', ⟨by have := HJ1.out; have := HJ36.out; first | omega | exact Nat.le_refl _⟩, ⟨by (with_reducible repeat (first | apply Kd.R_alloc | apply Kd.R_drewN | apply Kd.R_drew)); exact HO_415005.out⟩, ⟨by (with_reducible repeat (first | apply Kd.R_alloc | apply Kd.R_drewN | apply Kd.R_drew)); exact HO_415006.out⟩, ⟨by (with_reducible repeat (first | apply Kd.R_alloc | apply Kd.R_drewN | apply Kd.R_drew)); exact HO_415007.out⟩, ⟨by (with_reducible repeat (first | refine blk_drewN ?_ _ | refine blk_drew ?_ | refine blk_alloc ?_ _)); exact BK387.out⟩, ⟨by (with_reducible repeat (first | refine blk_drewN ?_ _ | refine blk_drew ?_ | refine blk_alloc ?_ _)); exact BK414.out⟩, ⟨by repeat (first | (with_reducible first | exact HB.out | apply below_alloc | apply pw_below_drewN | apply below_drew1 | refine below_set ?_ GE387.out | refine below_set ?_ GE414.out) | exact HB.out)⟩⟩
       case rest =>
        clear HC71
        try clear c1
        try clear c2
        try clear p2
        try clear c5
        try clear c6
        try clear p6
        try clear c7
        try clear c11
        try clear c12
        try clear c20
        try clear c59
        try clear p64
        try clear c68
        try clear c68b0
        try clear c68b1
        try clear c69
        try clear c69b0
        try clear c69b1
        try clear c70
        try clear c72
        try clear c72b0
        try clear c72b1
        try clear hcz60_0
        try clear hcz60_1
        try clear hcz60_2
        try clear hcz60_3
        try clear hcz60_4
        try clear hcz60_5
        try clear hcz60_6
        try clear hcz60_7
        try clear hcz66_0
        try clear hcz66_1
        try clear hcz66_2
        try clear hcz66_3
        try clear hcz66_4
        try clear hcz66_5
        try clear hcz66_6
        try clear hcz66_7
        try clear hfz60_0
        try clear hfz60_1
        try clear hfz60_2
        try clear hfz60_3
        try clear hfz60_4
        try clear hfz60_5
        try clear hfz60_6
        try clear hfz60_7
        try clear hfz66_0
        try clear hfz66_1
        try clear hfz66_2
        try clear hfz66_3
        try clear hfz66_4
        try clear hfz66_5
        try clear hfz66_6
        try clear hfz66_7
        try clear p2
        try clear p6
        try clear p64
        obtain ⟨kq, x90_70, rfl, HA, HJ70, HO_415005, HO_415006, HO_415007, BK387, BK414, HB⟩ := hcut
        cases kq with
        | zero => exact absurd HA.out (by simp [newellaw20_CollectMirror.j2])
        | succ kj70 =>
         have H := HA.out
         clear HA
         simp only [newellaw20_CollectMirror.j2] at H
         by_cases c73 : x90_70 = true
         ·subst c73
          have H1 : ((newellaw20_awake.f kj70).bind fun t435 => (if t435 = true then (some (t432 == (wrap64 (3 - t429)))) else (none))) = some r := by rw [if_pos rfl] at H; exact H
          clear H
          have H := H1
          clear H1
          replace H := Option.bind_eq_some_iff.mp H
          obtain ⟨t435, A740, H⟩ := H
          replace H : (if t435 = true then (some (t432 == (wrap64 (3 - t429)))) else (none)) = some r := H
          have A74 := Aside0.mk A740
          clear A740
          by_cases c75 : t435 = true
          ·subst c75
           have H1 : (some (t432 == (wrap64 (3 - t429)))) = some r := by rw [if_pos rfl] at H; exact H
           clear H
           have H := H1
           clear H1
           obtain rfl := Option.some.inj H
           go_wp2_with (first | ((with_reducible refine gate_callee (f := 10) rfl ?_); refine goesL_ (some 91) rfl rfl Try.func10 (by kernel_rfl) rfl #[] rfl (by (try simp only [List.map_toArray, List.map_cons, List.map_nil]); first | done | rfl | (simp only [List.length_drop, List.length_take]; rfl)) ?_; (with_reducible refine (newellaw20_awake.calls kj70  true _ A74.out).mono ?_); rintro e w76 ⟨rfl, hb⟩; refine ⟨_, rfl, ?_⟩; have n0_ := Aside0.mk (Kd.R_below (by (with_reducible repeat (first | apply Kd.R_alloc | apply Kd.R_drewN | apply Kd.R_drew)); exact HO_415005.out) hb); have n1_ := Aside0.mk (Kd.R_below (by (with_reducible repeat (first | apply Kd.R_alloc | apply Kd.R_drewN | apply Kd.R_drew)); exact HO_415006.out) hb); have n2_ := Aside0.mk (Kd.R_below (by (with_reducible repeat (first | apply Kd.R_alloc | apply Kd.R_drewN | apply Kd.R_drew)); exact HO_415007.out) hb); have n3_ := Aside0.mk (blk_below (g := gb387) (o := .cells #[.int .i64 a0_0, .int .i64 a0_1, .int .i64 a0_2, .bool a0_3, .bool a0_4, .slice A0_5 l0_5.length c0_5, .slice A0_6 l0_6.length c0_6, .slice A0_7 l0_7.length c0_7] 26 (0, 0)) (by (with_reducible repeat (first | refine blk_drewN ?_ _ | refine blk_drew ?_ | refine blk_alloc ?_ _)); exact BK387.out) hb); have n4_ := Aside0.mk (blk_below (g := gb414) (o := .cells #[.int .i64 a0_0, .int .i64 (wrap64 ((wrap64 (a0_0 - 1)) - a0_1)), .int .i64 (wrap64 (-a0_2)), .bool a0_4, .bool a0_3, .slice Ao50 t405.length co50, .slice Ao49 t408.length co49, .slice Ao48 t411.length co48] 26 (0, 0)) (by (with_reducible repeat (first | refine blk_drewN ?_ _ | refine blk_drew ?_ | refine blk_alloc ?_ _)); exact BK414.out) hb); have n5_ := Aside0.mk (below_step (by repeat (first | (with_reducible first | exact HB.out | apply below_alloc | apply pw_below_drewN | apply below_drew1 | refine below_set ?_ GE387.out | refine below_set ?_ GE414.out) | exact HB.out)) hb); clear HO_415005; clear HO_415006; clear HO_415007; clear BK387; clear BK414; clear HB; have HO_415005 := n0_; have HO_415006 := n1_; have HO_415007 := n2_; have BK387 := n3_; have BK414 := n4_; have HB := n5_; clear n0_ n1_ n2_ n3_ n4_ n5_; (try clear hb); (try clear hb2); (try clear hk); (try clear hi)))
           go_ret
           exact ⟨by first | rfl | (simp [errW_none, errW_some] <;> rfl) | (simp [*, errW_none, errW_some] <;> rfl), by repeat (first | (with_reducible first | exact HB.out | apply below_alloc | apply pw_below_drewN | apply below_drew1 | refine below_set ?_ GE387.out | refine below_set ?_ GE414.out) | exact HB.out)⟩
          ·replace c75 := Bool.eq_false_iff.mpr c75
           subst c75
           have H1 : (none) = some r := by rw [if_neg (show ¬ (false = true) by decide)] at H; exact H
           clear H
           have H := H1
           clear H1
           exact absurd H (by simp)
         ·replace c73 := Bool.eq_false_iff.mpr c73
          subst c73
          have H1 : ((newellaw20_awake.f kj70).bind fun t436 => (if t436 = true then (some (t429 == t432)) else (none))) = some r := by rw [if_neg (show ¬ (false = true) by decide)] at H; exact H
          clear H
          have H := H1
          clear H1
          replace H := Option.bind_eq_some_iff.mp H
          obtain ⟨t436, A770, H⟩ := H
          replace H : (if t436 = true then (some (t429 == t432)) else (none)) = some r := H
          have A77 := Aside0.mk A770
          clear A770
          by_cases c78 : t436 = true
          ·subst c78
           have H1 : (some (t429 == t432)) = some r := by rw [if_pos rfl] at H; exact H
           clear H
           have H := H1
           clear H1
           obtain rfl := Option.some.inj H
           go_wp2_with (first | ((with_reducible refine gate_callee (f := 10) rfl ?_); refine goesL_ (some 98) rfl rfl Try.func10 (by kernel_rfl) rfl #[] rfl (by (try simp only [List.map_toArray, List.map_cons, List.map_nil]); first | done | rfl | (simp only [List.length_drop, List.length_take]; rfl)) ?_; (with_reducible refine (newellaw20_awake.calls kj70  true _ A77.out).mono ?_); rintro e w79 ⟨rfl, hb⟩; refine ⟨_, rfl, ?_⟩; have n0_ := Aside0.mk (Kd.R_below (by (with_reducible repeat (first | apply Kd.R_alloc | apply Kd.R_drewN | apply Kd.R_drew)); exact HO_415005.out) hb); have n1_ := Aside0.mk (Kd.R_below (by (with_reducible repeat (first | apply Kd.R_alloc | apply Kd.R_drewN | apply Kd.R_drew)); exact HO_415006.out) hb); have n2_ := Aside0.mk (Kd.R_below (by (with_reducible repeat (first | apply Kd.R_alloc | apply Kd.R_drewN | apply Kd.R_drew)); exact HO_415007.out) hb); have n3_ := Aside0.mk (blk_below (g := gb387) (o := .cells #[.int .i64 a0_0, .int .i64 a0_1, .int .i64 a0_2, .bool a0_3, .bool a0_4, .slice A0_5 l0_5.length c0_5, .slice A0_6 l0_6.length c0_6, .slice A0_7 l0_7.length c0_7] 26 (0, 0)) (by (with_reducible repeat (first | refine blk_drewN ?_ _ | refine blk_drew ?_ | refine blk_alloc ?_ _)); exact BK387.out) hb); have n4_ := Aside0.mk (blk_below (g := gb414) (o := .cells #[.int .i64 a0_0, .int .i64 (wrap64 ((wrap64 (a0_0 - 1)) - a0_1)), .int .i64 (wrap64 (-a0_2)), .bool a0_4, .bool a0_3, .slice Ao50 t405.length co50, .slice Ao49 t408.length co49, .slice Ao48 t411.length co48] 26 (0, 0)) (by (with_reducible repeat (first | refine blk_drewN ?_ _ | refine blk_drew ?_ | refine blk_alloc ?_ _)); exact BK414.out) hb); have n5_ := Aside0.mk (below_step (by repeat (first | (with_reducible first | exact HB.out | apply below_alloc | apply pw_below_drewN | apply below_drew1 | refine below_set ?_ GE387.out | refine below_set ?_ GE414.out) | exact HB.out)) hb); clear HO_415005; clear HO_415006; clear HO_415007; clear BK387; clear BK414; clear HB; have HO_415005 := n0_; have HO_415006 := n1_; have HO_415007 := n2_; have BK387 := n3_; have BK414 := n4_; have HB := n5_; clear n0_ n1_ n2_ n3_ n4_ n5_; (try clear hb); (try clear hb2); (try clear hk); (try clear hi)))
           go_ret
           exact ⟨by first | rfl | (simp [errW_none, errW_some] <;> rfl) | (simp [*, errW_none, errW_some] <;> rfl), by repeat (first | (with_reducible first | exact HB.out | apply below_alloc | apply pw_below_drewN | apply below_drew1 | refine below_set ?_ GE387.out | refine below_set ?_ GE414.out) | exact HB.out)⟩
          ·replace c78 := Bool.eq_false_iff.mpr c78
           subst c78
           have H1 : (none) = some r := by rw [if_neg (show ¬ (false = true) by decide)] at H; exact H
           clear H
           have H := H1
           clear H1
           exact absurd H (by simp)

end Go.Proofs.Ytlfgdcgjndjdgaa.C
