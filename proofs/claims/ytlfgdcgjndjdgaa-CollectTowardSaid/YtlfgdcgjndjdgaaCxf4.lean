-- Written by a program of this session (wip/pp: the kit's print, changed), out of the translation. Lean checks it.
import Derived.Test.YtlfgdcgjndjdgaaCx0
import Derived.Test.YtlfgdcgjndjdgaaCxf10
import Derived.Test.YtlfgdcgjndjdgaaCxf12
import Derived.Test.YtlfgdcgjndjdgaaCxf18
import Derived.Test.YtlfgdcgjndjdgaaCxf9
import Derived.Test.YtlfgdcgjndjdgaaCalled
import Derived.Test.YtlfgdcgjndjdgaaNext2
namespace Go.Proofs.Ytlfgdcgjndjdgaa.C
open Go.RowKit Go.Proofs.YtlfgdcgjndjdgaaW.PrintWords Go.Proofs.YtlfgdcgjndjdgaaW.PrintLast Go.Proofs.YtlfgdcgjndjdgaaW.PrintMore
attribute [local go_sem] max2_int min2_int max_two min_two max_three min_three max_four min_four   -- for this text's walks alone
set_option linter.unusedVariables false
set_option linter.unusedSimpArgs false

/-! ### newellaw20_CollectToward: function 4 -/
mutual
def newellaw20_CollectToward.j0 : Nat → Bool → Option (Bool)
 | 0, _ => none
 | k + 1, x2 => some x2
def newellaw20_CollectToward.j1 : Nat → Bool → Option (Bool)
 | 0, _ => none
 | k + 1, x2 => some x2
def newellaw20_CollectToward.j2 : Nat → Bool → Option (Bool)
 | 0, _ => none
 | k + 1, x2 => some x2
end
def newellaw20_CollectToward.f (k : Nat) (a0_0 : Int) (a0_1 : Int) (a0_2 : Int) (a0_3 : Bool) (a0_4 : Bool) (l0_5 : List Int) (l0_6 : List Int) (l0_7 : List Int) : Option (Bool) := (newellaw20_few.f l0_5 l0_6 l0_7).bind fun t241 => (if t241 = true then ((newellaw20_Own.f a0_0 a0_1 a0_2 a0_3 a0_4 l0_5 l0_6 l0_7).bind fun bt243 => ((collect_Next.f k bt243.1 bt243.2.1 bt243.2.2.1 bt243.2.2.2.1 bt243.2.2.2.2.1 bt243.2.2.2.2.2.1 bt243.2.2.2.2.2.2.1 bt243.2.2.2.2.2.2.2).bind fun bt257 => (if bt257.2.2 = 0 then (if bt257.1 = 0 then ((newellaw20_awake.f k).bind fun t261 => (if t261 = true then (if ((wrap64 ((wrap64 ((l0_5.length : Int) + (l0_6.length : Int))) + (l0_7.length : Int))) > 0) then (none) else (newellaw20_CollectToward.j0 k (bt257.2.1 == 0))) else (none))) else (if bt257.1 = 3 then ((newellaw20_awake.f k).bind fun t262 => (if t262 = true then ((collect_Called.f l0_5 l0_6 l0_7 a0_1).bind fun t263 => (if t263 = true then (if bt257.2.1 = 1 then (newellaw20_CollectToward.j1 k true) else (newellaw20_CollectToward.j1 k (bt257.2.1 == (-1)))) else (none))) else (none))) else ((newellaw20_awake.f k).bind fun t264 => (if t264 = true then (if (wrap64 ((wrap64 ((l0_5.length : Int) + (l0_6.length : Int))) + (l0_7.length : Int))) > 0 then (if ((bt257.1 == 1) == (bt257.2.1 == 1)) = true then (if ((bt257.1 == 2) == (bt257.2.1 == (-1))) = true then ((newellaw20_toward.f k a0_0 a0_1 a0_2 a0_3 a0_4 l0_5 l0_6 l0_7 bt257.2.1).bind fun t265 => (newellaw20_CollectToward.j2 k t265)) else (none)) else (none)) else (none)) else (none))))) else ((newellaw20_awake.f k).bind fun t260 => (some t260))))) else ((newellaw20_awake.f k).bind fun t242 => (some t242)))
theorem newellaw20_CollectToward.mono_l : ∀ k, (∀ y0, LeO (newellaw20_CollectToward.j0 k y0) (newellaw20_CollectToward.j0 (k + 1) y0)) ∧ (∀ y0, LeO (newellaw20_CollectToward.j1 k y0) (newellaw20_CollectToward.j1 (k + 1) y0)) ∧ (∀ y0, LeO (newellaw20_CollectToward.j2 k y0) (newellaw20_CollectToward.j2 (k + 1) y0))
 | 0 => ⟨fun _ r h => by simp [newellaw20_CollectToward.j0] at h, fun _ r h => by simp [newellaw20_CollectToward.j1] at h, fun _ r h => by simp [newellaw20_CollectToward.j2] at h⟩
 | k + 1 => by
  obtain ⟨ih0, ih1, ih2⟩ := newellaw20_CollectToward.mono_l k
  refine ⟨?_, ?_, ?_⟩
  ·intro y0
   unfold newellaw20_CollectToward.j0
   repeat' first
   | (with_reducible exact ih0 _)
   | (with_reducible exact ih1 _)
   | (with_reducible exact ih2 _)
   | (with_reducible exact collect_Next.mono _ _ _ _ _ _ _ _ _)
   | (with_reducible exact newellaw20_awake.mono _)
   | (with_reducible exact newellaw20_toward.mono _ _ _ _ _ _ _ _ _ _)
   | (with_reducible exact LeO.refl _)
   | (with_reducible exact LeO.none _)
   | (with_reducible refine LeO.ite ?_ ?_)
   | (with_reducible refine LeO.bind ?_ (fun _ => ?_))
   | exact ih0 _
   | exact ih1 _
   | exact ih2 _
   | exact collect_Next.mono _ _ _ _ _ _ _ _ _
   | exact newellaw20_awake.mono _
   | exact newellaw20_toward.mono _ _ _ _ _ _ _ _ _ _
   | exact LeO.none _
   | refine LeO.ite ?_ ?_
   | refine LeO.bind ?_ (fun _ => ?_)
  ·intro y0
   unfold newellaw20_CollectToward.j1
   repeat' first
   | (with_reducible exact ih0 _)
   | (with_reducible exact ih1 _)
   | (with_reducible exact ih2 _)
   | (with_reducible exact collect_Next.mono _ _ _ _ _ _ _ _ _)
   | (with_reducible exact newellaw20_awake.mono _)
   | (with_reducible exact newellaw20_toward.mono _ _ _ _ _ _ _ _ _ _)
   | (with_reducible exact LeO.refl _)
   | (with_reducible exact LeO.none _)
   | (with_reducible refine LeO.ite ?_ ?_)
   | (with_reducible refine LeO.bind ?_ (fun _ => ?_))
   | exact ih0 _
   | exact ih1 _
   | exact ih2 _
   | exact collect_Next.mono _ _ _ _ _ _ _ _ _
   | exact newellaw20_awake.mono _
   | exact newellaw20_toward.mono _ _ _ _ _ _ _ _ _ _
   | exact LeO.none _
   | refine LeO.ite ?_ ?_
   | refine LeO.bind ?_ (fun _ => ?_)
  ·intro y0
   unfold newellaw20_CollectToward.j2
   repeat' first
   | (with_reducible exact ih0 _)
   | (with_reducible exact ih1 _)
   | (with_reducible exact ih2 _)
   | (with_reducible exact collect_Next.mono _ _ _ _ _ _ _ _ _)
   | (with_reducible exact newellaw20_awake.mono _)
   | (with_reducible exact newellaw20_toward.mono _ _ _ _ _ _ _ _ _ _)
   | (with_reducible exact LeO.refl _)
   | (with_reducible exact LeO.none _)
   | (with_reducible refine LeO.ite ?_ ?_)
   | (with_reducible refine LeO.bind ?_ (fun _ => ?_))
   | exact ih0 _
   | exact ih1 _
   | exact ih2 _
   | exact collect_Next.mono _ _ _ _ _ _ _ _ _
   | exact newellaw20_awake.mono _
   | exact newellaw20_toward.mono _ _ _ _ _ _ _ _ _ _
   | exact LeO.none _
   | refine LeO.ite ?_ ?_
   | refine LeO.bind ?_ (fun _ => ?_)
theorem newellaw20_CollectToward.mono : ∀ a0 a1 a2 a3 a4 a5 a6 a7 k, LeO (newellaw20_CollectToward.f k a0 a1 a2 a3 a4 a5 a6 a7) (newellaw20_CollectToward.f (k + 1) a0 a1 a2 a3 a4 a5 a6 a7) := by
 intro a0 a1 a2 a3 a4 a5 a6 a7 k
 obtain ⟨ih0, ih1, ih2⟩ := newellaw20_CollectToward.mono_l k
 unfold newellaw20_CollectToward.f
 repeat' first
   | (with_reducible exact ih0 _)
   | (with_reducible exact ih1 _)
   | (with_reducible exact ih2 _)
   | (with_reducible exact collect_Next.mono _ _ _ _ _ _ _ _ _)
   | (with_reducible exact newellaw20_awake.mono _)
   | (with_reducible exact newellaw20_toward.mono _ _ _ _ _ _ _ _ _ _)
   | (with_reducible exact LeO.refl _)
   | (with_reducible exact LeO.none _)
   | (with_reducible refine LeO.ite ?_ ?_)
   | (with_reducible refine LeO.bind ?_ (fun _ => ?_))
   | exact ih0 _
   | exact ih1 _
   | exact ih2 _
   | exact collect_Next.mono _ _ _ _ _ _ _ _ _
   | exact newellaw20_awake.mono _
   | exact newellaw20_toward.mono _ _ _ _ _ _ _ _ _ _
   | exact LeO.none _
   | refine LeO.ite ?_ ?_
   | refine LeO.bind ?_ (fun _ => ?_)
set_option maxHeartbeats 8000000 in
set_option maxRecDepth 100000 in
theorem newellaw20_CollectToward.calls (k : Nat) (a0_0 : Int) (a0_1 : Int) (a0_2 : Int) (a0_3 : Bool) (a0_4 : Bool) (A0_5 : Option Addr) (c0_5 : Nat) (l0_5 : List Int) (A0_6 : Option Addr) (c0_6 : Nat) (l0_6 : List Int) (A0_7 : Option Addr) (c0_7 : Nat) (l0_7 : List Int) (r : Bool) (w : World) (hr0_5 : Kd.C (Kd.int .i64) w A0_5 l0_5.length l0_5) (hc0_5 : l0_5.length ≤ c0_5) (hr0_6 : Kd.C (Kd.int .i64) w A0_6 l0_6.length l0_6) (hc0_6 : l0_6.length ≤ c0_6) (hr0_7 : Kd.C (Kd.int .i64) w A0_7 l0_7.length l0_7) (hc0_7 : l0_7.length ≤ c0_7) (h : newellaw20_CollectToward.f k a0_0 a0_1 a0_2 a0_3 a0_4 l0_5 l0_6 l0_7 = some r) :
  Calls Try.prog 4 #[.agg #[.int .i64 a0_0, .int .i64 a0_1, .int .i64 a0_2, .bool a0_3, .bool a0_4, .slice A0_5 l0_5.length c0_5, .slice A0_6 l0_6.length c0_6, .slice A0_7 l0_7.length c0_7]] w fun e w' => e = .returned (.bool r) ∧ Below w.heap.size w w' := by
 have hu26 := Try.underlying26
 have hu24 := Try.underlying24
 have HR0_5 := Aside0.mk hr0_5
 have HC0_5 := Aside0.mk hc0_5
 clear hr0_5 hc0_5
 have HR0_6 := Aside0.mk hr0_6
 have HC0_6 := Aside0.mk hc0_6
 clear hr0_6 hc0_6
 have HR0_7 := Aside0.mk hr0_7
 have HC0_7 := Aside0.mk hc0_7
 clear hr0_7 hc0_7
 have HB := Aside0.mk (Below.refl w.heap.size w)
 have H : ((newellaw20_few.f l0_5 l0_6 l0_7).bind fun t241 => (if t241 = true then ((newellaw20_Own.f a0_0 a0_1 a0_2 a0_3 a0_4 l0_5 l0_6 l0_7).bind fun bt243 => ((collect_Next.f k bt243.1 bt243.2.1 bt243.2.2.1 bt243.2.2.2.1 bt243.2.2.2.2.1 bt243.2.2.2.2.2.1 bt243.2.2.2.2.2.2.1 bt243.2.2.2.2.2.2.2).bind fun bt257 => (if bt257.2.2 = 0 then (if bt257.1 = 0 then ((newellaw20_awake.f k).bind fun t261 => (if t261 = true then (if ((wrap64 ((wrap64 ((l0_5.length : Int) + (l0_6.length : Int))) + (l0_7.length : Int))) > 0) then (none) else (newellaw20_CollectToward.j0 k (bt257.2.1 == 0))) else (none))) else (if bt257.1 = 3 then ((newellaw20_awake.f k).bind fun t262 => (if t262 = true then ((collect_Called.f l0_5 l0_6 l0_7 a0_1).bind fun t263 => (if t263 = true then (if bt257.2.1 = 1 then (newellaw20_CollectToward.j1 k true) else (newellaw20_CollectToward.j1 k (bt257.2.1 == (-1)))) else (none))) else (none))) else ((newellaw20_awake.f k).bind fun t264 => (if t264 = true then (if (wrap64 ((wrap64 ((l0_5.length : Int) + (l0_6.length : Int))) + (l0_7.length : Int))) > 0 then (if ((bt257.1 == 1) == (bt257.2.1 == 1)) = true then (if ((bt257.1 == 2) == (bt257.2.1 == (-1))) = true then ((newellaw20_toward.f k a0_0 a0_1 a0_2 a0_3 a0_4 l0_5 l0_6 l0_7 bt257.2.1).bind fun t265 => (newellaw20_CollectToward.j2 k t265)) else (none)) else (none)) else (none)) else (none))))) else ((newellaw20_awake.f k).bind fun t260 => (some t260))))) else ((newellaw20_awake.f k).bind fun t242 => (some t242)))) = some r := h
 clear h
 replace H := Option.bind_eq_some_iff.mp H
 obtain ⟨t241, A20, H⟩ := H
 replace H : (if t241 = true then ((newellaw20_Own.f a0_0 a0_1 a0_2 a0_3 a0_4 l0_5 l0_6 l0_7).bind fun bt243 => ((collect_Next.f k bt243.1 bt243.2.1 bt243.2.2.1 bt243.2.2.2.1 bt243.2.2.2.2.1 bt243.2.2.2.2.2.1 bt243.2.2.2.2.2.2.1 bt243.2.2.2.2.2.2.2).bind fun bt257 => (if bt257.2.2 = 0 then (if bt257.1 = 0 then ((newellaw20_awake.f k).bind fun t261 => (if t261 = true then (if ((wrap64 ((wrap64 ((l0_5.length : Int) + (l0_6.length : Int))) + (l0_7.length : Int))) > 0) then (none) else (newellaw20_CollectToward.j0 k (bt257.2.1 == 0))) else (none))) else (if bt257.1 = 3 then ((newellaw20_awake.f k).bind fun t262 => (if t262 = true then ((collect_Called.f l0_5 l0_6 l0_7 a0_1).bind fun t263 => (if t263 = true then (if bt257.2.1 = 1 then (newellaw20_CollectToward.j1 k true) else (newellaw20_CollectToward.j1 k (bt257.2.1 == (-1)))) else (none))) else (none))) else ((newellaw20_awake.f k).bind fun t264 => (if t264 = true then (if (wrap64 ((wrap64 ((l0_5.length : Int) + (l0_6.length : Int))) + (l0_7.length : Int))) > 0 then (if ((bt257.1 == 1) == (bt257.2.1 == 1)) = true then (if ((bt257.1 == 2) == (bt257.2.1 == (-1))) = true then ((newellaw20_toward.f k a0_0 a0_1 a0_2 a0_3 a0_4 l0_5 l0_6 l0_7 bt257.2.1).bind fun t265 => (newellaw20_CollectToward.j2 k t265)) else (none)) else (none)) else (none)) else (none))))) else ((newellaw20_awake.f k).bind fun t260 => (some t260))))) else ((newellaw20_awake.f k).bind fun t242 => (some t242))) = some r := H
 have A2 := Aside0.mk A20
 clear A20
 by_cases c3 : t241 = true
 ·subst c3
  have H1 : ((newellaw20_Own.f a0_0 a0_1 a0_2 a0_3 a0_4 l0_5 l0_6 l0_7).bind fun bt243 => ((collect_Next.f k bt243.1 bt243.2.1 bt243.2.2.1 bt243.2.2.2.1 bt243.2.2.2.2.1 bt243.2.2.2.2.2.1 bt243.2.2.2.2.2.2.1 bt243.2.2.2.2.2.2.2).bind fun bt257 => (if bt257.2.2 = 0 then (if bt257.1 = 0 then ((newellaw20_awake.f k).bind fun t261 => (if t261 = true then (if ((wrap64 ((wrap64 ((l0_5.length : Int) + (l0_6.length : Int))) + (l0_7.length : Int))) > 0) then (none) else (newellaw20_CollectToward.j0 k (bt257.2.1 == 0))) else (none))) else (if bt257.1 = 3 then ((newellaw20_awake.f k).bind fun t262 => (if t262 = true then ((collect_Called.f l0_5 l0_6 l0_7 a0_1).bind fun t263 => (if t263 = true then (if bt257.2.1 = 1 then (newellaw20_CollectToward.j1 k true) else (newellaw20_CollectToward.j1 k (bt257.2.1 == (-1)))) else (none))) else (none))) else ((newellaw20_awake.f k).bind fun t264 => (if t264 = true then (if (wrap64 ((wrap64 ((l0_5.length : Int) + (l0_6.length : Int))) + (l0_7.length : Int))) > 0 then (if ((bt257.1 == 1) == (bt257.2.1 == 1)) = true then (if ((bt257.1 == 2) == (bt257.2.1 == (-1))) = true then ((newellaw20_toward.f k a0_0 a0_1 a0_2 a0_3 a0_4 l0_5 l0_6 l0_7 bt257.2.1).bind fun t265 => (newellaw20_CollectToward.j2 k t265)) else (none)) else (none)) else (none)) else (none))))) else ((newellaw20_awake.f k).bind fun t260 => (some t260))))) = some r := by rw [if_pos rfl] at H; exact H
  clear H
  have H := H1
  clear H1
  replace H := Option.bind_eq_some_iff.mp H
  obtain ⟨⟨t243, t244, t245, t246, t247, t248, t251, t254⟩, A40, H⟩ := H
  replace H : ((collect_Next.f k t243 t244 t245 t246 t247 t248 t251 t254).bind fun bt257 => (if bt257.2.2 = 0 then (if bt257.1 = 0 then ((newellaw20_awake.f k).bind fun t261 => (if t261 = true then (if ((wrap64 ((wrap64 ((l0_5.length : Int) + (l0_6.length : Int))) + (l0_7.length : Int))) > 0) then (none) else (newellaw20_CollectToward.j0 k (bt257.2.1 == 0))) else (none))) else (if bt257.1 = 3 then ((newellaw20_awake.f k).bind fun t262 => (if t262 = true then ((collect_Called.f l0_5 l0_6 l0_7 a0_1).bind fun t263 => (if t263 = true then (if bt257.2.1 = 1 then (newellaw20_CollectToward.j1 k true) else (newellaw20_CollectToward.j1 k (bt257.2.1 == (-1)))) else (none))) else (none))) else ((newellaw20_awake.f k).bind fun t264 => (if t264 = true then (if (wrap64 ((wrap64 ((l0_5.length : Int) + (l0_6.length : Int))) + (l0_7.length : Int))) > 0 then (if ((bt257.1 == 1) == (bt257.2.1 == 1)) = true then (if ((bt257.1 == 2) == (bt257.2.1 == (-1))) = true then ((newellaw20_toward.f k a0_0 a0_1 a0_2 a0_3 a0_4 l0_5 l0_6 l0_7 bt257.2.1).bind fun t265 => (newellaw20_CollectToward.j2 k t265)) else (none)) else (none)) else (none)) else (none))))) else ((newellaw20_awake.f k).bind fun t260 => (some t260)))) = some r := H
  have A4 := Aside0.mk A40
  clear A40
  replace H := Option.bind_eq_some_iff.mp H
  obtain ⟨⟨t257, t258, t259⟩, A50, H⟩ := H
  replace H : (if t259 = 0 then (if t257 = 0 then ((newellaw20_awake.f k).bind fun t261 => (if t261 = true then (if ((wrap64 ((wrap64 ((l0_5.length : Int) + (l0_6.length : Int))) + (l0_7.length : Int))) > 0) then (none) else (newellaw20_CollectToward.j0 k (t258 == 0))) else (none))) else (if t257 = 3 then ((newellaw20_awake.f k).bind fun t262 => (if t262 = true then ((collect_Called.f l0_5 l0_6 l0_7 a0_1).bind fun t263 => (if t263 = true then (if t258 = 1 then (newellaw20_CollectToward.j1 k true) else (newellaw20_CollectToward.j1 k (t258 == (-1)))) else (none))) else (none))) else ((newellaw20_awake.f k).bind fun t264 => (if t264 = true then (if (wrap64 ((wrap64 ((l0_5.length : Int) + (l0_6.length : Int))) + (l0_7.length : Int))) > 0 then (if ((t257 == 1) == (t258 == 1)) = true then (if ((t257 == 2) == (t258 == (-1))) = true then ((newellaw20_toward.f k a0_0 a0_1 a0_2 a0_3 a0_4 l0_5 l0_6 l0_7 t258).bind fun t265 => (newellaw20_CollectToward.j2 k t265)) else (none)) else (none)) else (none)) else (none))))) else ((newellaw20_awake.f k).bind fun t260 => (some t260))) = some r := H
  have A5 := Aside0.mk A50
  clear A50
  by_cases c6 : t259 = 0
  ·rw [if_pos c6] at H
   have c6b0 : (t259 == 0) = true := beq_iff_eq.mpr c6
   have c6b1 : (t259 != 0) = false := bne_eq_false_iff_eq.mpr c6
   clear c6
   by_cases c7 : t257 = 0
   ·rw [if_pos c7] at H
    have c7b0 : (t257 == 0) = true := beq_iff_eq.mpr c7
    have c7b1 : (t257 != 0) = false := bne_eq_false_iff_eq.mpr c7
    clear c7
    have HC8 := Aside0.mk H
    clear H
    go_enter Try.func4, Try.ntmps4
    go_upto_region 8 with (first | ((with_reducible refine gate_dst (N := 1) rfl ?_); refine box_event ?hg (N := 1) ?hd (cs := #[.int .i64 a0_0, .int .i64 a0_1, .int .i64 a0_2, .bool a0_3, .bool a0_4, .slice A0_5 l0_5.length c0_5, .slice A0_6 l0_6.length c0_6, .slice A0_7 l0_7.length c0_7]) (t := 26) ?hr ?_; (case hd => rfl); (case hg => rfl); (case hr => first | (go_simp; done) | (go_simp; rfl)); intro gb240 hg w9 hbox hb; have n0_ := Aside0.mk (below_step (by repeat (first | (with_reducible first | exact HB.out | apply below_alloc | apply pw_below_drewN | apply below_drew1) | exact HB.out)) hb); have n1_ := Aside0.mk (hbox); have n2_ := Aside0.mk ((by rw [hg]; exact (below_size (by repeat (first | (with_reducible first | exact HB.out | apply below_alloc | apply pw_below_drewN | apply below_drew1) | exact HB.out))) : w.heap.size ≤ gb240)); have n3_ := Aside0.mk ((by rw [hg]; exact (below_size (by repeat (first | (with_reducible first | exact HB.out | apply below_alloc | apply pw_below_drewN | apply below_drew1) | exact HB.out))) : w.heap.size ≤ gb240)); clear HB; have HB := n0_; have BK240 := n1_; have GW240 := n2_; have GE240 := n3_; clear n0_ n1_ n2_ n3_; clear hb hbox hg; have hcz10_0 : w9.cell? ⟨gb240, 0, none⟩ = some (.int .i64 a0_0) := (blk_cell BK240.out 0).trans rfl; have hcz10_1 : w9.cell? ⟨gb240, 1, none⟩ = some (.int .i64 a0_1) := (blk_cell BK240.out 1).trans rfl; have hcz10_2 : w9.cell? ⟨gb240, 2, none⟩ = some (.int .i64 a0_2) := (blk_cell BK240.out 2).trans rfl; have hcz10_3 : w9.cell? ⟨gb240, 3, none⟩ = some (.bool a0_3) := (blk_cell BK240.out 3).trans rfl; have hcz10_4 : w9.cell? ⟨gb240, 4, none⟩ = some (.bool a0_4) := (blk_cell BK240.out 4).trans rfl; have hcz10_5 : w9.cell? ⟨gb240, 5, none⟩ = some (.slice A0_5 l0_5.length c0_5) := (blk_cell BK240.out 5).trans rfl; have hcz10_6 : w9.cell? ⟨gb240, 6, none⟩ = some (.slice A0_6 l0_6.length c0_6) := (blk_cell BK240.out 6).trans rfl; have hcz10_7 : w9.cell? ⟨gb240, 7, none⟩ = some (.slice A0_7 l0_7.length c0_7) := (blk_cell BK240.out 7).trans rfl; have hfz10_0 := blk_frozen BK240.out 0; have hfz10_1 := blk_frozen BK240.out 1; have hfz10_2 := blk_frozen BK240.out 2; have hfz10_3 := blk_frozen BK240.out 3; have hfz10_4 := blk_frozen BK240.out 4; have hfz10_5 := blk_frozen BK240.out 5; have hfz10_6 := blk_frozen BK240.out 6; have hfz10_7 := blk_frozen BK240.out 7) | ((with_reducible refine gate_callee (f := 9) rfl ?_); refine goesL_ (some 9) rfl rfl Try.func9 (by kernel_rfl) rfl #[.agg #[.slice A0_5 l0_5.length c0_5, .slice A0_6 l0_6.length c0_6, .slice A0_7 l0_7.length c0_7]] rfl (by (try simp only [List.map_toArray, List.map_cons, List.map_nil]); first | done | rfl | (simp only [List.length_drop, List.length_take]; rfl)) ?_; (with_reducible refine (newellaw20_few.calls _ _ l0_5 _ _ l0_6 _ _ l0_7 true _ ?side1 ?side2 ?side3 ?side4 ?side5 ?side6 A2.out).mono ?_); (case side1 => repeat (first | exact (Kd.C_below HR0_5.out HB.out) | (with_reducible refine Kd.C_alloc ?_ _) | (with_reducible refine Kd.C_drewN ?_ _) | (with_reducible refine Kd.C_drew ?_))); (case side2 => exact HC0_5.out); (case side3 => repeat (first | exact (Kd.C_below HR0_6.out HB.out) | (with_reducible refine Kd.C_alloc ?_ _) | (with_reducible refine Kd.C_drewN ?_ _) | (with_reducible refine Kd.C_drew ?_))); (case side4 => exact HC0_6.out); (case side5 => repeat (first | exact (Kd.C_below HR0_7.out HB.out) | (with_reducible refine Kd.C_alloc ?_ _) | (with_reducible refine Kd.C_drewN ?_ _) | (with_reducible refine Kd.C_drew ?_))); (case side6 => exact HC0_7.out); rintro e w11 ⟨rfl, hb⟩; refine ⟨_, rfl, ?_⟩; have n0_ := Aside0.mk (blk_below (g := gb240) (o := .cells #[.int .i64 a0_0, .int .i64 a0_1, .int .i64 a0_2, .bool a0_3, .bool a0_4, .slice A0_5 l0_5.length c0_5, .slice A0_6 l0_6.length c0_6, .slice A0_7 l0_7.length c0_7] 26 (0, 0)) (by (with_reducible repeat (first | refine blk_drewN ?_ _ | refine blk_drew ?_ | refine blk_alloc ?_ _)); exact BK240.out) hb); have n1_ := Aside0.mk (below_step (by repeat (first | (with_reducible first | exact HB.out | apply below_alloc | apply pw_below_drewN | apply below_drew1 | refine below_set ?_ GE240.out) | exact HB.out)) hb); clear BK240; clear HB; have BK240 := n0_; have HB := n1_; clear n0_ n1_; (try clear hb); (try clear hb2); (try clear hk); (try clear hi); have hcz12_0 : w11.cell? ⟨gb240, 0, none⟩ = some (.int .i64 a0_0) := (blk_cell BK240.out 0).trans rfl; have hcz12_1 : w11.cell? ⟨gb240, 1, none⟩ = some (.int .i64 a0_1) := (blk_cell BK240.out 1).trans rfl; have hcz12_2 : w11.cell? ⟨gb240, 2, none⟩ = some (.int .i64 a0_2) := (blk_cell BK240.out 2).trans rfl; have hcz12_3 : w11.cell? ⟨gb240, 3, none⟩ = some (.bool a0_3) := (blk_cell BK240.out 3).trans rfl; have hcz12_4 : w11.cell? ⟨gb240, 4, none⟩ = some (.bool a0_4) := (blk_cell BK240.out 4).trans rfl; have hcz12_5 : w11.cell? ⟨gb240, 5, none⟩ = some (.slice A0_5 l0_5.length c0_5) := (blk_cell BK240.out 5).trans rfl; have hcz12_6 : w11.cell? ⟨gb240, 6, none⟩ = some (.slice A0_6 l0_6.length c0_6) := (blk_cell BK240.out 6).trans rfl; have hcz12_7 : w11.cell? ⟨gb240, 7, none⟩ = some (.slice A0_7 l0_7.length c0_7) := (blk_cell BK240.out 7).trans rfl; have hfz12_0 := blk_frozen BK240.out 0; have hfz12_1 := blk_frozen BK240.out 1; have hfz12_2 := blk_frozen BK240.out 2; have hfz12_3 := blk_frozen BK240.out 3; have hfz12_4 := blk_frozen BK240.out 4; have hfz12_5 := blk_frozen BK240.out 5; have hfz12_6 := blk_frozen BK240.out 6; have hfz12_7 := blk_frozen BK240.out 7) | ((with_reducible refine gate_callee (f := 12) rfl ?_); refine goesL_ (some 14) rfl rfl Try.func12 (by kernel_rfl) rfl #[.agg #[.int .i64 a0_0, .int .i64 a0_1, .int .i64 a0_2, .bool a0_3, .bool a0_4, .slice A0_5 l0_5.length c0_5, .slice A0_6 l0_6.length c0_6, .slice A0_7 l0_7.length c0_7]] rfl (by (try simp only [List.map_toArray, List.map_cons, List.map_nil]); first | done | rfl | (simp only [List.length_drop, List.length_take]; rfl)) ?_; (with_reducible refine (newellaw20_Own.calls a0_0 a0_1 a0_2 a0_3 a0_4 _ _ l0_5 _ _ l0_6 _ _ l0_7 t243 t244 t245 t246 t247 t248 t251 t254 _ ?side1 ?side2 ?side3 ?side4 ?side5 ?side6 A4.out).mono ?_); (case side1 => repeat (first | exact (Kd.C_below HR0_5.out HB.out) | (with_reducible refine Kd.C_alloc ?_ _) | (with_reducible refine Kd.C_drewN ?_ _) | (with_reducible refine Kd.C_drew ?_))); (case side2 => exact HC0_5.out); (case side3 => repeat (first | exact (Kd.C_below HR0_6.out HB.out) | (with_reducible refine Kd.C_alloc ?_ _) | (with_reducible refine Kd.C_drewN ?_ _) | (with_reducible refine Kd.C_drew ?_))); (case side4 => exact HC0_6.out); (case side5 => repeat (first | exact (Kd.C_below HR0_7.out HB.out) | (with_reducible refine Kd.C_alloc ?_ _) | (with_reducible refine Kd.C_drewN ?_ _) | (with_reducible refine Kd.C_drew ?_))); (case side6 => exact HC0_7.out); rintro e w13 ⟨v249, v252, v255, rfl, ho0, ho1, ho2, hb⟩; refine ⟨_, rfl, ?_⟩; have n0_ := Aside0.mk (Kd.R_lower ho0 (below_size (by repeat (first | (with_reducible first | exact HB.out | apply below_alloc | apply pw_below_drewN | apply below_drew1 | refine below_set ?_ GE240.out) | exact HB.out)))); have n1_ := Aside0.mk (Kd.R_lower ho1 (below_size (by repeat (first | (with_reducible first | exact HB.out | apply below_alloc | apply pw_below_drewN | apply below_drew1 | refine below_set ?_ GE240.out) | exact HB.out)))); have n2_ := Aside0.mk (Kd.R_lower ho2 (below_size (by repeat (first | (with_reducible first | exact HB.out | apply below_alloc | apply pw_below_drewN | apply below_drew1 | refine below_set ?_ GE240.out) | exact HB.out)))); have n3_ := Aside0.mk (blk_below (g := gb240) (o := .cells #[.int .i64 a0_0, .int .i64 a0_1, .int .i64 a0_2, .bool a0_3, .bool a0_4, .slice A0_5 l0_5.length c0_5, .slice A0_6 l0_6.length c0_6, .slice A0_7 l0_7.length c0_7] 26 (0, 0)) (by (with_reducible repeat (first | refine blk_drewN ?_ _ | refine blk_drew ?_ | refine blk_alloc ?_ _)); exact BK240.out) hb); have n4_ := Aside0.mk (below_step (by repeat (first | (with_reducible first | exact HB.out | apply below_alloc | apply pw_below_drewN | apply below_drew1 | refine below_set ?_ GE240.out) | exact HB.out)) hb); clear BK240; clear HB; have HO250 := n0_; have HO253 := n1_; have HO256 := n2_; have BK240 := n3_; have HB := n4_; clear n0_ n1_ n2_ n3_ n4_; (try clear hb); (try clear hb2); (try clear hk); (try clear hi); (try clear ho0); (try clear ho1); (try clear ho2); obtain ⟨Ao14, co14, eo14⟩ := Kd.R_slice HO250.out; subst eo14; obtain ⟨Ao15, co15, eo15⟩ := Kd.R_slice HO253.out; subst eo15; obtain ⟨Ao16, co16, eo16⟩ := Kd.R_slice HO256.out; subst eo16) | ((with_reducible refine gate_callee (f := 11) rfl ?_); refine goesL_ (some 15) rfl rfl Try.func11 (by kernel_rfl) rfl #[.agg #[.int .i64 t243, .int .i64 t244, .int .i64 t245, .bool t246, .bool t247, .slice Ao14 t248.length co14, .slice Ao15 t251.length co15, .slice Ao16 t254.length co16]] rfl (by (try simp only [List.map_toArray, List.map_cons, List.map_nil]); first | done | rfl | (simp only [List.length_drop, List.length_take]; rfl)) ?_; (with_reducible refine (collect_Next.calls k t243 t244 t245 t246 t247 _ _ t248 _ _ t251 _ _ t254 t257 t258 t259 _ ?side1 ?side2 ?side3 ?side4 ?side5 ?side6 A5.out).mono ?_); (case side1 => repeat (first | exact (Kd.R_reads' HO250.out).2.2 | (with_reducible refine Kd.C_alloc ?_ _) | (with_reducible refine Kd.C_drewN ?_ _) | (with_reducible refine Kd.C_drew ?_))); (case side2 => exact (Kd.R_reads' HO250.out).2.1); (case side3 => repeat (first | exact (Kd.R_reads' HO253.out).2.2 | (with_reducible refine Kd.C_alloc ?_ _) | (with_reducible refine Kd.C_drewN ?_ _) | (with_reducible refine Kd.C_drew ?_))); (case side4 => exact (Kd.R_reads' HO253.out).2.1); (case side5 => repeat (first | exact (Kd.R_reads' HO256.out).2.2 | (with_reducible refine Kd.C_alloc ?_ _) | (with_reducible refine Kd.C_drewN ?_ _) | (with_reducible refine Kd.C_drew ?_))); (case side6 => exact (Kd.R_reads' HO256.out).2.1); rintro e w17 ⟨rfl, hb⟩; refine ⟨_, rfl, ?_⟩; have n0_ := Aside0.mk (Kd.R_below (by (with_reducible repeat (first | apply Kd.R_alloc | apply Kd.R_drewN | apply Kd.R_drew)); exact HO250.out) hb); have n1_ := Aside0.mk (Kd.R_below (by (with_reducible repeat (first | apply Kd.R_alloc | apply Kd.R_drewN | apply Kd.R_drew)); exact HO253.out) hb); have n2_ := Aside0.mk (Kd.R_below (by (with_reducible repeat (first | apply Kd.R_alloc | apply Kd.R_drewN | apply Kd.R_drew)); exact HO256.out) hb); have n3_ := Aside0.mk (blk_below (g := gb240) (o := .cells #[.int .i64 a0_0, .int .i64 a0_1, .int .i64 a0_2, .bool a0_3, .bool a0_4, .slice A0_5 l0_5.length c0_5, .slice A0_6 l0_6.length c0_6, .slice A0_7 l0_7.length c0_7] 26 (0, 0)) (by (with_reducible repeat (first | refine blk_drewN ?_ _ | refine blk_drew ?_ | refine blk_alloc ?_ _)); exact BK240.out) hb); have n4_ := Aside0.mk (below_step (by repeat (first | (with_reducible first | exact HB.out | apply below_alloc | apply pw_below_drewN | apply below_drew1 | refine below_set ?_ GE240.out) | exact HB.out)) hb); clear HO250; clear HO253; clear HO256; clear BK240; clear HB; have HO250 := n0_; have HO253 := n1_; have HO256 := n2_; have BK240 := n3_; have HB := n4_; clear n0_ n1_ n2_ n3_ n4_; (try clear hb); (try clear hb2); (try clear hk); (try clear hi); have hcz18_0 : w17.cell? ⟨gb240, 0, none⟩ = some (.int .i64 a0_0) := (blk_cell BK240.out 0).trans rfl; have hcz18_1 : w17.cell? ⟨gb240, 1, none⟩ = some (.int .i64 a0_1) := (blk_cell BK240.out 1).trans rfl; have hcz18_2 : w17.cell? ⟨gb240, 2, none⟩ = some (.int .i64 a0_2) := (blk_cell BK240.out 2).trans rfl; have hcz18_3 : w17.cell? ⟨gb240, 3, none⟩ = some (.bool a0_3) := (blk_cell BK240.out 3).trans rfl; have hcz18_4 : w17.cell? ⟨gb240, 4, none⟩ = some (.bool a0_4) := (blk_cell BK240.out 4).trans rfl; have hcz18_5 : w17.cell? ⟨gb240, 5, none⟩ = some (.slice A0_5 l0_5.length c0_5) := (blk_cell BK240.out 5).trans rfl; have hcz18_6 : w17.cell? ⟨gb240, 6, none⟩ = some (.slice A0_6 l0_6.length c0_6) := (blk_cell BK240.out 6).trans rfl; have hcz18_7 : w17.cell? ⟨gb240, 7, none⟩ = some (.slice A0_7 l0_7.length c0_7) := (blk_cell BK240.out 7).trans rfl; have hfz18_0 := blk_frozen BK240.out 0; have hfz18_1 := blk_frozen BK240.out 1; have hfz18_2 := blk_frozen BK240.out 2; have hfz18_3 := blk_frozen BK240.out 3; have hfz18_4 := blk_frozen BK240.out 4; have hfz18_5 := blk_frozen BK240.out 5; have hfz18_6 := blk_frozen BK240.out 6; have hfz18_7 := blk_frozen BK240.out 7))
    (try simp only [Act.put, List.setIfInBounds_toArray, List.set_cons_zero, List.set_cons_succ])
    go_cut [2] (fun v2 wc => ∃ (kq : Nat) (x2_7 : Bool), v2 = .bool x2_7 ∧ Aside0 (newellaw20_CollectToward.j0 kq x2_7 = some r) ∧ Aside0 (kq ≤ k) ∧ Aside0 (wc.heap[gb240]? = some (.cells #[.int .i64 a0_0, .int .i64 a0_1, .int .i64 a0_2, .bool a0_3, .bool a0_4, (.slice A0_5 l0_5.length c0_5), (.slice A0_6 l0_6.length c0_6), (.slice A0_7 l0_7.length c0_7)] 26 (0, 0))) ∧ Aside0 (Below w.heap.size w wc))
    case first =>
     have H := HC8.out
     clear HC8
     replace H := Option.bind_eq_some_iff.mp H
     obtain ⟨t261, A190, H⟩ := H
     replace H : (if t261 = true then (if ((wrap64 ((wrap64 ((l0_5.length : Int) + (l0_6.length : Int))) + (l0_7.length : Int))) > 0) then (none) else (newellaw20_CollectToward.j0 k (t258 == 0))) else (none)) = some r := H
     have A19 := Aside0.mk A190
     clear A190
     by_cases c20 : t261 = true
     ·subst c20
      have H1 : (if ((wrap64 ((wrap64 ((l0_5.length : Int) + (l0_6.length : Int))) + (l0_7.length : Int))) > 0) then (none) else (newellaw20_CollectToward.j0 k (t258 == 0))) = some r := by rw [if_pos rfl] at H; exact H
      clear H
      have H := H1
      clear H1
      by_cases c21 : ((wrap64 ((wrap64 ((l0_5.length : Int) + (l0_6.length : Int))) + (l0_7.length : Int))) > 0)
      ·rw [if_pos c21] at H
       exact absurd H (by simp)
      ·rw [if_neg c21] at H
       have c21b0 : decide (0 < (wrap64 ((wrap64 ((l0_5.length : Int) + (l0_6.length : Int))) + (l0_7.length : Int)))) = false := decide_eq_false c21
       clear c21
       (first | rw [c21b0] | (simp only [i64_w, i32_w]; rw [c21b0]) | skip)
       have H' := Aside0.mk H
       clear H
       go_wp2_with (first | ((with_reducible refine gate_callee (f := 10) rfl ?_); refine goesL_ (some 39) rfl rfl Try.func10 (by kernel_rfl) rfl #[] rfl (by (try simp only [List.map_toArray, List.map_cons, List.map_nil]); first | done | rfl | (simp only [List.length_drop, List.length_take]; rfl)) ?_; (with_reducible refine (newellaw20_awake.calls k  true _ A19.out).mono ?_); rintro e w22 ⟨rfl, hb⟩; refine ⟨_, rfl, ?_⟩; have n0_ := Aside0.mk (Kd.R_below (by (with_reducible repeat (first | apply Kd.R_alloc | apply Kd.R_drewN | apply Kd.R_drew)); exact HO250.out) hb); have n1_ := Aside0.mk (Kd.R_below (by (with_reducible repeat (first | apply Kd.R_alloc | apply Kd.R_drewN | apply Kd.R_drew)); exact HO253.out) hb); have n2_ := Aside0.mk (Kd.R_below (by (with_reducible repeat (first | apply Kd.R_alloc | apply Kd.R_drewN | apply Kd.R_drew)); exact HO256.out) hb); have n3_ := Aside0.mk (blk_below (g := gb240) (o := .cells #[.int .i64 a0_0, .int .i64 a0_1, .int .i64 a0_2, .bool a0_3, .bool a0_4, .slice A0_5 l0_5.length c0_5, .slice A0_6 l0_6.length c0_6, .slice A0_7 l0_7.length c0_7] 26 (0, 0)) (by (with_reducible repeat (first | refine blk_drewN ?_ _ | refine blk_drew ?_ | refine blk_alloc ?_ _)); exact BK240.out) hb); have n4_ := Aside0.mk (below_step (by repeat (first | (with_reducible first | exact HB.out | apply below_alloc | apply pw_below_drewN | apply below_drew1 | refine below_set ?_ GE240.out) | exact HB.out)) hb); clear HO250; clear HO253; clear HO256; clear BK240; clear HB; have HO250 := n0_; have HO253 := n1_; have HO256 := n2_; have BK240 := n3_; have HB := n4_; clear n0_ n1_ n2_ n3_ n4_; (try clear hb); (try clear hb2); (try clear hk); (try clear hi)))
       (refine Met.intro ?_; go_step; (repeat apply Exists.intro); refine ⟨?rel, ?same⟩)
       case same => first | rfl | (rw [c21b0]; done) | (rw [c21b0]; rfl)
       case rel => exact ⟨_, ((t258 == 0)), (by first | rfl | (simp; done) | (simp [*]; done)), H', ⟨by first | omega | exact Nat.le_refl _⟩, ⟨by (with_reducible repeat (first | refine blk_drewN ?_ _ | refine blk_drew ?_ | refine blk_alloc ?_ _)); exact BK240.out⟩, ⟨by repeat (first | (with_reducible first | exact HB.out | apply below_alloc | apply pw_below_drewN | apply below_drew1 | refine below_set ?_ GE240.out) | exact HB.out)⟩⟩
     ·replace c20 := Bool.eq_false_iff.mpr c20
      subst c20
      have H1 : (none) = some r := by rw [if_neg (show ¬ (false = true) by decide)] at H; exact H
      clear H
      have H := H1
      clear H1
      exact absurd H (by simp)
    case rest =>
     clear HC8
     try clear c1
     try clear c2
     try clear p2
     try clear c3
     try clear c4
     try clear c6
     try clear c6b0
     try clear c6b1
     try clear p6
     try clear c7
     try clear c7b0
     try clear c7b1
     try clear c9
     try clear c10
     try clear c11
     try clear c12
     try clear c20
     try clear c21
     try clear c21b0
     try clear hcz10_0
     try clear hcz10_1
     try clear hcz10_2
     try clear hcz10_3
     try clear hcz10_4
     try clear hcz10_5
     try clear hcz10_6
     try clear hcz10_7
     try clear hcz12_0
     try clear hcz12_1
     try clear hcz12_2
     try clear hcz12_3
     try clear hcz12_4
     try clear hcz12_5
     try clear hcz12_6
     try clear hcz12_7
     try clear hcz18_0
     try clear hcz18_1
     try clear hcz18_2
     try clear hcz18_3
     try clear hcz18_4
     try clear hcz18_5
     try clear hcz18_6
     try clear hcz18_7
     try clear hfz10_0
     try clear hfz10_1
     try clear hfz10_2
     try clear hfz10_3
     try clear hfz10_4
     try clear hfz10_5
     try clear hfz10_6
     try clear hfz10_7
     try clear hfz12_0
     try clear hfz12_1
     try clear hfz12_2
     try clear hfz12_3
     try clear hfz12_4
     try clear hfz12_5
     try clear hfz12_6
     try clear hfz12_7
     try clear hfz18_0
     try clear hfz18_1
     try clear hfz18_2
     try clear hfz18_3
     try clear hfz18_4
     try clear hfz18_5
     try clear hfz18_6
     try clear hfz18_7
     obtain ⟨kq, x2_7, rfl, HA, HJ7, BK240, HB⟩ := hcut
     cases kq with
     | zero => exact absurd HA.out (by simp [newellaw20_CollectToward.j0])
     | succ kj7 =>
      have H := HA.out
      clear HA
      simp only [newellaw20_CollectToward.j0] at H
      obtain rfl := Option.some.inj H
      go_wp2
      go_ret
      exact ⟨by first | rfl | (simp [errW_none, errW_some] <;> rfl) | (simp [*, errW_none, errW_some] <;> rfl), by repeat (first | (with_reducible first | exact HB.out | apply below_alloc | apply pw_below_drewN | apply below_drew1 | refine below_set ?_ GE240.out) | exact HB.out)⟩
   ·rw [if_neg c7] at H
    have c7b0 : (t257 == 0) = false := beq_eq_false_iff_ne.mpr c7
    have c7b1 : (t257 != 0) = true := bne_iff_ne.mpr c7
    by_cases c23 : t257 = 3
    ·rw [if_pos c23] at H
     have c23b0 : (t257 == 3) = true := beq_iff_eq.mpr c23
     have c23b1 : (t257 != 3) = false := bne_eq_false_iff_eq.mpr c23
     clear c23
     have HC24 := Aside0.mk H
     clear H
     go_enter Try.func4, Try.ntmps4
     go_upto_region 10 with (first | ((with_reducible refine gate_dst (N := 1) rfl ?_); refine box_event ?hg (N := 1) ?hd (cs := #[.int .i64 a0_0, .int .i64 a0_1, .int .i64 a0_2, .bool a0_3, .bool a0_4, .slice A0_5 l0_5.length c0_5, .slice A0_6 l0_6.length c0_6, .slice A0_7 l0_7.length c0_7]) (t := 26) ?hr ?_; (case hd => rfl); (case hg => rfl); (case hr => first | (go_simp; done) | (go_simp; rfl)); intro gb240 hg w25 hbox hb; have n0_ := Aside0.mk (below_step (by repeat (first | (with_reducible first | exact HB.out | apply below_alloc | apply pw_below_drewN | apply below_drew1) | exact HB.out)) hb); have n1_ := Aside0.mk (hbox); have n2_ := Aside0.mk ((by rw [hg]; exact (below_size (by repeat (first | (with_reducible first | exact HB.out | apply below_alloc | apply pw_below_drewN | apply below_drew1) | exact HB.out))) : w.heap.size ≤ gb240)); have n3_ := Aside0.mk ((by rw [hg]; exact (below_size (by repeat (first | (with_reducible first | exact HB.out | apply below_alloc | apply pw_below_drewN | apply below_drew1) | exact HB.out))) : w.heap.size ≤ gb240)); clear HB; have HB := n0_; have BK240 := n1_; have GW240 := n2_; have GE240 := n3_; clear n0_ n1_ n2_ n3_; clear hb hbox hg; have hcz26_0 : w25.cell? ⟨gb240, 0, none⟩ = some (.int .i64 a0_0) := (blk_cell BK240.out 0).trans rfl; have hcz26_1 : w25.cell? ⟨gb240, 1, none⟩ = some (.int .i64 a0_1) := (blk_cell BK240.out 1).trans rfl; have hcz26_2 : w25.cell? ⟨gb240, 2, none⟩ = some (.int .i64 a0_2) := (blk_cell BK240.out 2).trans rfl; have hcz26_3 : w25.cell? ⟨gb240, 3, none⟩ = some (.bool a0_3) := (blk_cell BK240.out 3).trans rfl; have hcz26_4 : w25.cell? ⟨gb240, 4, none⟩ = some (.bool a0_4) := (blk_cell BK240.out 4).trans rfl; have hcz26_5 : w25.cell? ⟨gb240, 5, none⟩ = some (.slice A0_5 l0_5.length c0_5) := (blk_cell BK240.out 5).trans rfl; have hcz26_6 : w25.cell? ⟨gb240, 6, none⟩ = some (.slice A0_6 l0_6.length c0_6) := (blk_cell BK240.out 6).trans rfl; have hcz26_7 : w25.cell? ⟨gb240, 7, none⟩ = some (.slice A0_7 l0_7.length c0_7) := (blk_cell BK240.out 7).trans rfl; have hfz26_0 := blk_frozen BK240.out 0; have hfz26_1 := blk_frozen BK240.out 1; have hfz26_2 := blk_frozen BK240.out 2; have hfz26_3 := blk_frozen BK240.out 3; have hfz26_4 := blk_frozen BK240.out 4; have hfz26_5 := blk_frozen BK240.out 5; have hfz26_6 := blk_frozen BK240.out 6; have hfz26_7 := blk_frozen BK240.out 7) | ((with_reducible refine gate_callee (f := 9) rfl ?_); refine goesL_ (some 9) rfl rfl Try.func9 (by kernel_rfl) rfl #[.agg #[.slice A0_5 l0_5.length c0_5, .slice A0_6 l0_6.length c0_6, .slice A0_7 l0_7.length c0_7]] rfl (by (try simp only [List.map_toArray, List.map_cons, List.map_nil]); first | done | rfl | (simp only [List.length_drop, List.length_take]; rfl)) ?_; (with_reducible refine (newellaw20_few.calls _ _ l0_5 _ _ l0_6 _ _ l0_7 true _ ?side1 ?side2 ?side3 ?side4 ?side5 ?side6 A2.out).mono ?_); (case side1 => repeat (first | exact (Kd.C_below HR0_5.out HB.out) | (with_reducible refine Kd.C_alloc ?_ _) | (with_reducible refine Kd.C_drewN ?_ _) | (with_reducible refine Kd.C_drew ?_))); (case side2 => exact HC0_5.out); (case side3 => repeat (first | exact (Kd.C_below HR0_6.out HB.out) | (with_reducible refine Kd.C_alloc ?_ _) | (with_reducible refine Kd.C_drewN ?_ _) | (with_reducible refine Kd.C_drew ?_))); (case side4 => exact HC0_6.out); (case side5 => repeat (first | exact (Kd.C_below HR0_7.out HB.out) | (with_reducible refine Kd.C_alloc ?_ _) | (with_reducible refine Kd.C_drewN ?_ _) | (with_reducible refine Kd.C_drew ?_))); (case side6 => exact HC0_7.out); rintro e w27 ⟨rfl, hb⟩; refine ⟨_, rfl, ?_⟩; have n0_ := Aside0.mk (blk_below (g := gb240) (o := .cells #[.int .i64 a0_0, .int .i64 a0_1, .int .i64 a0_2, .bool a0_3, .bool a0_4, .slice A0_5 l0_5.length c0_5, .slice A0_6 l0_6.length c0_6, .slice A0_7 l0_7.length c0_7] 26 (0, 0)) (by (with_reducible repeat (first | refine blk_drewN ?_ _ | refine blk_drew ?_ | refine blk_alloc ?_ _)); exact BK240.out) hb); have n1_ := Aside0.mk (below_step (by repeat (first | (with_reducible first | exact HB.out | apply below_alloc | apply pw_below_drewN | apply below_drew1 | refine below_set ?_ GE240.out) | exact HB.out)) hb); clear BK240; clear HB; have BK240 := n0_; have HB := n1_; clear n0_ n1_; (try clear hb); (try clear hb2); (try clear hk); (try clear hi); have hcz28_0 : w27.cell? ⟨gb240, 0, none⟩ = some (.int .i64 a0_0) := (blk_cell BK240.out 0).trans rfl; have hcz28_1 : w27.cell? ⟨gb240, 1, none⟩ = some (.int .i64 a0_1) := (blk_cell BK240.out 1).trans rfl; have hcz28_2 : w27.cell? ⟨gb240, 2, none⟩ = some (.int .i64 a0_2) := (blk_cell BK240.out 2).trans rfl; have hcz28_3 : w27.cell? ⟨gb240, 3, none⟩ = some (.bool a0_3) := (blk_cell BK240.out 3).trans rfl; have hcz28_4 : w27.cell? ⟨gb240, 4, none⟩ = some (.bool a0_4) := (blk_cell BK240.out 4).trans rfl; have hcz28_5 : w27.cell? ⟨gb240, 5, none⟩ = some (.slice A0_5 l0_5.length c0_5) := (blk_cell BK240.out 5).trans rfl; have hcz28_6 : w27.cell? ⟨gb240, 6, none⟩ = some (.slice A0_6 l0_6.length c0_6) := (blk_cell BK240.out 6).trans rfl; have hcz28_7 : w27.cell? ⟨gb240, 7, none⟩ = some (.slice A0_7 l0_7.length c0_7) := (blk_cell BK240.out 7).trans rfl; have hfz28_0 := blk_frozen BK240.out 0; have hfz28_1 := blk_frozen BK240.out 1; have hfz28_2 := blk_frozen BK240.out 2; have hfz28_3 := blk_frozen BK240.out 3; have hfz28_4 := blk_frozen BK240.out 4; have hfz28_5 := blk_frozen BK240.out 5; have hfz28_6 := blk_frozen BK240.out 6; have hfz28_7 := blk_frozen BK240.out 7) | ((with_reducible refine gate_callee (f := 12) rfl ?_); refine goesL_ (some 14) rfl rfl Try.func12 (by kernel_rfl) rfl #[.agg #[.int .i64 a0_0, .int .i64 a0_1, .int .i64 a0_2, .bool a0_3, .bool a0_4, .slice A0_5 l0_5.length c0_5, .slice A0_6 l0_6.length c0_6, .slice A0_7 l0_7.length c0_7]] rfl (by (try simp only [List.map_toArray, List.map_cons, List.map_nil]); first | done | rfl | (simp only [List.length_drop, List.length_take]; rfl)) ?_; (with_reducible refine (newellaw20_Own.calls a0_0 a0_1 a0_2 a0_3 a0_4 _ _ l0_5 _ _ l0_6 _ _ l0_7 t243 t244 t245 t246 t247 t248 t251 t254 _ ?side1 ?side2 ?side3 ?side4 ?side5 ?side6 A4.out).mono ?_); (case side1 => repeat (first | exact (Kd.C_below HR0_5.out HB.out) | (with_reducible refine Kd.C_alloc ?_ _) | (with_reducible refine Kd.C_drewN ?_ _) | (with_reducible refine Kd.C_drew ?_))); (case side2 => exact HC0_5.out); (case side3 => repeat (first | exact (Kd.C_below HR0_6.out HB.out) | (with_reducible refine Kd.C_alloc ?_ _) | (with_reducible refine Kd.C_drewN ?_ _) | (with_reducible refine Kd.C_drew ?_))); (case side4 => exact HC0_6.out); (case side5 => repeat (first | exact (Kd.C_below HR0_7.out HB.out) | (with_reducible refine Kd.C_alloc ?_ _) | (with_reducible refine Kd.C_drewN ?_ _) | (with_reducible refine Kd.C_drew ?_))); (case side6 => exact HC0_7.out); rintro e w29 ⟨v249, v252, v255, rfl, ho0, ho1, ho2, hb⟩; refine ⟨_, rfl, ?_⟩; have n0_ := Aside0.mk (Kd.R_lower ho0 (below_size (by repeat (first | (with_reducible first | exact HB.out | apply below_alloc | apply pw_below_drewN | apply below_drew1 | refine below_set ?_ GE240.out) | exact HB.out)))); have n1_ := Aside0.mk (Kd.R_lower ho1 (below_size (by repeat (first | (with_reducible first | exact HB.out | apply below_alloc | apply pw_below_drewN | apply below_drew1 | refine below_set ?_ GE240.out) | exact HB.out)))); have n2_ := Aside0.mk (Kd.R_lower ho2 (below_size (by repeat (first | (with_reducible first | exact HB.out | apply below_alloc | apply pw_below_drewN | apply below_drew1 | refine below_set ?_ GE240.out) | exact HB.out)))); have n3_ := Aside0.mk (blk_below (g := gb240) (o := .cells #[.int .i64 a0_0, .int .i64 a0_1, .int .i64 a0_2, .bool a0_3, .bool a0_4, .slice A0_5 l0_5.length c0_5, .slice A0_6 l0_6.length c0_6, .slice A0_7 l0_7.length c0_7] 26 (0, 0)) (by (with_reducible repeat (first | refine blk_drewN ?_ _ | refine blk_drew ?_ | refine blk_alloc ?_ _)); exact BK240.out) hb); have n4_ := Aside0.mk (below_step (by repeat (first | (with_reducible first | exact HB.out | apply below_alloc | apply pw_below_drewN | apply below_drew1 | refine below_set ?_ GE240.out) | exact HB.out)) hb); clear BK240; clear HB; have HO250 := n0_; have HO253 := n1_; have HO256 := n2_; have BK240 := n3_; have HB := n4_; clear n0_ n1_ n2_ n3_ n4_; (try clear hb); (try clear hb2); (try clear hk); (try clear hi); (try clear ho0); (try clear ho1); (try clear ho2); obtain ⟨Ao30, co30, eo30⟩ := Kd.R_slice HO250.out; subst eo30; obtain ⟨Ao31, co31, eo31⟩ := Kd.R_slice HO253.out; subst eo31; obtain ⟨Ao32, co32, eo32⟩ := Kd.R_slice HO256.out; subst eo32) | ((with_reducible refine gate_callee (f := 11) rfl ?_); refine goesL_ (some 15) rfl rfl Try.func11 (by kernel_rfl) rfl #[.agg #[.int .i64 t243, .int .i64 t244, .int .i64 t245, .bool t246, .bool t247, .slice Ao30 t248.length co30, .slice Ao31 t251.length co31, .slice Ao32 t254.length co32]] rfl (by (try simp only [List.map_toArray, List.map_cons, List.map_nil]); first | done | rfl | (simp only [List.length_drop, List.length_take]; rfl)) ?_; (with_reducible refine (collect_Next.calls k t243 t244 t245 t246 t247 _ _ t248 _ _ t251 _ _ t254 t257 t258 t259 _ ?side1 ?side2 ?side3 ?side4 ?side5 ?side6 A5.out).mono ?_); (case side1 => repeat (first | exact (Kd.R_reads' HO250.out).2.2 | (with_reducible refine Kd.C_alloc ?_ _) | (with_reducible refine Kd.C_drewN ?_ _) | (with_reducible refine Kd.C_drew ?_))); (case side2 => exact (Kd.R_reads' HO250.out).2.1); (case side3 => repeat (first | exact (Kd.R_reads' HO253.out).2.2 | (with_reducible refine Kd.C_alloc ?_ _) | (with_reducible refine Kd.C_drewN ?_ _) | (with_reducible refine Kd.C_drew ?_))); (case side4 => exact (Kd.R_reads' HO253.out).2.1); (case side5 => repeat (first | exact (Kd.R_reads' HO256.out).2.2 | (with_reducible refine Kd.C_alloc ?_ _) | (with_reducible refine Kd.C_drewN ?_ _) | (with_reducible refine Kd.C_drew ?_))); (case side6 => exact (Kd.R_reads' HO256.out).2.1); rintro e w33 ⟨rfl, hb⟩; refine ⟨_, rfl, ?_⟩; have n0_ := Aside0.mk (Kd.R_below (by (with_reducible repeat (first | apply Kd.R_alloc | apply Kd.R_drewN | apply Kd.R_drew)); exact HO250.out) hb); have n1_ := Aside0.mk (Kd.R_below (by (with_reducible repeat (first | apply Kd.R_alloc | apply Kd.R_drewN | apply Kd.R_drew)); exact HO253.out) hb); have n2_ := Aside0.mk (Kd.R_below (by (with_reducible repeat (first | apply Kd.R_alloc | apply Kd.R_drewN | apply Kd.R_drew)); exact HO256.out) hb); have n3_ := Aside0.mk (blk_below (g := gb240) (o := .cells #[.int .i64 a0_0, .int .i64 a0_1, .int .i64 a0_2, .bool a0_3, .bool a0_4, .slice A0_5 l0_5.length c0_5, .slice A0_6 l0_6.length c0_6, .slice A0_7 l0_7.length c0_7] 26 (0, 0)) (by (with_reducible repeat (first | refine blk_drewN ?_ _ | refine blk_drew ?_ | refine blk_alloc ?_ _)); exact BK240.out) hb); have n4_ := Aside0.mk (below_step (by repeat (first | (with_reducible first | exact HB.out | apply below_alloc | apply pw_below_drewN | apply below_drew1 | refine below_set ?_ GE240.out) | exact HB.out)) hb); clear HO250; clear HO253; clear HO256; clear BK240; clear HB; have HO250 := n0_; have HO253 := n1_; have HO256 := n2_; have BK240 := n3_; have HB := n4_; clear n0_ n1_ n2_ n3_ n4_; (try clear hb); (try clear hb2); (try clear hk); (try clear hi); have hcz34_0 : w33.cell? ⟨gb240, 0, none⟩ = some (.int .i64 a0_0) := (blk_cell BK240.out 0).trans rfl; have hcz34_1 : w33.cell? ⟨gb240, 1, none⟩ = some (.int .i64 a0_1) := (blk_cell BK240.out 1).trans rfl; have hcz34_2 : w33.cell? ⟨gb240, 2, none⟩ = some (.int .i64 a0_2) := (blk_cell BK240.out 2).trans rfl; have hcz34_3 : w33.cell? ⟨gb240, 3, none⟩ = some (.bool a0_3) := (blk_cell BK240.out 3).trans rfl; have hcz34_4 : w33.cell? ⟨gb240, 4, none⟩ = some (.bool a0_4) := (blk_cell BK240.out 4).trans rfl; have hcz34_5 : w33.cell? ⟨gb240, 5, none⟩ = some (.slice A0_5 l0_5.length c0_5) := (blk_cell BK240.out 5).trans rfl; have hcz34_6 : w33.cell? ⟨gb240, 6, none⟩ = some (.slice A0_6 l0_6.length c0_6) := (blk_cell BK240.out 6).trans rfl; have hcz34_7 : w33.cell? ⟨gb240, 7, none⟩ = some (.slice A0_7 l0_7.length c0_7) := (blk_cell BK240.out 7).trans rfl; have hfz34_0 := blk_frozen BK240.out 0; have hfz34_1 := blk_frozen BK240.out 1; have hfz34_2 := blk_frozen BK240.out 2; have hfz34_3 := blk_frozen BK240.out 3; have hfz34_4 := blk_frozen BK240.out 4; have hfz34_5 := blk_frozen BK240.out 5; have hfz34_6 := blk_frozen BK240.out 6; have hfz34_7 := blk_frozen BK240.out 7))
     (try simp only [Act.put, List.setIfInBounds_toArray, List.set_cons_zero, List.set_cons_succ])
     go_cut [2] (fun v2 wc => ∃ (kq : Nat) (x2_23 : Bool), v2 = .bool x2_23 ∧ Aside0 (newellaw20_CollectToward.j1 kq x2_23 = some r) ∧ Aside0 (kq ≤ k) ∧ Aside0 (wc.heap[gb240]? = some (.cells #[.int .i64 a0_0, .int .i64 a0_1, .int .i64 a0_2, .bool a0_3, .bool a0_4, (.slice A0_5 l0_5.length c0_5), (.slice A0_6 l0_6.length c0_6), (.slice A0_7 l0_7.length c0_7)] 26 (0, 0))) ∧ Aside0 (Below w.heap.size w wc))
     case first =>
      have H := HC24.out
      clear HC24
      replace H := Option.bind_eq_some_iff.mp H
      obtain ⟨t262, A350, H⟩ := H
      replace H : (if t262 = true then ((collect_Called.f l0_5 l0_6 l0_7 a0_1).bind fun t263 => (if t263 = true then (if t258 = 1 then (newellaw20_CollectToward.j1 k true) else (newellaw20_CollectToward.j1 k (t258 == (-1)))) else (none))) else (none)) = some r := H
      have A35 := Aside0.mk A350
      clear A350
      by_cases c36 : t262 = true
      ·subst c36
       have H1 : ((collect_Called.f l0_5 l0_6 l0_7 a0_1).bind fun t263 => (if t263 = true then (if t258 = 1 then (newellaw20_CollectToward.j1 k true) else (newellaw20_CollectToward.j1 k (t258 == (-1)))) else (none))) = some r := by rw [if_pos rfl] at H; exact H
       clear H
       have H := H1
       clear H1
       replace H := Option.bind_eq_some_iff.mp H
       obtain ⟨t263, A370, H⟩ := H
       replace H : (if t263 = true then (if t258 = 1 then (newellaw20_CollectToward.j1 k true) else (newellaw20_CollectToward.j1 k (t258 == (-1)))) else (none)) = some r := H
       have A37 := Aside0.mk A370
       clear A370
       by_cases c38 : t263 = true
       ·subst c38
        have H1 : (if t258 = 1 then (newellaw20_CollectToward.j1 k true) else (newellaw20_CollectToward.j1 k (t258 == (-1)))) = some r := by rw [if_pos rfl] at H; exact H
        clear H
        have H := H1
        clear H1
        by_cases c39 : t258 = 1
        ·rw [if_pos c39] at H
         have c39b0 : (t258 == 1) = true := beq_iff_eq.mpr c39
         have c39b1 : (t258 != 1) = false := bne_eq_false_iff_eq.mpr c39
         clear c39
         (first | rw [c39b0] | (simp only [i64_w, i32_w]; rw [c39b0]) | skip)
         have H' := Aside0.mk H
         clear H
         go_wp2_with (first | ((with_reducible refine gate_callee (f := 10) rfl ?_); refine goesL_ (some 50) rfl rfl Try.func10 (by kernel_rfl) rfl #[] rfl (by (try simp only [List.map_toArray, List.map_cons, List.map_nil]); first | done | rfl | (simp only [List.length_drop, List.length_take]; rfl)) ?_; (with_reducible refine (newellaw20_awake.calls k  true _ A35.out).mono ?_); rintro e w40 ⟨rfl, hb⟩; refine ⟨_, rfl, ?_⟩; have n0_ := Aside0.mk (Kd.R_below (by (with_reducible repeat (first | apply Kd.R_alloc | apply Kd.R_drewN | apply Kd.R_drew)); exact HO250.out) hb); have n1_ := Aside0.mk (Kd.R_below (by (with_reducible repeat (first | apply Kd.R_alloc | apply Kd.R_drewN | apply Kd.R_drew)); exact HO253.out) hb); have n2_ := Aside0.mk (Kd.R_below (by (with_reducible repeat (first | apply Kd.R_alloc | apply Kd.R_drewN | apply Kd.R_drew)); exact HO256.out) hb); have n3_ := Aside0.mk (blk_below (g := gb240) (o := .cells #[.int .i64 a0_0, .int .i64 a0_1, .int .i64 a0_2, .bool a0_3, .bool a0_4, .slice A0_5 l0_5.length c0_5, .slice A0_6 l0_6.length c0_6, .slice A0_7 l0_7.length c0_7] 26 (0, 0)) (by (with_reducible repeat (first | refine blk_drewN ?_ _ | refine blk_drew ?_ | refine blk_alloc ?_ _)); exact BK240.out) hb); have n4_ := Aside0.mk (below_step (by repeat (first | (with_reducible first | exact HB.out | apply below_alloc | apply pw_below_drewN | apply below_drew1 | refine below_set ?_ GE240.out) | exact HB.out)) hb); clear HO250; clear HO253; clear HO256; clear BK240; clear HB; have HO250 := n0_; have HO253 := n1_; have HO256 := n2_; have BK240 := n3_; have HB := n4_; clear n0_ n1_ n2_ n3_ n4_; (try clear hb); (try clear hb2); (try clear hk); (try clear hi); have hcz41_0 : w40.cell? ⟨gb240, 0, none⟩ = some (.int .i64 a0_0) := (blk_cell BK240.out 0).trans rfl; have hcz41_1 : w40.cell? ⟨gb240, 1, none⟩ = some (.int .i64 a0_1) := (blk_cell BK240.out 1).trans rfl; have hcz41_2 : w40.cell? ⟨gb240, 2, none⟩ = some (.int .i64 a0_2) := (blk_cell BK240.out 2).trans rfl; have hcz41_3 : w40.cell? ⟨gb240, 3, none⟩ = some (.bool a0_3) := (blk_cell BK240.out 3).trans rfl; have hcz41_4 : w40.cell? ⟨gb240, 4, none⟩ = some (.bool a0_4) := (blk_cell BK240.out 4).trans rfl; have hcz41_5 : w40.cell? ⟨gb240, 5, none⟩ = some (.slice A0_5 l0_5.length c0_5) := (blk_cell BK240.out 5).trans rfl; have hcz41_6 : w40.cell? ⟨gb240, 6, none⟩ = some (.slice A0_6 l0_6.length c0_6) := (blk_cell BK240.out 6).trans rfl; have hcz41_7 : w40.cell? ⟨gb240, 7, none⟩ = some (.slice A0_7 l0_7.length c0_7) := (blk_cell BK240.out 7).trans rfl; have hfz41_0 := blk_frozen BK240.out 0; have hfz41_1 := blk_frozen BK240.out 1; have hfz41_2 := blk_frozen BK240.out 2; have hfz41_3 := blk_frozen BK240.out 3; have hfz41_4 := blk_frozen BK240.out 4; have hfz41_5 := blk_frozen BK240.out 5; have hfz41_6 := blk_frozen BK240.out 6; have hfz41_7 := blk_frozen BK240.out 7) | (go_at_call 13; (with_reducible refine (collect_Called.calls _ _ l0_5 _ _ l0_6 _ _ l0_7 a0_1 true _ ?side1 ?side2 ?side3 ?side4 ?side5 ?side6 A37.out).mono ?_); (case side1 => repeat (first | exact (Kd.C_below HR0_5.out HB.out) | (with_reducible refine Kd.C_alloc ?_ _) | (with_reducible refine Kd.C_drewN ?_ _) | (with_reducible refine Kd.C_drew ?_))); (case side2 => exact HC0_5.out); (case side3 => repeat (first | exact (Kd.C_below HR0_6.out HB.out) | (with_reducible refine Kd.C_alloc ?_ _) | (with_reducible refine Kd.C_drewN ?_ _) | (with_reducible refine Kd.C_drew ?_))); (case side4 => exact HC0_6.out); (case side5 => repeat (first | exact (Kd.C_below HR0_7.out HB.out) | (with_reducible refine Kd.C_alloc ?_ _) | (with_reducible refine Kd.C_drewN ?_ _) | (with_reducible refine Kd.C_drew ?_))); (case side6 => exact HC0_7.out); rintro e w42 ⟨rfl, hb⟩; have n0_ := Aside0.mk (Kd.R_below (by (with_reducible repeat (first | apply Kd.R_alloc | apply Kd.R_drewN | apply Kd.R_drew)); exact HO250.out) hb); have n1_ := Aside0.mk (Kd.R_below (by (with_reducible repeat (first | apply Kd.R_alloc | apply Kd.R_drewN | apply Kd.R_drew)); exact HO253.out) hb); have n2_ := Aside0.mk (Kd.R_below (by (with_reducible repeat (first | apply Kd.R_alloc | apply Kd.R_drewN | apply Kd.R_drew)); exact HO256.out) hb); have n3_ := Aside0.mk (blk_below (g := gb240) (o := .cells #[.int .i64 a0_0, .int .i64 a0_1, .int .i64 a0_2, .bool a0_3, .bool a0_4, .slice A0_5 l0_5.length c0_5, .slice A0_6 l0_6.length c0_6, .slice A0_7 l0_7.length c0_7] 26 (0, 0)) (by (with_reducible repeat (first | refine blk_drewN ?_ _ | refine blk_drew ?_ | refine blk_alloc ?_ _)); exact BK240.out) hb); have n4_ := Aside0.mk (below_step (by repeat (first | (with_reducible first | exact HB.out | apply below_alloc | apply pw_below_drewN | apply below_drew1 | refine below_set ?_ GE240.out) | exact HB.out)) hb); clear HO250; clear HO253; clear HO256; clear BK240; clear HB; have HO250 := n0_; have HO253 := n1_; have HO256 := n2_; have BK240 := n3_; have HB := n4_; clear n0_ n1_ n2_ n3_ n4_; (try clear hb); (try clear hb2); (try clear hk); (try clear hi)))
         go_meet
         case rel => exact ⟨_, (true), (by first | rfl | (simp; done) | (simp [*]; done)), H', ⟨by first | omega | exact Nat.le_refl _⟩, ⟨by (with_reducible repeat (first | refine blk_drewN ?_ _ | refine blk_drew ?_ | refine blk_alloc ?_ _)); exact BK240.out⟩, ⟨by repeat (first | (with_reducible first | exact HB.out | apply below_alloc | apply pw_below_drewN | apply below_drew1 | refine below_set ?_ GE240.out) | exact HB.out)⟩⟩
        ·rw [if_neg c39] at H
         have c39b0 : (t258 == 1) = false := beq_eq_false_iff_ne.mpr c39
         have c39b1 : (t258 != 1) = true := bne_iff_ne.mpr c39
         (first | rw [c39b0] | (simp only [i64_w, i32_w]; rw [c39b0]) | skip)
         have H' := Aside0.mk H
         clear H
         go_wp2_with (first | ((with_reducible refine gate_callee (f := 10) rfl ?_); refine goesL_ (some 50) rfl rfl Try.func10 (by kernel_rfl) rfl #[] rfl (by (try simp only [List.map_toArray, List.map_cons, List.map_nil]); first | done | rfl | (simp only [List.length_drop, List.length_take]; rfl)) ?_; (with_reducible refine (newellaw20_awake.calls k  true _ A35.out).mono ?_); rintro e w43 ⟨rfl, hb⟩; refine ⟨_, rfl, ?_⟩; have n0_ := Aside0.mk (Kd.R_below (by (with_reducible repeat (first | apply Kd.R_alloc | apply Kd.R_drewN | apply Kd.R_drew)); exact HO250.out) hb); have n1_ := Aside0.mk (Kd.R_below (by (with_reducible repeat (first | apply Kd.R_alloc | apply Kd.R_drewN | apply Kd.R_drew)); exact HO253.out) hb); have n2_ := Aside0.mk (Kd.R_below (by (with_reducible repeat (first | apply Kd.R_alloc | apply Kd.R_drewN | apply Kd.R_drew)); exact HO256.out) hb); have n3_ := Aside0.mk (blk_below (g := gb240) (o := .cells #[.int .i64 a0_0, .int .i64 a0_1, .int .i64 a0_2, .bool a0_3, .bool a0_4, .slice A0_5 l0_5.length c0_5, .slice A0_6 l0_6.length c0_6, .slice A0_7 l0_7.length c0_7] 26 (0, 0)) (by (with_reducible repeat (first | refine blk_drewN ?_ _ | refine blk_drew ?_ | refine blk_alloc ?_ _)); exact BK240.out) hb); have n4_ := Aside0.mk (below_step (by repeat (first | (with_reducible first | exact HB.out | apply below_alloc | apply pw_below_drewN | apply below_drew1 | refine below_set ?_ GE240.out) | exact HB.out)) hb); clear HO250; clear HO253; clear HO256; clear BK240; clear HB; have HO250 := n0_; have HO253 := n1_; have HO256 := n2_; have BK240 := n3_; have HB := n4_; clear n0_ n1_ n2_ n3_ n4_; (try clear hb); (try clear hb2); (try clear hk); (try clear hi); have hcz44_0 : w43.cell? ⟨gb240, 0, none⟩ = some (.int .i64 a0_0) := (blk_cell BK240.out 0).trans rfl; have hcz44_1 : w43.cell? ⟨gb240, 1, none⟩ = some (.int .i64 a0_1) := (blk_cell BK240.out 1).trans rfl; have hcz44_2 : w43.cell? ⟨gb240, 2, none⟩ = some (.int .i64 a0_2) := (blk_cell BK240.out 2).trans rfl; have hcz44_3 : w43.cell? ⟨gb240, 3, none⟩ = some (.bool a0_3) := (blk_cell BK240.out 3).trans rfl; have hcz44_4 : w43.cell? ⟨gb240, 4, none⟩ = some (.bool a0_4) := (blk_cell BK240.out 4).trans rfl; have hcz44_5 : w43.cell? ⟨gb240, 5, none⟩ = some (.slice A0_5 l0_5.length c0_5) := (blk_cell BK240.out 5).trans rfl; have hcz44_6 : w43.cell? ⟨gb240, 6, none⟩ = some (.slice A0_6 l0_6.length c0_6) := (blk_cell BK240.out 6).trans rfl; have hcz44_7 : w43.cell? ⟨gb240, 7, none⟩ = some (.slice A0_7 l0_7.length c0_7) := (blk_cell BK240.out 7).trans rfl; have hfz44_0 := blk_frozen BK240.out 0; have hfz44_1 := blk_frozen BK240.out 1; have hfz44_2 := blk_frozen BK240.out 2; have hfz44_3 := blk_frozen BK240.out 3; have hfz44_4 := blk_frozen BK240.out 4; have hfz44_5 := blk_frozen BK240.out 5; have hfz44_6 := blk_frozen BK240.out 6; have hfz44_7 := blk_frozen BK240.out 7) | (go_at_call 13; (with_reducible refine (collect_Called.calls _ _ l0_5 _ _ l0_6 _ _ l0_7 a0_1 true _ ?side1 ?side2 ?side3 ?side4 ?side5 ?side6 A37.out).mono ?_); (case side1 => repeat (first | exact (Kd.C_below HR0_5.out HB.out) | (with_reducible refine Kd.C_alloc ?_ _) | (with_reducible refine Kd.C_drewN ?_ _) | (with_reducible refine Kd.C_drew ?_))); (case side2 => exact HC0_5.out); (case side3 => repeat (first | exact (Kd.C_below HR0_6.out HB.out) | (with_reducible refine Kd.C_alloc ?_ _) | (with_reducible refine Kd.C_drewN ?_ _) | (with_reducible refine Kd.C_drew ?_))); (case side4 => exact HC0_6.out); (case side5 => repeat (first | exact (Kd.C_below HR0_7.out HB.out) | (with_reducible refine Kd.C_alloc ?_ _) | (with_reducible refine Kd.C_drewN ?_ _) | (with_reducible refine Kd.C_drew ?_))); (case side6 => exact HC0_7.out); rintro e w45 ⟨rfl, hb⟩; have n0_ := Aside0.mk (Kd.R_below (by (with_reducible repeat (first | apply Kd.R_alloc | apply Kd.R_drewN | apply Kd.R_drew)); exact HO250.out) hb); have n1_ := Aside0.mk (Kd.R_below (by (with_reducible repeat (first | apply Kd.R_alloc | apply Kd.R_drewN | apply Kd.R_drew)); exact HO253.out) hb); have n2_ := Aside0.mk (Kd.R_below (by (with_reducible repeat (first | apply Kd.R_alloc | apply Kd.R_drewN | apply Kd.R_drew)); exact HO256.out) hb); have n3_ := Aside0.mk (blk_below (g := gb240) (o := .cells #[.int .i64 a0_0, .int .i64 a0_1, .int .i64 a0_2, .bool a0_3, .bool a0_4, .slice A0_5 l0_5.length c0_5, .slice A0_6 l0_6.length c0_6, .slice A0_7 l0_7.length c0_7] 26 (0, 0)) (by (with_reducible repeat (first | refine blk_drewN ?_ _ | refine blk_drew ?_ | refine blk_alloc ?_ _)); exact BK240.out) hb); have n4_ := Aside0.mk (below_step (by repeat (first | (with_reducible first | exact HB.out | apply below_alloc | apply pw_below_drewN | apply below_drew1 | refine below_set ?_ GE240.out) | exact HB.out)) hb); clear HO250; clear HO253; clear HO256; clear BK240; clear HB; have HO250 := n0_; have HO253 := n1_; have HO256 := n2_; have BK240 := n3_; have HB := n4_; clear n0_ n1_ n2_ n3_ n4_; (try clear hb); (try clear hb2); (try clear hk); (try clear hi)))
         go_meet
         case rel => exact ⟨_, ((t258 == (-1))), (by first | rfl | (simp; done) | (simp [*]; done)), H', ⟨by first | omega | exact Nat.le_refl _⟩, ⟨by (with_reducible repeat (first | refine blk_drewN ?_ _ | refine blk_drew ?_ | refine blk_alloc ?_ _)); exact BK240.out⟩, ⟨by repeat (first | (with_reducible first | exact HB.out | apply below_alloc | apply pw_below_drewN | apply below_drew1 | refine below_set ?_ GE240.out) | exact HB.out)⟩⟩
       ·replace c38 := Bool.eq_false_iff.mpr c38
        subst c38
        have H1 : (none) = some r := by rw [if_neg (show ¬ (false = true) by decide)] at H; exact H
        clear H
        have H := H1
        clear H1
        exact absurd H (by simp)
      ·replace c36 := Bool.eq_false_iff.mpr c36
       subst c36
       have H1 : (none) = some r := by rw [if_neg (show ¬ (false = true) by decide)] at H; exact H
       clear H
       have H := H1
       clear H1
       exact absurd H (by simp)
     case rest =>
      clear HC24
      try clear c1
      try clear c2
      try clear p2
      try clear c3
      try clear c4
      try clear c6
      try clear c6b0
      try clear c6b1
      try clear p6
      try clear c7
      try clear c7b0
      try clear c7b1
      try clear c9
      try clear c10
      try clear c11
      try clear c12
      try clear c20
      try clear c21
      try clear c21b0
      try clear c23
      try clear c23b0
      try clear c23b1
      try clear c36
      try clear c38
      try clear c39
      try clear c39b0
      try clear c39b1
      try clear hcz10_0
      try clear hcz10_1
      try clear hcz10_2
      try clear hcz10_3
      try clear hcz10_4
      try clear hcz10_5
      try clear hcz10_6
      try clear hcz10_7
      try clear hcz12_0
      try clear hcz12_1
      try clear hcz12_2
      try clear hcz12_3
      try clear hcz12_4
      try clear hcz12_5
      try clear hcz12_6
      try clear hcz12_7
      try clear hcz18_0
      try clear hcz18_1
      try clear hcz18_2
      try clear hcz18_3
      try clear hcz18_4
      try clear hcz18_5
      try clear hcz18_6
      try clear hcz18_7
      try clear hcz26_0
      try clear hcz26_1
      try clear hcz26_2
      try clear hcz26_3
      try clear hcz26_4
      try clear hcz26_5
      try clear hcz26_6
      try clear hcz26_7
      try clear hcz28_0
      try clear hcz28_1
      try clear hcz28_2
      try clear hcz28_3
      try clear hcz28_4
      try clear hcz28_5
      try clear hcz28_6
      try clear hcz28_7
      try clear hcz34_0
      try clear hcz34_1
      try clear hcz34_2
      try clear hcz34_3
      try clear hcz34_4
      try clear hcz34_5
      try clear hcz34_6
      try clear hcz34_7
      try clear hcz41_0
      try clear hcz41_1
      try clear hcz41_2
      try clear hcz41_3
      try clear hcz41_4
      try clear hcz41_5
      try clear hcz41_6
      try clear hcz41_7
      try clear hcz44_0
      try clear hcz44_1
      try clear hcz44_2
      try clear hcz44_3
      try clear hcz44_4
      try clear hcz44_5
      try clear hcz44_6
      try clear hcz44_7
      try clear hfz10_0
      try clear hfz10_1
      try clear hfz10_2
      try clear hfz10_3
      try clear hfz10_4
      try clear hfz10_5
      try clear hfz10_6
      try clear hfz10_7
      try clear hfz12_0
      try clear hfz12_1
      try clear hfz12_2
      try clear hfz12_3
      try clear hfz12_4
      try clear hfz12_5
      try clear hfz12_6
      try clear hfz12_7
      try clear hfz18_0
      try clear hfz18_1
      try clear hfz18_2
      try clear hfz18_3
      try clear hfz18_4
      try clear hfz18_5
      try clear hfz18_6
      try clear hfz18_7
      try clear hfz26_0
      try clear hfz26_1
      try clear hfz26_2
      try clear hfz26_3
      try clear hfz26_4
      try clear hfz26_5
      try clear hfz26_6
      try clear hfz26_7
      try clear hfz28_0
      try clear hfz28_1
      try clear hfz28_2
      try clear hfz28_3
      try clear hfz28_4
      try clear hfz28_5
      try clear hfz28_6
      try clear hfz28_7
      try clear hfz34_0
      try clear hfz34_1
      try clear hfz34_2
      try clear hfz34_3
      try clear hfz34_4
      try clear hfz34_5
      try clear hfz34_6
      try clear hfz34_7
      try clear hfz41_0
      try clear hfz41_1
      try clear hfz41_2
      try clear hfz41_3
      try clear hfz41_4
      try clear hfz41_5
      try clear hfz41_6
      try clear hfz41_7
      try clear hfz44_0
      try clear hfz44_1
      try clear hfz44_2
      try clear hfz44_3
      try clear hfz44_4
      try clear hfz44_5
      try clear hfz44_6
      try clear hfz44_7
      try clear p2
      try clear p6
      obtain ⟨kq, x2_23, rfl, HA, HJ23, BK240, HB⟩ := hcut
      cases kq with
      | zero => exact absurd HA.out (by simp [newellaw20_CollectToward.j1])
      | succ kj23 =>
       have H := HA.out
       clear HA
       simp only [newellaw20_CollectToward.j1] at H
       obtain rfl := Option.some.inj H
       go_wp2
       go_ret
       exact ⟨by first | rfl | (simp [errW_none, errW_some] <;> rfl) | (simp [*, errW_none, errW_some] <;> rfl), by repeat (first | (with_reducible first | exact HB.out | apply below_alloc | apply pw_below_drewN | apply below_drew1 | refine below_set ?_ GE240.out) | exact HB.out)⟩
    ·rw [if_neg c23] at H
     have c23b0 : (t257 == 3) = false := beq_eq_false_iff_ne.mpr c23
     have c23b1 : (t257 != 3) = true := bne_iff_ne.mpr c23
     have HC46 := Aside0.mk H
     clear H
     go_enter Try.func4, Try.ntmps4
     go_upto_region 11 with (first | ((with_reducible refine gate_dst (N := 1) rfl ?_); refine box_event ?hg (N := 1) ?hd (cs := #[.int .i64 a0_0, .int .i64 a0_1, .int .i64 a0_2, .bool a0_3, .bool a0_4, .slice A0_5 l0_5.length c0_5, .slice A0_6 l0_6.length c0_6, .slice A0_7 l0_7.length c0_7]) (t := 26) ?hr ?_; (case hd => rfl); (case hg => rfl); (case hr => first | (go_simp; done) | (go_simp; rfl)); intro gb240 hg w47 hbox hb; have n0_ := Aside0.mk (below_step (by repeat (first | (with_reducible first | exact HB.out | apply below_alloc | apply pw_below_drewN | apply below_drew1) | exact HB.out)) hb); have n1_ := Aside0.mk (hbox); have n2_ := Aside0.mk ((by rw [hg]; exact (below_size (by repeat (first | (with_reducible first | exact HB.out | apply below_alloc | apply pw_below_drewN | apply below_drew1) | exact HB.out))) : w.heap.size ≤ gb240)); have n3_ := Aside0.mk ((by rw [hg]; exact (below_size (by repeat (first | (with_reducible first | exact HB.out | apply below_alloc | apply pw_below_drewN | apply below_drew1) | exact HB.out))) : w.heap.size ≤ gb240)); clear HB; have HB := n0_; have BK240 := n1_; have GW240 := n2_; have GE240 := n3_; clear n0_ n1_ n2_ n3_; clear hb hbox hg; have hcz48_0 : w47.cell? ⟨gb240, 0, none⟩ = some (.int .i64 a0_0) := (blk_cell BK240.out 0).trans rfl; have hcz48_1 : w47.cell? ⟨gb240, 1, none⟩ = some (.int .i64 a0_1) := (blk_cell BK240.out 1).trans rfl; have hcz48_2 : w47.cell? ⟨gb240, 2, none⟩ = some (.int .i64 a0_2) := (blk_cell BK240.out 2).trans rfl; have hcz48_3 : w47.cell? ⟨gb240, 3, none⟩ = some (.bool a0_3) := (blk_cell BK240.out 3).trans rfl; have hcz48_4 : w47.cell? ⟨gb240, 4, none⟩ = some (.bool a0_4) := (blk_cell BK240.out 4).trans rfl; have hcz48_5 : w47.cell? ⟨gb240, 5, none⟩ = some (.slice A0_5 l0_5.length c0_5) := (blk_cell BK240.out 5).trans rfl; have hcz48_6 : w47.cell? ⟨gb240, 6, none⟩ = some (.slice A0_6 l0_6.length c0_6) := (blk_cell BK240.out 6).trans rfl; have hcz48_7 : w47.cell? ⟨gb240, 7, none⟩ = some (.slice A0_7 l0_7.length c0_7) := (blk_cell BK240.out 7).trans rfl; have hfz48_0 := blk_frozen BK240.out 0; have hfz48_1 := blk_frozen BK240.out 1; have hfz48_2 := blk_frozen BK240.out 2; have hfz48_3 := blk_frozen BK240.out 3; have hfz48_4 := blk_frozen BK240.out 4; have hfz48_5 := blk_frozen BK240.out 5; have hfz48_6 := blk_frozen BK240.out 6; have hfz48_7 := blk_frozen BK240.out 7) | ((with_reducible refine gate_callee (f := 9) rfl ?_); refine goesL_ (some 9) rfl rfl Try.func9 (by kernel_rfl) rfl #[.agg #[.slice A0_5 l0_5.length c0_5, .slice A0_6 l0_6.length c0_6, .slice A0_7 l0_7.length c0_7]] rfl (by (try simp only [List.map_toArray, List.map_cons, List.map_nil]); first | done | rfl | (simp only [List.length_drop, List.length_take]; rfl)) ?_; (with_reducible refine (newellaw20_few.calls _ _ l0_5 _ _ l0_6 _ _ l0_7 true _ ?side1 ?side2 ?side3 ?side4 ?side5 ?side6 A2.out).mono ?_); (case side1 => repeat (first | exact (Kd.C_below HR0_5.out HB.out) | (with_reducible refine Kd.C_alloc ?_ _) | (with_reducible refine Kd.C_drewN ?_ _) | (with_reducible refine Kd.C_drew ?_))); (case side2 => exact HC0_5.out); (case side3 => repeat (first | exact (Kd.C_below HR0_6.out HB.out) | (with_reducible refine Kd.C_alloc ?_ _) | (with_reducible refine Kd.C_drewN ?_ _) | (with_reducible refine Kd.C_drew ?_))); (case side4 => exact HC0_6.out); (case side5 => repeat (first | exact (Kd.C_below HR0_7.out HB.out) | (with_reducible refine Kd.C_alloc ?_ _) | (with_reducible refine Kd.C_drewN ?_ _) | (with_reducible refine Kd.C_drew ?_))); (case side6 => exact HC0_7.out); rintro e w49 ⟨rfl, hb⟩; refine ⟨_, rfl, ?_⟩; have n0_ := Aside0.mk (blk_below (g := gb240) (o := .cells #[.int .i64 a0_0, .int .i64 a0_1, .int .i64 a0_2, .bool a0_3, .bool a0_4, .slice A0_5 l0_5.length c0_5, .slice A0_6 l0_6.length c0_6, .slice A0_7 l0_7.length c0_7] 26 (0, 0)) (by (with_reducible repeat (first | refine blk_drewN ?_ _ | refine blk_drew ?_ | refine blk_alloc ?_ _)); exact BK240.out) hb); have n1_ := Aside0.mk (below_step (by repeat (first | (with_reducible first | exact HB.out | apply below_alloc | apply pw_below_drewN | apply below_drew1 | refine below_set ?_ GE240.out) | exact HB.out)) hb); clear BK240; clear HB; have BK240 := n0_; have HB := n1_; clear n0_ n1_; (try clear hb); (try clear hb2); (try clear hk); (try clear hi); have hcz50_0 : w49.cell? ⟨gb240, 0, none⟩ = some (.int .i64 a0_0) := (blk_cell BK240.out 0).trans rfl; have hcz50_1 : w49.cell? ⟨gb240, 1, none⟩ = some (.int .i64 a0_1) := (blk_cell BK240.out 1).trans rfl; have hcz50_2 : w49.cell? ⟨gb240, 2, none⟩ = some (.int .i64 a0_2) := (blk_cell BK240.out 2).trans rfl; have hcz50_3 : w49.cell? ⟨gb240, 3, none⟩ = some (.bool a0_3) := (blk_cell BK240.out 3).trans rfl; have hcz50_4 : w49.cell? ⟨gb240, 4, none⟩ = some (.bool a0_4) := (blk_cell BK240.out 4).trans rfl; have hcz50_5 : w49.cell? ⟨gb240, 5, none⟩ = some (.slice A0_5 l0_5.length c0_5) := (blk_cell BK240.out 5).trans rfl; have hcz50_6 : w49.cell? ⟨gb240, 6, none⟩ = some (.slice A0_6 l0_6.length c0_6) := (blk_cell BK240.out 6).trans rfl; have hcz50_7 : w49.cell? ⟨gb240, 7, none⟩ = some (.slice A0_7 l0_7.length c0_7) := (blk_cell BK240.out 7).trans rfl; have hfz50_0 := blk_frozen BK240.out 0; have hfz50_1 := blk_frozen BK240.out 1; have hfz50_2 := blk_frozen BK240.out 2; have hfz50_3 := blk_frozen BK240.out 3; have hfz50_4 := blk_frozen BK240.out 4; have hfz50_5 := blk_frozen BK240.out 5; have hfz50_6 := blk_frozen BK240.out 6; have hfz50_7 := blk_frozen BK240.out 7) | ((with_reducible refine gate_callee (f := 12) rfl ?_); refine goesL_ (some 14) rfl rfl Try.func12 (by kernel_rfl) rfl #[.agg #[.int .i64 a0_0, .int .i64 a0_1, .int .i64 a0_2, .bool a0_3, .bool a0_4, .slice A0_5 l0_5.length c0_5, .slice A0_6 l0_6.length c0_6, .slice A0_7 l0_7.length c0_7]] rfl (by (try simp only [List.map_toArray, List.map_cons, List.map_nil]); first | done | rfl | (simp only [List.length_drop, List.length_take]; rfl)) ?_; (with_reducible refine (newellaw20_Own.calls a0_0 a0_1 a0_2 a0_3 a0_4 _ _ l0_5 _ _ l0_6 _ _ l0_7 t243 t244 t245 t246 t247 t248 t251 t254 _ ?side1 ?side2 ?side3 ?side4 ?side5 ?side6 A4.out).mono ?_); (case side1 => repeat (first | exact (Kd.C_below HR0_5.out HB.out) | (with_reducible refine Kd.C_alloc ?_ _) | (with_reducible refine Kd.C_drewN ?_ _) | (with_reducible refine Kd.C_drew ?_))); (case side2 => exact HC0_5.out); (case side3 => repeat (first | exact (Kd.C_below HR0_6.out HB.out) | (with_reducible refine Kd.C_alloc ?_ _) | (with_reducible refine Kd.C_drewN ?_ _) | (with_reducible refine Kd.C_drew ?_))); (case side4 => exact HC0_6.out); (case side5 => repeat (first | exact (Kd.C_below HR0_7.out HB.out) | (with_reducible refine Kd.C_alloc ?_ _) | (with_reducible refine Kd.C_drewN ?_ _) | (with_reducible refine Kd.C_drew ?_))); (case side6 => exact HC0_7.out); rintro e w51 ⟨v249, v252, v255, rfl, ho0, ho1, ho2, hb⟩; refine ⟨_, rfl, ?_⟩; have n0_ := Aside0.mk (Kd.R_lower ho0 (below_size (by repeat (first | (with_reducible first | exact HB.out | apply below_alloc | apply pw_below_drewN | apply below_drew1 | refine below_set ?_ GE240.out) | exact HB.out)))); have n1_ := Aside0.mk (Kd.R_lower ho1 (below_size (by repeat (first | (with_reducible first | exact HB.out | apply below_alloc | apply pw_below_drewN | apply below_drew1 | refine below_set ?_ GE240.out) | exact HB.out)))); have n2_ := Aside0.mk (Kd.R_lower ho2 (below_size (by repeat (first | (with_reducible first | exact HB.out | apply below_alloc | apply pw_below_drewN | apply below_drew1 | refine below_set ?_ GE240.out) | exact HB.out)))); have n3_ := Aside0.mk (blk_below (g := gb240) (o := .cells #[.int .i64 a0_0, .int .i64 a0_1, .int .i64 a0_2, .bool a0_3, .bool a0_4, .slice A0_5 l0_5.length c0_5, .slice A0_6 l0_6.length c0_6, .slice A0_7 l0_7.length c0_7] 26 (0, 0)) (by (with_reducible repeat (first | refine blk_drewN ?_ _ | refine blk_drew ?_ | refine blk_alloc ?_ _)); exact BK240.out) hb); have n4_ := Aside0.mk (below_step (by repeat (first | (with_reducible first | exact HB.out | apply below_alloc | apply pw_below_drewN | apply below_drew1 | refine below_set ?_ GE240.out) | exact HB.out)) hb); clear BK240; clear HB; have HO250 := n0_; have HO253 := n1_; have HO256 := n2_; have BK240 := n3_; have HB := n4_; clear n0_ n1_ n2_ n3_ n4_; (try clear hb); (try clear hb2); (try clear hk); (try clear hi); (try clear ho0); (try clear ho1); (try clear ho2); obtain ⟨Ao52, co52, eo52⟩ := Kd.R_slice HO250.out; subst eo52; obtain ⟨Ao53, co53, eo53⟩ := Kd.R_slice HO253.out; subst eo53; obtain ⟨Ao54, co54, eo54⟩ := Kd.R_slice HO256.out; subst eo54) | ((with_reducible refine gate_callee (f := 11) rfl ?_); refine goesL_ (some 15) rfl rfl Try.func11 (by kernel_rfl) rfl #[.agg #[.int .i64 t243, .int .i64 t244, .int .i64 t245, .bool t246, .bool t247, .slice Ao52 t248.length co52, .slice Ao53 t251.length co53, .slice Ao54 t254.length co54]] rfl (by (try simp only [List.map_toArray, List.map_cons, List.map_nil]); first | done | rfl | (simp only [List.length_drop, List.length_take]; rfl)) ?_; (with_reducible refine (collect_Next.calls k t243 t244 t245 t246 t247 _ _ t248 _ _ t251 _ _ t254 t257 t258 t259 _ ?side1 ?side2 ?side3 ?side4 ?side5 ?side6 A5.out).mono ?_); (case side1 => repeat (first | exact (Kd.R_reads' HO250.out).2.2 | (with_reducible refine Kd.C_alloc ?_ _) | (with_reducible refine Kd.C_drewN ?_ _) | (with_reducible refine Kd.C_drew ?_))); (case side2 => exact (Kd.R_reads' HO250.out).2.1); (case side3 => repeat (first | exact (Kd.R_reads' HO253.out).2.2 | (with_reducible refine Kd.C_alloc ?_ _) | (with_reducible refine Kd.C_drewN ?_ _) | (with_reducible refine Kd.C_drew ?_))); (case side4 => exact (Kd.R_reads' HO253.out).2.1); (case side5 => repeat (first | exact (Kd.R_reads' HO256.out).2.2 | (with_reducible refine Kd.C_alloc ?_ _) | (with_reducible refine Kd.C_drewN ?_ _) | (with_reducible refine Kd.C_drew ?_))); (case side6 => exact (Kd.R_reads' HO256.out).2.1); rintro e w55 ⟨rfl, hb⟩; refine ⟨_, rfl, ?_⟩; have n0_ := Aside0.mk (Kd.R_below (by (with_reducible repeat (first | apply Kd.R_alloc | apply Kd.R_drewN | apply Kd.R_drew)); exact HO250.out) hb); have n1_ := Aside0.mk (Kd.R_below (by (with_reducible repeat (first | apply Kd.R_alloc | apply Kd.R_drewN | apply Kd.R_drew)); exact HO253.out) hb); have n2_ := Aside0.mk (Kd.R_below (by (with_reducible repeat (first | apply Kd.R_alloc | apply Kd.R_drewN | apply Kd.R_drew)); exact HO256.out) hb); have n3_ := Aside0.mk (blk_below (g := gb240) (o := .cells #[.int .i64 a0_0, .int .i64 a0_1, .int .i64 a0_2, .bool a0_3, .bool a0_4, .slice A0_5 l0_5.length c0_5, .slice A0_6 l0_6.length c0_6, .slice A0_7 l0_7.length c0_7] 26 (0, 0)) (by (with_reducible repeat (first | refine blk_drewN ?_ _ | refine blk_drew ?_ | refine blk_alloc ?_ _)); exact BK240.out) hb); have n4_ := Aside0.mk (below_step (by repeat (first | (with_reducible first | exact HB.out | apply below_alloc | apply pw_below_drewN | apply below_drew1 | refine below_set ?_ GE240.out) | exact HB.out)) hb); clear HO250; clear HO253; clear HO256; clear BK240; clear HB; have HO250 := n0_; have HO253 := n1_; have HO256 := n2_; have BK240 := n3_; have HB := n4_; clear n0_ n1_ n2_ n3_ n4_; (try clear hb); (try clear hb2); (try clear hk); (try clear hi); have hcz56_0 : w55.cell? ⟨gb240, 0, none⟩ = some (.int .i64 a0_0) := (blk_cell BK240.out 0).trans rfl; have hcz56_1 : w55.cell? ⟨gb240, 1, none⟩ = some (.int .i64 a0_1) := (blk_cell BK240.out 1).trans rfl; have hcz56_2 : w55.cell? ⟨gb240, 2, none⟩ = some (.int .i64 a0_2) := (blk_cell BK240.out 2).trans rfl; have hcz56_3 : w55.cell? ⟨gb240, 3, none⟩ = some (.bool a0_3) := (blk_cell BK240.out 3).trans rfl; have hcz56_4 : w55.cell? ⟨gb240, 4, none⟩ = some (.bool a0_4) := (blk_cell BK240.out 4).trans rfl; have hcz56_5 : w55.cell? ⟨gb240, 5, none⟩ = some (.slice A0_5 l0_5.length c0_5) := (blk_cell BK240.out 5).trans rfl; have hcz56_6 : w55.cell? ⟨gb240, 6, none⟩ = some (.slice A0_6 l0_6.length c0_6) := (blk_cell BK240.out 6).trans rfl; have hcz56_7 : w55.cell? ⟨gb240, 7, none⟩ = some (.slice A0_7 l0_7.length c0_7) := (blk_cell BK240.out 7).trans rfl; have hfz56_0 := blk_frozen BK240.out 0; have hfz56_1 := blk_frozen BK240.out 1; have hfz56_2 := blk_frozen BK240.out 2; have hfz56_3 := blk_frozen BK240.out 3; have hfz56_4 := blk_frozen BK240.out 4; have hfz56_5 := blk_frozen BK240.out 5; have hfz56_6 := blk_frozen BK240.out 6; have hfz56_7 := blk_frozen BK240.out 7))
     (try simp only [Act.put, List.setIfInBounds_toArray, List.set_cons_zero, List.set_cons_succ])
     go_cut [2] (fun v2 wc => ∃ (kq : Nat) (x2_45 : Bool), v2 = .bool x2_45 ∧ Aside0 (newellaw20_CollectToward.j2 kq x2_45 = some r) ∧ Aside0 (kq ≤ k) ∧ Aside0 (wc.heap[gb240]? = some (.cells #[.int .i64 a0_0, .int .i64 a0_1, .int .i64 a0_2, .bool a0_3, .bool a0_4, (.slice A0_5 l0_5.length c0_5), (.slice A0_6 l0_6.length c0_6), (.slice A0_7 l0_7.length c0_7)] 26 (0, 0))) ∧ Aside0 (Below w.heap.size w wc))
     case first =>
      have H := HC46.out
      clear HC46
      replace H := Option.bind_eq_some_iff.mp H
      obtain ⟨t264, A570, H⟩ := H
      replace H : (if t264 = true then (if (wrap64 ((wrap64 ((l0_5.length : Int) + (l0_6.length : Int))) + (l0_7.length : Int))) > 0 then (if ((t257 == 1) == (t258 == 1)) = true then (if ((t257 == 2) == (t258 == (-1))) = true then ((newellaw20_toward.f k a0_0 a0_1 a0_2 a0_3 a0_4 l0_5 l0_6 l0_7 t258).bind fun t265 => (newellaw20_CollectToward.j2 k t265)) else (none)) else (none)) else (none)) else (none)) = some r := H
      have A57 := Aside0.mk A570
      clear A570
      by_cases c58 : t264 = true
      ·subst c58
       have H1 : (if (wrap64 ((wrap64 ((l0_5.length : Int) + (l0_6.length : Int))) + (l0_7.length : Int))) > 0 then (if ((t257 == 1) == (t258 == 1)) = true then (if ((t257 == 2) == (t258 == (-1))) = true then ((newellaw20_toward.f k a0_0 a0_1 a0_2 a0_3 a0_4 l0_5 l0_6 l0_7 t258).bind fun t265 => (newellaw20_CollectToward.j2 k t265)) else (none)) else (none)) else (none)) = some r := by rw [if_pos rfl] at H; exact H
       clear H
       have H := H1
       clear H1
       by_cases c59 : (wrap64 ((wrap64 ((l0_5.length : Int) + (l0_6.length : Int))) + (l0_7.length : Int))) > 0
       ·rw [if_pos c59] at H
        have c59b0 : decide (0 < (wrap64 ((wrap64 ((l0_5.length : Int) + (l0_6.length : Int))) + (l0_7.length : Int)))) = true := decide_eq_true c59
        clear c59
        (first | rw [c59b0] | (simp only [i64_w, i32_w]; rw [c59b0]) | skip)
        by_cases c60 : ((t257 == 1) == (t258 == 1)) = true
        ·rw [if_pos c60] at H
         have c60b0 : ((t257 == 1) == (t258 == 1)) = true := c60
         (try (have c60s0 := c60b0; simp only [beq_self_eq_true, bne_self_eq_false, Bool.not_true, Bool.not_false, Bool.true_and, Bool.and_true, Bool.false_or, Bool.or_false] at c60s0))
         (try (have c60b1 : decide ((t257 == 1) = (t258 == 1)) = true := by simpa using c60))
         (try (have c60b2 : ((t257 == 1) == (t258 == 1)) = true := by simpa using c60))
         clear c60
         by_cases c61 : ((t257 == 2) == (t258 == (-1))) = true
         ·rw [if_pos c61] at H
          have c61b0 : ((t257 == 2) == (t258 == (-1))) = true := c61
          (try (have c61s0 := c61b0; simp only [beq_self_eq_true, bne_self_eq_false, Bool.not_true, Bool.not_false, Bool.true_and, Bool.and_true, Bool.false_or, Bool.or_false] at c61s0))
          (try (have c61b1 : decide ((t257 == 2) = (t258 == (-1))) = true := by simpa using c61))
          (try (have c61b2 : ((t257 == 2) == (t258 == (-1))) = true := by simpa using c61))
          clear c61
          replace H := Option.bind_eq_some_iff.mp H
          obtain ⟨t265, A620, H⟩ := H
          replace H : (newellaw20_CollectToward.j2 k t265) = some r := H
          have A62 := Aside0.mk A620
          clear A620
          have H' := Aside0.mk H
          clear H
          go_wp2_with (first | ((with_reducible refine gate_callee (f := 10) rfl ?_); refine goesL_ (some 66) rfl rfl Try.func10 (by kernel_rfl) rfl #[] rfl (by (try simp only [List.map_toArray, List.map_cons, List.map_nil]); first | done | rfl | (simp only [List.length_drop, List.length_take]; rfl)) ?_; (with_reducible refine (newellaw20_awake.calls k  true _ A57.out).mono ?_); rintro e w63 ⟨rfl, hb⟩; refine ⟨_, rfl, ?_⟩; have n0_ := Aside0.mk (Kd.R_below (by (with_reducible repeat (first | apply Kd.R_alloc | apply Kd.R_drewN | apply Kd.R_drew)); exact HO250.out) hb); have n1_ := Aside0.mk (Kd.R_below (by (with_reducible repeat (first | apply Kd.R_alloc | apply Kd.R_drewN | apply Kd.R_drew)); exact HO253.out) hb); have n2_ := Aside0.mk (Kd.R_below (by (with_reducible repeat (first | apply Kd.R_alloc | apply Kd.R_drewN | apply Kd.R_drew)); exact HO256.out) hb); have n3_ := Aside0.mk (blk_below (g := gb240) (o := .cells #[.int .i64 a0_0, .int .i64 a0_1, .int .i64 a0_2, .bool a0_3, .bool a0_4, .slice A0_5 l0_5.length c0_5, .slice A0_6 l0_6.length c0_6, .slice A0_7 l0_7.length c0_7] 26 (0, 0)) (by (with_reducible repeat (first | refine blk_drewN ?_ _ | refine blk_drew ?_ | refine blk_alloc ?_ _)); exact BK240.out) hb); have n4_ := Aside0.mk (below_step (by repeat (first | (with_reducible first | exact HB.out | apply below_alloc | apply pw_below_drewN | apply below_drew1 | refine below_set ?_ GE240.out) | exact HB.out)) hb); clear HO250; clear HO253; clear HO256; clear BK240; clear HB; have HO250 := n0_; have HO253 := n1_; have HO256 := n2_; have BK240 := n3_; have HB := n4_; clear n0_ n1_ n2_ n3_ n4_; (try clear hb); (try clear hb2); (try clear hk); (try clear hi); have hcz64_0 : w63.cell? ⟨gb240, 0, none⟩ = some (.int .i64 a0_0) := (blk_cell BK240.out 0).trans rfl; have hcz64_1 : w63.cell? ⟨gb240, 1, none⟩ = some (.int .i64 a0_1) := (blk_cell BK240.out 1).trans rfl; have hcz64_2 : w63.cell? ⟨gb240, 2, none⟩ = some (.int .i64 a0_2) := (blk_cell BK240.out 2).trans rfl; have hcz64_3 : w63.cell? ⟨gb240, 3, none⟩ = some (.bool a0_3) := (blk_cell BK240.out 3).trans rfl; have hcz64_4 : w63.cell? ⟨gb240, 4, none⟩ = some (.bool a0_4) := (blk_cell BK240.out 4).trans rfl; have hcz64_5 : w63.cell? ⟨gb240, 5, none⟩ = some (.slice A0_5 l0_5.length c0_5) := (blk_cell BK240.out 5).trans rfl; have hcz64_6 : w63.cell? ⟨gb240, 6, none⟩ = some (.slice A0_6 l0_6.length c0_6) := (blk_cell BK240.out 6).trans rfl; have hcz64_7 : w63.cell? ⟨gb240, 7, none⟩ = some (.slice A0_7 l0_7.length c0_7) := (blk_cell BK240.out 7).trans rfl; have hfz64_0 := blk_frozen BK240.out 0; have hfz64_1 := blk_frozen BK240.out 1; have hfz64_2 := blk_frozen BK240.out 2; have hfz64_3 := blk_frozen BK240.out 3; have hfz64_4 := blk_frozen BK240.out 4; have hfz64_5 := blk_frozen BK240.out 5; have hfz64_6 := blk_frozen BK240.out 6; have hfz64_7 := blk_frozen BK240.out 7) | (go_at_call 18; (with_reducible refine (newellaw20_toward.calls k a0_0 a0_1 a0_2 a0_3 a0_4 _ _ l0_5 _ _ l0_6 _ _ l0_7 t258 t265 _ ?side1 ?side2 ?side3 ?side4 ?side5 ?side6 A62.out).mono ?_); (case side1 => repeat (first | exact (Kd.C_below HR0_5.out HB.out) | (with_reducible refine Kd.C_alloc ?_ _) | (with_reducible refine Kd.C_drewN ?_ _) | (with_reducible refine Kd.C_drew ?_))); (case side2 => exact HC0_5.out); (case side3 => repeat (first | exact (Kd.C_below HR0_6.out HB.out) | (with_reducible refine Kd.C_alloc ?_ _) | (with_reducible refine Kd.C_drewN ?_ _) | (with_reducible refine Kd.C_drew ?_))); (case side4 => exact HC0_6.out); (case side5 => repeat (first | exact (Kd.C_below HR0_7.out HB.out) | (with_reducible refine Kd.C_alloc ?_ _) | (with_reducible refine Kd.C_drewN ?_ _) | (with_reducible refine Kd.C_drew ?_))); (case side6 => exact HC0_7.out); rintro e w65 ⟨rfl, hb⟩; have n0_ := Aside0.mk (Kd.R_below (by (with_reducible repeat (first | apply Kd.R_alloc | apply Kd.R_drewN | apply Kd.R_drew)); exact HO250.out) hb); have n1_ := Aside0.mk (Kd.R_below (by (with_reducible repeat (first | apply Kd.R_alloc | apply Kd.R_drewN | apply Kd.R_drew)); exact HO253.out) hb); have n2_ := Aside0.mk (Kd.R_below (by (with_reducible repeat (first | apply Kd.R_alloc | apply Kd.R_drewN | apply Kd.R_drew)); exact HO256.out) hb); have n3_ := Aside0.mk (blk_below (g := gb240) (o := .cells #[.int .i64 a0_0, .int .i64 a0_1, .int .i64 a0_2, .bool a0_3, .bool a0_4, .slice A0_5 l0_5.length c0_5, .slice A0_6 l0_6.length c0_6, .slice A0_7 l0_7.length c0_7] 26 (0, 0)) (by (with_reducible repeat (first | refine blk_drewN ?_ _ | refine blk_drew ?_ | refine blk_alloc ?_ _)); exact BK240.out) hb); have n4_ := Aside0.mk (below_step (by repeat (first | (with_reducible first | exact HB.out | apply below_alloc | apply pw_below_drewN | apply below_drew1 | refine below_set ?_ GE240.out) | exact HB.out)) hb); clear HO250; clear HO253; clear HO256; clear BK240; clear HB; have HO250 := n0_; have HO253 := n1_; have HO256 := n2_; have BK240 := n3_; have HB := n4_; clear n0_ n1_ n2_ n3_ n4_; (try clear hb); (try clear hb2); (try clear hk); (try clear hi)))
          (refine Met.intro ?_; go_step; (repeat apply Exists.intro); refine ⟨?rel, ?same⟩)
          case same => first | rfl | (rw [c59b0]; done) | (rw [c59b0]; rfl)
          case rel => exact ⟨_, (t265), (by first | rfl | (simp; done) | (simp [*]; done)), H', ⟨by first | omega | exact Nat.le_refl _⟩, ⟨by (with_reducible repeat (first | refine blk_drewN ?_ _ | refine blk_drew ?_ | refine blk_alloc ?_ _)); exact BK240.out⟩, ⟨by repeat (first | (with_reducible first | exact HB.out | apply below_alloc | apply pw_below_drewN | apply below_drew1 | refine below_set ?_ GE240.out) | exact HB.out)⟩⟩
         ·rw [if_neg c61] at H
          exact absurd H (by simp)
        ·rw [if_neg c60] at H
         exact absurd H (by simp)
       ·rw [if_neg c59] at H
        exact absurd H (by simp)
      ·replace c58 := Bool.eq_false_iff.mpr c58
       subst c58
       have H1 : (none) = some r := by rw [if_neg (show ¬ (false = true) by decide)] at H; exact H
       clear H
       have H := H1
       clear H1
       exact absurd H (by simp)
     case rest =>
      clear HC46
      try clear c1
      try clear c2
      try clear p2
      try clear c3
      try clear c4
      try clear c5
      try clear c6
      try clear c6b0
      try clear c6b1
      try clear p6
      try clear c7
      try clear c7b0
      try clear c7b1
      try clear c9
      try clear c10
      try clear c11
      try clear c12
      try clear c20
      try clear c21
      try clear c21b0
      try clear c23
      try clear c23b0
      try clear c23b1
      try clear c36
      try clear c38
      try clear c39
      try clear c39b0
      try clear c39b1
      try clear c58
      try clear c59
      try clear c59b0
      try clear c60
      try clear c60b0
      try clear c60b1
      try clear c60b2
      try clear c61
      try clear c61b0
      try clear c61b1
      try clear c61b2
      try clear p64
      try clear hcz10_0
      try clear hcz10_1
      try clear hcz10_2
      try clear hcz10_3
      try clear hcz10_4
      try clear hcz10_5
      try clear hcz10_6
      try clear hcz10_7
      try clear hcz12_0
      try clear hcz12_1
      try clear hcz12_2
      try clear hcz12_3
      try clear hcz12_4
      try clear hcz12_5
      try clear hcz12_6
      try clear hcz12_7
      try clear hcz18_0
      try clear hcz18_1
      try clear hcz18_2
      try clear hcz18_3
      try clear hcz18_4
      try clear hcz18_5
      try clear hcz18_6
      try clear hcz18_7
      try clear hcz26_0
      try clear hcz26_1
      try clear hcz26_2
      try clear hcz26_3
      try clear hcz26_4
      try clear hcz26_5
      try clear hcz26_6
      try clear hcz26_7
      try clear hcz28_0
      try clear hcz28_1
      try clear hcz28_2
      try clear hcz28_3
      try clear hcz28_4
      try clear hcz28_5
      try clear hcz28_6
      try clear hcz28_7
      try clear hcz34_0
      try clear hcz34_1
      try clear hcz34_2
      try clear hcz34_3
      try clear hcz34_4
      try clear hcz34_5
      try clear hcz34_6
      try clear hcz34_7
      try clear hcz41_0
      try clear hcz41_1
      try clear hcz41_2
      try clear hcz41_3
      try clear hcz41_4
      try clear hcz41_5
      try clear hcz41_6
      try clear hcz41_7
      try clear hcz44_0
      try clear hcz44_1
      try clear hcz44_2
      try clear hcz44_3
      try clear hcz44_4
      try clear hcz44_5
      try clear hcz44_6
      try clear hcz44_7
      try clear hcz48_0
      try clear hcz48_1
      try clear hcz48_2
      try clear hcz48_3
      try clear hcz48_4
      try clear hcz48_5
      try clear hcz48_6
      try clear hcz48_7
      try clear hcz50_0
      try clear hcz50_1
      try clear hcz50_2
      try clear hcz50_3
      try clear hcz50_4
      try clear hcz50_5
      try clear hcz50_6
      try clear hcz50_7
      try clear hcz56_0
      try clear hcz56_1
      try clear hcz56_2
      try clear hcz56_3
      try clear hcz56_4
      try clear hcz56_5
      try clear hcz56_6
      try clear hcz56_7
      try clear hcz64_0
      try clear hcz64_1
      try clear hcz64_2
      try clear hcz64_3
      try clear hcz64_4
      try clear hcz64_5
      try clear hcz64_6
      try clear hcz64_7
      try clear hfz10_0
      try clear hfz10_1
      try clear hfz10_2
      try clear hfz10_3
      try clear hfz10_4
      try clear hfz10_5
      try clear hfz10_6
      try clear hfz10_7
      try clear hfz12_0
      try clear hfz12_1
      try clear hfz12_2
      try clear hfz12_3
      try clear hfz12_4
      try clear hfz12_5
      try clear hfz12_6
      try clear hfz12_7
      try clear hfz18_0
      try clear hfz18_1
      try clear hfz18_2
      try clear hfz18_3
      try clear hfz18_4
      try clear hfz18_5
      try clear hfz18_6
      try clear hfz18_7
      try clear hfz26_0
      try clear hfz26_1
      try clear hfz26_2
      try clear hfz26_3
      try clear hfz26_4
      try clear hfz26_5
      try clear hfz26_6
      try clear hfz26_7
      try clear hfz28_0
      try clear hfz28_1
      try clear hfz28_2
      try clear hfz28_3
      try clear hfz28_4
      try clear hfz28_5
      try clear hfz28_6
      try clear hfz28_7
      try clear hfz34_0
      try clear hfz34_1
      try clear hfz34_2
      try clear hfz34_3
      try clear hfz34_4
      try clear hfz34_5
      try clear hfz34_6
      try clear hfz34_7
      try clear hfz41_0
      try clear hfz41_1
      try clear hfz41_2
      try clear hfz41_3
      try clear hfz41_4
      try clear hfz41_5
      try clear hfz41_6
      try clear hfz41_7
      try clear hfz44_0
      try clear hfz44_1
      try clear hfz44_2
      try clear hfz44_3
      try clear hfz44_4
      try clear hfz44_5
      try clear hfz44_6
      try clear hfz44_7
      try clear hfz48_0
      try clear hfz48_1
      try clear hfz48_2
      try clear hfz48_3
      try clear hfz48_4
      try clear hfz48_5
      try clear hfz48_6
      try clear hfz48_7
      try clear hfz50_0
      try clear hfz50_1
      try clear hfz50_2
      try clear hfz50_3
      try clear hfz50_4
      try clear hfz50_5
      try clear hfz50_6
      try clear hfz50_7
      try clear hfz56_0
      try clear hfz56_1
      try clear hfz56_2
      try clear hfz56_3
      try clear hfz56_4
      try clear hfz56_5
      try clear hfz56_6
      try clear hfz56_7
      try clear hfz64_0
      try clear hfz64_1
      try clear hfz64_2
      try clear hfz64_3
      try clear hfz64_4
      try clear hfz64_5
      try clear hfz64_6
      try clear hfz64_7
      try clear p2
      try clear p6
      obtain ⟨kq, x2_45, rfl, HA, HJ45, BK240, HB⟩ := hcut
      cases kq with
      | zero => exact absurd HA.out (by simp [newellaw20_CollectToward.j2])
      | succ kj45 =>
       have H := HA.out
       clear HA
       simp only [newellaw20_CollectToward.j2] at H
       obtain rfl := Option.some.inj H
       go_wp2
       go_ret
       exact ⟨by first | rfl | (simp [errW_none, errW_some] <;> rfl) | (simp [*, errW_none, errW_some] <;> rfl), by repeat (first | (with_reducible first | exact HB.out | apply below_alloc | apply pw_below_drewN | apply below_drew1 | refine below_set ?_ GE240.out) | exact HB.out)⟩
  ·rw [if_neg c6] at H
   have c6b0 : (t259 == 0) = false := beq_eq_false_iff_ne.mpr c6
   have c6b1 : (t259 != 0) = true := bne_iff_ne.mpr c6
   replace H := Option.bind_eq_some_iff.mp H
   obtain ⟨t260, A660, H⟩ := H
   replace H : (some t260) = some r := H
   have A66 := Aside0.mk A660
   clear A660
   obtain rfl := Option.some.inj H
   go_enter Try.func4, Try.ntmps4
   go_wp2_with (first | ((with_reducible refine gate_dst (N := 1) rfl ?_); refine box_event ?hg (N := 1) ?hd (cs := #[.int .i64 a0_0, .int .i64 a0_1, .int .i64 a0_2, .bool a0_3, .bool a0_4, .slice A0_5 l0_5.length c0_5, .slice A0_6 l0_6.length c0_6, .slice A0_7 l0_7.length c0_7]) (t := 26) ?hr ?_; (case hd => rfl); (case hg => rfl); (case hr => first | (go_simp; done) | (go_simp; rfl)); intro gb240 hg w67 hbox hb; have n0_ := Aside0.mk (below_step (by repeat (first | (with_reducible first | exact HB.out | apply below_alloc | apply pw_below_drewN | apply below_drew1) | exact HB.out)) hb); have n1_ := Aside0.mk (hbox); have n2_ := Aside0.mk ((by rw [hg]; exact (below_size (by repeat (first | (with_reducible first | exact HB.out | apply below_alloc | apply pw_below_drewN | apply below_drew1) | exact HB.out))) : w.heap.size ≤ gb240)); have n3_ := Aside0.mk ((by rw [hg]; exact (below_size (by repeat (first | (with_reducible first | exact HB.out | apply below_alloc | apply pw_below_drewN | apply below_drew1) | exact HB.out))) : w.heap.size ≤ gb240)); clear HB; have HB := n0_; have BK240 := n1_; have GW240 := n2_; have GE240 := n3_; clear n0_ n1_ n2_ n3_; clear hb hbox hg; have hcz68_0 : w67.cell? ⟨gb240, 0, none⟩ = some (.int .i64 a0_0) := (blk_cell BK240.out 0).trans rfl; have hcz68_1 : w67.cell? ⟨gb240, 1, none⟩ = some (.int .i64 a0_1) := (blk_cell BK240.out 1).trans rfl; have hcz68_2 : w67.cell? ⟨gb240, 2, none⟩ = some (.int .i64 a0_2) := (blk_cell BK240.out 2).trans rfl; have hcz68_3 : w67.cell? ⟨gb240, 3, none⟩ = some (.bool a0_3) := (blk_cell BK240.out 3).trans rfl; have hcz68_4 : w67.cell? ⟨gb240, 4, none⟩ = some (.bool a0_4) := (blk_cell BK240.out 4).trans rfl; have hcz68_5 : w67.cell? ⟨gb240, 5, none⟩ = some (.slice A0_5 l0_5.length c0_5) := (blk_cell BK240.out 5).trans rfl; have hcz68_6 : w67.cell? ⟨gb240, 6, none⟩ = some (.slice A0_6 l0_6.length c0_6) := (blk_cell BK240.out 6).trans rfl; have hcz68_7 : w67.cell? ⟨gb240, 7, none⟩ = some (.slice A0_7 l0_7.length c0_7) := (blk_cell BK240.out 7).trans rfl; have hfz68_0 := blk_frozen BK240.out 0; have hfz68_1 := blk_frozen BK240.out 1; have hfz68_2 := blk_frozen BK240.out 2; have hfz68_3 := blk_frozen BK240.out 3; have hfz68_4 := blk_frozen BK240.out 4; have hfz68_5 := blk_frozen BK240.out 5; have hfz68_6 := blk_frozen BK240.out 6; have hfz68_7 := blk_frozen BK240.out 7) | ((with_reducible refine gate_callee (f := 9) rfl ?_); refine goesL_ (some 9) rfl rfl Try.func9 (by kernel_rfl) rfl #[.agg #[.slice A0_5 l0_5.length c0_5, .slice A0_6 l0_6.length c0_6, .slice A0_7 l0_7.length c0_7]] rfl (by (try simp only [List.map_toArray, List.map_cons, List.map_nil]); first | done | rfl | (simp only [List.length_drop, List.length_take]; rfl)) ?_; (with_reducible refine (newellaw20_few.calls _ _ l0_5 _ _ l0_6 _ _ l0_7 true _ ?side1 ?side2 ?side3 ?side4 ?side5 ?side6 A2.out).mono ?_); (case side1 => repeat (first | exact (Kd.C_below HR0_5.out HB.out) | (with_reducible refine Kd.C_alloc ?_ _) | (with_reducible refine Kd.C_drewN ?_ _) | (with_reducible refine Kd.C_drew ?_))); (case side2 => exact HC0_5.out); (case side3 => repeat (first | exact (Kd.C_below HR0_6.out HB.out) | (with_reducible refine Kd.C_alloc ?_ _) | (with_reducible refine Kd.C_drewN ?_ _) | (with_reducible refine Kd.C_drew ?_))); (case side4 => exact HC0_6.out); (case side5 => repeat (first | exact (Kd.C_below HR0_7.out HB.out) | (with_reducible refine Kd.C_alloc ?_ _) | (with_reducible refine Kd.C_drewN ?_ _) | (with_reducible refine Kd.C_drew ?_))); (case side6 => exact HC0_7.out); rintro e w69 ⟨rfl, hb⟩; refine ⟨_, rfl, ?_⟩; have n0_ := Aside0.mk (blk_below (g := gb240) (o := .cells #[.int .i64 a0_0, .int .i64 a0_1, .int .i64 a0_2, .bool a0_3, .bool a0_4, .slice A0_5 l0_5.length c0_5, .slice A0_6 l0_6.length c0_6, .slice A0_7 l0_7.length c0_7] 26 (0, 0)) (by (with_reducible repeat (first | refine blk_drewN ?_ _ | refine blk_drew ?_ | refine blk_alloc ?_ _)); exact BK240.out) hb); have n1_ := Aside0.mk (below_step (by repeat (first | (with_reducible first | exact HB.out | apply below_alloc | apply pw_below_drewN | apply below_drew1 | refine below_set ?_ GE240.out) | exact HB.out)) hb); clear BK240; clear HB; have BK240 := n0_; have HB := n1_; clear n0_ n1_; (try clear hb); (try clear hb2); (try clear hk); (try clear hi); have hcz70_0 : w69.cell? ⟨gb240, 0, none⟩ = some (.int .i64 a0_0) := (blk_cell BK240.out 0).trans rfl; have hcz70_1 : w69.cell? ⟨gb240, 1, none⟩ = some (.int .i64 a0_1) := (blk_cell BK240.out 1).trans rfl; have hcz70_2 : w69.cell? ⟨gb240, 2, none⟩ = some (.int .i64 a0_2) := (blk_cell BK240.out 2).trans rfl; have hcz70_3 : w69.cell? ⟨gb240, 3, none⟩ = some (.bool a0_3) := (blk_cell BK240.out 3).trans rfl; have hcz70_4 : w69.cell? ⟨gb240, 4, none⟩ = some (.bool a0_4) := (blk_cell BK240.out 4).trans rfl; have hcz70_5 : w69.cell? ⟨gb240, 5, none⟩ = some (.slice A0_5 l0_5.length c0_5) := (blk_cell BK240.out 5).trans rfl; have hcz70_6 : w69.cell? ⟨gb240, 6, none⟩ = some (.slice A0_6 l0_6.length c0_6) := (blk_cell BK240.out 6).trans rfl; have hcz70_7 : w69.cell? ⟨gb240, 7, none⟩ = some (.slice A0_7 l0_7.length c0_7) := (blk_cell BK240.out 7).trans rfl; have hfz70_0 := blk_frozen BK240.out 0; have hfz70_1 := blk_frozen BK240.out 1; have hfz70_2 := blk_frozen BK240.out 2; have hfz70_3 := blk_frozen BK240.out 3; have hfz70_4 := blk_frozen BK240.out 4; have hfz70_5 := blk_frozen BK240.out 5; have hfz70_6 := blk_frozen BK240.out 6; have hfz70_7 := blk_frozen BK240.out 7) | ((with_reducible refine gate_callee (f := 12) rfl ?_); refine goesL_ (some 14) rfl rfl Try.func12 (by kernel_rfl) rfl #[.agg #[.int .i64 a0_0, .int .i64 a0_1, .int .i64 a0_2, .bool a0_3, .bool a0_4, .slice A0_5 l0_5.length c0_5, .slice A0_6 l0_6.length c0_6, .slice A0_7 l0_7.length c0_7]] rfl (by (try simp only [List.map_toArray, List.map_cons, List.map_nil]); first | done | rfl | (simp only [List.length_drop, List.length_take]; rfl)) ?_; (with_reducible refine (newellaw20_Own.calls a0_0 a0_1 a0_2 a0_3 a0_4 _ _ l0_5 _ _ l0_6 _ _ l0_7 t243 t244 t245 t246 t247 t248 t251 t254 _ ?side1 ?side2 ?side3 ?side4 ?side5 ?side6 A4.out).mono ?_); (case side1 => repeat (first | exact (Kd.C_below HR0_5.out HB.out) | (with_reducible refine Kd.C_alloc ?_ _) | (with_reducible refine Kd.C_drewN ?_ _) | (with_reducible refine Kd.C_drew ?_))); (case side2 => exact HC0_5.out); (case side3 => repeat (first | exact (Kd.C_below HR0_6.out HB.out) | (with_reducible refine Kd.C_alloc ?_ _) | (with_reducible refine Kd.C_drewN ?_ _) | (with_reducible refine Kd.C_drew ?_))); (case side4 => exact HC0_6.out); (case side5 => repeat (first | exact (Kd.C_below HR0_7.out HB.out) | (with_reducible refine Kd.C_alloc ?_ _) | (with_reducible refine Kd.C_drewN ?_ _) | (with_reducible refine Kd.C_drew ?_))); (case side6 => exact HC0_7.out); rintro e w71 ⟨v249, v252, v255, rfl, ho0, ho1, ho2, hb⟩; refine ⟨_, rfl, ?_⟩; have n0_ := Aside0.mk (Kd.R_lower ho0 (below_size (by repeat (first | (with_reducible first | exact HB.out | apply below_alloc | apply pw_below_drewN | apply below_drew1 | refine below_set ?_ GE240.out) | exact HB.out)))); have n1_ := Aside0.mk (Kd.R_lower ho1 (below_size (by repeat (first | (with_reducible first | exact HB.out | apply below_alloc | apply pw_below_drewN | apply below_drew1 | refine below_set ?_ GE240.out) | exact HB.out)))); have n2_ := Aside0.mk (Kd.R_lower ho2 (below_size (by repeat (first | (with_reducible first | exact HB.out | apply below_alloc | apply pw_below_drewN | apply below_drew1 | refine below_set ?_ GE240.out) | exact HB.out)))); have n3_ := Aside0.mk (blk_below (g := gb240) (o := .cells #[.int .i64 a0_0, .int .i64 a0_1, .int .i64 a0_2, .bool a0_3, .bool a0_4, .slice A0_5 l0_5.length c0_5, .slice A0_6 l0_6.length c0_6, .slice A0_7 l0_7.length c0_7] 26 (0, 0)) (by (with_reducible repeat (first | refine blk_drewN ?_ _ | refine blk_drew ?_ | refine blk_alloc ?_ _)); exact BK240.out) hb); have n4_ := Aside0.mk (below_step (by repeat (first | (with_reducible first | exact HB.out | apply below_alloc | apply pw_below_drewN | apply below_drew1 | refine below_set ?_ GE240.out) | exact HB.out)) hb); clear BK240; clear HB; have HO250 := n0_; have HO253 := n1_; have HO256 := n2_; have BK240 := n3_; have HB := n4_; clear n0_ n1_ n2_ n3_ n4_; (try clear hb); (try clear hb2); (try clear hk); (try clear hi); (try clear ho0); (try clear ho1); (try clear ho2); obtain ⟨Ao72, co72, eo72⟩ := Kd.R_slice HO250.out; subst eo72; obtain ⟨Ao73, co73, eo73⟩ := Kd.R_slice HO253.out; subst eo73; obtain ⟨Ao74, co74, eo74⟩ := Kd.R_slice HO256.out; subst eo74) | ((with_reducible refine gate_callee (f := 11) rfl ?_); refine goesL_ (some 15) rfl rfl Try.func11 (by kernel_rfl) rfl #[.agg #[.int .i64 t243, .int .i64 t244, .int .i64 t245, .bool t246, .bool t247, .slice Ao72 t248.length co72, .slice Ao73 t251.length co73, .slice Ao74 t254.length co74]] rfl (by (try simp only [List.map_toArray, List.map_cons, List.map_nil]); first | done | rfl | (simp only [List.length_drop, List.length_take]; rfl)) ?_; (with_reducible refine (collect_Next.calls k t243 t244 t245 t246 t247 _ _ t248 _ _ t251 _ _ t254 t257 t258 t259 _ ?side1 ?side2 ?side3 ?side4 ?side5 ?side6 A5.out).mono ?_); (case side1 => repeat (first | exact (Kd.R_reads' HO250.out).2.2 | (with_reducible refine Kd.C_alloc ?_ _) | (with_reducible refine Kd.C_drewN ?_ _) | (with_reducible refine Kd.C_drew ?_))); (case side2 => exact (Kd.R_reads' HO250.out).2.1); (case side3 => repeat (first | exact (Kd.R_reads' HO253.out).2.2 | (with_reducible refine Kd.C_alloc ?_ _) | (with_reducible refine Kd.C_drewN ?_ _) | (with_reducible refine Kd.C_drew ?_))); (case side4 => exact (Kd.R_reads' HO253.out).2.1); (case side5 => repeat (first | exact (Kd.R_reads' HO256.out).2.2 | (with_reducible refine Kd.C_alloc ?_ _) | (with_reducible refine Kd.C_drewN ?_ _) | (with_reducible refine Kd.C_drew ?_))); (case side6 => exact (Kd.R_reads' HO256.out).2.1); rintro e w75 ⟨rfl, hb⟩; refine ⟨_, rfl, ?_⟩; have n0_ := Aside0.mk (Kd.R_below (by (with_reducible repeat (first | apply Kd.R_alloc | apply Kd.R_drewN | apply Kd.R_drew)); exact HO250.out) hb); have n1_ := Aside0.mk (Kd.R_below (by (with_reducible repeat (first | apply Kd.R_alloc | apply Kd.R_drewN | apply Kd.R_drew)); exact HO253.out) hb); have n2_ := Aside0.mk (Kd.R_below (by (with_reducible repeat (first | apply Kd.R_alloc | apply Kd.R_drewN | apply Kd.R_drew)); exact HO256.out) hb); have n3_ := Aside0.mk (blk_below (g := gb240) (o := .cells #[.int .i64 a0_0, .int .i64 a0_1, .int .i64 a0_2, .bool a0_3, .bool a0_4, .slice A0_5 l0_5.length c0_5, .slice A0_6 l0_6.length c0_6, .slice A0_7 l0_7.length c0_7] 26 (0, 0)) (by (with_reducible repeat (first | refine blk_drewN ?_ _ | refine blk_drew ?_ | refine blk_alloc ?_ _)); exact BK240.out) hb); have n4_ := Aside0.mk (below_step (by repeat (first | (with_reducible first | exact HB.out | apply below_alloc | apply pw_below_drewN | apply below_drew1 | refine below_set ?_ GE240.out) | exact HB.out)) hb); clear HO250; clear HO253; clear HO256; clear BK240; clear HB; have HO250 := n0_; have HO253 := n1_; have HO256 := n2_; have BK240 := n3_; have HB := n4_; clear n0_ n1_ n2_ n3_ n4_; (try clear hb); (try clear hb2); (try clear hk); (try clear hi)) | ((with_reducible refine gate_callee (f := 10) rfl ?_); refine goesL_ (some 21) rfl rfl Try.func10 (by kernel_rfl) rfl #[] rfl (by (try simp only [List.map_toArray, List.map_cons, List.map_nil]); first | done | rfl | (simp only [List.length_drop, List.length_take]; rfl)) ?_; (with_reducible refine (newellaw20_awake.calls k  t260 _ A66.out).mono ?_); rintro e w76 ⟨rfl, hb⟩; refine ⟨_, rfl, ?_⟩; have n0_ := Aside0.mk (Kd.R_below (by (with_reducible repeat (first | apply Kd.R_alloc | apply Kd.R_drewN | apply Kd.R_drew)); exact HO250.out) hb); have n1_ := Aside0.mk (Kd.R_below (by (with_reducible repeat (first | apply Kd.R_alloc | apply Kd.R_drewN | apply Kd.R_drew)); exact HO253.out) hb); have n2_ := Aside0.mk (Kd.R_below (by (with_reducible repeat (first | apply Kd.R_alloc | apply Kd.R_drewN | apply Kd.R_drew)); exact HO256.out) hb); have n3_ := Aside0.mk (blk_below (g := gb240) (o := .cells #[.int .i64 a0_0, .int .i64 a0_1, .int .i64 a0_2, .bool a0_3, .bool a0_4, .slice A0_5 l0_5.length c0_5, .slice A0_6 l0_6.length c0_6, .slice A0_7 l0_7.length c0_7] 26 (0, 0)) (by (with_reducible repeat (first | refine blk_drewN ?_ _ | refine blk_drew ?_ | refine blk_alloc ?_ _)); exact BK240.out) hb); have n4_ := Aside0.mk (below_step (by repeat (first | (with_reducible first | exact HB.out | apply below_alloc | apply pw_below_drewN | apply below_drew1 | refine below_set ?_ GE240.out) | exact HB.out)) hb); clear HO250; clear HO253; clear HO256; clear BK240; clear HB; have HO250 := n0_; have HO253 := n1_; have HO256 := n2_; have BK240 := n3_; have HB := n4_; clear n0_ n1_ n2_ n3_ n4_; (try clear hb); (try clear hb2); (try clear hk); (try clear hi)))
   go_ret
   exact ⟨by first | rfl | (simp [errW_none, errW_some] <;> rfl) | (simp [*, errW_none, errW_some] <;> rfl), by repeat (first | (with_reducible first | exact HB.out | apply below_alloc | apply pw_below_drewN | apply below_drew1 | refine below_set ?_ GE240.out) | exact HB.out)⟩
 ·replace c3 := Bool.eq_false_iff.mpr c3
  subst c3
  have H1 : ((newellaw20_awake.f k).bind fun t242 => (some t242)) = some r := by rw [if_neg (show ¬ (false = true) by decide)] at H; exact H
  clear H
  have H := H1
  clear H1
  replace H := Option.bind_eq_some_iff.mp H
  obtain ⟨t242, A770, H⟩ := H
  replace H : (some t242) = some r := H
  have A77 := Aside0.mk A770
  clear A770
  obtain rfl := Option.some.inj H
  go_enter Try.func4, Try.ntmps4
  go_wp2_with (first | ((with_reducible refine gate_dst (N := 1) rfl ?_); refine box_event ?hg (N := 1) ?hd (cs := #[.int .i64 a0_0, .int .i64 a0_1, .int .i64 a0_2, .bool a0_3, .bool a0_4, .slice A0_5 l0_5.length c0_5, .slice A0_6 l0_6.length c0_6, .slice A0_7 l0_7.length c0_7]) (t := 26) ?hr ?_; (case hd => rfl); (case hg => rfl); (case hr => first | (go_simp; done) | (go_simp; rfl)); intro gb240 hg w78 hbox hb; have n0_ := Aside0.mk (below_step (by repeat (first | (with_reducible first | exact HB.out | apply below_alloc | apply pw_below_drewN | apply below_drew1) | exact HB.out)) hb); have n1_ := Aside0.mk (hbox); have n2_ := Aside0.mk ((by rw [hg]; exact (below_size (by repeat (first | (with_reducible first | exact HB.out | apply below_alloc | apply pw_below_drewN | apply below_drew1) | exact HB.out))) : w.heap.size ≤ gb240)); have n3_ := Aside0.mk ((by rw [hg]; exact (below_size (by repeat (first | (with_reducible first | exact HB.out | apply below_alloc | apply pw_below_drewN | apply below_drew1) | exact HB.out))) : w.heap.size ≤ gb240)); clear HB; have HB := n0_; have BK240 := n1_; have GW240 := n2_; have GE240 := n3_; clear n0_ n1_ n2_ n3_; clear hb hbox hg; have hcz79_0 : w78.cell? ⟨gb240, 0, none⟩ = some (.int .i64 a0_0) := (blk_cell BK240.out 0).trans rfl; have hcz79_1 : w78.cell? ⟨gb240, 1, none⟩ = some (.int .i64 a0_1) := (blk_cell BK240.out 1).trans rfl; have hcz79_2 : w78.cell? ⟨gb240, 2, none⟩ = some (.int .i64 a0_2) := (blk_cell BK240.out 2).trans rfl; have hcz79_3 : w78.cell? ⟨gb240, 3, none⟩ = some (.bool a0_3) := (blk_cell BK240.out 3).trans rfl; have hcz79_4 : w78.cell? ⟨gb240, 4, none⟩ = some (.bool a0_4) := (blk_cell BK240.out 4).trans rfl; have hcz79_5 : w78.cell? ⟨gb240, 5, none⟩ = some (.slice A0_5 l0_5.length c0_5) := (blk_cell BK240.out 5).trans rfl; have hcz79_6 : w78.cell? ⟨gb240, 6, none⟩ = some (.slice A0_6 l0_6.length c0_6) := (blk_cell BK240.out 6).trans rfl; have hcz79_7 : w78.cell? ⟨gb240, 7, none⟩ = some (.slice A0_7 l0_7.length c0_7) := (blk_cell BK240.out 7).trans rfl; have hfz79_0 := blk_frozen BK240.out 0; have hfz79_1 := blk_frozen BK240.out 1; have hfz79_2 := blk_frozen BK240.out 2; have hfz79_3 := blk_frozen BK240.out 3; have hfz79_4 := blk_frozen BK240.out 4; have hfz79_5 := blk_frozen BK240.out 5; have hfz79_6 := blk_frozen BK240.out 6; have hfz79_7 := blk_frozen BK240.out 7) | ((with_reducible refine gate_callee (f := 9) rfl ?_); refine goesL_ (some 9) rfl rfl Try.func9 (by kernel_rfl) rfl #[.agg #[.slice A0_5 l0_5.length c0_5, .slice A0_6 l0_6.length c0_6, .slice A0_7 l0_7.length c0_7]] rfl (by (try simp only [List.map_toArray, List.map_cons, List.map_nil]); first | done | rfl | (simp only [List.length_drop, List.length_take]; rfl)) ?_; (with_reducible refine (newellaw20_few.calls _ _ l0_5 _ _ l0_6 _ _ l0_7 false _ ?side1 ?side2 ?side3 ?side4 ?side5 ?side6 A2.out).mono ?_); (case side1 => repeat (first | exact (Kd.C_below HR0_5.out HB.out) | (with_reducible refine Kd.C_alloc ?_ _) | (with_reducible refine Kd.C_drewN ?_ _) | (with_reducible refine Kd.C_drew ?_))); (case side2 => exact HC0_5.out); (case side3 => repeat (first | exact (Kd.C_below HR0_6.out HB.out) | (with_reducible refine Kd.C_alloc ?_ _) | (with_reducible refine Kd.C_drewN ?_ _) | (with_reducible refine Kd.C_drew ?_))); (case side4 => exact HC0_6.out); (case side5 => repeat (first | exact (Kd.C_below HR0_7.out HB.out) | (with_reducible refine Kd.C_alloc ?_ _) | (with_reducible refine Kd.C_drewN ?_ _) | (with_reducible refine Kd.C_drew ?_))); (case side6 => exact HC0_7.out); rintro e w80 ⟨rfl, hb⟩; refine ⟨_, rfl, ?_⟩; have n0_ := Aside0.mk (blk_below (g := gb240) (o := .cells #[.int .i64 a0_0, .int .i64 a0_1, .int .i64 a0_2, .bool a0_3, .bool a0_4, .slice A0_5 l0_5.length c0_5, .slice A0_6 l0_6.length c0_6, .slice A0_7 l0_7.length c0_7] 26 (0, 0)) (by (with_reducible repeat (first | refine blk_drewN ?_ _ | refine blk_drew ?_ | refine blk_alloc ?_ _)); exact BK240.out) hb); have n1_ := Aside0.mk (below_step (by repeat (first | (with_reducible first | exact HB.out | apply below_alloc | apply pw_below_drewN | apply below_drew1 | refine below_set ?_ GE240.out) | exact HB.out)) hb); clear BK240; clear HB; have BK240 := n0_; have HB := n1_; clear n0_ n1_; (try clear hb); (try clear hb2); (try clear hk); (try clear hi)) | ((with_reducible refine gate_callee (f := 10) rfl ?_); refine goesL_ (some 11) rfl rfl Try.func10 (by kernel_rfl) rfl #[] rfl (by (try simp only [List.map_toArray, List.map_cons, List.map_nil]); first | done | rfl | (simp only [List.length_drop, List.length_take]; rfl)) ?_; (with_reducible refine (newellaw20_awake.calls k  t242 _ A77.out).mono ?_); rintro e w81 ⟨rfl, hb⟩; refine ⟨_, rfl, ?_⟩; have n0_ := Aside0.mk (blk_below (g := gb240) (o := .cells #[.int .i64 a0_0, .int .i64 a0_1, .int .i64 a0_2, .bool a0_3, .bool a0_4, .slice A0_5 l0_5.length c0_5, .slice A0_6 l0_6.length c0_6, .slice A0_7 l0_7.length c0_7] 26 (0, 0)) (by (with_reducible repeat (first | refine blk_drewN ?_ _ | refine blk_drew ?_ | refine blk_alloc ?_ _)); exact BK240.out) hb); have n1_ := Aside0.mk (below_step (by repeat (first | (with_reducible first | exact HB.out | apply below_alloc | apply pw_below_drewN | apply below_drew1 | refine below_set ?_ GE240.out) | exact HB.out)) hb); clear BK240; clear HB; have BK240 := n0_; have HB := n1_; clear n0_ n1_; (try clear hb); (try clear hb2); (try clear hk); (try clear hi)))
  go_ret
  exact ⟨by first | rfl | (simp [errW_none, errW_some] <;> rfl) | (simp [*, errW_none, errW_some] <;> rfl), by repeat (first | (with_reducible first | exact HB.out | apply below_alloc | apply pw_below_drewN | apply below_drew1 | refine below_set ?_ GE240.out) | exact HB.out)⟩

end Go.Proofs.Ytlfgdcgjndjdgaa.C
