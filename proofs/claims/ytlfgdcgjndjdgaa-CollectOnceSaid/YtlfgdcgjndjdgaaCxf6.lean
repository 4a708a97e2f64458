-- Written by a program of this session (wip/pp: the kit's print, changed), out of the translation. Lean checks it.
import Derived.Test.YtlfgdcgjndjdgaaCx0
import Derived.Test.YtlfgdcgjndjdgaaCxf10
import Derived.Test.YtlfgdcgjndjdgaaCxf12
import Derived.Test.YtlfgdcgjndjdgaaCxf18
import Derived.Test.YtlfgdcgjndjdgaaCxf9
import Derived.Test.YtlfgdcgjndjdgaaNext2
namespace Go.Proofs.Ytlfgdcgjndjdgaa.C
open Go.RowKit Go.Proofs.YtlfgdcgjndjdgaaW.PrintWords Go.Proofs.YtlfgdcgjndjdgaaW.PrintLast Go.Proofs.YtlfgdcgjndjdgaaW.PrintMore
attribute [local go_sem] max2_int min2_int max_two min_two max_three min_three max_four min_four   -- for this text's walks alone
set_option linter.unusedVariables false
set_option linter.unusedSimpArgs false

/-! ### newellaw20_CollectOnce: function 6 -/
mutual
def newellaw20_CollectOnce.j0 : Nat → Int → Bool → Int → Int → Int → Bool → Bool → List Int → List Int → List Int → Option (Bool)
 | 0, _, _, _, _, _, _, _, _, _, _ => none
 | k + 1, x4, x27, x290000, x290001, x290002, x290003, x290004, x290005, x290006, x290007 => if x27 = true then ((newellaw20_awake.f k).bind fun t309 => (some t309)) else ((newellaw20_Own.f x290000 x290001 x290002 x290003 x290004 x290005 x290006 x290007).bind fun bt310 => (if x290003 = true then (newellaw20_CollectOnce.j1 k x4 x290000 x290001 x290002 x290003 x290004 x290005 x290006 x290007 bt310.1 bt310.2.1 x4 true bt310.2.2.2.2.1 bt310.2.2.2.2.2.1 bt310.2.2.2.2.2.2.1 bt310.2.2.2.2.2.2.2) else (newellaw20_CollectOnce.j1 k x4 x290000 x290001 x290002 x290003 x290004 x290005 x290006 x290007 bt310.1 bt310.2.1 x4 (x4 == 1) bt310.2.2.2.2.1 bt310.2.2.2.2.2.1 bt310.2.2.2.2.2.2.1 bt310.2.2.2.2.2.2.2)))
def newellaw20_CollectOnce.j1 : Nat → Int → Int → Int → Int → Bool → Bool → List Int → List Int → List Int → Int → Int → Int → Bool → Bool → List Int → List Int → List Int → Option (Bool)
 | 0, _, _, _, _, _, _, _, _, _, _, _, _, _, _, _, _, _ => none
 | k + 1, x4, x290000, x290001, x290002, x290003, x290004, x290005, x290006, x290007, x325000, x325001, x325002, x325003, x325004, x325005, x325006, x325007 => if x290004 = true then (newellaw20_CollectOnce.j2 k x4 x290000 x290001 x290002 x290003 x290004 x290005 x290006 x290007 x325000 x325001 x325002 x325003 true x325005 x325006 x325007) else (newellaw20_CollectOnce.j2 k x4 x290000 x290001 x290002 x290003 x290004 x290005 x290006 x290007 x325000 x325001 x325002 x325003 (x4 == (-1)) x325005 x325006 x325007)
def newellaw20_CollectOnce.j2 : Nat → Int → Int → Int → Int → Bool → Bool → List Int → List Int → List Int → Int → Int → Int → Bool → Bool → List Int → List Int → List Int → Option (Bool)
 | 0, _, _, _, _, _, _, _, _, _, _, _, _, _, _, _, _, _ => none
 | k + 1, x4, x290000, x290001, x290002, x290003, x290004, x290005, x290006, x290007, x325000, x325001, x325002, x325003, x325004, x325005, x325006, x325007 => (collect_Next.f k x325000 x325001 x325002 x325003 x325004 x325005 x325006 x325007).bind fun bt325 => (if bt325.2.2 = 0 then (if bt325.1 = 3 then (newellaw20_CollectOnce.j3 k (bt325.2.1 == x4) x290000 x290001 x290002 x290003 x290004 x290005 x290006 x290007) else (newellaw20_CollectOnce.j3 k false x290000 x290001 x290002 x290003 x290004 x290005 x290006 x290007)) else (none))
def newellaw20_CollectOnce.j3 : Nat → Bool → Int → Int → Int → Bool → Bool → List Int → List Int → List Int → Option (Bool)
 | 0, _, _, _, _, _, _, _, _, _ => none
 | k + 1, x61, x290000, x290001, x290002, x290003, x290004, x290005, x290006, x290007 => if x61 = true then ((newellaw20_awake.f k).bind fun t328 => (if t328 = true then ((newellaw20_toward.f k x290000 x290001 x290002 x290003 x290004 x290005 x290006 x290007 1).bind fun t329 => (if t329 = true then (none) else ((newellaw20_toward.f k x290000 x290001 x290002 x290003 x290004 x290005 x290006 x290007 (-1)).bind fun t330 => (newellaw20_CollectOnce.j4 k (!t330))))) else (none))) else ((newellaw20_awake.f k).bind fun t331 => (some t331))
def newellaw20_CollectOnce.j4 : Nat → Bool → Option (Bool)
 | 0, _ => none
 | k + 1, x2 => some x2
end
def newellaw20_CollectOnce.f (k : Nat) (a0_0 : Int) (a0_1 : Int) (a0_2 : Int) (a0_3 : Bool) (a0_4 : Bool) (l0_5 : List Int) (l0_6 : List Int) (l0_7 : List Int) : Option (Bool) := (newellaw20_few.f l0_5 l0_6 l0_7).bind fun t290 => (if t290 = true then ((newellaw20_Own.f a0_0 a0_1 a0_2 a0_3 a0_4 l0_5 l0_6 l0_7).bind fun bt292 => ((collect_Next.f k bt292.1 bt292.2.1 bt292.2.2.1 bt292.2.2.2.1 bt292.2.2.2.2.1 bt292.2.2.2.2.2.1 bt292.2.2.2.2.2.2.1 bt292.2.2.2.2.2.2.2).bind fun bt306 => (if bt306.2.2 = 0 then (newellaw20_CollectOnce.j0 k bt306.2.1 (bt306.1 != 3) a0_0 a0_1 a0_2 a0_3 a0_4 l0_5 l0_6 l0_7) else (newellaw20_CollectOnce.j0 k bt306.2.1 true a0_0 a0_1 a0_2 a0_3 a0_4 l0_5 l0_6 l0_7)))) else ((newellaw20_awake.f k).bind fun t291 => (some t291)))
theorem newellaw20_CollectOnce.mono_l : ∀ k, (∀ y0 y1 y2 y3 y4 y5 y6 y7 y8 y9, LeO (newellaw20_CollectOnce.j0 k y0 y1 y2 y3 y4 y5 y6 y7 y8 y9) (newellaw20_CollectOnce.j0 (k + 1) y0 y1 y2 y3 y4 y5 y6 y7 y8 y9)) ∧ (∀ y0 y1 y2 y3 y4 y5 y6 y7 y8 y9 y10 y11 y12 y13 y14 y15 y16, LeO (newellaw20_CollectOnce.j1 k y0 y1 y2 y3 y4 y5 y6 y7 y8 y9 y10 y11 y12 y13 y14 y15 y16) (newellaw20_CollectOnce.j1 (k + 1) y0 y1 y2 y3 y4 y5 y6 y7 y8 y9 y10 y11 y12 y13 y14 y15 y16)) ∧ (∀ y0 y1 y2 y3 y4 y5 y6 y7 y8 y9 y10 y11 y12 y13 y14 y15 y16, LeO (newellaw20_CollectOnce.j2 k y0 y1 y2 y3 y4 y5 y6 y7 y8 y9 y10 y11 y12 y13 y14 y15 y16) (newellaw20_CollectOnce.j2 (k + 1) y0 y1 y2 y3 y4 y5 y6 y7 y8 y9 y10 y11 y12 y13 y14 y15 y16)) ∧ (∀ y0 y1 y2 y3 y4 y5 y6 y7 y8, LeO (newellaw20_CollectOnce.j3 k y0 y1 y2 y3 y4 y5 y6 y7 y8) (newellaw20_CollectOnce.j3 (k + 1) y0 y1 y2 y3 y4 y5 y6 y7 y8)) ∧ (∀ y0, LeO (newellaw20_CollectOnce.j4 k y0) (newellaw20_CollectOnce.j4 (k + 1) y0))
 | 0 => ⟨fun _ _ _ _ _ _ _ _ _ _ r h => by simp [newellaw20_CollectOnce.j0] at h, fun _ _ _ _ _ _ _ _ _ _ _ _ _ _ _ _ _ r h => by simp [newellaw20_CollectOnce.j1] at h, fun _ _ _ _ _ _ _ _ _ _ _ _ _ _ _ _ _ r h => by simp [newellaw20_CollectOnce.j2] at h, fun _ _ _ _ _ _ _ _ _ r h => by simp [newellaw20_CollectOnce.j3] at h, fun _ r h => by simp [newellaw20_CollectOnce.j4] at h⟩
 | k + 1 => by
  obtain ⟨ih0, ih1, ih2, ih3, ih4⟩ := newellaw20_CollectOnce.mono_l k
  refine ⟨?_, ?_, ?_, ?_, ?_⟩
  ·intro y0 y1 y2 y3 y4 y5 y6 y7 y8 y9
   unfold newellaw20_CollectOnce.j0
   repeat' first
   | (with_reducible exact ih0 _ _ _ _ _ _ _ _ _ _)
   | (with_reducible exact ih1 _ _ _ _ _ _ _ _ _ _ _ _ _ _ _ _ _)
   | (with_reducible exact ih2 _ _ _ _ _ _ _ _ _ _ _ _ _ _ _ _ _)
   | (with_reducible exact ih3 _ _ _ _ _ _ _ _ _)
   | (with_reducible exact ih4 _)
   | (with_reducible exact collect_Next.mono _ _ _ _ _ _ _ _ _)
   | (with_reducible exact newellaw20_awake.mono _)
   | (with_reducible exact newellaw20_toward.mono _ _ _ _ _ _ _ _ _ _)
   | (with_reducible exact LeO.refl _)
   | (with_reducible exact LeO.none _)
   | (with_reducible refine LeO.ite ?_ ?_)
   | (with_reducible refine LeO.bind ?_ (fun _ => ?_))
   | exact ih0 _ _ _ _ _ _ _ _ _ _
   | exact ih1 _ _ _ _ _ _ _ _ _ _ _ _ _ _ _ _ _
   | exact ih2 _ _ _ _ _ _ _ _ _ _ _ _ _ _ _ _ _
   | exact ih3 _ _ _ _ _ _ _ _ _
   | exact ih4 _
   | exact collect_Next.mono _ _ _ _ _ _ _ _ _
   | exact newellaw20_awake.mono _
   | exact newellaw20_toward.mono _ _ _ _ _ _ _ _ _ _
   | exact LeO.none _
   | refine LeO.ite ?_ ?_
   | refine LeO.bind ?_ (fun _ => ?_)
  ·intro y0 y1 y2 y3 y4 y5 y6 y7 y8 y9 y10 y11 y12 y13 y14 y15 y16
   unfold newellaw20_CollectOnce.j1
   repeat' first
   | (with_reducible exact ih0 _ _ _ _ _ _ _ _ _ _)
   | (with_reducible exact ih1 _ _ _ _ _ _ _ _ _ _ _ _ _ _ _ _ _)
   | (with_reducible exact ih2 _ _ _ _ _ _ _ _ _ _ _ _ _ _ _ _ _)
   | (with_reducible exact ih3 _ _ _ _ _ _ _ _ _)
   | (with_reducible exact ih4 _)
   | (with_reducible exact collect_Next.mono _ _ _ _ _ _ _ _ _)
   | (with_reducible exact newellaw20_awake.mono _)
   | (with_reducible exact newellaw20_toward.mono _ _ _ _ _ _ _ _ _ _)
   | (with_reducible exact LeO.refl _)
   | (with_reducible exact LeO.none _)
   | (with_reducible refine LeO.ite ?_ ?_)
   | (with_reducible refine LeO.bind ?_ (fun _ => ?_))
   | exact ih0 _ _ _ _ _ _ _ _ _ _
   | exact ih1 _ _ _ _ _ _ _ _ _ _ _ _ _ _ _ _ _
   | exact ih2 _ _ _ _ _ _ _ _ _ _ _ _ _ _ _ _ _
   | exact ih3 _ _ _ _ _ _ _ _ _
   | exact ih4 _
   | exact collect_Next.mono _ _ _ _ _ _ _ _ _
   | exact newellaw20_awake.mono _
   | exact newellaw20_toward.mono _ _ _ _ _ _ _ _ _ _
   | exact LeO.none _
   | refine LeO.ite ?_ ?_
   | refine LeO.bind ?_ (fun _ => ?_)
  ·intro y0 y1 y2 y3 y4 y5 y6 y7 y8 y9 y10 y11 y12 y13 y14 y15 y16
   unfold newellaw20_CollectOnce.j2
   repeat' first
   | (with_reducible exact ih0 _ _ _ _ _ _ _ _ _ _)
   | (with_reducible exact ih1 _ _ _ _ _ _ _ _ _ _ _ _ _ _ _ _ _)
   | (with_reducible exact ih2 _ _ _ _ _ _ _ _ _ _ _ _ _ _ _ _ _)
   | (with_reducible exact ih3 _ _ _ _ _ _ _ _ _)
   | (with_reducible exact ih4 _)
   | (with_reducible exact collect_Next.mono _ _ _ _ _ _ _ _ _)
   | (with_reducible exact newellaw20_awake.mono _)
   | (with_reducible exact newellaw20_toward.mono _ _ _ _ _ _ _ _ _ _)
   | (with_reducible exact LeO.refl _)
   | (with_reducible exact LeO.none _)
   | (with_reducible refine LeO.ite ?_ ?_)
   | (with_reducible refine LeO.bind ?_ (fun _ => ?_))
   | exact ih0 _ _ _ _ _ _ _ _ _ _
   | exact ih1 _ _ _ _ _ _ _ _ _ _ _ _ _ _ _ _ _
   | exact ih2 _ _ _ _ _ _ _ _ _ _ _ _ _ _ _ _ _
   | exact ih3 _ _ _ _ _ _ _ _ _
   | exact ih4 _
   | exact collect_Next.mono _ _ _ _ _ _ _ _ _
   | exact newellaw20_awake.mono _
   | exact newellaw20_toward.mono _ _ _ _ _ _ _ _ _ _
   | exact LeO.none _
   | refine LeO.ite ?_ ?_
   | refine LeO.bind ?_ (fun _ => ?_)
  ·intro y0 y1 y2 y3 y4 y5 y6 y7 y8
   unfold newellaw20_CollectOnce.j3
   repeat' first
   | (with_reducible exact ih0 _ _ _ _ _ _ _ _ _ _)
   | (with_reducible exact ih1 _ _ _ _ _ _ _ _ _ _ _ _ _ _ _ _ _)
   | (with_reducible exact ih2 _ _ _ _ _ _ _ _ _ _ _ _ _ _ _ _ _)
   | (with_reducible exact ih3 _ _ _ _ _ _ _ _ _)
   | (with_reducible exact ih4 _)
   | (with_reducible exact collect_Next.mono _ _ _ _ _ _ _ _ _)
   | (with_reducible exact newellaw20_awake.mono _)
   | (with_reducible exact newellaw20_toward.mono _ _ _ _ _ _ _ _ _ _)
   | (with_reducible exact LeO.refl _)
   | (with_reducible exact LeO.none _)
   | (with_reducible refine LeO.ite ?_ ?_)
   | (with_reducible refine LeO.bind ?_ (fun _ => ?_))
   | exact ih0 _ _ _ _ _ _ _ _ _ _
   | exact ih1 _ _ _ _ _ _ _ _ _ _ _ _ _ _ _ _ _
   | exact ih2 _ _ _ _ _ _ _ _ _ _ _ _ _ _ _ _ _
   | exact ih3 _ _ _ _ _ _ _ _ _
   | exact ih4 _
   | exact collect_Next.mono _ _ _ _ _ _ _ _ _
   | exact newellaw20_awake.mono _
   | exact newellaw20_toward.mono _ _ _ _ _ _ _ _ _ _
   | exact LeO.none _
   | refine LeO.ite ?_ ?_
   | refine LeO.bind ?_ (fun _ => ?_)
  ·intro y0
   unfold newellaw20_CollectOnce.j4
   repeat' first
   | (with_reducible exact ih0 _ _ _ _ _ _ _ _ _ _)
   | (with_reducible exact ih1 _ _ _ _ _ _ _ _ _ _ _ _ _ _ _ _ _)
   | (with_reducible exact ih2 _ _ _ _ _ _ _ _ _ _ _ _ _ _ _ _ _)
   | (with_reducible exact ih3 _ _ _ _ _ _ _ _ _)
   | (with_reducible exact ih4 _)
   | (with_reducible exact collect_Next.mono _ _ _ _ _ _ _ _ _)
   | (with_reducible exact newellaw20_awake.mono _)
   | (with_reducible exact newellaw20_toward.mono _ _ _ _ _ _ _ _ _ _)
   | (with_reducible exact LeO.refl _)
   | (with_reducible exact LeO.none _)
   | (with_reducible refine LeO.ite ?_ ?_)
   | (with_reducible refine LeO.bind ?_ (fun _ => ?_))
   | exact ih0 _ _ _ _ _ _ _ _ _ _
   | exact ih1 _ _ _ _ _ _ _ _ _ _ _ _ _ _ _ _ _
   | exact ih2 _ _ _ _ _ _ _ _ _ _ _ _ _ _ _ _ _
   | exact ih3 _ _ _ _ _ _ _ _ _
   | exact ih4 _
   | exact collect_Next.mono _ _ _ _ _ _ _ _ _
   | exact newellaw20_awake.mono _
   | exact newellaw20_toward.mono _ _ _ _ _ _ _ _ _ _
   | exact LeO.none _
   | refine LeO.ite ?_ ?_
   | refine LeO.bind ?_ (fun _ => ?_)
theorem newellaw20_CollectOnce.mono : ∀ a0 a1 a2 a3 a4 a5 a6 a7 k, LeO (newellaw20_CollectOnce.f k a0 a1 a2 a3 a4 a5 a6 a7) (newellaw20_CollectOnce.f (k + 1) a0 a1 a2 a3 a4 a5 a6 a7) := by
 intro a0 a1 a2 a3 a4 a5 a6 a7 k
 obtain ⟨ih0, ih1, ih2, ih3, ih4⟩ := newellaw20_CollectOnce.mono_l k
 unfold newellaw20_CollectOnce.f
 repeat' first
   | (with_reducible exact ih0 _ _ _ _ _ _ _ _ _ _)
   | (with_reducible exact ih1 _ _ _ _ _ _ _ _ _ _ _ _ _ _ _ _ _)
   | (with_reducible exact ih2 _ _ _ _ _ _ _ _ _ _ _ _ _ _ _ _ _)
   | (with_reducible exact ih3 _ _ _ _ _ _ _ _ _)
   | (with_reducible exact ih4 _)
   | (with_reducible exact collect_Next.mono _ _ _ _ _ _ _ _ _)
   | (with_reducible exact newellaw20_awake.mono _)
   | (with_reducible exact newellaw20_toward.mono _ _ _ _ _ _ _ _ _ _)
   | (with_reducible exact LeO.refl _)
   | (with_reducible exact LeO.none _)
   | (with_reducible refine LeO.ite ?_ ?_)
   | (with_reducible refine LeO.bind ?_ (fun _ => ?_))
   | exact ih0 _ _ _ _ _ _ _ _ _ _
   | exact ih1 _ _ _ _ _ _ _ _ _ _ _ _ _ _ _ _ _
   | exact ih2 _ _ _ _ _ _ _ _ _ _ _ _ _ _ _ _ _
   | exact ih3 _ _ _ _ _ _ _ _ _
   | exact ih4 _
   | exact collect_Next.mono _ _ _ _ _ _ _ _ _
   | exact newellaw20_awake.mono _
   | exact newellaw20_toward.mono _ _ _ _ _ _ _ _ _ _
   | exact LeO.none _
   | refine LeO.ite ?_ ?_
   | refine LeO.bind ?_ (fun _ => ?_)
set_option maxHeartbeats 8000000 in
set_option maxRecDepth 100000 in
theorem newellaw20_CollectOnce.calls (k : Nat) (a0_0 : Int) (a0_1 : Int) (a0_2 : Int) (a0_3 : Bool) (a0_4 : Bool) (A0_5 : Option Addr) (c0_5 : Nat) (l0_5 : List Int) (A0_6 : Option Addr) (c0_6 : Nat) (l0_6 : List Int) (A0_7 : Option Addr) (c0_7 : Nat) (l0_7 : List Int) (r : Bool) (w : World) (hr0_5 : Kd.C (Kd.int .i64) w A0_5 l0_5.length l0_5) (hc0_5 : l0_5.length ≤ c0_5) (hr0_6 : Kd.C (Kd.int .i64) w A0_6 l0_6.length l0_6) (hc0_6 : l0_6.length ≤ c0_6) (hr0_7 : Kd.C (Kd.int .i64) w A0_7 l0_7.length l0_7) (hc0_7 : l0_7.length ≤ c0_7) (h : newellaw20_CollectOnce.f k a0_0 a0_1 a0_2 a0_3 a0_4 l0_5 l0_6 l0_7 = some r) :
  Calls Try.prog 6 #[.agg #[.int .i64 a0_0, .int .i64 a0_1, .int .i64 a0_2, .bool a0_3, .bool a0_4, .slice A0_5 l0_5.length c0_5, .slice A0_6 l0_6.length c0_6, .slice A0_7 l0_7.length c0_7]] w fun e w' => e = .returned (.bool r) ∧ Below w.heap.size w w' := by
 have hu26 := Try.underlying26
 have hu24 := Try.underlying24
 have HR0_5 := Aside0.mk hr0_5
 have HC0_5 := Aside0.mk hc0_5
 clear hr0_5 hc0_5
 have HR0_6 := Aside0.mk hr0_6
 have HC0_6 := Aside0.mk hc0_6
 clear hr0_6 hc0_6
 have HR0_7 := Aside0.mk hr0_7
 have HC0_7 := Aside0.mk hc0_7
 clear hr0_7 hc0_7
 have HB := Aside0.mk (Below.refl w.heap.size w)
 have H : ((newellaw20_few.f l0_5 l0_6 l0_7).bind fun t290 => (if t290 = true then ((newellaw20_Own.f a0_0 a0_1 a0_2 a0_3 a0_4 l0_5 l0_6 l0_7).bind fun bt292 => ((collect_Next.f k bt292.1 bt292.2.1 bt292.2.2.1 bt292.2.2.2.1 bt292.2.2.2.2.1 bt292.2.2.2.2.2.1 bt292.2.2.2.2.2.2.1 bt292.2.2.2.2.2.2.2).bind fun bt306 => (if bt306.2.2 = 0 then (newellaw20_CollectOnce.j0 k bt306.2.1 (bt306.1 != 3) a0_0 a0_1 a0_2 a0_3 a0_4 l0_5 l0_6 l0_7) else (newellaw20_CollectOnce.j0 k bt306.2.1 true a0_0 a0_1 a0_2 a0_3 a0_4 l0_5 l0_6 l0_7)))) else ((newellaw20_awake.f k).bind fun t291 => (some t291)))) = some r := h
 clear h
 replace H := Option.bind_eq_some_iff.mp H
 obtain ⟨t290, A20, H⟩ := H
 replace H : (if t290 = true then ((newellaw20_Own.f a0_0 a0_1 a0_2 a0_3 a0_4 l0_5 l0_6 l0_7).bind fun bt292 => ((collect_Next.f k bt292.1 bt292.2.1 bt292.2.2.1 bt292.2.2.2.1 bt292.2.2.2.2.1 bt292.2.2.2.2.2.1 bt292.2.2.2.2.2.2.1 bt292.2.2.2.2.2.2.2).bind fun bt306 => (if bt306.2.2 = 0 then (newellaw20_CollectOnce.j0 k bt306.2.1 (bt306.1 != 3) a0_0 a0_1 a0_2 a0_3 a0_4 l0_5 l0_6 l0_7) else (newellaw20_CollectOnce.j0 k bt306.2.1 true a0_0 a0_1 a0_2 a0_3 a0_4 l0_5 l0_6 l0_7)))) else ((newellaw20_awake.f k).bind fun t291 => (some t291))) = some r := H
 have A2 := Aside0.mk A20
 clear A20
 by_cases c3 : t290 = true
 ·subst c3
  have H1 : ((newellaw20_Own.f a0_0 a0_1 a0_2 a0_3 a0_4 l0_5 l0_6 l0_7).bind fun bt292 => ((collect_Next.f k bt292.1 bt292.2.1 bt292.2.2.1 bt292.2.2.2.1 bt292.2.2.2.2.1 bt292.2.2.2.2.2.1 bt292.2.2.2.2.2.2.1 bt292.2.2.2.2.2.2.2).bind fun bt306 => (if bt306.2.2 = 0 then (newellaw20_CollectOnce.j0 k bt306.2.1 (bt306.1 != 3) a0_0 a0_1 a0_2 a0_3 a0_4 l0_5 l0_6 l0_7) else (newellaw20_CollectOnce.j0 k bt306.2.1 true a0_0 a0_1 a0_2 a0_3 a0_4 l0_5 l0_6 l0_7)))) = some r := by rw [if_pos rfl] at H; exact H
  clear H
  have H := H1
  clear H1
  replace H := Option.bind_eq_some_iff.mp H
  obtain ⟨⟨t292, t293, t294, t295, t296, t297, t300, t303⟩, A40, H⟩ := H
  replace H : ((collect_Next.f k t292 t293 t294 t295 t296 t297 t300 t303).bind fun bt306 => (if bt306.2.2 = 0 then (newellaw20_CollectOnce.j0 k bt306.2.1 (bt306.1 != 3) a0_0 a0_1 a0_2 a0_3 a0_4 l0_5 l0_6 l0_7) else (newellaw20_CollectOnce.j0 k bt306.2.1 true a0_0 a0_1 a0_2 a0_3 a0_4 l0_5 l0_6 l0_7))) = some r := H
  have A4 := Aside0.mk A40
  clear A40
  replace H := Option.bind_eq_some_iff.mp H
  obtain ⟨⟨t306, t307, t308⟩, A50, H⟩ := H
  replace H : (if t308 = 0 then (newellaw20_CollectOnce.j0 k t307 (t306 != 3) a0_0 a0_1 a0_2 a0_3 a0_4 l0_5 l0_6 l0_7) else (newellaw20_CollectOnce.j0 k t307 true a0_0 a0_1 a0_2 a0_3 a0_4 l0_5 l0_6 l0_7)) = some r := H
  have A5 := Aside0.mk A50
  clear A50
  have HC6 := Aside0.mk H
  clear H
  go_enter Try.func6, Try.ntmps6
  go_upto_region 4 with (first | ((with_reducible refine gate_dst (N := 1) rfl ?_); refine box_event ?hg (N := 1) ?hd (cs := #[.int .i64 a0_0, .int .i64 a0_1, .int .i64 a0_2, .bool a0_3, .bool a0_4, .slice A0_5 l0_5.length c0_5, .slice A0_6 l0_6.length c0_6, .slice A0_7 l0_7.length c0_7]) (t := 26) ?hr ?_; (case hd => rfl); (case hg => rfl); (case hr => first | (go_simp; done) | (go_simp; rfl)); intro gb289 hg w7 hbox hb; have n0_ := Aside0.mk (below_step (by repeat (first | (with_reducible first | exact HB.out | apply below_alloc | apply pw_below_drewN | apply below_drew1) | exact HB.out)) hb); have n1_ := Aside0.mk (hbox); have n2_ := Aside0.mk ((by rw [hg]; exact (below_size (by repeat (first | (with_reducible first | exact HB.out | apply below_alloc | apply pw_below_drewN | apply below_drew1) | exact HB.out))) : w.heap.size ≤ gb289)); have n3_ := Aside0.mk ((by rw [hg]; exact (below_size (by repeat (first | (with_reducible first | exact HB.out | apply below_alloc | apply pw_below_drewN | apply below_drew1) | exact HB.out))) : w.heap.size ≤ gb289)); clear HB; have HB := n0_; have BK289 := n1_; have GW289 := n2_; have GE289 := n3_; clear n0_ n1_ n2_ n3_; clear hb hbox hg; have hcz8_0 : w7.cell? ⟨gb289, 0, none⟩ = some (.int .i64 a0_0) := (blk_cell BK289.out 0).trans rfl; have hcz8_1 : w7.cell? ⟨gb289, 1, none⟩ = some (.int .i64 a0_1) := (blk_cell BK289.out 1).trans rfl; have hcz8_2 : w7.cell? ⟨gb289, 2, none⟩ = some (.int .i64 a0_2) := (blk_cell BK289.out 2).trans rfl; have hcz8_3 : w7.cell? ⟨gb289, 3, none⟩ = some (.bool a0_3) := (blk_cell BK289.out 3).trans rfl; have hcz8_4 : w7.cell? ⟨gb289, 4, none⟩ = some (.bool a0_4) := (blk_cell BK289.out 4).trans rfl; have hcz8_5 : w7.cell? ⟨gb289, 5, none⟩ = some (.slice A0_5 l0_5.length c0_5) := (blk_cell BK289.out 5).trans rfl; have hcz8_6 : w7.cell? ⟨gb289, 6, none⟩ = some (.slice A0_6 l0_6.length c0_6) := (blk_cell BK289.out 6).trans rfl; have hcz8_7 : w7.cell? ⟨gb289, 7, none⟩ = some (.slice A0_7 l0_7.length c0_7) := (blk_cell BK289.out 7).trans rfl; have hfz8_0 := blk_frozen BK289.out 0; have hfz8_1 := blk_frozen BK289.out 1; have hfz8_2 := blk_frozen BK289.out 2; have hfz8_3 := blk_frozen BK289.out 3; have hfz8_4 := blk_frozen BK289.out 4; have hfz8_5 := blk_frozen BK289.out 5; have hfz8_6 := blk_frozen BK289.out 6; have hfz8_7 := blk_frozen BK289.out 7) | ((with_reducible refine gate_callee (f := 9) rfl ?_); refine goesL_ (some 12) rfl rfl Try.func9 (by kernel_rfl) rfl #[.agg #[.slice A0_5 l0_5.length c0_5, .slice A0_6 l0_6.length c0_6, .slice A0_7 l0_7.length c0_7]] rfl (by (try simp only [List.map_toArray, List.map_cons, List.map_nil]); first | done | rfl | (simp only [List.length_drop, List.length_take]; rfl)) ?_; (with_reducible refine (newellaw20_few.calls _ _ l0_5 _ _ l0_6 _ _ l0_7 true _ ?side1 ?side2 ?side3 ?side4 ?side5 ?side6 A2.out).mono ?_); (case side1 => repeat (first | exact (Kd.C_below HR0_5.out HB.out) | (with_reducible refine Kd.C_alloc ?_ _) | (with_reducible refine Kd.C_drewN ?_ _) | (with_reducible refine Kd.C_drew ?_))); (case side2 => exact HC0_5.out); (case side3 => repeat (first | exact (Kd.C_below HR0_6.out HB.out) | (with_reducible refine Kd.C_alloc ?_ _) | (with_reducible refine Kd.C_drewN ?_ _) | (with_reducible refine Kd.C_drew ?_))); (case side4 => exact HC0_6.out); (case side5 => repeat (first | exact (Kd.C_below HR0_7.out HB.out) | (with_reducible refine Kd.C_alloc ?_ _) | (with_reducible refine Kd.C_drewN ?_ _) | (with_reducible refine Kd.C_drew ?_))); (case side6 => exact HC0_7.out); rintro e w9 ⟨rfl, hb⟩; refine ⟨_, rfl, ?_⟩; have n0_ := Aside0.mk (blk_below (g := gb289) (o := .cells #[.int .i64 a0_0, .int .i64 a0_1, .int .i64 a0_2, .bool a0_3, .bool a0_4, .slice A0_5 l0_5.length c0_5, .slice A0_6 l0_6.length c0_6, .slice A0_7 l0_7.length c0_7] 26 (0, 0)) (by (with_reducible repeat (first | refine blk_drewN ?_ _ | refine blk_drew ?_ | refine blk_alloc ?_ _)); exact BK289.out) hb); have n1_ := Aside0.mk (below_step (by repeat (first | (with_reducible first | exact HB.out | apply below_alloc | apply pw_below_drewN | apply below_drew1 | refine below_set ?_ GE289.out) | exact HB.out)) hb); clear BK289; clear HB; have BK289 := n0_; have HB := n1_; clear n0_ n1_; (try clear hb); (try clear hb2); (try clear hk); (try clear hi); have hcz10_0 : w9.cell? ⟨gb289, 0, none⟩ = some (.int .i64 a0_0) := (blk_cell BK289.out 0).trans rfl; have hcz10_1 : w9.cell? ⟨gb289, 1, none⟩ = some (.int .i64 a0_1) := (blk_cell BK289.out 1).trans rfl; have hcz10_2 : w9.cell? ⟨gb289, 2, none⟩ = some (.int .i64 a0_2) := (blk_cell BK289.out 2).trans rfl; have hcz10_3 : w9.cell? ⟨gb289, 3, none⟩ = some (.bool a0_3) := (blk_cell BK289.out 3).trans rfl; have hcz10_4 : w9.cell? ⟨gb289, 4, none⟩ = some (.bool a0_4) := (blk_cell BK289.out 4).trans rfl; have hcz10_5 : w9.cell? ⟨gb289, 5, none⟩ = some (.slice A0_5 l0_5.length c0_5) := (blk_cell BK289.out 5).trans rfl; have hcz10_6 : w9.cell? ⟨gb289, 6, none⟩ = some (.slice A0_6 l0_6.length c0_6) := (blk_cell BK289.out 6).trans rfl; have hcz10_7 : w9.cell? ⟨gb289, 7, none⟩ = some (.slice A0_7 l0_7.length c0_7) := (blk_cell BK289.out 7).trans rfl; have hfz10_0 := blk_frozen BK289.out 0; have hfz10_1 := blk_frozen BK289.out 1; have hfz10_2 := blk_frozen BK289.out 2; have hfz10_3 := blk_frozen BK289.out 3; have hfz10_4 := blk_frozen BK289.out 4; have hfz10_5 := blk_frozen BK289.out 5; have hfz10_6 := blk_frozen BK289.out 6; have hfz10_7 := blk_frozen BK289.out 7) | ((with_reducible refine gate_callee (f := 12) rfl ?_); refine goesL_ (some 17) rfl rfl Try.func12 (by kernel_rfl) rfl #[.agg #[.int .i64 a0_0, .int .i64 a0_1, .int .i64 a0_2, .bool a0_3, .bool a0_4, .slice A0_5 l0_5.length c0_5, .slice A0_6 l0_6.length c0_6, .slice A0_7 l0_7.length c0_7]] rfl (by (try simp only [List.map_toArray, List.map_cons, List.map_nil]); first | done | rfl | (simp only [List.length_drop, List.length_take]; rfl)) ?_; (with_reducible refine (newellaw20_Own.calls a0_0 a0_1 a0_2 a0_3 a0_4 _ _ l0_5 _ _ l0_6 _ _ l0_7 t292 t293 t294 t295 t296 t297 t300 t303 _ ?side1 ?side2 ?side3 ?side4 ?side5 ?side6 A4.out).mono ?_); (case side1 => repeat (first | exact (Kd.C_below HR0_5.out HB.out) | (with_reducible refine Kd.C_alloc ?_ _) | (with_reducible refine Kd.C_drewN ?_ _) | (with_reducible refine Kd.C_drew ?_))); (case side2 => exact HC0_5.out); (case side3 => repeat (first | exact (Kd.C_below HR0_6.out HB.out) | (with_reducible refine Kd.C_alloc ?_ _) | (with_reducible refine Kd.C_drewN ?_ _) | (with_reducible refine Kd.C_drew ?_))); (case side4 => exact HC0_6.out); (case side5 => repeat (first | exact (Kd.C_below HR0_7.out HB.out) | (with_reducible refine Kd.C_alloc ?_ _) | (with_reducible refine Kd.C_drewN ?_ _) | (with_reducible refine Kd.C_drew ?_))); (case side6 => exact HC0_7.out); rintro e w11 ⟨v298, v301, v304, rfl, ho0, ho1, ho2, hb⟩; refine ⟨_, rfl, ?_⟩; have n0_ := Aside0.mk (Kd.R_lower ho0 (below_size (by repeat (first | (with_reducible first | exact HB.out | apply below_alloc | apply pw_below_drewN | apply below_drew1 | refine below_set ?_ GE289.out) | exact HB.out)))); have n1_ := Aside0.mk (Kd.R_lower ho1 (below_size (by repeat (first | (with_reducible first | exact HB.out | apply below_alloc | apply pw_below_drewN | apply below_drew1 | refine below_set ?_ GE289.out) | exact HB.out)))); have n2_ := Aside0.mk (Kd.R_lower ho2 (below_size (by repeat (first | (with_reducible first | exact HB.out | apply below_alloc | apply pw_below_drewN | apply below_drew1 | refine below_set ?_ GE289.out) | exact HB.out)))); have n3_ := Aside0.mk (blk_below (g := gb289) (o := .cells #[.int .i64 a0_0, .int .i64 a0_1, .int .i64 a0_2, .bool a0_3, .bool a0_4, .slice A0_5 l0_5.length c0_5, .slice A0_6 l0_6.length c0_6, .slice A0_7 l0_7.length c0_7] 26 (0, 0)) (by (with_reducible repeat (first | refine blk_drewN ?_ _ | refine blk_drew ?_ | refine blk_alloc ?_ _)); exact BK289.out) hb); have n4_ := Aside0.mk (below_step (by repeat (first | (with_reducible first | exact HB.out | apply below_alloc | apply pw_below_drewN | apply below_drew1 | refine below_set ?_ GE289.out) | exact HB.out)) hb); clear BK289; clear HB; have HO299 := n0_; have HO302 := n1_; have HO305 := n2_; have BK289 := n3_; have HB := n4_; clear n0_ n1_ n2_ n3_ n4_; (try clear hb); (try clear hb2); (try clear hk); (try clear hi); (try clear ho0); (try clear ho1); (try clear ho2); obtain ⟨Ao12, co12, eo12⟩ := Kd.R_slice HO299.out; subst eo12; obtain ⟨Ao13, co13, eo13⟩ := Kd.R_slice HO302.out; subst eo13; obtain ⟨Ao14, co14, eo14⟩ := Kd.R_slice HO305.out; subst eo14) | ((with_reducible refine gate_callee (f := 11) rfl ?_); refine goesL_ (some 18) rfl rfl Try.func11 (by kernel_rfl) rfl #[.agg #[.int .i64 t292, .int .i64 t293, .int .i64 t294, .bool t295, .bool t296, .slice Ao12 t297.length co12, .slice Ao13 t300.length co13, .slice Ao14 t303.length co14]] rfl (by (try simp only [List.map_toArray, List.map_cons, List.map_nil]); first | done | rfl | (simp only [List.length_drop, List.length_take]; rfl)) ?_; (with_reducible refine (collect_Next.calls k t292 t293 t294 t295 t296 _ _ t297 _ _ t300 _ _ t303 t306 t307 t308 _ ?side1 ?side2 ?side3 ?side4 ?side5 ?side6 A5.out).mono ?_); (case side1 => repeat (first | exact (Kd.R_reads' HO299.out).2.2 | (with_reducible refine Kd.C_alloc ?_ _) | (with_reducible refine Kd.C_drewN ?_ _) | (with_reducible refine Kd.C_drew ?_))); (case side2 => exact (Kd.R_reads' HO299.out).2.1); (case side3 => repeat (first | exact (Kd.R_reads' HO302.out).2.2 | (with_reducible refine Kd.C_alloc ?_ _) | (with_reducible refine Kd.C_drewN ?_ _) | (with_reducible refine Kd.C_drew ?_))); (case side4 => exact (Kd.R_reads' HO302.out).2.1); (case side5 => repeat (first | exact (Kd.R_reads' HO305.out).2.2 | (with_reducible refine Kd.C_alloc ?_ _) | (with_reducible refine Kd.C_drewN ?_ _) | (with_reducible refine Kd.C_drew ?_))); (case side6 => exact (Kd.R_reads' HO305.out).2.1); rintro e w15 ⟨rfl, hb⟩; refine ⟨_, rfl, ?_⟩; have n0_ := Aside0.mk (Kd.R_below (by (with_reducible repeat (first | apply Kd.R_alloc | apply Kd.R_drewN | apply Kd.R_drew)); exact HO299.out) hb); have n1_ := Aside0.mk (Kd.R_below (by (with_reducible repeat (first | apply Kd.R_alloc | apply Kd.R_drewN | apply Kd.R_drew)); exact HO302.out) hb); have n2_ := Aside0.mk (Kd.R_below (by (with_reducible repeat (first | apply Kd.R_alloc | apply Kd.R_drewN | apply Kd.R_drew)); exact HO305.out) hb); have n3_ := Aside0.mk (blk_below (g := gb289) (o := .cells #[.int .i64 a0_0, .int .i64 a0_1, .int .i64 a0_2, .bool a0_3, .bool a0_4, .slice A0_5 l0_5.length c0_5, .slice A0_6 l0_6.length c0_6, .slice A0_7 l0_7.length c0_7] 26 (0, 0)) (by (with_reducible repeat (first | refine blk_drewN ?_ _ | refine blk_drew ?_ | refine blk_alloc ?_ _)); exact BK289.out) hb); have n4_ := Aside0.mk (below_step (by repeat (first | (with_reducible first | exact HB.out | apply below_alloc | apply pw_below_drewN | apply below_drew1 | refine below_set ?_ GE289.out) | exact HB.out)) hb); clear HO299; clear HO302; clear HO305; clear BK289; clear HB; have HO299 := n0_; have HO302 := n1_; have HO305 := n2_; have BK289 := n3_; have HB := n4_; clear n0_ n1_ n2_ n3_ n4_; (try clear hb); (try clear hb2); (try clear hk); (try clear hi)))
  (try simp only [Act.put, List.setIfInBounds_toArray, List.set_cons_zero, List.set_cons_succ])
  go_cut [27] (fun v27 wc => ∃ (kq : Nat) (x27_5 : Bool), v27 = .bool x27_5 ∧ Aside0 (newellaw20_CollectOnce.j0 kq t307 x27_5 a0_0 a0_1 a0_2 a0_3 a0_4 l0_5 l0_6 l0_7 = some r) ∧ Aside0 (kq ≤ k) ∧ Aside0 (wc.heap[gb289]? = some (.cells #[.int .i64 a0_0, .int .i64 a0_1, .int .i64 a0_2, .bool a0_3, .bool a0_4, (.slice A0_5 l0_5.length c0_5), (.slice A0_6 l0_6.length c0_6), (.slice A0_7 l0_7.length c0_7)] 26 (0, 0))) ∧ Aside0 (Below w.heap.size w wc))
  case first =>
   have H := HC6.out
   clear HC6
   by_cases c16 : t308 = 0
   ·rw [if_pos c16] at H
    have c16b0 : (t308 == 0) = true := beq_iff_eq.mpr c16
    have c16b1 : (t308 != 0) = false := bne_eq_false_iff_eq.mpr c16
    clear c16
    (first | rw [c16b0] | (simp only [i64_w, i32_w]; rw [c16b0]) | skip)
    have H' := Aside0.mk H
    clear H
    go_wp2
    go_meet
    case rel => exact ⟨_, ((t306 != 3)), (by first | rfl | (simp; done) | (simp [*]; done)), H', ⟨by first | omega | exact Nat.le_refl _⟩, ⟨by (with_reducible repeat (first | refine blk_drewN ?_ _ | refine blk_drew ?_ | refine blk_alloc ?_ _)); exact BK289.out⟩, ⟨by repeat (first | (with_reducible first | exact HB.out | apply below_alloc | apply pw_below_drewN | apply below_drew1 | refine below_set ?_ GE289.out) | exact HB.out)⟩⟩
   ·rw [if_neg c16] at H
    have c16b0 : (t308 == 0) = false := beq_eq_false_iff_ne.mpr c16
    have c16b1 : (t308 != 0) = true := bne_iff_ne.mpr c16
    (first | rw [c16b0] | (simp only [i64_w, i32_w]; rw [c16b0]) | skip)
    have H' := Aside0.mk H
    clear H
    go_wp2
    go_meet
    case rel => exact ⟨_, (true), (by first | rfl | (simp; done) | (simp [*]; done)), H', ⟨by first | omega | exact Nat.le_refl _⟩, ⟨by (with_reducible repeat (first | refine blk_drewN ?_ _ | refine blk_drew ?_ | refine blk_alloc ?_ _)); exact BK289.out⟩, ⟨by repeat (first | (with_reducible first | exact HB.out | apply below_alloc | apply pw_below_drewN | apply below_drew1 | refine below_set ?_ GE289.out) | exact HB.out)⟩⟩
  case rest =>
   clear HC6
   try clear c1
   try clear p2
   try clear c3
   try clear c6
   try clear c9
   try clear c11
   try clear c12
   try clear c16
   try clear c16b0
   try clear c16b1
   try clear hcz10_0
   try clear hcz10_1
   try clear hcz10_2
   try clear hcz10_3
   try clear hcz10_4
   try clear hcz10_5
   try clear hcz10_6
   try clear hcz10_7
   try clear hcz8_0
   try clear hcz8_1
   try clear hcz8_2
   try clear hcz8_3
   try clear hcz8_4
   try clear hcz8_5
   try clear hcz8_6
   try clear hcz8_7
   try clear hfz10_0
   try clear hfz10_1
   try clear hfz10_2
   try clear hfz10_3
   try clear hfz10_4
   try clear hfz10_5
   try clear hfz10_6
   try clear hfz10_7
   try clear hfz8_0
   try clear hfz8_1
   try clear hfz8_2
   try clear hfz8_3
   try clear hfz8_4
   try clear hfz8_5
   try clear hfz8_6
   try clear hfz8_7
   obtain ⟨kq, x27_5, rfl, HA, HJ5, BK289, HB⟩ := hcut
   cases kq with
   | zero => exact absurd HA.out (by simp [newellaw20_CollectOnce.j0])
   | succ kj5 =>
    have H := HA.out
    clear HA
    simp only [newellaw20_CollectOnce.j0] at H
    by_cases c17 : x27_5 = true
    ·subst c17
     have H1 : ((newellaw20_awake.f kj5).bind fun t309 => (some t309)) = some r := by rw [if_pos rfl] at H; exact H
     clear H
     have H := H1
     clear H1
     replace H := Option.bind_eq_some_iff.mp H
     obtain ⟨t309, A180, H⟩ := H
     replace H : (some t309) = some r := H
     have A18 := Aside0.mk A180
     clear A180
     obtain rfl := Option.some.inj H
     go_wp2_with (first | ((with_reducible refine gate_callee (f := 10) rfl ?_); refine goesL_ (some 28) rfl rfl Try.func10 (by kernel_rfl) rfl #[] rfl (by (try simp only [List.map_toArray, List.map_cons, List.map_nil]); first | done | rfl | (simp only [List.length_drop, List.length_take]; rfl)) ?_; (with_reducible refine (newellaw20_awake.calls kj5  t309 _ A18.out).mono ?_); rintro e w19 ⟨rfl, hb⟩; refine ⟨_, rfl, ?_⟩; have n0_ := Aside0.mk (blk_below (g := gb289) (o := .cells #[.int .i64 a0_0, .int .i64 a0_1, .int .i64 a0_2, .bool a0_3, .bool a0_4, .slice A0_5 l0_5.length c0_5, .slice A0_6 l0_6.length c0_6, .slice A0_7 l0_7.length c0_7] 26 (0, 0)) (by (with_reducible repeat (first | refine blk_drewN ?_ _ | refine blk_drew ?_ | refine blk_alloc ?_ _)); exact BK289.out) hb); have n1_ := Aside0.mk (below_step (by repeat (first | (with_reducible first | exact HB.out | apply below_alloc | apply pw_below_drewN | apply below_drew1 | refine below_set ?_ GE289.out) | exact HB.out)) hb); clear BK289; clear HB; have BK289 := n0_; have HB := n1_; clear n0_ n1_; (try clear hb); (try clear hb2); (try clear hk); (try clear hi)))
     go_ret
     exact ⟨by first | rfl | (simp [errW_none, errW_some] <;> rfl) | (simp [*, errW_none, errW_some] <;> rfl), by repeat (first | (with_reducible first | exact HB.out | apply below_alloc | apply pw_below_drewN | apply below_drew1 | refine below_set ?_ GE289.out) | exact HB.out)⟩
    ·replace c17 := Bool.eq_false_iff.mpr c17
     subst c17
     have H1 : ((newellaw20_Own.f a0_0 a0_1 a0_2 a0_3 a0_4 l0_5 l0_6 l0_7).bind fun bt310 => (if a0_3 = true then (newellaw20_CollectOnce.j1 kj5 t307 a0_0 a0_1 a0_2 a0_3 a0_4 l0_5 l0_6 l0_7 bt310.1 bt310.2.1 t307 true bt310.2.2.2.2.1 bt310.2.2.2.2.2.1 bt310.2.2.2.2.2.2.1 bt310.2.2.2.2.2.2.2) else (newellaw20_CollectOnce.j1 kj5 t307 a0_0 a0_1 a0_2 a0_3 a0_4 l0_5 l0_6 l0_7 bt310.1 bt310.2.1 t307 (t307 == 1) bt310.2.2.2.2.1 bt310.2.2.2.2.2.1 bt310.2.2.2.2.2.2.1 bt310.2.2.2.2.2.2.2))) = some r := by rw [if_neg (show ¬ (false = true) by decide)] at H; exact H
     clear H
     have H := H1
     clear H1
     replace H := Option.bind_eq_some_iff.mp H
     obtain ⟨⟨t310, t311, t312, t313, t314, t315, t318, t321⟩, A200, H⟩ := H
     replace H : (if a0_3 = true then (newellaw20_CollectOnce.j1 kj5 t307 a0_0 a0_1 a0_2 a0_3 a0_4 l0_5 l0_6 l0_7 t310 t311 t307 true t314 t315 t318 t321) else (newellaw20_CollectOnce.j1 kj5 t307 a0_0 a0_1 a0_2 a0_3 a0_4 l0_5 l0_6 l0_7 t310 t311 t307 (t307 == 1) t314 t315 t318 t321)) = some r := H
     have A20 := Aside0.mk A200
     clear A200
     have HC21 := Aside0.mk H
     clear H
     have hcz22_0 : wc.cell? ⟨gb289, 0, none⟩ = some (.int .i64 a0_0) := (blk_cell BK289.out 0).trans rfl
     have hcz22_1 : wc.cell? ⟨gb289, 1, none⟩ = some (.int .i64 a0_1) := (blk_cell BK289.out 1).trans rfl
     have hcz22_2 : wc.cell? ⟨gb289, 2, none⟩ = some (.int .i64 a0_2) := (blk_cell BK289.out 2).trans rfl
     have hcz22_3 : wc.cell? ⟨gb289, 3, none⟩ = some (.bool a0_3) := (blk_cell BK289.out 3).trans rfl
     have hcz22_4 : wc.cell? ⟨gb289, 4, none⟩ = some (.bool a0_4) := (blk_cell BK289.out 4).trans rfl
     have hcz22_5 : wc.cell? ⟨gb289, 5, none⟩ = some (.slice A0_5 l0_5.length c0_5) := (blk_cell BK289.out 5).trans rfl
     have hcz22_6 : wc.cell? ⟨gb289, 6, none⟩ = some (.slice A0_6 l0_6.length c0_6) := (blk_cell BK289.out 6).trans rfl
     have hcz22_7 : wc.cell? ⟨gb289, 7, none⟩ = some (.slice A0_7 l0_7.length c0_7) := (blk_cell BK289.out 7).trans rfl
     have hfz22_0 := blk_frozen BK289.out 0
     have hfz22_1 := blk_frozen BK289.out 1
     have hfz22_2 := blk_frozen BK289.out 2
     have hfz22_3 := blk_frozen BK289.out 3
     have hfz22_4 := blk_frozen BK289.out 4
     have hfz22_5 := blk_frozen BK289.out 5
     have hfz22_6 := blk_frozen BK289.out 6
     have hfz22_7 := blk_frozen BK289.out 7
     go_upto_region 8 with (first | ((with_reducible refine gate_callee (f := 12) rfl ?_); refine goesL_ (some 30) rfl rfl Try.func12 (by kernel_rfl) rfl #[.agg #[.int .i64 a0_0, .int .i64 a0_1, .int .i64 a0_2, .bool a0_3, .bool a0_4, .slice A0_5 l0_5.length c0_5, .slice A0_6 l0_6.length c0_6, .slice A0_7 l0_7.length c0_7]] rfl (by (try simp only [List.map_toArray, List.map_cons, List.map_nil]); first | done | rfl | (simp only [List.length_drop, List.length_take]; rfl)) ?_; (with_reducible refine (newellaw20_Own.calls a0_0 a0_1 a0_2 a0_3 a0_4 _ _ l0_5 _ _ l0_6 _ _ l0_7 t310 t311 t312 t313 t314 t315 t318 t321 _ ?side1 ?side2 ?side3 ?side4 ?side5 ?side6 A20.out).mono ?_); (case side1 => repeat (first | exact (Kd.C_below HR0_5.out HB.out) | (with_reducible refine Kd.C_alloc ?_ _) | (with_reducible refine Kd.C_drewN ?_ _) | (with_reducible refine Kd.C_drew ?_))); (case side2 => exact HC0_5.out); (case side3 => repeat (first | exact (Kd.C_below HR0_6.out HB.out) | (with_reducible refine Kd.C_alloc ?_ _) | (with_reducible refine Kd.C_drewN ?_ _) | (with_reducible refine Kd.C_drew ?_))); (case side4 => exact HC0_6.out); (case side5 => repeat (first | exact (Kd.C_below HR0_7.out HB.out) | (with_reducible refine Kd.C_alloc ?_ _) | (with_reducible refine Kd.C_drewN ?_ _) | (with_reducible refine Kd.C_drew ?_))); (case side6 => exact HC0_7.out); rintro e w23 ⟨v316, v319, v322, rfl, ho0, ho1, ho2, hb⟩; refine ⟨_, rfl, ?_⟩; have n0_ := Aside0.mk (Kd.R_lower ho0 (below_size (by repeat (first | (with_reducible first | exact HB.out | apply below_alloc | apply pw_below_drewN | apply below_drew1 | refine below_set ?_ GE289.out) | exact HB.out)))); have n1_ := Aside0.mk (Kd.R_lower ho1 (below_size (by repeat (first | (with_reducible first | exact HB.out | apply below_alloc | apply pw_below_drewN | apply below_drew1 | refine below_set ?_ GE289.out) | exact HB.out)))); have n2_ := Aside0.mk (Kd.R_lower ho2 (below_size (by repeat (first | (with_reducible first | exact HB.out | apply below_alloc | apply pw_below_drewN | apply below_drew1 | refine below_set ?_ GE289.out) | exact HB.out)))); have n3_ := Aside0.mk (blk_below (g := gb289) (o := .cells #[.int .i64 a0_0, .int .i64 a0_1, .int .i64 a0_2, .bool a0_3, .bool a0_4, .slice A0_5 l0_5.length c0_5, .slice A0_6 l0_6.length c0_6, .slice A0_7 l0_7.length c0_7] 26 (0, 0)) (by (with_reducible repeat (first | refine blk_drewN ?_ _ | refine blk_drew ?_ | refine blk_alloc ?_ _)); exact BK289.out) hb); have n4_ := Aside0.mk (below_step (by repeat (first | (with_reducible first | exact HB.out | apply below_alloc | apply pw_below_drewN | apply below_drew1 | refine below_set ?_ GE289.out) | exact HB.out)) hb); clear BK289; clear HB; have HO317 := n0_; have HO320 := n1_; have HO323 := n2_; have BK289 := n3_; have HB := n4_; clear n0_ n1_ n2_ n3_ n4_; (try clear hb); (try clear hb2); (try clear hk); (try clear hi); (try clear ho0); (try clear ho1); (try clear ho2)) | ((with_reducible refine gate_dst (N := 6) rfl ?_); refine box_event ?hg (N := 6) ?hd (cs := #[.int .i64 0, .int .i64 0, .int .i64 0, .bool false, .bool false, .slice none 0 0, .slice none 0 0, .slice none 0 0]) (t := 26) ?hr ?_; (case hd => rfl); (case hg => rfl); (case hr => first | (go_simp; done) | (go_simp; rfl)); intro gb324 hg w24 hbox hb; have n0_ := Aside0.mk (Kd.R_below (by (with_reducible repeat (first | apply Kd.R_alloc | apply Kd.R_drewN | apply Kd.R_drew)); exact HO317.out) hb); have n1_ := Aside0.mk (Kd.R_below (by (with_reducible repeat (first | apply Kd.R_alloc | apply Kd.R_drewN | apply Kd.R_drew)); exact HO320.out) hb); have n2_ := Aside0.mk (Kd.R_below (by (with_reducible repeat (first | apply Kd.R_alloc | apply Kd.R_drewN | apply Kd.R_drew)); exact HO323.out) hb); have n3_ := Aside0.mk (blk_below (g := gb289) (o := .cells #[.int .i64 a0_0, .int .i64 a0_1, .int .i64 a0_2, .bool a0_3, .bool a0_4, .slice A0_5 l0_5.length c0_5, .slice A0_6 l0_6.length c0_6, .slice A0_7 l0_7.length c0_7] 26 (0, 0)) (by (with_reducible repeat (first | refine blk_drewN ?_ _ | refine blk_drew ?_ | refine blk_alloc ?_ _)); exact BK289.out) hb); have n4_ := Aside0.mk (below_step (by repeat (first | (with_reducible first | exact HB.out | apply below_alloc | apply pw_below_drewN | apply below_drew1 | refine below_set ?_ GE289.out) | exact HB.out)) hb); have n5_ := Aside0.mk (hbox); have n6_ := Aside0.mk ((by rw [hg]; exact (below_size (by repeat (first | (with_reducible first | exact HB.out | apply below_alloc | apply pw_below_drewN | apply below_drew1 | refine below_set ?_ GE289.out) | exact HB.out))) : w.heap.size ≤ gb324)); have n7_ := Aside0.mk ((by rw [hg]; exact (below_size (by repeat (first | (with_reducible first | exact HB.out | apply below_alloc | apply pw_below_drewN | apply below_drew1 | refine below_set ?_ GE289.out) | exact HB.out))) : w.heap.size ≤ gb324)); have n8_ := Aside0.mk ((by rw [hg]; exact Nat.ne_of_lt (blk_lt (g := gb289) (o := .cells #[.int .i64 a0_0, .int .i64 a0_1, .int .i64 a0_2, .bool a0_3, .bool a0_4, .slice A0_5 l0_5.length c0_5, .slice A0_6 l0_6.length c0_6, .slice A0_7 l0_7.length c0_7] 26 (0, 0)) (by (with_reducible repeat (first | refine blk_drewN ?_ _ | refine blk_drew ?_ | refine blk_alloc ?_ _)); exact BK289.out)) : gb289 ≠ gb324)); have n9_ := Aside0.mk ((by rw [hg]; exact Nat.ne_of_gt (blk_lt (g := gb289) (o := .cells #[.int .i64 a0_0, .int .i64 a0_1, .int .i64 a0_2, .bool a0_3, .bool a0_4, .slice A0_5 l0_5.length c0_5, .slice A0_6 l0_6.length c0_6, .slice A0_7 l0_7.length c0_7] 26 (0, 0)) (by (with_reducible repeat (first | refine blk_drewN ?_ _ | refine blk_drew ?_ | refine blk_alloc ?_ _)); exact BK289.out)) : gb324 ≠ gb289)); clear HO317; clear HO320; clear HO323; clear BK289; clear HB; have HO317 := n0_; have HO320 := n1_; have HO323 := n2_; have BK289 := n3_; have HB := n4_; have BK324 := n5_; have GW324 := n6_; have GE324 := n7_; have NB289_324 := n8_; have NB324_289 := n9_; clear n0_ n1_ n2_ n3_ n4_ n5_ n6_ n7_ n8_ n9_; clear hb hbox hg; have hnb25 := NB324_289.out; have hnc25 := NB289_324.out; have hcz26_0 : w24.cell? ⟨gb324, 0, none⟩ = some (.int .i64 0) := (blk_cell BK324.out 0).trans rfl; have hcz26_1 : w24.cell? ⟨gb324, 1, none⟩ = some (.int .i64 0) := (blk_cell BK324.out 1).trans rfl; have hcz26_2 : w24.cell? ⟨gb324, 2, none⟩ = some (.int .i64 0) := (blk_cell BK324.out 2).trans rfl; have hcz26_3 : w24.cell? ⟨gb324, 3, none⟩ = some (.bool false) := (blk_cell BK324.out 3).trans rfl; have hcz26_4 : w24.cell? ⟨gb324, 4, none⟩ = some (.bool false) := (blk_cell BK324.out 4).trans rfl; have hcz26_5 : w24.cell? ⟨gb324, 5, none⟩ = some (.slice none 0 0) := (blk_cell BK324.out 5).trans rfl; have hcz26_6 : w24.cell? ⟨gb324, 6, none⟩ = some (.slice none 0 0) := (blk_cell BK324.out 6).trans rfl; have hcz26_7 : w24.cell? ⟨gb324, 7, none⟩ = some (.slice none 0 0) := (blk_cell BK324.out 7).trans rfl; have hfz26_0 := blk_frozen BK324.out 0; have hfz26_1 := blk_frozen BK324.out 1; have hfz26_2 := blk_frozen BK324.out 2; have hfz26_3 := blk_frozen BK324.out 3; have hfz26_4 := blk_frozen BK324.out 4; have hfz26_5 := blk_frozen BK324.out 5; have hfz26_6 := blk_frozen BK324.out 6; have hfz26_7 := blk_frozen BK324.out 7; obtain ⟨Ao27, co27, eo27⟩ := Kd.R_slice HO317.out; subst eo27; obtain ⟨Ao28, co28, eo28⟩ := Kd.R_slice HO320.out; subst eo28; obtain ⟨Ao29, co29, eo29⟩ := Kd.R_slice HO323.out; subst eo29))
     (try simp only [Act.put, List.setIfInBounds_toArray, List.set_cons_zero, List.set_cons_succ])
     go_cut [] (fun wc => ∃ (kq : Nat) (x325003_20 : Bool), Aside0 (newellaw20_CollectOnce.j1 kq t307 a0_0 a0_1 a0_2 a0_3 a0_4 l0_5 l0_6 l0_7 t310 t311 t307 x325003_20 t314 t315 t318 t321 = some r) ∧ Aside0 (kq ≤ kj5) ∧ Aside0 (Kd.R (Kd.int .i64) 3 wc w.heap.size (fun k_ => some k_ ≠ ((.slice Ao28 t318.length co28) : Value).ownBlock ∧ some k_ ≠ ((.slice Ao29 t321.length co29) : Value).ownBlock) (.slice Ao27 t315.length co27) t315) ∧ Aside0 (Kd.R (Kd.int .i64) 3 wc w.heap.size (fun k_ => some k_ ≠ ((.slice Ao27 t315.length co27) : Value).ownBlock ∧ some k_ ≠ ((.slice Ao29 t321.length co29) : Value).ownBlock) (.slice Ao28 t318.length co28) t318) ∧ Aside0 (Kd.R (Kd.int .i64) 3 wc w.heap.size (fun k_ => some k_ ≠ ((.slice Ao27 t315.length co27) : Value).ownBlock ∧ some k_ ≠ ((.slice Ao28 t318.length co28) : Value).ownBlock) (.slice Ao29 t321.length co29) t321) ∧ Aside0 (wc.heap[gb289]? = some (.cells #[.int .i64 a0_0, .int .i64 a0_1, .int .i64 a0_2, .bool a0_3, .bool a0_4, (.slice A0_5 l0_5.length c0_5), (.slice A0_6 l0_6.length c0_6), (.slice A0_7 l0_7.length c0_7)] 26 (0, 0))) ∧ Aside0 (wc.heap[gb324]? = some (.cells #[.int .i64 t310, .int .i64 t311, .int .i64 t307, .bool x325003_20, .bool t314, (.slice Ao27 t315.length co27), (.slice Ao28 t318.length co28), (.slice Ao29 t321.length co29)] 26 (0, 0))) ∧ Aside0 (Below w.heap.size w wc))
     case first =>
      have H := HC21.out
      clear HC21
      by_cases c30 : a0_3 = true
      ·subst c30
       have H1 : (newellaw20_CollectOnce.j1 kj5 t307 a0_0 a0_1 a0_2 true a0_4 l0_5 l0_6 l0_7 t310 t311 t307 true t314 t315 t318 t321) = some r := by rw [if_pos rfl] at H; exact H
       clear H
       have H := H1
       clear H1
       have H' := Aside0.mk H
       clear H
       have hnb31 := NB289_324.out
       have hnc31 := NB324_289.out
       have hcz32_0 : w24.cell? ⟨gb289, 0, none⟩ = some (.int .i64 a0_0) := (blk_cell BK289.out 0).trans rfl
       have hcz32_1 : w24.cell? ⟨gb289, 1, none⟩ = some (.int .i64 a0_1) := (blk_cell BK289.out 1).trans rfl
       have hcz32_2 : w24.cell? ⟨gb289, 2, none⟩ = some (.int .i64 a0_2) := (blk_cell BK289.out 2).trans rfl
       have hcz32_3 : w24.cell? ⟨gb289, 3, none⟩ = some (.bool true) := (blk_cell BK289.out 3).trans rfl
       have hcz32_4 : w24.cell? ⟨gb289, 4, none⟩ = some (.bool a0_4) := (blk_cell BK289.out 4).trans rfl
       have hcz32_5 : w24.cell? ⟨gb289, 5, none⟩ = some (.slice A0_5 l0_5.length c0_5) := (blk_cell BK289.out 5).trans rfl
       have hcz32_6 : w24.cell? ⟨gb289, 6, none⟩ = some (.slice A0_6 l0_6.length c0_6) := (blk_cell BK289.out 6).trans rfl
       have hcz32_7 : w24.cell? ⟨gb289, 7, none⟩ = some (.slice A0_7 l0_7.length c0_7) := (blk_cell BK289.out 7).trans rfl
       have hfz32_0 := blk_frozen BK289.out 0
       have hfz32_1 := blk_frozen BK289.out 1
       have hfz32_2 := blk_frozen BK289.out 2
       have hfz32_3 := blk_frozen BK289.out 3
       have hfz32_4 := blk_frozen BK289.out 4
       have hfz32_5 := blk_frozen BK289.out 5
       have hfz32_6 := blk_frozen BK289.out 6
       have hfz32_7 := blk_frozen BK289.out 7
       have hcz33_0 : w24.cell? ⟨gb324, 0, none⟩ = some (.int .i64 0) := (blk_cell BK324.out 0).trans rfl
       have hcz33_1 : w24.cell? ⟨gb324, 1, none⟩ = some (.int .i64 0) := (blk_cell BK324.out 1).trans rfl
       have hcz33_2 : w24.cell? ⟨gb324, 2, none⟩ = some (.int .i64 0) := (blk_cell BK324.out 2).trans rfl
       have hcz33_3 : w24.cell? ⟨gb324, 3, none⟩ = some (.bool false) := (blk_cell BK324.out 3).trans rfl
       have hcz33_4 : w24.cell? ⟨gb324, 4, none⟩ = some (.bool false) := (blk_cell BK324.out 4).trans rfl
       have hcz33_5 : w24.cell? ⟨gb324, 5, none⟩ = some (.slice none 0 0) := (blk_cell BK324.out 5).trans rfl
       have hcz33_6 : w24.cell? ⟨gb324, 6, none⟩ = some (.slice none 0 0) := (blk_cell BK324.out 6).trans rfl
       have hcz33_7 : w24.cell? ⟨gb324, 7, none⟩ = some (.slice none 0 0) := (blk_cell BK324.out 7).trans rfl
       have hfz33_0 := blk_frozen BK324.out 0
       have hfz33_1 := blk_frozen BK324.out 1
       have hfz33_2 := blk_frozen BK324.out 2
       have hfz33_3 := blk_frozen BK324.out 3
       have hfz33_4 := blk_frozen BK324.out 4
       have hfz33_5 := blk_frozen BK324.out 5
       have hfz33_6 := blk_frozen BK324.out 6
       have hfz33_7 := blk_frozen BK324.out 7
       go_wp2
       go_meet
       case rel => exact ⟨_, (true), H', ⟨by have := HJ5.out; first | omega | exact Nat.le_refl _⟩, ⟨by (with_reducible repeat (first | apply Kd.R_alloc | apply Kd.R_drewN | apply Kd.R_drew)); exact Kd.R_mono (Kd.R_far (p := ⟨gb324, 3, none⟩) (Kd.R_far (p := ⟨gb324, 2, none⟩) (Kd.R_far (p := ⟨gb324, 7, none⟩) (Kd.R_far (p := ⟨gb324, 6, none⟩) (Kd.R_far (p := ⟨gb324, 5, none⟩) (Kd.R_far (p := ⟨gb324, 4, none⟩) (Kd.R_far (p := ⟨gb324, 3, none⟩) (Kd.R_far (p := ⟨gb324, 2, none⟩) (Kd.R_far (p := ⟨gb324, 1, none⟩) (Kd.R_far (p := ⟨gb324, 0, none⟩) (Kd.R_types HO317.out BK324.out (by decide)) (fun _ hk => hk.2) (.int .i64 t310)) (fun _ hk => hk.2) (.int .i64 t311)) (fun _ hk => hk.2) (.int .i64 t312)) (fun _ hk => hk.2) (.bool t313)) (fun _ hk => hk.2) (.bool t314)) (fun _ hk => hk.2) (.slice Ao27 t315.length co27)) (fun _ hk => hk.2) (.slice Ao28 t318.length co28)) (fun _ hk => hk.2) (.slice Ao29 t321.length co29)) (fun _ hk => hk.2) (.int .i64 t307)) (fun _ hk => hk.2) (.bool true)) (fun _ hk => ⟨hk.1.1, hk.1.2⟩)⟩, ⟨by (with_reducible repeat (first | apply Kd.R_alloc | apply Kd.R_drewN | apply Kd.R_drew)); exact Kd.R_mono (Kd.R_far (p := ⟨gb324, 3, none⟩) (Kd.R_far (p := ⟨gb324, 2, none⟩) (Kd.R_far (p := ⟨gb324, 7, none⟩) (Kd.R_far (p := ⟨gb324, 6, none⟩) (Kd.R_far (p := ⟨gb324, 5, none⟩) (Kd.R_far (p := ⟨gb324, 4, none⟩) (Kd.R_far (p := ⟨gb324, 3, none⟩) (Kd.R_far (p := ⟨gb324, 2, none⟩) (Kd.R_far (p := ⟨gb324, 1, none⟩) (Kd.R_far (p := ⟨gb324, 0, none⟩) (Kd.R_types HO320.out BK324.out (by decide)) (fun _ hk => hk.2) (.int .i64 t310)) (fun _ hk => hk.2) (.int .i64 t311)) (fun _ hk => hk.2) (.int .i64 t312)) (fun _ hk => hk.2) (.bool t313)) (fun _ hk => hk.2) (.bool t314)) (fun _ hk => hk.2) (.slice Ao27 t315.length co27)) (fun _ hk => hk.2) (.slice Ao28 t318.length co28)) (fun _ hk => hk.2) (.slice Ao29 t321.length co29)) (fun _ hk => hk.2) (.int .i64 t307)) (fun _ hk => hk.2) (.bool true)) (fun _ hk => ⟨hk.1.1, hk.1.2⟩)⟩, ⟨by (with_reducible repeat (first | apply Kd.R_alloc | apply Kd.R_drewN | apply Kd.R_drew)); exact Kd.R_mono (Kd.R_far (p := ⟨gb324, 3, none⟩) (Kd.R_far (p := ⟨gb324, 2, none⟩) (Kd.R_far (p := ⟨gb324, 7, none⟩) (Kd.R_far (p := ⟨gb324, 6, none⟩) (Kd.R_far (p := ⟨gb324, 5, none⟩) (Kd.R_far (p := ⟨gb324, 4, none⟩) (Kd.R_far (p := ⟨gb324, 3, none⟩) (Kd.R_far (p := ⟨gb324, 2, none⟩) (Kd.R_far (p := ⟨gb324, 1, none⟩) (Kd.R_far (p := ⟨gb324, 0, none⟩) (Kd.R_types HO323.out BK324.out (by decide)) (fun _ hk => hk.2) (.int .i64 t310)) (fun _ hk => hk.2) (.int .i64 t311)) (fun _ hk => hk.2) (.int .i64 t312)) (fun _ hk => hk.2) (.bool t313)) (fun _ hk => hk.2) (.bool t314)) (fun _ hk => hk.2) (.slice Ao27 t315.length co27)) (fun _ hk => hk.2) (.slice Ao28 t318.length co28)) (fun _ hk => hk.2) (.slice Ao29 t321.length co29)) (fun _ hk => hk.2) (.int .i64 t307)) (fun _ hk => hk.2) (.bool true)) (fun _ hk => ⟨hk.1.1, hk.1.2⟩)⟩, ⟨by (with_reducible repeat (first | refine blk_drewN ?_ _ | refine blk_drew ?_ | refine blk_alloc ?_ _)); refine blk_far ?_ NB289_324.out _; (with_reducible repeat (first | refine blk_drewN ?_ _ | refine blk_drew ?_ | refine blk_alloc ?_ _)); refine blk_far ?_ NB289_324.out _; (with_reducible repeat (first | refine blk_drewN ?_ _ | refine blk_drew ?_ | refine blk_alloc ?_ _)); refine blk_far ?_ NB289_324.out _; (with_reducible repeat (first | refine blk_drewN ?_ _ | refine blk_drew ?_ | refine blk_alloc ?_ _)); refine blk_far ?_ NB289_324.out _; (with_reducible repeat (first | refine blk_drewN ?_ _ | refine blk_drew ?_ | refine blk_alloc ?_ _)); refine blk_far ?_ NB289_324.out _; (with_reducible repeat (first | refine blk_drewN ?_ _ | refine blk_drew ?_ | refine blk_alloc ?_ _)); refine blk_far ?_ NB289_324.out _; (with_reducible repeat (first | refine blk_drewN ?_ _ | refine blk_drew ?_ | refine blk_alloc ?_ _)); refine blk_far ?_ NB289_324.out _; (with_reducible repeat (first | refine blk_drewN ?_ _ | refine blk_drew ?_ | refine blk_alloc ?_ _)); refine blk_far ?_ NB289_324.out _; (with_reducible repeat (first | refine blk_drewN ?_ _ | refine blk_drew ?_ | refine blk_alloc ?_ _)); refine blk_far ?_ NB289_324.out _; (with_reducible repeat (first | refine blk_drewN ?_ _ | refine blk_drew ?_ | refine blk_alloc ?_ _)); refine blk_far ?_ NB289_324.out _; (with_reducible repeat (first | refine blk_drewN ?_ _ | refine blk_drew ?_ | refine blk_alloc ?_ _)); exact BK289.out⟩, ⟨by (with_reducible repeat (first | refine blk_drewN ?_ _ | refine blk_drew ?_ | refine blk_alloc ?_ _)); refine blk_put (cs := #[.int .i64 t310, .int .i64 t311, .int .i64 t307, .bool t313, .bool t314, .slice Ao27 t315.length co27, .slice Ao28 t318.length co28, .slice Ao29 t321.length co29]) ?_ 3 _ rfl; (with_reducible repeat (first | refine blk_drewN ?_ _ | refine blk_drew ?_ | refine blk_alloc ?_ _)); refine blk_put (cs := #[.int .i64 t310, .int .i64 t311, .int .i64 t312, .bool t313, .bool t314, .slice Ao27 t315.length co27, .slice Ao28 t318.length co28, .slice Ao29 t321.length co29]) ?_ 2 _ rfl; (with_reducible repeat (first | refine blk_drewN ?_ _ | refine blk_drew ?_ | refine blk_alloc ?_ _)); refine blk_put (cs := #[.int .i64 t310, .int .i64 t311, .int .i64 t312, .bool t313, .bool t314, .slice Ao27 t315.length co27, .slice Ao28 t318.length co28, .slice none 0 0]) ?_ 7 _ rfl; (with_reducible repeat (first | refine blk_drewN ?_ _ | refine blk_drew ?_ | refine blk_alloc ?_ _)); refine blk_put (cs := #[.int .i64 t310, .int .i64 t311, .int .i64 t312, .bool t313, .bool t314, .slice Ao27 t315.length co27, .slice none 0 0, .slice none 0 0]) ?_ 6 _ rfl; (with_reducible repeat (first | refine blk_drewN ?_ _ | refine blk_drew ?_ | refine blk_alloc ?_ _)); refine blk_put (cs := #[.int .i64 t310, .int .i64 t311, .int .i64 t312, .bool t313, .bool t314, .slice none 0 0, .slice none 0 0, .slice none 0 0]) ?_ 5 _ rfl; (with_reducible repeat (first | refine blk_drewN ?_ _ | refine blk_drew ?_ | refine blk_alloc ?_ _)); refine blk_put (cs := #[.int .i64 t310, .int .i64 t311, .int .i64 t312, .bool t313, .bool false, .slice none 0 0, .slice none 0 0, .slice none 0 0]) ?_ 4 _ rfl; (with_reducible repeat (first | refine blk_drewN ?_ _ | refine blk_drew ?_ | refine blk_alloc ?_ _)); refine blk_put (cs := #[.int .i64 t310, .int .i64 t311, .int .i64 t312, .bool false, .bool false, .slice none 0 0, .slice none 0 0, .slice none 0 0]) ?_ 3 _ rfl; (with_reducible repeat (first | refine blk_drewN ?_ _ | refine blk_drew ?_ | refine blk_alloc ?_ _)); refine blk_put (cs := #[.int .i64 t310, .int .i64 t311, .int .i64 0, .bool false, .bool false, .slice none 0 0, .slice none 0 0, .slice none 0 0]) ?_ 2 _ rfl; (with_reducible repeat (first | refine blk_drewN ?_ _ | refine blk_drew ?_ | refine blk_alloc ?_ _)); refine blk_put (cs := #[.int .i64 t310, .int .i64 0, .int .i64 0, .bool false, .bool false, .slice none 0 0, .slice none 0 0, .slice none 0 0]) ?_ 1 _ rfl; (with_reducible repeat (first | refine blk_drewN ?_ _ | refine blk_drew ?_ | refine blk_alloc ?_ _)); refine blk_put (cs := #[.int .i64 0, .int .i64 0, .int .i64 0, .bool false, .bool false, .slice none 0 0, .slice none 0 0, .slice none 0 0]) ?_ 0 _ rfl; (with_reducible repeat (first | refine blk_drewN ?_ _ | refine blk_drew ?_ | refine blk_alloc ?_ _)); exact BK324.out⟩, ⟨by repeat (first | (with_reducible first | exact HB.out | apply below_alloc | apply pw_below_drewN | apply below_drew1 | refine below_set ?_ GE289.out | refine below_set ?_ GE324.out) | exact HB.out)⟩⟩
      ·replace c30 := Bool.eq_false_iff.mpr c30
       subst c30
       have H1 : (newellaw20_CollectOnce.j1 kj5 t307 a0_0 a0_1 a0_2 false a0_4 l0_5 l0_6 l0_7 t310 t311 t307 (t307 == 1) t314 t315 t318 t321) = some r := by rw [if_neg (show ¬ (false = true) by decide)] at H; exact H
       clear H
       have H := H1
       clear H1
       have H' := Aside0.mk H
       clear H
       have hnb34 := NB289_324.out
       have hnc34 := NB324_289.out
       have hcz35_0 : w24.cell? ⟨gb289, 0, none⟩ = some (.int .i64 a0_0) := (blk_cell BK289.out 0).trans rfl
       have hcz35_1 : w24.cell? ⟨gb289, 1, none⟩ = some (.int .i64 a0_1) := (blk_cell BK289.out 1).trans rfl
       have hcz35_2 : w24.cell? ⟨gb289, 2, none⟩ = some (.int .i64 a0_2) := (blk_cell BK289.out 2).trans rfl
       have hcz35_3 : w24.cell? ⟨gb289, 3, none⟩ = some (.bool false) := (blk_cell BK289.out 3).trans rfl
       have hcz35_4 : w24.cell? ⟨gb289, 4, none⟩ = some (.bool a0_4) := (blk_cell BK289.out 4).trans rfl
       have hcz35_5 : w24.cell? ⟨gb289, 5, none⟩ = some (.slice A0_5 l0_5.length c0_5) := (blk_cell BK289.out 5).trans rfl
       have hcz35_6 : w24.cell? ⟨gb289, 6, none⟩ = some (.slice A0_6 l0_6.length c0_6) := (blk_cell BK289.out 6).trans rfl
       have hcz35_7 : w24.cell? ⟨gb289, 7, none⟩ = some (.slice A0_7 l0_7.length c0_7) := (blk_cell BK289.out 7).trans rfl
       have hfz35_0 := blk_frozen BK289.out 0
       have hfz35_1 := blk_frozen BK289.out 1
       have hfz35_2 := blk_frozen BK289.out 2
       have hfz35_3 := blk_frozen BK289.out 3
       have hfz35_4 := blk_frozen BK289.out 4
       have hfz35_5 := blk_frozen BK289.out 5
       have hfz35_6 := blk_frozen BK289.out 6
       have hfz35_7 := blk_frozen BK289.out 7
       have hcz36_0 : w24.cell? ⟨gb324, 0, none⟩ = some (.int .i64 0) := (blk_cell BK324.out 0).trans rfl
       have hcz36_1 : w24.cell? ⟨gb324, 1, none⟩ = some (.int .i64 0) := (blk_cell BK324.out 1).trans rfl
       have hcz36_2 : w24.cell? ⟨gb324, 2, none⟩ = some (.int .i64 0) := (blk_cell BK324.out 2).trans rfl
       have hcz36_3 : w24.cell? ⟨gb324, 3, none⟩ = some (.bool false) := (blk_cell BK324.out 3).trans rfl
       have hcz36_4 : w24.cell? ⟨gb324, 4, none⟩ = some (.bool false) := (blk_cell BK324.out 4).trans rfl
       have hcz36_5 : w24.cell? ⟨gb324, 5, none⟩ = some (.slice none 0 0) := (blk_cell BK324.out 5).trans rfl
       have hcz36_6 : w24.cell? ⟨gb324, 6, none⟩ = some (.slice none 0 0) := (blk_cell BK324.out 6).trans rfl
       have hcz36_7 : w24.cell? ⟨gb324, 7, none⟩ = some (.slice none 0 0) := (blk_cell BK324.out 7).trans rfl
       have hfz36_0 := blk_frozen BK324.out 0
       have hfz36_1 := blk_frozen BK324.out 1
       have hfz36_2 := blk_frozen BK324.out 2
       have hfz36_3 := blk_frozen BK324.out 3
       have hfz36_4 := blk_frozen BK324.out 4
       have hfz36_5 := blk_frozen BK324.out 5
       have hfz36_6 := blk_frozen BK324.out 6
       have hfz36_7 := blk_frozen BK324.out 7
       go_wp2
       go_meet
       case rel => exact ⟨_, ((t307 == 1)), H', ⟨by have := HJ5.out; first | omega | exact Nat.le_refl _⟩, ⟨by (with_reducible repeat (first | apply Kd.R_alloc | apply Kd.R_drewN | apply Kd.R_drew)); exact Kd.R_mono (Kd.R_far (p := ⟨gb324, 3, none⟩) (Kd.R_far (p := ⟨gb324, 2, none⟩) (Kd.R_far (p := ⟨gb324, 7, none⟩) (Kd.R_far (p := ⟨gb324, 6, none⟩) (Kd.R_far (p := ⟨gb324, 5, none⟩) (Kd.R_far (p := ⟨gb324, 4, none⟩) (Kd.R_far (p := ⟨gb324, 3, none⟩) (Kd.R_far (p := ⟨gb324, 2, none⟩) (Kd.R_far (p := ⟨gb324, 1, none⟩) (Kd.R_far (p := ⟨gb324, 0, none⟩) (Kd.R_types HO317.out BK324.out (by decide)) (fun _ hk => hk.2) (.int .i64 t310)) (fun _ hk => hk.2) (.int .i64 t311)) (fun _ hk => hk.2) (.int .i64 t312)) (fun _ hk => hk.2) (.bool t313)) (fun _ hk => hk.2) (.bool t314)) (fun _ hk => hk.2) (.slice Ao27 t315.length co27)) (fun _ hk => hk.2) (.slice Ao28 t318.length co28)) (fun _ hk => hk.2) (.slice Ao29 t321.length co29)) (fun _ hk => hk.2) (.int .i64 t307)) (fun _ hk => hk.2) (.bool (t307 == 1))) (fun _ hk => ⟨hk.1.1, hk.1.2⟩)⟩, ⟨by (with_reducible repeat (first | apply Kd.R_alloc | apply Kd.R_drewN | apply Kd.R_drew)); exact Kd.R_mono (Kd.R_far (p := ⟨gb324, 3, none⟩) (Kd.R_far (p := ⟨gb324, 2, none⟩) (Kd.R_far (p := ⟨gb324, 7, none⟩) (Kd.R_far (p := ⟨gb324, 6, none⟩) (Kd.R_far (p := ⟨gb324, 5, none⟩) (Kd.R_far (p := ⟨gb324, 4, none⟩) (Kd.R_far (p := ⟨gb324, 3, none⟩) (Kd.R_far (p := ⟨gb324, 2, none⟩) (Kd.R_far (p := ⟨gb324, 1, none⟩) (Kd.R_far (p := ⟨gb324, 0, none⟩) (Kd.R_types HO320.out BK324.out (by decide)) (fun _ hk => hk.2) (.int .i64 t310)) (fun _ hk => hk.2) (.int .i64 t311)) (fun _ hk => hk.2) (.int .i64 t312)) (fun _ hk => hk.2) (.bool t313)) (fun _ hk => hk.2) (.bool t314)) (fun _ hk => hk.2) (.slice Ao27 t315.length co27)) (fun _ hk => hk.2) (.slice Ao28 t318.length co28)) (fun _ hk => hk.2) (.slice Ao29 t321.length co29)) (fun _ hk => hk.2) (.int .i64 t307)) (fun _ hk => hk.2) (.bool (t307 == 1))) (fun _ hk => ⟨hk.1.1, hk.1.2⟩)⟩, ⟨by (with_reducible repeat (first | apply Kd.R_alloc | apply Kd.R_drewN | apply Kd.R_drew)); exact Kd.R_mono (Kd.R_far (p := ⟨gb324, 3, none⟩) (Kd.R_far (p := ⟨gb324, 2, none⟩) (Kd.R_far (p := ⟨gb324, 7, none⟩) (Kd.R_far (p := ⟨gb324, 6, none⟩) (Kd.R_far (p := ⟨gb324, 5, none⟩) (Kd.R_far (p := ⟨gb324, 4, none⟩) (Kd.R_far (p := ⟨gb324, 3, none⟩) (Kd.R_far (p := ⟨gb324, 2, none⟩) (Kd.R_far (p := ⟨gb324, 1, none⟩) (Kd.R_far (p := ⟨gb324, 0, none⟩) (Kd.R_types HO323.out BK324.out (by decide)) (fun _ hk => hk.2) (.int .i64 t310)) (fun _ hk => hk.2) (.int .i64 t311)) (fun _ hk => hk.2) (.int .i64 t312)) (fun _ hk => hk.2) (.bool t313)) (fun _ hk => hk.2) (.bool t314)) (fun _ hk => hk.2) (.slice Ao27 t315.length co27)) (fun _ hk => hk.2) (.slice Ao28 t318.length co28)) (fun _ hk => hk.2) (.slice Ao29 t321.length co29)) (fun _ hk => hk.2) (.int .i64 t307)) (fun _ hk => hk.2) (.bool (t307 == 1))) (fun _ hk => ⟨hk.1.1, hk.1.2⟩)⟩, ⟨by (with_reducible repeat (first | refine blk_drewN ?_ _ | refine blk_drew ?_ | refine blk_alloc ?_ _)); refine blk_far ?_ NB289_324.out _; (with_reducible repeat (first | refine blk_drewN ?_ _ | refine blk_drew ?_ | refine blk_alloc ?_ _)); refine blk_far ?_ NB289_324.out _; (with_reducible repeat (first | refine blk_drewN ?_ _ | refine blk_drew ?_ | refine blk_alloc ?_ _)); refine blk_far ?_ NB289_324.out _; (with_reducible repeat (first | refine blk_drewN ?_ _ | refine blk_drew ?_ | refine blk_alloc ?_ _)); refine blk_far ?_ NB289_324.out _; (with_reducible repeat (first | refine blk_drewN ?_ _ | refine blk_drew ?_ | refine blk_alloc ?_ _)); refine blk_far ?_ NB289_324.out _; (with_reducible repeat (first | refine blk_drewN ?_ _ | refine blk_drew ?_ | refine blk_alloc ?_ _)); refine blk_far ?_ NB289_324.out _; (with_reducible repeat (first | refine blk_drewN ?_ _ | refine blk_drew ?_ | refine blk_alloc ?_ _)); refine blk_far ?_ NB289_324.out _; (with_reducible repeat (first | refine blk_drewN ?_ _ | refine blk_drew ?_ | refine blk_alloc ?_ _)); refine blk_far ?_ NB289_324.out _; (with_reducible repeat (first | refine blk_drewN ?_ _ | refine blk_drew ?_ | refine blk_alloc ?_ _)); refine blk_far ?_ NB289_324.out _; (with_reducible repeat (first | refine blk_drewN ?_ _ | refine blk_drew ?_ | refine blk_alloc ?_ _)); refine blk_far ?_ NB289_324.out _; (with_reducible repeat (first | refine blk_drewN ?_ _ | refine blk_drew ?_ | refine blk_alloc ?_ _)); exact BK289.out⟩, ⟨by (with_reducible repeat (first | refine blk_drewN ?_ _ | refine blk_drew ?_ | refine blk_alloc ?_ _)); refine blk_put (cs := #[.int .i64 t310, .int .i64 t311, .int .i64 t307, .bool t313, .bool t314, .slice Ao27 t315.length co27, .slice Ao28 t318.length co28, .slice Ao29 t321.length co29]) ?_ 3 _ rfl; (with_reducible repeat (first | refine blk_drewN ?_ _ | refine blk_drew ?_ | refine blk_alloc ?_ _)); refine blk_put (cs := #[.int .i64 t310, .int .i64 t311, .int .i64 t312, .bool t313, .bool t314, .slice Ao27 t315.length co27, .slice Ao28 t318.length co28, .slice Ao29 t321.length co29]) ?_ 2 _ rfl; (with_reducible repeat (first | refine blk_drewN ?_ _ | refine blk_drew ?_ | refine blk_alloc ?_ _)); refine blk_put (cs := #[.int .i64 t310, .int .i64 t311, .int .i64 t312, .bool t313, .bool t314, .slice Ao27 t315.length co27, .slice Ao28 t318.length co28, .slice none 0 0]) ?_ 7 _ rfl; (with_reducible repeat (first | refine blk_drewN ?_ _ | refine blk_drew ?_ | refine blk_alloc ?_ _)); refine blk_put (cs := #[.int .i64 t310, .int .i64 t311, .int .i64 t312, .bool t313, .bool t314, .slice Ao27 t315.length co27, .slice none 0 0, .slice none 0 0]) ?_ 6 _ rfl; (with_reducible repeat (first | refine blk_drewN ?_ _ | refine blk_drew ?_ | refine blk_alloc ?_ _)); refine blk_put (cs := #[.int .i64 t310, .int .i64 t311, .int .i64 t312, .bool t313, .bool t314, .slice none 0 0, .slice none 0 0, .slice none 0 0]) ?_ 5 _ rfl; (with_reducible repeat (first | refine blk_drewN ?_ _ | refine blk_drew ?_ | refine blk_alloc ?_ _)); refine blk_put (cs := #[.int .i64 t310, .int .i64 t311, .int .i64 t312, .bool t313, .bool false, .slice none 0 0, .slice none 0 0, .slice none 0 0]) ?_ 4 _ rfl; (with_reducible repeat (first | refine blk_drewN ?_ _ | refine blk_drew ?_ | refine blk_alloc ?_ _)); refine blk_put (cs := #[.int .i64 t310, .int .i64 t311, .int .i64 t312, .bool false, .bool false, .slice none 0 0, .slice none 0 0, .slice none 0 0]) ?_ 3 _ rfl; (with_reducible repeat (first | refine blk_drewN ?_ _ | refine blk_drew ?_ | refine blk_alloc ?_ _)); refine blk_put (cs := #[.int .i64 t310, .int .i64 t311, .int .i64 0, .bool false, .bool false, .slice none 0 0, .slice none 0 0, .slice none 0 0]) ?_ 2 _ rfl; (with_reducible repeat (first | refine blk_drewN ?_ _ | refine blk_drew ?_ | refine blk_alloc ?_ _)); refine blk_put (cs := #[.int .i64 t310, .int .i64 0, .int .i64 0, .bool false, .bool false, .slice none 0 0, .slice none 0 0, .slice none 0 0]) ?_ 1 _ rfl; (with_reducible repeat (first | refine blk_drewN ?_ _ | refine blk_drew ?_ | refine blk_alloc ?_ _)); refine blk_put (cs := #[.int .i64 0, .int .i64 0, .int .i64 0, .bool false, .bool false, .slice none 0 0, .slice none 0 0, .slice none 0 0]) ?_ 0 _ rfl; (with_reducible repeat (first | refine blk_drewN ?_ _ | refine blk_drew ?_ | refine blk_alloc ?_ _)); exact BK324.out⟩, ⟨by repeat (first | (with_reducible first | exact HB.out | apply below_alloc | apply pw_below_drewN | apply below_drew1 | refine below_set ?_ GE289.out | refine below_set ?_ GE324.out) | exact HB.out)⟩⟩
     case rest =>
      clear HC21
      try clear c1
      try clear c2
      try clear p2
      try clear c3
      try clear c6
      try clear c9
      try clear c10
      try clear c11
      try clear c12
      try clear c16
      try clear c16b0
      try clear c16b1
      try clear c17
      try clear c25
      try clear c30
      try clear c31
      try clear c34
      try clear hcz10_0
      try clear hcz10_1
      try clear hcz10_2
      try clear hcz10_3
      try clear hcz10_4
      try clear hcz10_5
      try clear hcz10_6
      try clear hcz10_7
      try clear hcz22_0
      try clear hcz22_1
      try clear hcz22_2
      try clear hcz22_3
      try clear hcz22_4
      try clear hcz22_5
      try clear hcz22_6
      try clear hcz22_7
      try clear hcz26_0
      try clear hcz26_1
      try clear hcz26_2
      try clear hcz26_3
      try clear hcz26_4
      try clear hcz26_5
      try clear hcz26_6
      try clear hcz26_7
      try clear hcz32_0
      try clear hcz32_1
      try clear hcz32_2
      try clear hcz32_3
      try clear hcz32_4
      try clear hcz32_5
      try clear hcz32_6
      try clear hcz32_7
      try clear hcz33_0
      try clear hcz33_1
      try clear hcz33_2
      try clear hcz33_3
      try clear hcz33_4
      try clear hcz33_5
      try clear hcz33_6
      try clear hcz33_7
      try clear hcz35_0
      try clear hcz35_1
      try clear hcz35_2
      try clear hcz35_3
      try clear hcz35_4
      try clear hcz35_5
      try clear hcz35_6
      try clear hcz35_7
      try clear hcz36_0
      try clear hcz36_1
      try clear hcz36_2
      try clear hcz36_3
      try clear hcz36_4
      try clear hcz36_5
      try clear hcz36_6
      try clear hcz36_7
      try clear hcz8_0
      try clear hcz8_1
      try clear hcz8_2
      try clear hcz8_3
      try clear hcz8_4
      try clear hcz8_5
      try clear hcz8_6
      try clear hcz8_7
      try clear hfz10_0
      try clear hfz10_1
      try clear hfz10_2
      try clear hfz10_3
      try clear hfz10_4
      try clear hfz10_5
      try clear hfz10_6
      try clear hfz10_7
      try clear hfz22_0
      try clear hfz22_1
      try clear hfz22_2
      try clear hfz22_3
      try clear hfz22_4
      try clear hfz22_5
      try clear hfz22_6
      try clear hfz22_7
      try clear hfz26_0
      try clear hfz26_1
      try clear hfz26_2
      try clear hfz26_3
      try clear hfz26_4
      try clear hfz26_5
      try clear hfz26_6
      try clear hfz26_7
      try clear hfz32_0
      try clear hfz32_1
      try clear hfz32_2
      try clear hfz32_3
      try clear hfz32_4
      try clear hfz32_5
      try clear hfz32_6
      try clear hfz32_7
      try clear hfz33_0
      try clear hfz33_1
      try clear hfz33_2
      try clear hfz33_3
      try clear hfz33_4
      try clear hfz33_5
      try clear hfz33_6
      try clear hfz33_7
      try clear hfz35_0
      try clear hfz35_1
      try clear hfz35_2
      try clear hfz35_3
      try clear hfz35_4
      try clear hfz35_5
      try clear hfz35_6
      try clear hfz35_7
      try clear hfz36_0
      try clear hfz36_1
      try clear hfz36_2
      try clear hfz36_3
      try clear hfz36_4
      try clear hfz36_5
      try clear hfz36_6
      try clear hfz36_7
      try clear hfz8_0
      try clear hfz8_1
      try clear hfz8_2
      try clear hfz8_3
      try clear hfz8_4
      try clear hfz8_5
      try clear hfz8_6
      try clear hfz8_7
      try clear p2
      obtain ⟨kq, x325003_20, HA, HJ20, HO_325005, HO_325006, HO_325007, BK289, BK324, HB⟩ := hcut
      cases kq with
      | zero => exact absurd HA.out (by simp [newellaw20_CollectOnce.j1])
      | succ kj20 =>
       have H := HA.out
       clear HA
       simp only [newellaw20_CollectOnce.j1] at H
       have HC37 := Aside0.mk H
       clear H
       go_upto_region 9 with (fail)
       go_cut [] (fun wc => ∃ (kq : Nat) (x325004_36 : Bool), Aside0 (newellaw20_CollectOnce.j2 kq t307 a0_0 a0_1 a0_2 a0_3 a0_4 l0_5 l0_6 l0_7 t310 t311 t307 x325003_20 x325004_36 t315 t318 t321 = some r) ∧ Aside0 (kq ≤ kj20) ∧ Aside0 (Kd.R (Kd.int .i64) 3 wc w.heap.size (fun k_ => some k_ ≠ ((.slice Ao28 t318.length co28) : Value).ownBlock ∧ some k_ ≠ ((.slice Ao29 t321.length co29) : Value).ownBlock) (.slice Ao27 t315.length co27) t315) ∧ Aside0 (Kd.R (Kd.int .i64) 3 wc w.heap.size (fun k_ => some k_ ≠ ((.slice Ao27 t315.length co27) : Value).ownBlock ∧ some k_ ≠ ((.slice Ao29 t321.length co29) : Value).ownBlock) (.slice Ao28 t318.length co28) t318) ∧ Aside0 (Kd.R (Kd.int .i64) 3 wc w.heap.size (fun k_ => some k_ ≠ ((.slice Ao27 t315.length co27) : Value).ownBlock ∧ some k_ ≠ ((.slice Ao28 t318.length co28) : Value).ownBlock) (.slice Ao29 t321.length co29) t321) ∧ Aside0 (wc.heap[gb289]? = some (.cells #[.int .i64 a0_0, .int .i64 a0_1, .int .i64 a0_2, .bool a0_3, .bool a0_4, (.slice A0_5 l0_5.length c0_5), (.slice A0_6 l0_6.length c0_6), (.slice A0_7 l0_7.length c0_7)] 26 (0, 0))) ∧ Aside0 (wc.heap[gb324]? = some (.cells #[.int .i64 t310, .int .i64 t311, .int .i64 t307, .bool x325003_20, .bool x325004_36, (.slice Ao27 t315.length co27), (.slice Ao28 t318.length co28), (.slice Ao29 t321.length co29)] 26 (0, 0))) ∧ Aside0 (Below w.heap.size w wc))
       case first =>
        have H := HC37.out
        clear HC37
        by_cases c38 : a0_4 = true
        ·subst c38
         have H1 : (newellaw20_CollectOnce.j2 kj20 t307 a0_0 a0_1 a0_2 a0_3 true l0_5 l0_6 l0_7 t310 t311 t307 x325003_20 true t315 t318 t321) = some r := by rw [if_pos rfl] at H; exact H
         clear H
         have H := H1
         clear H1
         have H' := Aside0.mk H
         clear H
         have hnb39 := NB289_324.out
         have hnc39 := NB324_289.out
         have hcz40_0 : wc.cell? ⟨gb289, 0, none⟩ = some (.int .i64 a0_0) := (blk_cell BK289.out 0).trans rfl
         have hcz40_1 : wc.cell? ⟨gb289, 1, none⟩ = some (.int .i64 a0_1) := (blk_cell BK289.out 1).trans rfl
         have hcz40_2 : wc.cell? ⟨gb289, 2, none⟩ = some (.int .i64 a0_2) := (blk_cell BK289.out 2).trans rfl
         have hcz40_3 : wc.cell? ⟨gb289, 3, none⟩ = some (.bool a0_3) := (blk_cell BK289.out 3).trans rfl
         have hcz40_4 : wc.cell? ⟨gb289, 4, none⟩ = some (.bool true) := (blk_cell BK289.out 4).trans rfl
         have hcz40_5 : wc.cell? ⟨gb289, 5, none⟩ = some (.slice A0_5 l0_5.length c0_5) := (blk_cell BK289.out 5).trans rfl
         have hcz40_6 : wc.cell? ⟨gb289, 6, none⟩ = some (.slice A0_6 l0_6.length c0_6) := (blk_cell BK289.out 6).trans rfl
         have hcz40_7 : wc.cell? ⟨gb289, 7, none⟩ = some (.slice A0_7 l0_7.length c0_7) := (blk_cell BK289.out 7).trans rfl
         have hfz40_0 := blk_frozen BK289.out 0
         have hfz40_1 := blk_frozen BK289.out 1
         have hfz40_2 := blk_frozen BK289.out 2
         have hfz40_3 := blk_frozen BK289.out 3
         have hfz40_4 := blk_frozen BK289.out 4
         have hfz40_5 := blk_frozen BK289.out 5
         have hfz40_6 := blk_frozen BK289.out 6
         have hfz40_7 := blk_frozen BK289.out 7
         have hcz41_0 : wc.cell? ⟨gb324, 0, none⟩ = some (.int .i64 t310) := (blk_cell BK324.out 0).trans rfl
         have hcz41_1 : wc.cell? ⟨gb324, 1, none⟩ = some (.int .i64 t311) := (blk_cell BK324.out 1).trans rfl
         have hcz41_2 : wc.cell? ⟨gb324, 2, none⟩ = some (.int .i64 t307) := (blk_cell BK324.out 2).trans rfl
         have hcz41_3 : wc.cell? ⟨gb324, 3, none⟩ = some (.bool x325003_20) := (blk_cell BK324.out 3).trans rfl
         have hcz41_4 : wc.cell? ⟨gb324, 4, none⟩ = some (.bool t314) := (blk_cell BK324.out 4).trans rfl
         have hcz41_5 : wc.cell? ⟨gb324, 5, none⟩ = some (.slice Ao27 t315.length co27) := (blk_cell BK324.out 5).trans rfl
         have hcz41_6 : wc.cell? ⟨gb324, 6, none⟩ = some (.slice Ao28 t318.length co28) := (blk_cell BK324.out 6).trans rfl
         have hcz41_7 : wc.cell? ⟨gb324, 7, none⟩ = some (.slice Ao29 t321.length co29) := (blk_cell BK324.out 7).trans rfl
         have hfz41_0 := blk_frozen BK324.out 0
         have hfz41_1 := blk_frozen BK324.out 1
         have hfz41_2 := blk_frozen BK324.out 2
         have hfz41_3 := blk_frozen BK324.out 3
         have hfz41_4 := blk_frozen BK324.out 4
         have hfz41_5 := blk_frozen BK324.out 5
         have hfz41_6 := blk_frozen BK324.out 6
         have hfz41_7 := blk_frozen BK324.out 7
         go_wp2
         go_meet
         case rel => exact ⟨_, (true), H', ⟨by have := HJ5.out; have := HJ20.out; first | omega | exact Nat.le_refl _⟩, ⟨by (with_reducible repeat (first | apply Kd.R_alloc | apply Kd.R_drewN | apply Kd.R_drew)); exact Kd.R_mono (Kd.R_far (p := ⟨gb324, 4, none⟩) (Kd.R_types HO_325005.out BK324.out (by decide)) (fun _ hk => hk.2) (.bool true)) (fun _ hk => ⟨hk.1.1, hk.1.2⟩)⟩, ⟨by (with_reducible repeat (first | apply Kd.R_alloc | apply Kd.R_drewN | apply Kd.R_drew)); exact Kd.R_mono (Kd.R_far (p := ⟨gb324, 4, none⟩) (Kd.R_types HO_325006.out BK324.out (by decide)) (fun _ hk => hk.2) (.bool true)) (fun _ hk => ⟨hk.1.1, hk.1.2⟩)⟩, ⟨by (with_reducible repeat (first | apply Kd.R_alloc | apply Kd.R_drewN | apply Kd.R_drew)); exact Kd.R_mono (Kd.R_far (p := ⟨gb324, 4, none⟩) (Kd.R_types HO_325007.out BK324.out (by decide)) (fun _ hk => hk.2) (.bool true)) (fun _ hk => ⟨hk.1.1, hk.1.2⟩)⟩, ⟨by (with_reducible repeat (first | refine blk_drewN ?_ _ | refine blk_drew ?_ | refine blk_alloc ?_ _)); refine blk_far ?_ NB289_324.out _; (with_reducible repeat (first | refine blk_drewN ?_ _ | refine blk_drew ?_ | refine blk_alloc ?_ _)); exact BK289.out⟩, ⟨by (with_reducible repeat (first | refine blk_drewN ?_ _ | refine blk_drew ?_ | refine blk_alloc ?_ _)); refine blk_put (cs := #[.int .i64 t310, .int .i64 t311, .int .i64 t307, .bool x325003_20, .bool t314, .slice Ao27 t315.length co27, .slice Ao28 t318.length co28, .slice Ao29 t321.length co29]) ?_ 4 _ rfl; (with_reducible repeat (first | refine blk_drewN ?_ _ | refine blk_drew ?_ | refine blk_alloc ?_ _)); exact BK324.out⟩, ⟨by repeat (first | (with_reducible first | exact HB.out | apply below_alloc | apply pw_below_drewN | apply below_drew1 | refine below_set ?_ GE289.out | refine below_set ?_ GE324.out) | exact HB.out)⟩⟩
        ·replace c38 := Bool.eq_false_iff.mpr c38
         subst c38
         have H1 : (newellaw20_CollectOnce.j2 kj20 t307 a0_0 a0_1 a0_2 a0_3 false l0_5 l0_6 l0_7 t310 t311 t307 x325003_20 (t307 == (-1)) t315 t318 t321) = some r := by rw [if_neg (show ¬ (false = true) by decide)] at H; exact H
         clear H
         have H := H1
         clear H1
         have H' := Aside0.mk H
         clear H
         have hnb42 := NB289_324.out
         have hnc42 := NB324_289.out
         have hcz43_0 : wc.cell? ⟨gb289, 0, none⟩ = some (.int .i64 a0_0) := (blk_cell BK289.out 0).trans rfl
         have hcz43_1 : wc.cell? ⟨gb289, 1, none⟩ = some (.int .i64 a0_1) := (blk_cell BK289.out 1).trans rfl
         have hcz43_2 : wc.cell? ⟨gb289, 2, none⟩ = some (.int .i64 a0_2) := (blk_cell BK289.out 2).trans rfl
         have hcz43_3 : wc.cell? ⟨gb289, 3, none⟩ = some (.bool a0_3) := (blk_cell BK289.out 3).trans rfl
         have hcz43_4 : wc.cell? ⟨gb289, 4, none⟩ = some (.bool false) := (blk_cell BK289.out 4).trans rfl
         have hcz43_5 : wc.cell? ⟨gb289, 5, none⟩ = some (.slice A0_5 l0_5.length c0_5) := (blk_cell BK289.out 5).trans rfl
         have hcz43_6 : wc.cell? ⟨gb289, 6, none⟩ = some (.slice A0_6 l0_6.length c0_6) := (blk_cell BK289.out 6).trans rfl
         have hcz43_7 : wc.cell? ⟨gb289, 7, none⟩ = some (.slice A0_7 l0_7.length c0_7) := (blk_cell BK289.out 7).trans rfl
         have hfz43_0 := blk_frozen BK289.out 0
         have hfz43_1 := blk_frozen BK289.out 1
         have hfz43_2 := blk_frozen BK289.out 2
         have hfz43_3 := blk_frozen BK289.out 3
         have hfz43_4 := blk_frozen BK289.out 4
         have hfz43_5 := blk_frozen BK289.out 5
         have hfz43_6 := blk_frozen BK289.out 6
         have hfz43_7 := blk_frozen BK289.out 7
         have hcz44_0 : wc.cell? ⟨gb324, 0, none⟩ = some (.int .i64 t310) := (blk_cell BK324.out 0).trans rfl
         have hcz44_1 : wc.cell? ⟨gb324, 1, none⟩ = some (.int .i64 t311) := (blk_cell BK324.out 1).trans rfl
         have hcz44_2 : wc.cell? ⟨gb324, 2, none⟩ = some (.int .i64 t307) := (blk_cell BK324.out 2).trans rfl
         have hcz44_3 : wc.cell? ⟨gb324, 3, none⟩ = some (.bool x325003_20) := (blk_cell BK324.out 3).trans rfl
         have hcz44_4 : wc.cell? ⟨gb324, 4, none⟩ = some (.bool t314) := (blk_cell BK324.out 4).trans rfl
         have hcz44_5 : wc.cell? ⟨gb324, 5, none⟩ = some (.slice Ao27 t315.length co27) := (blk_cell BK324.out 5).trans rfl
         have hcz44_6 : wc.cell? ⟨gb324, 6, none⟩ = some (.slice Ao28 t318.length co28) := (blk_cell BK324.out 6).trans rfl
         have hcz44_7 : wc.cell? ⟨gb324, 7, none⟩ = some (.slice Ao29 t321.length co29) := (blk_cell BK324.out 7).trans rfl
         have hfz44_0 := blk_frozen BK324.out 0
         have hfz44_1 := blk_frozen BK324.out 1
         have hfz44_2 := blk_frozen BK324.out 2
         have hfz44_3 := blk_frozen BK324.out 3
         have hfz44_4 := blk_frozen BK324.out 4
         have hfz44_5 := blk_frozen BK324.out 5
         have hfz44_6 := blk_frozen BK324.out 6
         have hfz44_7 := blk_frozen BK324.out 7
         go_wp2
         go_meet
         case rel => exact ⟨_, ((t307 == (-1))), H', ⟨by have := HJ5.out; have := HJ20.out; first | omega | exact Nat.le_refl _⟩, ⟨by (with_reducible repeat (first | apply Kd.R_alloc | apply Kd.R_drewN | apply Kd.R_drew)); exact Kd.R_mono (Kd.R_far (p := ⟨gb324, 4, none⟩) (Kd.R_types HO_325005.out BK324.out (by decide)) (fun _ hk => hk.2) (.bool (t307 == (-1)))) (fun _ hk => ⟨hk.1.1, hk.1.2⟩)⟩, ⟨by (with_reducible repeat (first | apply Kd.R_alloc | apply Kd.R_drewN | apply Kd.R_drew)); exact Kd.R_mono (Kd.R_far (p := ⟨gb324, 4, none⟩) (Kd.R_types HO_325006.out BK324.out (by decide)) (fun _ hk => hk.2) (.bool (t307 == (-1)))) (fun _ hk => ⟨hk.1.1, hk.1.2⟩)⟩, ⟨by (with_reducible repeat (first | apply Kd.R_alloc | apply Kd.R_drewN | apply Kd.R_drew)); exact Kd.R_mono (Kd.R_far (p := ⟨gb324, 4, none⟩) (Kd.R_types HO_325007.out BK324.out (by decide)) (fun _ hk => hk.2) (.bool (t307 == (-1)))) (fun _ hk => ⟨hk.1.1, hk.1.2⟩)⟩, ⟨by (with_reducible repeat (first | refine blk_drewN ?_ _ | refine blk_drew ?_ | refine blk_alloc ?_ _)); refine blk_far ?_ NB289_324.out _; (with_reducible repeat (first | refine blk_drewN ?_ _ | refine blk_drew ?_ | refine blk_alloc ?_ _)); exact BK289.out⟩, ⟨by (with_reducible repeat (first | refine blk_drewN ?_ _ | refine blk_drew ?_ | refine blk_alloc ?_ _)); refine blk_put (cs := #[.int .i64 t310, .int .i64 t311, .int .i64 t307, .bool x325003_20, .bool t314, .slice Ao27 t315.length co27, .slice Ao28 t318.length co28, .slice Ao29 t321.length co29]) ?_ 4 _ rfl; (with_reducible repeat (first | refine blk_drewN ?_ _ | refine blk_drew ?_ | refine blk_alloc ?_ _)); exact BK324.out⟩, ⟨by repeat (first | (with_reducible first | exact HB.out | apply below_alloc | apply pw_below_drewN | apply below_drew1 | refine below_set ?_ GE289.out | refine below_set ?_ GE324.out) | exact HB.out)⟩⟩
       case rest =>
        clear HC37
        try clear c1
        try clear c2
        try clear p2
        try clear c3
        try clear c4
        try clear c6
        try clear c9
        try clear c10
        try clear c11
        try clear c12
        try clear c16
        try clear c16b0
        try clear c16b1
        try clear c17
        try clear c25
        try clear c30
        try clear c31
        try clear c34
        try clear c38
        try clear c39
        try clear c42
        try clear hcz10_0
        try clear hcz10_1
        try clear hcz10_2
        try clear hcz10_3
        try clear hcz10_4
        try clear hcz10_5
        try clear hcz10_6
        try clear hcz10_7
        try clear hcz22_0
        try clear hcz22_1
        try clear hcz22_2
        try clear hcz22_3
        try clear hcz22_4
        try clear hcz22_5
        try clear hcz22_6
        try clear hcz22_7
        try clear hcz26_0
        try clear hcz26_1
        try clear hcz26_2
        try clear hcz26_3
        try clear hcz26_4
        try clear hcz26_5
        try clear hcz26_6
        try clear hcz26_7
        try clear hcz32_0
        try clear hcz32_1
        try clear hcz32_2
        try clear hcz32_3
        try clear hcz32_4
        try clear hcz32_5
        try clear hcz32_6
        try clear hcz32_7
        try clear hcz33_0
        try clear hcz33_1
        try clear hcz33_2
        try clear hcz33_3
        try clear hcz33_4
        try clear hcz33_5
        try clear hcz33_6
        try clear hcz33_7
        try clear hcz35_0
        try clear hcz35_1
        try clear hcz35_2
        try clear hcz35_3
        try clear hcz35_4
        try clear hcz35_5
        try clear hcz35_6
        try clear hcz35_7
        try clear hcz36_0
        try clear hcz36_1
        try clear hcz36_2
        try clear hcz36_3
        try clear hcz36_4
        try clear hcz36_5
        try clear hcz36_6
        try clear hcz36_7
        try clear hcz40_0
        try clear hcz40_1
        try clear hcz40_2
        try clear hcz40_3
        try clear hcz40_4
        try clear hcz40_5
        try clear hcz40_6
        try clear hcz40_7
        try clear hcz41_0
        try clear hcz41_1
        try clear hcz41_2
        try clear hcz41_3
        try clear hcz41_4
        try clear hcz41_5
        try clear hcz41_6
        try clear hcz41_7
        try clear hcz43_0
        try clear hcz43_1
        try clear hcz43_2
        try clear hcz43_3
        try clear hcz43_4
        try clear hcz43_5
        try clear hcz43_6
        try clear hcz43_7
        try clear hcz44_0
        try clear hcz44_1
        try clear hcz44_2
        try clear hcz44_3
        try clear hcz44_4
        try clear hcz44_5
        try clear hcz44_6
        try clear hcz44_7
        try clear hcz8_0
        try clear hcz8_1
        try clear hcz8_2
        try clear hcz8_3
        try clear hcz8_4
        try clear hcz8_5
        try clear hcz8_6
        try clear hcz8_7
        try clear hfz10_0
        try clear hfz10_1
        try clear hfz10_2
        try clear hfz10_3
        try clear hfz10_4
        try clear hfz10_5
        try clear hfz10_6
        try clear hfz10_7
        try clear hfz22_0
        try clear hfz22_1
        try clear hfz22_2
        try clear hfz22_3
        try clear hfz22_4
        try clear hfz22_5
        try clear hfz22_6
        try clear hfz22_7
        try clear hfz26_0
        try clear hfz26_1
        try clear hfz26_2
        try clear hfz26_3
        try clear hfz26_4
        try clear hfz26_5
        try clear hfz26_6
        try clear hfz26_7
        try clear hfz32_0
        try clear hfz32_1
        try clear hfz32_2
        try clear hfz32_3
        try clear hfz32_4
        try clear hfz32_5
        try clear hfz32_6
        try clear hfz32_7
        try clear hfz33_0
        try clear hfz33_1
        try clear hfz33_2
        try clear hfz33_3
        try clear hfz33_4
        try clear hfz33_5
        try clear hfz33_6
        try clear hfz33_7
        try clear hfz35_0
        try clear hfz35_1
        try clear hfz35_2
        try clear hfz35_3
        try clear hfz35_4
        try clear hfz35_5
        try clear hfz35_6
        try clear hfz35_7
        try clear hfz36_0
        try clear hfz36_1
        try clear hfz36_2
        try clear hfz36_3
        try clear hfz36_4
        try clear hfz36_5
        try clear hfz36_6
        try clear hfz36_7
        try clear hfz40_0
        try clear hfz40_1
        try clear hfz40_2
        try clear hfz40_3
        try clear hfz40_4
        try clear hfz40_5
        try clear hfz40_6
        try clear hfz40_7
        try clear hfz41_0
        try clear hfz41_1
        try clear hfz41_2
        try clear hfz41_3
        try clear hfz41_4
        try clear hfz41_5
        try clear hfz41_6
        try clear hfz41_7
        try clear hfz43_0
        try clear hfz43_1
        try clear hfz43_2
        try clear hfz43_3
        try clear hfz43_4
        try clear hfz43_5
        try clear hfz43_6
        try clear hfz43_7
        try clear hfz44_0
        try clear hfz44_1
        try clear hfz44_2
        try clear hfz44_3
        try clear hfz44_4
        try clear hfz44_5
        try clear hfz44_6
        try clear hfz44_7
        try clear hfz8_0
        try clear hfz8_1
        try clear hfz8_2
        try clear hfz8_3
        try clear hfz8_4
        try clear hfz8_5
        try clear hfz8_6
        try clear hfz8_7
        try clear p2
        obtain ⟨kq, x325004_36, HA, HJ36, HO_325005, HO_325006, HO_325007, BK289, BK324, HB⟩ := hcut
        cases kq with
        | zero => exact absurd HA.out (by simp [newellaw20_CollectOnce.j2])
        | succ kj36 =>
         have H := HA.out
         clear HA
         simp only [newellaw20_CollectOnce.j2] at H
         replace H := Option.bind_eq_some_iff.mp H
         obtain ⟨⟨t325, t326, t327⟩, A450, H⟩ := H
         replace H : (if t327 = 0 then (if t325 = 3 then (newellaw20_CollectOnce.j3 kj36 (t326 == t307) a0_0 a0_1 a0_2 a0_3 a0_4 l0_5 l0_6 l0_7) else (newellaw20_CollectOnce.j3 kj36 false a0_0 a0_1 a0_2 a0_3 a0_4 l0_5 l0_6 l0_7)) else (none)) = some r := H
         have A45 := Aside0.mk A450
         clear A450
         by_cases c46 : t327 = 0
         ·rw [if_pos c46] at H
          have c46b0 : (t327 == 0) = true := beq_iff_eq.mpr c46
          have c46b1 : (t327 != 0) = false := bne_eq_false_iff_eq.mpr c46
          clear c46
          have HC47 := Aside0.mk H
          clear H
          have hnb48 := NB324_289.out
          have hnc48 := NB289_324.out
          have hcz49_0 : wc.cell? ⟨gb324, 0, none⟩ = some (.int .i64 t310) := (blk_cell BK324.out 0).trans rfl
          have hcz49_1 : wc.cell? ⟨gb324, 1, none⟩ = some (.int .i64 t311) := (blk_cell BK324.out 1).trans rfl
          have hcz49_2 : wc.cell? ⟨gb324, 2, none⟩ = some (.int .i64 t307) := (blk_cell BK324.out 2).trans rfl
          have hcz49_3 : wc.cell? ⟨gb324, 3, none⟩ = some (.bool x325003_20) := (blk_cell BK324.out 3).trans rfl
          have hcz49_4 : wc.cell? ⟨gb324, 4, none⟩ = some (.bool x325004_36) := (blk_cell BK324.out 4).trans rfl
          have hcz49_5 : wc.cell? ⟨gb324, 5, none⟩ = some (.slice Ao27 t315.length co27) := (blk_cell BK324.out 5).trans rfl
          have hcz49_6 : wc.cell? ⟨gb324, 6, none⟩ = some (.slice Ao28 t318.length co28) := (blk_cell BK324.out 6).trans rfl
          have hcz49_7 : wc.cell? ⟨gb324, 7, none⟩ = some (.slice Ao29 t321.length co29) := (blk_cell BK324.out 7).trans rfl
          have hfz49_0 := blk_frozen BK324.out 0
          have hfz49_1 := blk_frozen BK324.out 1
          have hfz49_2 := blk_frozen BK324.out 2
          have hfz49_3 := blk_frozen BK324.out 3
          have hfz49_4 := blk_frozen BK324.out 4
          have hfz49_5 := blk_frozen BK324.out 5
          have hfz49_6 := blk_frozen BK324.out 6
          have hfz49_7 := blk_frozen BK324.out 7
          go_upto_region 13 with (first | ((with_reducible refine gate_callee (f := 11) rfl ?_); refine goesL_ (some 49) rfl rfl Try.func11 (by kernel_rfl) rfl #[.agg #[.int .i64 t310, .int .i64 t311, .int .i64 t307, .bool x325003_20, .bool x325004_36, .slice Ao27 t315.length co27, .slice Ao28 t318.length co28, .slice Ao29 t321.length co29]] rfl (by (try simp only [List.map_toArray, List.map_cons, List.map_nil]); first | done | rfl | (simp only [List.length_drop, List.length_take]; rfl)) ?_; (with_reducible refine (collect_Next.calls kj36 t310 t311 t307 x325003_20 x325004_36 _ _ t315 _ _ t318 _ _ t321 t325 t326 t327 _ ?side1 ?side2 ?side3 ?side4 ?side5 ?side6 A45.out).mono ?_); (case side1 => repeat (first | exact (Kd.R_reads' HO_325005.out).2.2 | (with_reducible refine Kd.C_alloc ?_ _) | (with_reducible refine Kd.C_drewN ?_ _) | (with_reducible refine Kd.C_drew ?_))); (case side2 => exact (Kd.R_reads' HO_325005.out).2.1); (case side3 => repeat (first | exact (Kd.R_reads' HO_325006.out).2.2 | (with_reducible refine Kd.C_alloc ?_ _) | (with_reducible refine Kd.C_drewN ?_ _) | (with_reducible refine Kd.C_drew ?_))); (case side4 => exact (Kd.R_reads' HO_325006.out).2.1); (case side5 => repeat (first | exact (Kd.R_reads' HO_325007.out).2.2 | (with_reducible refine Kd.C_alloc ?_ _) | (with_reducible refine Kd.C_drewN ?_ _) | (with_reducible refine Kd.C_drew ?_))); (case side6 => exact (Kd.R_reads' HO_325007.out).2.1); rintro e w50 ⟨rfl, hb⟩; refine ⟨_, rfl, ?_⟩; have n0_ := Aside0.mk (Kd.R_below (by (with_reducible repeat (first | apply Kd.R_alloc | apply Kd.R_drewN | apply Kd.R_drew)); exact HO_325005.out) hb); have n1_ := Aside0.mk (Kd.R_below (by (with_reducible repeat (first | apply Kd.R_alloc | apply Kd.R_drewN | apply Kd.R_drew)); exact HO_325006.out) hb); have n2_ := Aside0.mk (Kd.R_below (by (with_reducible repeat (first | apply Kd.R_alloc | apply Kd.R_drewN | apply Kd.R_drew)); exact HO_325007.out) hb); have n3_ := Aside0.mk (blk_below (g := gb289) (o := .cells #[.int .i64 a0_0, .int .i64 a0_1, .int .i64 a0_2, .bool a0_3, .bool a0_4, .slice A0_5 l0_5.length c0_5, .slice A0_6 l0_6.length c0_6, .slice A0_7 l0_7.length c0_7] 26 (0, 0)) (by (with_reducible repeat (first | refine blk_drewN ?_ _ | refine blk_drew ?_ | refine blk_alloc ?_ _)); exact BK289.out) hb); have n4_ := Aside0.mk (blk_below (g := gb324) (o := .cells #[.int .i64 t310, .int .i64 t311, .int .i64 t307, .bool x325003_20, .bool x325004_36, .slice Ao27 t315.length co27, .slice Ao28 t318.length co28, .slice Ao29 t321.length co29] 26 (0, 0)) (by (with_reducible repeat (first | refine blk_drewN ?_ _ | refine blk_drew ?_ | refine blk_alloc ?_ _)); exact BK324.out) hb); have n5_ := Aside0.mk (below_step (by repeat (first | (with_reducible first | exact HB.out | apply below_alloc | apply pw_below_drewN | apply below_drew1 | refine below_set ?_ GE289.out | refine below_set ?_ GE324.out) | exact HB.out)) hb); clear HO_325005; clear HO_325006; clear HO_325007; clear BK289; clear BK324; clear HB; have HO_325005 := n0_; have HO_325006 := n1_; have HO_325007 := n2_; have BK289 := n3_; have BK324 := n4_; have HB := n5_; clear n0_ n1_ n2_ n3_ n4_ n5_; (try clear hb); (try clear hb2); (try clear hk); (try clear hi)))
          (try simp only [Act.put, List.setIfInBounds_toArray, List.set_cons_zero, List.set_cons_succ])
          go_cut [61] (fun v61 wc => ∃ (kq : Nat) (x61_46 : Bool), v61 = .bool x61_46 ∧ Aside0 (newellaw20_CollectOnce.j3 kq x61_46 a0_0 a0_1 a0_2 a0_3 a0_4 l0_5 l0_6 l0_7 = some r) ∧ Aside0 (kq ≤ kj36) ∧ Aside0 (Kd.R (Kd.int .i64) 3 wc w.heap.size (fun k_ => some k_ ≠ ((.slice Ao28 t318.length co28) : Value).ownBlock ∧ some k_ ≠ ((.slice Ao29 t321.length co29) : Value).ownBlock) (.slice Ao27 t315.length co27) t315) ∧ Aside0 (Kd.R (Kd.int .i64) 3 wc w.heap.size (fun k_ => some k_ ≠ ((.slice Ao27 t315.length co27) : Value).ownBlock ∧ some k_ ≠ ((.slice Ao29 t321.length co29) : Value).ownBlock) (.slice Ao28 t318.length co28) t318) ∧ Aside0 (Kd.R (Kd.int .i64) 3 wc w.heap.size (fun k_ => some k_ ≠ ((.slice Ao27 t315.length co27) : Value).ownBlock ∧ some k_ ≠ ((.slice Ao28 t318.length co28) : Value).ownBlock) (.slice Ao29 t321.length co29) t321) ∧ Aside0 (wc.heap[gb289]? = some (.cells #[.int .i64 a0_0, .int .i64 a0_1, .int .i64 a0_2, .bool a0_3, .bool a0_4, (.slice A0_5 l0_5.length c0_5), (.slice A0_6 l0_6.length c0_6), (.slice A0_7 l0_7.length c0_7)] 26 (0, 0))) ∧ Aside0 (wc.heap[gb324]? = some (.cells #[.int .i64 t310, .int .i64 t311, .int .i64 t307, .bool x325003_20, .bool x325004_36, (.slice Ao27 t315.length co27), (.slice Ao28 t318.length co28), (.slice Ao29 t321.length co29)] 26 (0, 0))) ∧ Aside0 (Below w.heap.size w wc))
          case first =>
           have H := HC47.out
           clear HC47
           by_cases c51 : t325 = 3
           ·rw [if_pos c51] at H
            have c51b0 : (t325 == 3) = true := beq_iff_eq.mpr c51
            have c51b1 : (t325 != 3) = false := bne_eq_false_iff_eq.mpr c51
            clear c51
            (first | rw [c51b0] | (simp only [i64_w, i32_w]; rw [c51b0]) | skip)
            have H' := Aside0.mk H
            clear H
            go_wp2
            go_meet
            case rel => exact ⟨_, ((t326 == t307)), (by first | rfl | (simp; done) | (simp [*]; done)), H', ⟨by have := HJ5.out; have := HJ20.out; have := HJ36.out; first | omega | exact Nat.le_refl _⟩, ⟨by (with_reducible repeat (first | apply Kd.R_alloc | apply Kd.R_drewN | apply Kd.R_drew)); exact HO_325005.out⟩, ⟨by (with_reducible repeat (first | apply Kd.R_alloc | apply Kd.R_drewN | apply Kd.R_drew)); exact HO_325006.out⟩, ⟨by (with_reducible repeat (first | apply Kd.R_alloc | apply Kd.R_drewN | apply Kd.R_drew)); exact HO_325007.out⟩, ⟨by (with_reducible repeat (first | refine blk_drewN ?_ _ | refine blk_drew ?_ | refine blk_alloc ?_ _)); exact BK289.out⟩, ⟨by (with_reducible repeat (first | refine blk_drewN ?_ _ | refine blk_drew ?_ | refine blk_alloc ?_ _)); exact BK324.out⟩, ⟨by repeat (first | (with_reducible first | exact HB.out | apply below_alloc | apply pw_below_drewN | apply below_drew1 | refine below_set ?_ GE289.out | refine below_set ?_ GE324.out) | exact HB.out)⟩⟩
           ·rw [if_neg c51] at H
            have c51b0 : (t325 == 3) = false := beq_eq_false_iff_ne.mpr c51
            have c51b1 : (t325 != 3) = true := bne_iff_ne.mpr c51
            (first | rw [c51b0] | (simp only [i64_w, i32_w]; rw [c51b0]) | skip)
            have H' := Aside0.mk H
            clear H
            go_wp2
            go_meet
            case rel => exact ⟨_, (false), (by first | rfl | (simp; done) | (simp [*]; done)), H', ⟨by have := HJ5.out; have := HJ20.out; have := HJ36.out; first | omega | exact Nat.le_refl _⟩, ⟨by (with_reducible repeat (first | apply Kd.R_alloc | apply Kd.R_drewN | apply Kd.R_drew)); exact HO_325005.out⟩, ⟨by (with_reducible repeat (first | apply Kd.R_alloc | apply Kd.R_drewN | apply Kd.R_drew)); exact HO_325006.out⟩, ⟨by (with_reducible repeat (first | apply Kd.R_alloc | apply Kd.R_drewN | apply Kd.R_drew)); exact HO_325007.out⟩, ⟨by (with_reducible repeat (first | refine blk_drewN ?_ _ | refine blk_drew ?_ | refine blk_alloc ?_ _)); exact BK289.out⟩, ⟨by (with_reducible repeat (first | refine blk_drewN ?_ _ | refine blk_drew ?_ | refine blk_alloc ?_ _)); exact BK324.out⟩, ⟨by repeat (first | (with_reducible first | exact HB.out | apply below_alloc | apply pw_below_drewN | apply below_drew1 | refine below_set ?_ GE289.out | refine below_set ?_ GE324.out) | exact HB.out)⟩⟩
          case rest =>
           clear HC47
           try clear c1
           try clear c2
           try clear p2
           try clear c3
           try clear c4
           try clear c5
           try clear c6
           try clear c9
           try clear c10
           try clear c11
           try clear c12
           try clear c16
           try clear c16b0
           try clear c16b1
           try clear c17
           try clear c25
           try clear c30
           try clear c31
           try clear c34
           try clear c38
           try clear c39
           try clear c42
           try clear c46
           try clear c46b0
           try clear c46b1
           try clear c48
           try clear c51
           try clear c51b0
           try clear c51b1
           try clear hcz10_0
           try clear hcz10_1
           try clear hcz10_2
           try clear hcz10_3
           try clear hcz10_4
           try clear hcz10_5
           try clear hcz10_6
           try clear hcz10_7
           try clear hcz22_0
           try clear hcz22_1
           try clear hcz22_2
           try clear hcz22_3
           try clear hcz22_4
           try clear hcz22_5
           try clear hcz22_6
           try clear hcz22_7
           try clear hcz26_0
           try clear hcz26_1
           try clear hcz26_2
           try clear hcz26_3
           try clear hcz26_4
           try clear hcz26_5
           try clear hcz26_6
           try clear hcz26_7
           try clear hcz32_0
           try clear hcz32_1
           try clear hcz32_2
           try clear hcz32_3
           try clear hcz32_4
           try clear hcz32_5
           try clear hcz32_6
           try clear hcz32_7
           try clear hcz33_0
           try clear hcz33_1
           try clear hcz33_2
           try clear hcz33_3
           try clear hcz33_4
           try clear hcz33_5
           try clear hcz33_6
           try clear hcz33_7
           try clear hcz35_0
           try clear hcz35_1
           try clear hcz35_2
           try clear hcz35_3
           try clear hcz35_4
           try clear hcz35_5
           try clear hcz35_6
           try clear hcz35_7
           try clear hcz36_0
           try clear hcz36_1
           try clear hcz36_2
           try clear hcz36_3
           try clear hcz36_4
           try clear hcz36_5
           try clear hcz36_6
           try clear hcz36_7
           try clear hcz40_0
           try clear hcz40_1
           try clear hcz40_2
           try clear hcz40_3
           try clear hcz40_4
           try clear hcz40_5
           try clear hcz40_6
           try clear hcz40_7
           try clear hcz41_0
           try clear hcz41_1
           try clear hcz41_2
           try clear hcz41_3
           try clear hcz41_4
           try clear hcz41_5
           try clear hcz41_6
           try clear hcz41_7
           try clear hcz43_0
           try clear hcz43_1
           try clear hcz43_2
           try clear hcz43_3
           try clear hcz43_4
           try clear hcz43_5
           try clear hcz43_6
           try clear hcz43_7
           try clear hcz44_0
           try clear hcz44_1
           try clear hcz44_2
           try clear hcz44_3
           try clear hcz44_4
           try clear hcz44_5
           try clear hcz44_6
           try clear hcz44_7
           try clear hcz49_0
           try clear hcz49_1
           try clear hcz49_2
           try clear hcz49_3
           try clear hcz49_4
           try clear hcz49_5
           try clear hcz49_6
           try clear hcz49_7
           try clear hcz8_0
           try clear hcz8_1
           try clear hcz8_2
           try clear hcz8_3
           try clear hcz8_4
           try clear hcz8_5
           try clear hcz8_6
           try clear hcz8_7
           try clear hfz10_0
           try clear hfz10_1
           try clear hfz10_2
           try clear hfz10_3
           try clear hfz10_4
           try clear hfz10_5
           try clear hfz10_6
           try clear hfz10_7
           try clear hfz22_0
           try clear hfz22_1
           try clear hfz22_2
           try clear hfz22_3
           try clear hfz22_4
           try clear hfz22_5
           try clear hfz22_6
           try clear hfz22_7
           try clear hfz26_0
           try clear hfz26_1
           try clear hfz26_2
           try clear hfz26_3
           try clear hfz26_4
           try clear hfz26_5
           try clear hfz26_6
           try clear hfz26_7
           try clear hfz32_0
           try clear hfz32_1
           try clear hfz32_2
           try clear hfz32_3
           try clear hfz32_4
           try clear hfz32_5
           try clear hfz32_6
           try clear hfz32_7
           try clear hfz33_0
           try clear hfz33_1
           try clear hfz33_2
           try clear hfz33_3
           try clear hfz33_4
           try clear hfz33_5
           try clear hfz33_6
           try clear hfz33_7
           try clear hfz35_0
           try clear hfz35_1
           try clear hfz35_2
           try clear hfz35_3
           try clear hfz35_4
           try clear hfz35_5
           try clear hfz35_6
           try clear hfz35_7
           try clear hfz36_0
           try clear hfz36_1
           try clear hfz36_2
           try clear hfz36_3
           try clear hfz36_4
           try clear hfz36_5
           try clear hfz36_6
           try clear hfz36_7
           try clear hfz40_0
           try clear hfz40_1
           try clear hfz40_2
           try clear hfz40_3
           try clear hfz40_4
           try clear hfz40_5
           try clear hfz40_6
           try clear hfz40_7
           try clear hfz41_0
           try clear hfz41_1
           try clear hfz41_2
           try clear hfz41_3
           try clear hfz41_4
           try clear hfz41_5
           try clear hfz41_6
           try clear hfz41_7
           try clear hfz43_0
           try clear hfz43_1
           try clear hfz43_2
           try clear hfz43_3
           try clear hfz43_4
           try clear hfz43_5
           try clear hfz43_6
           try clear hfz43_7
           try clear hfz44_0
           try clear hfz44_1
           try clear hfz44_2
           try clear hfz44_3
           try clear hfz44_4
           try clear hfz44_5
           try clear hfz44_6
           try clear hfz44_7
           try clear hfz49_0
           try clear hfz49_1
           try clear hfz49_2
           try clear hfz49_3
           try clear hfz49_4
           try clear hfz49_5
           try clear hfz49_6
           try clear hfz49_7
           try clear hfz8_0
           try clear hfz8_1
           try clear hfz8_2
           try clear hfz8_3
           try clear hfz8_4
           try clear hfz8_5
           try clear hfz8_6
           try clear hfz8_7
           try clear p2
           obtain ⟨kq, x61_46, rfl, HA, HJ46, HO_325005, HO_325006, HO_325007, BK289, BK324, HB⟩ := hcut
           cases kq with
           | zero => exact absurd HA.out (by simp [newellaw20_CollectOnce.j3])
           | succ kj46 =>
            have H := HA.out
            clear HA
            simp only [newellaw20_CollectOnce.j3] at H
            by_cases c52 : x61_46 = true
            ·subst c52
             have H1 : ((newellaw20_awake.f kj46).bind fun t328 => (if t328 = true then ((newellaw20_toward.f kj46 a0_0 a0_1 a0_2 a0_3 a0_4 l0_5 l0_6 l0_7 1).bind fun t329 => (if t329 = true then (none) else ((newellaw20_toward.f kj46 a0_0 a0_1 a0_2 a0_3 a0_4 l0_5 l0_6 l0_7 (-1)).bind fun t330 => (newellaw20_CollectOnce.j4 kj46 (!t330))))) else (none))) = some r := by rw [if_pos rfl] at H; exact H
             clear H
             have H := H1
             clear H1
             have HC53 := Aside0.mk H
             clear H
             go_upto_region 14 with (fail)
             go_cut [2] (fun v2 wc => ∃ (kq : Nat) (x2_52 : Bool), v2 = .bool x2_52 ∧ Aside0 (newellaw20_CollectOnce.j4 kq x2_52 = some r) ∧ Aside0 (kq ≤ kj46) ∧ Aside0 (Kd.R (Kd.int .i64) 3 wc w.heap.size (fun k_ => some k_ ≠ ((.slice Ao28 t318.length co28) : Value).ownBlock ∧ some k_ ≠ ((.slice Ao29 t321.length co29) : Value).ownBlock) (.slice Ao27 t315.length co27) t315) ∧ Aside0 (Kd.R (Kd.int .i64) 3 wc w.heap.size (fun k_ => some k_ ≠ ((.slice Ao27 t315.length co27) : Value).ownBlock ∧ some k_ ≠ ((.slice Ao29 t321.length co29) : Value).ownBlock) (.slice Ao28 t318.length co28) t318) ∧ Aside0 (Kd.R (Kd.int .i64) 3 wc w.heap.size (fun k_ => some k_ ≠ ((.slice Ao27 t315.length co27) : Value).ownBlock ∧ some k_ ≠ ((.slice Ao28 t318.length co28) : Value).ownBlock) (.slice Ao29 t321.length co29) t321) ∧ Aside0 (wc.heap[gb289]? = some (.cells #[.int .i64 a0_0, .int .i64 a0_1, .int .i64 a0_2, .bool a0_3, .bool a0_4, (.slice A0_5 l0_5.length c0_5), (.slice A0_6 l0_6.length c0_6), (.slice A0_7 l0_7.length c0_7)] 26 (0, 0))) ∧ Aside0 (wc.heap[gb324]? = some (.cells #[.int .i64 t310, .int .i64 t311, .int .i64 t307, .bool x325003_20, .bool x325004_36, (.slice Ao27 t315.length co27), (.slice Ao28 t318.length co28), (.slice Ao29 t321.length co29)] 26 (0, 0))) ∧ Aside0 (Below w.heap.size w wc))
             case first =>
              have H := HC53.out
              clear HC53
              replace H := Option.bind_eq_some_iff.mp H
              obtain ⟨t328, A540, H⟩ := H
              replace H : (if t328 = true then ((newellaw20_toward.f kj46 a0_0 a0_1 a0_2 a0_3 a0_4 l0_5 l0_6 l0_7 1).bind fun t329 => (if t329 = true then (none) else ((newellaw20_toward.f kj46 a0_0 a0_1 a0_2 a0_3 a0_4 l0_5 l0_6 l0_7 (-1)).bind fun t330 => (newellaw20_CollectOnce.j4 kj46 (!t330))))) else (none)) = some r := H
              have A54 := Aside0.mk A540
              clear A540
              by_cases c55 : t328 = true
              ·subst c55
               have H1 : ((newellaw20_toward.f kj46 a0_0 a0_1 a0_2 a0_3 a0_4 l0_5 l0_6 l0_7 1).bind fun t329 => (if t329 = true then (none) else ((newellaw20_toward.f kj46 a0_0 a0_1 a0_2 a0_3 a0_4 l0_5 l0_6 l0_7 (-1)).bind fun t330 => (newellaw20_CollectOnce.j4 kj46 (!t330))))) = some r := by rw [if_pos rfl] at H; exact H
               clear H
               have H := H1
               clear H1
               replace H := Option.bind_eq_some_iff.mp H
               obtain ⟨t329, A560, H⟩ := H
               replace H : (if t329 = true then (none) else ((newellaw20_toward.f kj46 a0_0 a0_1 a0_2 a0_3 a0_4 l0_5 l0_6 l0_7 (-1)).bind fun t330 => (newellaw20_CollectOnce.j4 kj46 (!t330)))) = some r := H
               have A56 := Aside0.mk A560
               clear A560
               by_cases c57 : t329 = true
               ·subst c57
                have H1 : (none) = some r := by rw [if_pos rfl] at H; exact H
                clear H
                have H := H1
                clear H1
                exact absurd H (by simp)
               ·replace c57 := Bool.eq_false_iff.mpr c57
                subst c57
                have H1 : ((newellaw20_toward.f kj46 a0_0 a0_1 a0_2 a0_3 a0_4 l0_5 l0_6 l0_7 (-1)).bind fun t330 => (newellaw20_CollectOnce.j4 kj46 (!t330))) = some r := by rw [if_neg (show ¬ (false = true) by decide)] at H; exact H
                clear H
                have H := H1
                clear H1
                replace H := Option.bind_eq_some_iff.mp H
                obtain ⟨t330, A580, H⟩ := H
                replace H : (newellaw20_CollectOnce.j4 kj46 (!t330)) = some r := H
                have A58 := Aside0.mk A580
                clear A580
                have H' := Aside0.mk H
                clear H
                go_wp2_with (first | ((with_reducible refine gate_callee (f := 10) rfl ?_); refine goesL_ (some 62) rfl rfl Try.func10 (by kernel_rfl) rfl #[] rfl (by (try simp only [List.map_toArray, List.map_cons, List.map_nil]); first | done | rfl | (simp only [List.length_drop, List.length_take]; rfl)) ?_; (with_reducible refine (newellaw20_awake.calls kj46  true _ A54.out).mono ?_); rintro e w59 ⟨rfl, hb⟩; refine ⟨_, rfl, ?_⟩; have n0_ := Aside0.mk (Kd.R_below (by (with_reducible repeat (first | apply Kd.R_alloc | apply Kd.R_drewN | apply Kd.R_drew)); exact HO_325005.out) hb); have n1_ := Aside0.mk (Kd.R_below (by (with_reducible repeat (first | apply Kd.R_alloc | apply Kd.R_drewN | apply Kd.R_drew)); exact HO_325006.out) hb); have n2_ := Aside0.mk (Kd.R_below (by (with_reducible repeat (first | apply Kd.R_alloc | apply Kd.R_drewN | apply Kd.R_drew)); exact HO_325007.out) hb); have n3_ := Aside0.mk (blk_below (g := gb289) (o := .cells #[.int .i64 a0_0, .int .i64 a0_1, .int .i64 a0_2, .bool a0_3, .bool a0_4, .slice A0_5 l0_5.length c0_5, .slice A0_6 l0_6.length c0_6, .slice A0_7 l0_7.length c0_7] 26 (0, 0)) (by (with_reducible repeat (first | refine blk_drewN ?_ _ | refine blk_drew ?_ | refine blk_alloc ?_ _)); exact BK289.out) hb); have n4_ := Aside0.mk (blk_below (g := gb324) (o := .cells #[.int .i64 t310, .int .i64 t311, .int .i64 t307, .bool x325003_20, .bool x325004_36, .slice Ao27 t315.length co27, .slice Ao28 t318.length co28, .slice Ao29 t321.length co29] 26 (0, 0)) (by (with_reducible repeat (first | refine blk_drewN ?_ _ | refine blk_drew ?_ | refine blk_alloc ?_ _)); exact BK324.out) hb); have n5_ := Aside0.mk (below_step (by repeat (first | (with_reducible first | exact HB.out | apply below_alloc | apply pw_below_drewN | apply below_drew1 | refine below_set ?_ GE289.out | refine below_set ?_ GE324.out) | exact HB.out)) hb); clear HO_325005; clear HO_325006; clear HO_325007; clear BK289; clear BK324; clear HB; have HO_325005 := n0_; have HO_325006 := n1_; have HO_325007 := n2_; have BK289 := n3_; have BK324 := n4_; have HB := n5_; clear n0_ n1_ n2_ n3_ n4_ n5_; (try clear hb); (try clear hb2); (try clear hk); (try clear hi); have hnb60 := NB289_324.out; have hnc60 := NB324_289.out; have hcz61_0 : w59.cell? ⟨gb289, 0, none⟩ = some (.int .i64 a0_0) := (blk_cell BK289.out 0).trans rfl; have hcz61_1 : w59.cell? ⟨gb289, 1, none⟩ = some (.int .i64 a0_1) := (blk_cell BK289.out 1).trans rfl; have hcz61_2 : w59.cell? ⟨gb289, 2, none⟩ = some (.int .i64 a0_2) := (blk_cell BK289.out 2).trans rfl; have hcz61_3 : w59.cell? ⟨gb289, 3, none⟩ = some (.bool a0_3) := (blk_cell BK289.out 3).trans rfl; have hcz61_4 : w59.cell? ⟨gb289, 4, none⟩ = some (.bool a0_4) := (blk_cell BK289.out 4).trans rfl; have hcz61_5 : w59.cell? ⟨gb289, 5, none⟩ = some (.slice A0_5 l0_5.length c0_5) := (blk_cell BK289.out 5).trans rfl; have hcz61_6 : w59.cell? ⟨gb289, 6, none⟩ = some (.slice A0_6 l0_6.length c0_6) := (blk_cell BK289.out 6).trans rfl; have hcz61_7 : w59.cell? ⟨gb289, 7, none⟩ = some (.slice A0_7 l0_7.length c0_7) := (blk_cell BK289.out 7).trans rfl; have hfz61_0 := blk_frozen BK289.out 0; have hfz61_1 := blk_frozen BK289.out 1; have hfz61_2 := blk_frozen BK289.out 2; have hfz61_3 := blk_frozen BK289.out 3; have hfz61_4 := blk_frozen BK289.out 4; have hfz61_5 := blk_frozen BK289.out 5; have hfz61_6 := blk_frozen BK289.out 6; have hfz61_7 := blk_frozen BK289.out 7) | (go_at_call 18; (with_reducible refine (newellaw20_toward.calls kj46 a0_0 a0_1 a0_2 a0_3 a0_4 _ _ l0_5 _ _ l0_6 _ _ l0_7 1 false _ ?side1 ?side2 ?side3 ?side4 ?side5 ?side6 A56.out).mono ?_); (case side1 => repeat (first | exact (Kd.C_below HR0_5.out HB.out) | (with_reducible refine Kd.C_alloc ?_ _) | (with_reducible refine Kd.C_drewN ?_ _) | (with_reducible refine Kd.C_drew ?_))); (case side2 => exact HC0_5.out); (case side3 => repeat (first | exact (Kd.C_below HR0_6.out HB.out) | (with_reducible refine Kd.C_alloc ?_ _) | (with_reducible refine Kd.C_drewN ?_ _) | (with_reducible refine Kd.C_drew ?_))); (case side4 => exact HC0_6.out); (case side5 => repeat (first | exact (Kd.C_below HR0_7.out HB.out) | (with_reducible refine Kd.C_alloc ?_ _) | (with_reducible refine Kd.C_drewN ?_ _) | (with_reducible refine Kd.C_drew ?_))); (case side6 => exact HC0_7.out); rintro e w62 ⟨rfl, hb⟩; have n0_ := Aside0.mk (Kd.R_below (by (with_reducible repeat (first | apply Kd.R_alloc | apply Kd.R_drewN | apply Kd.R_drew)); exact HO_325005.out) hb); have n1_ := Aside0.mk (Kd.R_below (by (with_reducible repeat (first | apply Kd.R_alloc | apply Kd.R_drewN | apply Kd.R_drew)); exact HO_325006.out) hb); have n2_ := Aside0.mk (Kd.R_below (by (with_reducible repeat (first | apply Kd.R_alloc | apply Kd.R_drewN | apply Kd.R_drew)); exact HO_325007.out) hb); have n3_ := Aside0.mk (blk_below (g := gb289) (o := .cells #[.int .i64 a0_0, .int .i64 a0_1, .int .i64 a0_2, .bool a0_3, .bool a0_4, .slice A0_5 l0_5.length c0_5, .slice A0_6 l0_6.length c0_6, .slice A0_7 l0_7.length c0_7] 26 (0, 0)) (by (with_reducible repeat (first | refine blk_drewN ?_ _ | refine blk_drew ?_ | refine blk_alloc ?_ _)); exact BK289.out) hb); have n4_ := Aside0.mk (blk_below (g := gb324) (o := .cells #[.int .i64 t310, .int .i64 t311, .int .i64 t307, .bool x325003_20, .bool x325004_36, .slice Ao27 t315.length co27, .slice Ao28 t318.length co28, .slice Ao29 t321.length co29] 26 (0, 0)) (by (with_reducible repeat (first | refine blk_drewN ?_ _ | refine blk_drew ?_ | refine blk_alloc ?_ _)); exact BK324.out) hb); have n5_ := Aside0.mk (below_step (by repeat (first | (with_reducible first | exact HB.out | apply below_alloc | apply pw_below_drewN | apply below_drew1 | refine below_set ?_ GE289.out | refine below_set ?_ GE324.out) | exact HB.out)) hb); clear HO_325005; clear HO_325006; clear HO_325007; clear BK289; clear BK324; clear HB; have HO_325005 := n0_; have HO_325006 := n1_; have HO_325007 := n2_; have BK289 := n3_; have BK324 := n4_; have HB := n5_; clear n0_ n1_ n2_ n3_ n4_ n5_; (try clear hb); (try clear hb2); (try clear hk); (try clear hi); have hcz63_0 : w62.cell? ⟨gb289, 0, none⟩ = some (.int .i64 a0_0) := (blk_cell BK289.out 0).trans rfl; have hcz63_1 : w62.cell? ⟨gb289, 1, none⟩ = some (.int .i64 a0_1) := (blk_cell BK289.out 1).trans rfl; have hcz63_2 : w62.cell? ⟨gb289, 2, none⟩ = some (.int .i64 a0_2) := (blk_cell BK289.out 2).trans rfl; have hcz63_3 : w62.cell? ⟨gb289, 3, none⟩ = some (.bool a0_3) := (blk_cell BK289.out 3).trans rfl; have hcz63_4 : w62.cell? ⟨gb289, 4, none⟩ = some (.bool a0_4) := (blk_cell BK289.out 4).trans rfl; have hcz63_5 : w62.cell? ⟨gb289, 5, none⟩ = some (.slice A0_5 l0_5.length c0_5) := (blk_cell BK289.out 5).trans rfl; have hcz63_6 : w62.cell? ⟨gb289, 6, none⟩ = some (.slice A0_6 l0_6.length c0_6) := (blk_cell BK289.out 6).trans rfl; have hcz63_7 : w62.cell? ⟨gb289, 7, none⟩ = some (.slice A0_7 l0_7.length c0_7) := (blk_cell BK289.out 7).trans rfl; have hfz63_0 := blk_frozen BK289.out 0; have hfz63_1 := blk_frozen BK289.out 1; have hfz63_2 := blk_frozen BK289.out 2; have hfz63_3 := blk_frozen BK289.out 3; have hfz63_4 := blk_frozen BK289.out 4; have hfz63_5 := blk_frozen BK289.out 5; have hfz63_6 := blk_frozen BK289.out 6; have hfz63_7 := blk_frozen BK289.out 7) | (go_at_call 18; (with_reducible refine (newellaw20_toward.calls kj46 a0_0 a0_1 a0_2 a0_3 a0_4 _ _ l0_5 _ _ l0_6 _ _ l0_7 (-1) t330 _ ?side1 ?side2 ?side3 ?side4 ?side5 ?side6 A58.out).mono ?_); (case side1 => repeat (first | exact (Kd.C_below HR0_5.out HB.out) | (with_reducible refine Kd.C_alloc ?_ _) | (with_reducible refine Kd.C_drewN ?_ _) | (with_reducible refine Kd.C_drew ?_))); (case side2 => exact HC0_5.out); (case side3 => repeat (first | exact (Kd.C_below HR0_6.out HB.out) | (with_reducible refine Kd.C_alloc ?_ _) | (with_reducible refine Kd.C_drewN ?_ _) | (with_reducible refine Kd.C_drew ?_))); (case side4 => exact HC0_6.out); (case side5 => repeat (first | exact (Kd.C_below HR0_7.out HB.out) | (with_reducible refine Kd.C_alloc ?_ _) | (with_reducible refine Kd.C_drewN ?_ _) | (with_reducible refine Kd.C_drew ?_))); (case side6 => exact HC0_7.out); rintro e w64 ⟨rfl, hb⟩; have n0_ := Aside0.mk (Kd.R_below (by (with_reducible repeat (first | apply Kd.R_alloc | apply Kd.R_drewN | apply Kd.R_drew)); exact HO_325005.out) hb); have n1_ := Aside0.mk (Kd.R_below (by (with_reducible repeat (first | apply Kd.R_alloc | apply Kd.R_drewN | apply Kd.R_drew)); exact HO_325006.out) hb); have n2_ := Aside0.mk (Kd.R_below (by (with_reducible repeat (first | apply Kd.R_alloc | apply Kd.R_drewN | apply Kd.R_drew)); exact HO_325007.out) hb); have n3_ := Aside0.mk (blk_below (g := gb289) (o := .cells #[.int .i64 a0_0, .int .i64 a0_1, .int .i64 a0_2, .bool a0_3, .bool a0_4, .slice A0_5 l0_5.length c0_5, .slice A0_6 l0_6.length c0_6, .slice A0_7 l0_7.length c0_7] 26 (0, 0)) (by (with_reducible repeat (first | refine blk_drewN ?_ _ | refine blk_drew ?_ | refine blk_alloc ?_ _)); exact BK289.out) hb); have n4_ := Aside0.mk (blk_below (g := gb324) (o := .cells #[.int .i64 t310, .int .i64 t311, .int .i64 t307, .bool x325003_20, .bool x325004_36, .slice Ao27 t315.length co27, .slice Ao28 t318.length co28, .slice Ao29 t321.length co29] 26 (0, 0)) (by (with_reducible repeat (first | refine blk_drewN ?_ _ | refine blk_drew ?_ | refine blk_alloc ?_ _)); exact BK324.out) hb); have n5_ := Aside0.mk (below_step (by repeat (first | (with_reducible first | exact HB.out | apply below_alloc | apply pw_below_drewN | apply below_drew1 | refine below_set ?_ GE289.out | refine below_set ?_ GE324.out) | exact HB.out)) hb); clear HO_325005; clear HO_325006; clear HO_325007; clear BK289; clear BK324; clear HB; have HO_325005 := n0_; have HO_325006 := n1_; have HO_325007 := n2_; have BK289 := n3_; have BK324 := n4_; have HB := n5_; clear n0_ n1_ n2_ n3_ n4_ n5_; (try clear hb); (try clear hb2); (try clear hk); (try clear hi)))
                go_meet
                case rel => exact ⟨_, (!t330), (by first | rfl | (simp; done) | (simp [*]; done)), H', ⟨by have := HJ5.out; have := HJ20.out; have := HJ36.out; have := HJ46.out; first | omega | exact Nat.le_refl _⟩, ⟨by (with_reducible repeat (first | apply Kd.R_alloc | apply Kd.R_drewN | apply Kd.R_drew)); exact HO_325005.out⟩, ⟨by (with_reducible repeat (first | apply Kd.R_alloc | apply Kd.R_drewN | apply Kd.R_drew)); exact HO_325006.out⟩, ⟨by (with_reducible repeat (first | apply Kd.R_alloc | apply Kd.R_drewN | apply Kd.R_drew)); exact HO_325007.out⟩, ⟨by (with_reducible repeat (first | refine blk_drewN ?_ _ | refine blk_drew ?_ | refine blk_alloc ?_ _)); exact BK289.out⟩, ⟨by (with_reducible repeat (first | refine blk_drewN ?_ _ | refine blk_drew ?_ | refine blk_alloc ?_ _)); exact BK324.out⟩, ⟨by repeat (first | (with_reducible first | exact HB.out | apply below_alloc | apply pw_below_drewN | apply below_drew1 | refine below_set ?_ GE289.out | refine below_set ?_ GE324.out) | exact HB.out)⟩⟩
              ·replace c55 := Bool.eq_false_iff.mpr c55
               subst c55
               have H1 : (none) = some r := by rw [if_neg (show ¬ (false = true) by decide)] at H; exact H
               clear H
               have H := H1
               clear H1
               exact absurd H (by simp)
             case rest =>
              clear HC53
              try clear c1
              try clear c2
              try clear p2
              try clear c3
              try clear c4
              try clear c5
              try clear c6
              try clear c9
              try clear c10
              try clear c11
              try clear c12
              try clear c16
              try clear c16b0
              try clear c16b1
              try clear c17
              try clear c25
              try clear c30
              try clear c31
              try clear c34
              try clear c38
              try clear c39
              try clear c42
              try clear c46
              try clear c46b0
              try clear c46b1
              try clear c48
              try clear c51
              try clear c51b0
              try clear c51b1
              try clear c52
              try clear c55
              try clear c57
              try clear c60
              try clear hcz10_0
              try clear hcz10_1
              try clear hcz10_2
              try clear hcz10_3
              try clear hcz10_4
              try clear hcz10_5
              try clear hcz10_6
              try clear hcz10_7
              try clear hcz22_0
              try clear hcz22_1
              try clear hcz22_2
              try clear hcz22_3
              try clear hcz22_4
              try clear hcz22_5
              try clear hcz22_6
              try clear hcz22_7
              try clear hcz26_0
              try clear hcz26_1
              try clear hcz26_2
              try clear hcz26_3
              try clear hcz26_4
              try clear hcz26_5
              try clear hcz26_6
              try clear hcz26_7
              try clear hcz32_0
              try clear hcz32_1
              try clear hcz32_2
              try clear hcz32_3
              try clear hcz32_4
              try clear hcz32_5
              try clear hcz32_6
              try clear hcz32_7
              try clear hcz33_0
              try clear hcz33_1
              try clear hcz33_2
              try clear hcz33_3
              try clear hcz33_4
              try clear hcz33_5
              try clear hcz33_6
              try clear hcz33_7
              try clear hcz35_0
              try clear hcz35_1
              try clear hcz35_2
              try clear hcz35_3
              try clear hcz35_4
              try clear hcz35_5
              try clear hcz35_6
              try clear hcz35_7
              try clear hcz36_0
              try clear hcz36_1
              try clear hcz36_2
              try clear hcz36_3
              try clear hcz36_4
              try clear hcz36_5
              try clear hcz36_6
              try clear hcz36_7
              try clear hcz40_0
              try clear hcz40_1
              try clear hcz40_2
              try clear hcz40_3
              try clear hcz40_4
              try clear hcz40_5
              try clear hcz40_6
              try clear hcz40_7
              try clear hcz41_0
              try clear hcz41_1
              try clear hcz41_2
              try clear hcz41_3
              try clear hcz41_4
              try clear hcz41_5
              try clear hcz41_6
              try clear hcz41_7
              try clear hcz43_0
              try clear hcz43_1
              try clear hcz43_2
              try clear hcz43_3
              try clear hcz43_4
              try clear hcz43_5
              try clear hcz43_6
              try clear hcz43_7
              try clear hcz44_0
              try clear hcz44_1
              try clear hcz44_2
              try clear hcz44_3
              try clear hcz44_4
              try clear hcz44_5
              try clear hcz44_6
              try clear hcz44_7
              try clear hcz49_0
              try clear hcz49_1
              try clear hcz49_2
              try clear hcz49_3
              try clear hcz49_4
              try clear hcz49_5
              try clear hcz49_6
              try clear hcz49_7
              try clear hcz61_0
              try clear hcz61_1
              try clear hcz61_2
              try clear hcz61_3
              try clear hcz61_4
              try clear hcz61_5
              try clear hcz61_6
              try clear hcz61_7
              try clear hcz63_0
              try clear hcz63_1
              try clear hcz63_2
              try clear hcz63_3
              try clear hcz63_4
              try clear hcz63_5
              try clear hcz63_6
              try clear hcz63_7
              try clear hcz8_0
              try clear hcz8_1
              try clear hcz8_2
              try clear hcz8_3
              try clear hcz8_4
              try clear hcz8_5
              try clear hcz8_6
              try clear hcz8_7
              try clear hfz10_0
              try clear hfz10_1
              try clear hfz10_2
              try clear hfz10_3
              try clear hfz10_4
              try clear hfz10_5
              try clear hfz10_6
              try clear hfz10_7
              try clear hfz22_0
              try clear hfz22_1
              try clear hfz22_2
              try clear hfz22_3
              try clear hfz22_4
              try clear hfz22_5
              try clear hfz22_6
              try clear hfz22_7
              try clear hfz26_0
              try clear hfz26_1
              try clear hfz26_2
              try clear hfz26_3
              try clear hfz26_4
              try clear hfz26_5
              try clear hfz26_6
              try clear hfz26_7
              try clear hfz32_0
              try clear hfz32_1
              try clear hfz32_2
              try clear hfz32_3
              try clear hfz32_4
              try clear hfz32_5
              try clear hfz32_6
              try clear hfz32_7
              try clear hfz33_0
              try clear hfz33_1
              try clear hfz33_2
              try clear hfz33_3
              try clear hfz33_4
              try clear hfz33_5
              try clear hfz33_6
              try clear hfz33_7
              try clear hfz35_0
              try clear hfz35_1
              try clear hfz35_2
              try clear hfz35_3
              try clear hfz35_4
              try clear hfz35_5
              try clear hfz35_6
              try clear hfz35_7
              try clear hfz36_0
              try clear hfz36_1
              try clear hfz36_2
              try clear hfz36_3
              try clear hfz36_4
              try clear hfz36_5
              try clear hfz36_6
              try clear hfz36_7
              try clear hfz40_0
              try clear hfz40_1
              try clear hfz40_2
              try clear hfz40_3
              try clear hfz40_4
              try clear hfz40_5
              try clear hfz40_6
              try clear hfz40_7
              try clear hfz41_0
              try clear hfz41_1
              try clear hfz41_2
              try clear hfz41_3
              try clear hfz41_4
              try clear hfz41_5
              try clear hfz41_6
              try clear hfz41_7
              try clear hfz43_0
              try clear hfz43_1
              try clear hfz43_2
              try clear hfz43_3
              try clear hfz43_4
              try clear hfz43_5
              try clear hfz43_6
              try clear hfz43_7
              try clear hfz44_0
              try clear hfz44_1
              try clear hfz44_2
              try clear hfz44_3
              try clear hfz44_4
              try clear hfz44_5
              try clear hfz44_6
              try clear hfz44_7
              try clear hfz49_0
              try clear hfz49_1
              try clear hfz49_2
              try clear hfz49_3
              try clear hfz49_4
              try clear hfz49_5
              try clear hfz49_6
              try clear hfz49_7
              try clear hfz61_0
              try clear hfz61_1
              try clear hfz61_2
              try clear hfz61_3
              try clear hfz61_4
              try clear hfz61_5
              try clear hfz61_6
              try clear hfz61_7
              try clear hfz63_0
              try clear hfz63_1
              try clear hfz63_2
              try clear hfz63_3
              try clear hfz63_4
              try clear hfz63_5
              try clear hfz63_6
              try clear hfz63_7
              try clear hfz8_0
              try clear hfz8_1
              try clear hfz8_2
              try clear hfz8_3
              try clear hfz8_4
              try clear hfz8_5
              try clear hfz8_6
              try clear hfz8_7
              try clear p2
              obtain ⟨kq, x2_52, rfl, HA, HJ52, HO_325005, HO_325006, HO_325007, BK289, BK324, HB⟩ := hcut
              cases kq with
              | zero => exact absurd HA.out (by simp [newellaw20_CollectOnce.j4])
              | succ kj52 =>
               have H := HA.out
               clear HA
               simp only [newellaw20_CollectOnce.j4] at H
               obtain rfl := Option.some.inj H
               go_wp2
               go_ret
               exact ⟨by first | rfl | (simp [errW_none, errW_some] <;> rfl) | (simp [*, errW_none, errW_some] <;> rfl), by repeat (first | (with_reducible first | exact HB.out | apply below_alloc | apply pw_below_drewN | apply below_drew1 | refine below_set ?_ GE289.out | refine below_set ?_ GE324.out) | exact HB.out)⟩
            ·replace c52 := Bool.eq_false_iff.mpr c52
             subst c52
             have H1 : ((newellaw20_awake.f kj46).bind fun t331 => (some t331)) = some r := by rw [if_neg (show ¬ (false = true) by decide)] at H; exact H
             clear H
             have H := H1
             clear H1
             replace H := Option.bind_eq_some_iff.mp H
             obtain ⟨t331, A650, H⟩ := H
             replace H : (some t331) = some r := H
             have A65 := Aside0.mk A650
             clear A650
             obtain rfl := Option.some.inj H
             go_wp2_with (first | ((with_reducible refine gate_callee (f := 10) rfl ?_); refine goesL_ (some 73) rfl rfl Try.func10 (by kernel_rfl) rfl #[] rfl (by (try simp only [List.map_toArray, List.map_cons, List.map_nil]); first | done | rfl | (simp only [List.length_drop, List.length_take]; rfl)) ?_; (with_reducible refine (newellaw20_awake.calls kj46  t331 _ A65.out).mono ?_); rintro e w66 ⟨rfl, hb⟩; refine ⟨_, rfl, ?_⟩; have n0_ := Aside0.mk (Kd.R_below (by (with_reducible repeat (first | apply Kd.R_alloc | apply Kd.R_drewN | apply Kd.R_drew)); exact HO_325005.out) hb); have n1_ := Aside0.mk (Kd.R_below (by (with_reducible repeat (first | apply Kd.R_alloc | apply Kd.R_drewN | apply Kd.R_drew)); exact HO_325006.out) hb); have n2_ := Aside0.mk (Kd.R_below (by (with_reducible repeat (first | apply Kd.R_alloc | apply Kd.R_drewN | apply Kd.R_drew)); exact HO_325007.out) hb); have n3_ := Aside0.mk (blk_below (g := gb289) (o := .cells #[.int .i64 a0_0, .int .i64 a0_1, .int .i64 a0_2, .bool a0_3, .bool a0_4, .slice A0_5 l0_5.length c0_5, .slice A0_6 l0_6.length c0_6, .slice A0_7 l0_7.length c0_7] 26 (0, 0)) (by (with_reducible repeat (first | refine blk_drewN ?_ _ | refine blk_drew ?_ | refine blk_alloc ?_ _)); exact BK289.out) hb); have n4_ := Aside0.mk (blk_below (g := gb324) (o := .cells #[.int .i64 t310, .int .i64 t311, .int .i64 t307, .bool x325003_20, .bool x325004_36, .slice Ao27 t315.length co27, .slice Ao28 t318.length co28, .slice Ao29 t321.length co29] 26 (0, 0)) (by (with_reducible repeat (first | refine blk_drewN ?_ _ | refine blk_drew ?_ | refine blk_alloc ?_ _)); exact BK324.out) hb); have n5_ := Aside0.mk (below_step (by repeat (first | (with_reducible first | exact HB.out | apply below_alloc | apply pw_below_drewN | apply below_drew1 | refine below_set ?_ GE289.out | refine below_set ?_ GE324.out) | exact HB.out)) hb); clear HO_325005; clear HO_325006; clear HO_325007; clear BK289; clear BK324; clear HB; have HO_325005 := n0_; have HO_325006 := n1_; have HO_325007 := n2_; have BK289 := n3_; have BK324 := n4_; have HB := n5_; clear n0_ n1_ n2_ n3_ n4_ n5_; (try clear hb); (try clear hb2); (try clear hk); (try clear hi)))
             go_ret
             exact ⟨by first | rfl | (simp [errW_none, errW_some] <;> rfl) | (simp [*, errW_none, errW_some] <;> rfl), by repeat (first | (with_reducible first | exact HB.out | apply below_alloc | apply pw_below_drewN | apply below_drew1 | refine below_set ?_ GE289.out | refine below_set ?_ GE324.out) | exact HB.out)⟩
         ·rw [if_neg c46] at H
          exact absurd H (by simp)
 ·replace c3 := Bool.eq_false_iff.mpr c3
  subst c3
  have H1 : ((newellaw20_awake.f k).bind fun t291 => (some t291)) = some r := by rw [if_neg (show ¬ (false = true) by decide)] at H; exact H
  clear H
  have H := H1
  clear H1
  replace H := Option.bind_eq_some_iff.mp H
  obtain ⟨t291, A670, H⟩ := H
  replace H : (some t291) = some r := H
  have A67 := Aside0.mk A670
  clear A670
  obtain rfl := Option.some.inj H
  go_enter Try.func6, Try.ntmps6
  go_wp2_with (first | ((with_reducible refine gate_dst (N := 1) rfl ?_); refine box_event ?hg (N := 1) ?hd (cs := #[.int .i64 a0_0, .int .i64 a0_1, .int .i64 a0_2, .bool a0_3, .bool a0_4, .slice A0_5 l0_5.length c0_5, .slice A0_6 l0_6.length c0_6, .slice A0_7 l0_7.length c0_7]) (t := 26) ?hr ?_; (case hd => rfl); (case hg => rfl); (case hr => first | (go_simp; done) | (go_simp; rfl)); intro gb289 hg w68 hbox hb; have n0_ := Aside0.mk (below_step (by repeat (first | (with_reducible first | exact HB.out | apply below_alloc | apply pw_below_drewN | apply below_drew1) | exact HB.out)) hb); have n1_ := Aside0.mk (hbox); have n2_ := Aside0.mk ((by rw [hg]; exact (below_size (by repeat (first | (with_reducible first | exact HB.out | apply below_alloc | apply pw_below_drewN | apply below_drew1) | exact HB.out))) : w.heap.size ≤ gb289)); have n3_ := Aside0.mk ((by rw [hg]; exact (below_size (by repeat (first | (with_reducible first | exact HB.out | apply below_alloc | apply pw_below_drewN | apply below_drew1) | exact HB.out))) : w.heap.size ≤ gb289)); clear HB; have HB := n0_; have BK289 := n1_; have GW289 := n2_; have GE289 := n3_; clear n0_ n1_ n2_ n3_; clear hb hbox hg; have hcz69_0 : w68.cell? ⟨gb289, 0, none⟩ = some (.int .i64 a0_0) := (blk_cell BK289.out 0).trans rfl; have hcz69_1 : w68.cell? ⟨gb289, 1, none⟩ = some (.int .i64 a0_1) := (blk_cell BK289.out 1).trans rfl; have hcz69_2 : w68.cell? ⟨gb289, 2, none⟩ = some (.int .i64 a0_2) := (blk_cell BK289.out 2).trans rfl; have hcz69_3 : w68.cell? ⟨gb289, 3, none⟩ = some (.bool a0_3) := (blk_cell BK289.out 3).trans rfl; have hcz69_4 : w68.cell? ⟨gb289, 4, none⟩ = some (.bool a0_4) := (blk_cell BK289.out 4).trans rfl; have hcz69_5 : w68.cell? ⟨gb289, 5, none⟩ = some (.slice A0_5 l0_5.length c0_5) := (blk_cell BK289.out 5).trans rfl; have hcz69_6 : w68.cell? ⟨gb289, 6, none⟩ = some (.slice A0_6 l0_6.length c0_6) := (blk_cell BK289.out 6).trans rfl; have hcz69_7 : w68.cell? ⟨gb289, 7, none⟩ = some (.slice A0_7 l0_7.length c0_7) := (blk_cell BK289.out 7).trans rfl; have hfz69_0 := blk_frozen BK289.out 0; have hfz69_1 := blk_frozen BK289.out 1; have hfz69_2 := blk_frozen BK289.out 2; have hfz69_3 := blk_frozen BK289.out 3; have hfz69_4 := blk_frozen BK289.out 4; have hfz69_5 := blk_frozen BK289.out 5; have hfz69_6 := blk_frozen BK289.out 6; have hfz69_7 := blk_frozen BK289.out 7) | ((with_reducible refine gate_callee (f := 9) rfl ?_); refine goesL_ (some 12) rfl rfl Try.func9 (by kernel_rfl) rfl #[.agg #[.slice A0_5 l0_5.length c0_5, .slice A0_6 l0_6.length c0_6, .slice A0_7 l0_7.length c0_7]] rfl (by (try simp only [List.map_toArray, List.map_cons, List.map_nil]); first | done | rfl | (simp only [List.length_drop, List.length_take]; rfl)) ?_; (with_reducible refine (newellaw20_few.calls _ _ l0_5 _ _ l0_6 _ _ l0_7 false _ ?side1 ?side2 ?side3 ?side4 ?side5 ?side6 A2.out).mono ?_); (case side1 => repeat (first | exact (Kd.C_below HR0_5.out HB.out) | (with_reducible refine Kd.C_alloc ?_ _) | (with_reducible refine Kd.C_drewN ?_ _) | (with_reducible refine Kd.C_drew ?_))); (case side2 => exact HC0_5.out); (case side3 => repeat (first | exact (Kd.C_below HR0_6.out HB.out) | (with_reducible refine Kd.C_alloc ?_ _) | (with_reducible refine Kd.C_drewN ?_ _) | (with_reducible refine Kd.C_drew ?_))); (case side4 => exact HC0_6.out); (case side5 => repeat (first | exact (Kd.C_below HR0_7.out HB.out) | (with_reducible refine Kd.C_alloc ?_ _) | (with_reducible refine Kd.C_drewN ?_ _) | (with_reducible refine Kd.C_drew ?_))); (case side6 => exact HC0_7.out); rintro e w70 ⟨rfl, hb⟩; refine ⟨_, rfl, ?_⟩; have n0_ := Aside0.mk (blk_below (g := gb289) (o := .cells #[.int .i64 a0_0, .int .i64 a0_1, .int .i64 a0_2, .bool a0_3, .bool a0_4, .slice A0_5 l0_5.length c0_5, .slice A0_6 l0_6.length c0_6, .slice A0_7 l0_7.length c0_7] 26 (0, 0)) (by (with_reducible repeat (first | refine blk_drewN ?_ _ | refine blk_drew ?_ | refine blk_alloc ?_ _)); exact BK289.out) hb); have n1_ := Aside0.mk (below_step (by repeat (first | (with_reducible first | exact HB.out | apply below_alloc | apply pw_below_drewN | apply below_drew1 | refine below_set ?_ GE289.out) | exact HB.out)) hb); clear BK289; clear HB; have BK289 := n0_; have HB := n1_; clear n0_ n1_; (try clear hb); (try clear hb2); (try clear hk); (try clear hi)) | ((with_reducible refine gate_callee (f := 10) rfl ?_); refine goesL_ (some 14) rfl rfl Try.func10 (by kernel_rfl) rfl #[] rfl (by (try simp only [List.map_toArray, List.map_cons, List.map_nil]); first | done | rfl | (simp only [List.length_drop, List.length_take]; rfl)) ?_; (with_reducible refine (newellaw20_awake.calls k  t291 _ A67.out).mono ?_); rintro e w71 ⟨rfl, hb⟩; refine ⟨_, rfl, ?_⟩; have n0_ := Aside0.mk (blk_below (g := gb289) (o := .cells #[.int .i64 a0_0, .int .i64 a0_1, .int .i64 a0_2, .bool a0_3, .bool a0_4, .slice A0_5 l0_5.length c0_5, .slice A0_6 l0_6.length c0_6, .slice A0_7 l0_7.length c0_7] 26 (0, 0)) (by (with_reducible repeat (first | refine blk_drewN ?_ _ | refine blk_drew ?_ | refine blk_alloc ?_ _)); exact BK289.out) hb); have n1_ := Aside0.mk (below_step (by repeat (first | (with_reducible first | exact HB.out | apply below_alloc | apply pw_below_drewN | apply below_drew1 | refine below_set ?_ GE289.out) | exact HB.out)) hb); clear BK289; clear HB; have BK289 := n0_; have HB := n1_; clear n0_ n1_; (try clear hb); (try clear hb2); (try clear hk); (try clear hi)))
  go_ret
  exact ⟨by first | rfl | (simp [errW_none, errW_some] <;> rfl) | (simp [*, errW_none, errW_some] <;> rfl), by repeat (first | (with_reducible first | exact HB.out | apply below_alloc | apply pw_below_drewN | apply below_drew1 | refine below_set ?_ GE289.out) | exact HB.out)⟩

end Go.Proofs.Ytlfgdcgjndjdgaa.C
