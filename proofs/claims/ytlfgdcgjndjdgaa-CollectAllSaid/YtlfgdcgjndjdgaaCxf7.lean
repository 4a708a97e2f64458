-- Written by a program of this session (wip/pp: the kit's print, changed), out of the translation. Lean checks it.
import Derived.Test.YtlfgdcgjndjdgaaCx0
import Derived.Test.YtlfgdcgjndjdgaaCxf10
import Derived.Test.YtlfgdcgjndjdgaaCxf12
import Derived.Test.YtlfgdcgjndjdgaaCxf16
import Derived.Test.YtlfgdcgjndjdgaaCxf19
import Derived.Test.YtlfgdcgjndjdgaaCxf9
import Derived.Test.YtlfgdcgjndjdgaaNext2
namespace Go.Proofs.Ytlfgdcgjndjdgaa.C
open Go.RowKit Go.Proofs.YtlfgdcgjndjdgaaW.PrintWords Go.Proofs.YtlfgdcgjndjdgaaW.PrintLast Go.Proofs.YtlfgdcgjndjdgaaW.PrintMore
attribute [local go_sem] max2_int min2_int max_two min_two max_three min_three max_four min_four   -- for this text's walks alone
set_option linter.unusedVariables false
set_option linter.unusedSimpArgs false

/-! ### newellaw20_CollectAll: function 7 -/
mutual
def newellaw20_CollectAll.j0 : Nat → Bool → Int → Int → Int → Bool → Bool → List Int → List Int → List Int → Option (Bool)
 | 0, _, _, _, _, _, _, _, _, _ => none
 | k + 1, x20, x338000, x338001, x338002, x338003, x338004, x338005, x338006, x338007 => if x20 = true then ((newellaw20_awake.f k).bind fun t354 => (some t354)) else ((newellaw20_Own.f x338000 x338001 x338002 x338003 x338004 x338005 x338006 x338007).bind fun bt355 => (newellaw20_CollectAll.l0 k (wrap64 ((wrap64 ((bt355.2.2.2.2.2.1.length : Int) + (bt355.2.2.2.2.2.2.1.length : Int))) + (bt355.2.2.2.2.2.2.2.length : Int))) 0 0 0 x338000 x338001 x338002 x338003 x338004 x338005 x338006 x338007 bt355.1 bt355.2.1 bt355.2.2.1 bt355.2.2.2.1 bt355.2.2.2.2.1 bt355.2.2.2.2.2.1 bt355.2.2.2.2.2.2.1 bt355.2.2.2.2.2.2.2))
def newellaw20_CollectAll.l0 : Nat → Int → Int → Int → Int → Int → Int → Int → Bool → Bool → List Int → List Int → List Int → Int → Int → Int → Bool → Bool → List Int → List Int → List Int → Option (Bool)
 | 0, _, _, _, _, _, _, _, _, _, _, _, _, _, _, _, _, _, _, _, _ => none
 | k + 1, x4, x5, x6, x7, x338000, x338001, x338002, x338003, x338004, x338005, x338006, x338007, x370000, x370001, x370002, x370003, x370004, x370005, x370006, x370007 => if x7 ≤ (wrap64 ((wrap64 (3 * x338000)) + x4)) then ((collect_Next.f k x370000 x370001 x370002 x370003 x370004 x370005 x370006 x370007).bind fun bt370 => (if bt370.2.2 = 0 then (if bt370.1 = 0 then ((newellaw20_awake.f k).bind fun t373 => (if t373 = true then (if (wrap64 ((wrap64 ((x370005.length : Int) + (x370006.length : Int))) + (x370007.length : Int))) = 0 then (if x5 ≤ (wrap64 (3 * (wrap64 (x338000 - 1)))) then (newellaw20_CollectAll.j2 k (decide (x6 ≤ x4))) else (none)) else (none)) else (none))) else (if bt370.1 = 3 then ((newellaw20_without.f k x370005 x370001).bind fun t374 => (if bt370.2.1 = 1 then ((newellaw20_without.f k x370006 x370001).bind fun t377 => (newellaw20_CollectAll.j3 k x4 x5 (wrap64 (x6 + 1)) x7 x338000 x338001 x338002 x338003 x338004 x338005 x338006 x338007 x370000 x370001 bt370.2.1 true x370004 t374 t377 x370007)) else ((newellaw20_without.f k x370007 x370001).bind fun t380 => (newellaw20_CollectAll.j3 k x4 x5 (wrap64 (x6 + 1)) x7 x338000 x338001 x338002 x338003 x338004 x338005 x338006 x338007 x370000 x370001 bt370.2.1 x370003 true t374 x370006 t380)))) else (newellaw20_CollectAll.j4 k x4 (wrap64 (x5 + 1)) x6 x7 x338000 x338001 x338002 x338003 x338004 x338005 x338006 x338007 x370000 (wrap64 (x370001 + bt370.2.1)) bt370.2.1 false false x370005 x370006 x370007))) else (none))) else (none)
def newellaw20_CollectAll.j4 : Nat → Int → Int → Int → Int → Int → Int → Int → Bool → Bool → List Int → List Int → List Int → Int → Int → Int → Bool → Bool → List Int → List Int → List Int → Option (Bool)
 | 0, _, _, _, _, _, _, _, _, _, _, _, _, _, _, _, _, _, _, _, _ => none
 | k + 1, x4, x5, x6, x7, x338000, x338001, x338002, x338003, x338004, x338005, x338006, x338007, x370000, x370001, x370002, x370003, x370004, x370005, x370006, x370007 => newellaw20_CollectAll.l0 k x4 x5 x6 (wrap64 (x7 + 1)) x338000 x338001 x338002 x338003 x338004 x338005 x338006 x338007 x370000 x370001 x370002 x370003 x370004 x370005 x370006 x370007
def newellaw20_CollectAll.j2 : Nat → Bool → Option (Bool)
 | 0, _ => none
 | k + 1, x2 => some x2
def newellaw20_CollectAll.j3 : Nat → Int → Int → Int → Int → Int → Int → Int → Bool → Bool → List Int → List Int → List Int → Int → Int → Int → Bool → Bool → List Int → List Int → List Int → Option (Bool)
 | 0, _, _, _, _, _, _, _, _, _, _, _, _, _, _, _, _, _, _, _, _ => none
 | k + 1, x4, x5, x6, x7, x338000, x338001, x338002, x338003, x338004, x338005, x338006, x338007, x370000, x370001, x370002, x370003, x370004, x370005, x370006, x370007 => newellaw20_CollectAll.j4 k x4 x5 x6 x7 x338000 x338001 x338002 x338003 x338004 x338005 x338006 x338007 x370000 x370001 x370002 x370003 x370004 x370005 x370006 x370007
end
def newellaw20_CollectAll.f (k : Nat) (a0_0 : Int) (a0_1 : Int) (a0_2 : Int) (a0_3 : Bool) (a0_4 : Bool) (l0_5 : List Int) (l0_6 : List Int) (l0_7 : List Int) : Option (Bool) := (newellaw20_few.f l0_5 l0_6 l0_7).bind fun t338 => (if t338 = true then ((newellaw20_Own.f a0_0 a0_1 a0_2 a0_3 a0_4 l0_5 l0_6 l0_7).bind fun bt339 => ((collect_Check.f k bt339.1 bt339.2.1 bt339.2.2.1 bt339.2.2.2.1 bt339.2.2.2.2.1 bt339.2.2.2.2.2.1 bt339.2.2.2.2.2.2.1 bt339.2.2.2.2.2.2.2).bind fun t353 => (newellaw20_CollectAll.j0 k (t353 != 0) a0_0 a0_1 a0_2 a0_3 a0_4 l0_5 l0_6 l0_7))) else (newellaw20_CollectAll.j0 k true a0_0 a0_1 a0_2 a0_3 a0_4 l0_5 l0_6 l0_7))
theorem newellaw20_CollectAll.mono_l : ∀ k, (∀ y0 y1 y2 y3 y4 y5 y6 y7 y8, LeO (newellaw20_CollectAll.j0 k y0 y1 y2 y3 y4 y5 y6 y7 y8) (newellaw20_CollectAll.j0 (k + 1) y0 y1 y2 y3 y4 y5 y6 y7 y8)) ∧ (∀ y0 y1 y2 y3 y4 y5 y6 y7 y8 y9 y10 y11 y12 y13 y14 y15 y16 y17 y18 y19, LeO (newellaw20_CollectAll.l0 k y0 y1 y2 y3 y4 y5 y6 y7 y8 y9 y10 y11 y12 y13 y14 y15 y16 y17 y18 y19) (newellaw20_CollectAll.l0 (k + 1) y0 y1 y2 y3 y4 y5 y6 y7 y8 y9 y10 y11 y12 y13 y14 y15 y16 y17 y18 y19)) ∧ (∀ y0 y1 y2 y3 y4 y5 y6 y7 y8 y9 y10 y11 y12 y13 y14 y15 y16 y17 y18 y19, LeO (newellaw20_CollectAll.j4 k y0 y1 y2 y3 y4 y5 y6 y7 y8 y9 y10 y11 y12 y13 y14 y15 y16 y17 y18 y19) (newellaw20_CollectAll.j4 (k + 1) y0 y1 y2 y3 y4 y5 y6 y7 y8 y9 y10 y11 y12 y13 y14 y15 y16 y17 y18 y19)) ∧ (∀ y0, LeO (newellaw20_CollectAll.j2 k y0) (newellaw20_CollectAll.j2 (k + 1) y0)) ∧ (∀ y0 y1 y2 y3 y4 y5 y6 y7 y8 y9 y10 y11 y12 y13 y14 y15 y16 y17 y18 y19, LeO (newellaw20_CollectAll.j3 k y0 y1 y2 y3 y4 y5 y6 y7 y8 y9 y10 y11 y12 y13 y14 y15 y16 y17 y18 y19) (newellaw20_CollectAll.j3 (k + 1) y0 y1 y2 y3 y4 y5 y6 y7 y8 y9 y10 y11 y12 y13 y14 y15 y16 y17 y18 y19))
 | 0 => ⟨fun _ _ _ _ _ _ _ _ _ r h => by simp [newellaw20_CollectAll.j0] at h, fun _ _ _ _ _ _ _ _ _ _ _ _ _ _ _ _ _ _ _ _ r h => by simp [newellaw20_CollectAll.l0] at h, fun _ _ _ _ _ _ _ _ _ _ _ _ _ _ _ _ _ _ _ _ r h => by simp [newellaw20_CollectAll.j4] at h, fun _ r h => by simp [newellaw20_CollectAll.j2] at h, fun _ _ _ _ _ _ _ _ _ _ _ _ _ _ _ _ _ _ _ _ r h => by simp [newellaw20_CollectAll.j3] at h⟩
 | k + 1 => by
  obtain ⟨ih0, ih1, ih2, ih3, ih4⟩ := newellaw20_CollectAll.mono_l k
  refine ⟨?_, ?_, ?_, ?_, ?_⟩
  ·intro y0 y1 y2 y3 y4 y5 y6 y7 y8
   unfold newellaw20_CollectAll.j0
   repeat' first
   | (with_reducible exact ih0 _ _ _ _ _ _ _ _ _)
   | (with_reducible exact ih1 _ _ _ _ _ _ _ _ _ _ _ _ _ _ _ _ _ _ _ _)
   | (with_reducible exact ih2 _ _ _ _ _ _ _ _ _ _ _ _ _ _ _ _ _ _ _ _)
   | (with_reducible exact ih3 _)
   | (with_reducible exact ih4 _ _ _ _ _ _ _ _ _ _ _ _ _ _ _ _ _ _ _ _)
   | (with_reducible exact collect_Check.mono _ _ _ _ _ _ _ _ _)
   | (with_reducible exact collect_Next.mono _ _ _ _ _ _ _ _ _)
   | (with_reducible exact newellaw20_awake.mono _)
   | (with_reducible exact newellaw20_without.mono _ _ _)
   | (with_reducible exact LeO.refl _)
   | (with_reducible exact LeO.none _)
   | (with_reducible refine LeO.ite ?_ ?_)
   | (with_reducible refine LeO.bind ?_ (fun _ => ?_))
   | exact ih0 _ _ _ _ _ _ _ _ _
   | exact ih1 _ _ _ _ _ _ _ _ _ _ _ _ _ _ _ _ _ _ _ _
   | exact ih2 _ _ _ _ _ _ _ _ _ _ _ _ _ _ _ _ _ _ _ _
   | exact ih3 _
   | exact ih4 _ _ _ _ _ _ _ _ _ _ _ _ _ _ _ _ _ _ _ _
   | exact collect_Check.mono _ _ _ _ _ _ _ _ _
   | exact collect_Next.mono _ _ _ _ _ _ _ _ _
   | exact newellaw20_awake.mono _
   | exact newellaw20_without.mono _ _ _
   | exact LeO.none _
   | refine LeO.ite ?_ ?_
   | refine LeO.bind ?_ (fun _ => ?_)
  ·intro y0 y1 y2 y3 y4 y5 y6 y7 y8 y9 y10 y11 y12 y13 y14 y15 y16 y17 y18 y19
   unfold newellaw20_CollectAll.l0
   repeat' first
   | (with_reducible exact ih0 _ _ _ _ _ _ _ _ _)
   | (with_reducible exact ih1 _ _ _ _ _ _ _ _ _ _ _ _ _ _ _ _ _ _ _ _)
   | (with_reducible exact ih2 _ _ _ _ _ _ _ _ _ _ _ _ _ _ _ _ _ _ _ _)
   | (with_reducible exact ih3 _)
   | (with_reducible exact ih4 _ _ _ _ _ _ _ _ _ _ _ _ _ _ _ _ _ _ _ _)
   | (with_reducible exact collect_Check.mono _ _ _ _ _ _ _ _ _)
   | (with_reducible exact collect_Next.mono _ _ _ _ _ _ _ _ _)
   | (with_reducible exact newellaw20_awake.mono _)
   | (with_reducible exact newellaw20_without.mono _ _ _)
   | (with_reducible exact LeO.refl _)
   | (with_reducible exact LeO.none _)
   | (with_reducible refine LeO.ite ?_ ?_)
   | (with_reducible refine LeO.bind ?_ (fun _ => ?_))
   | exact ih0 _ _ _ _ _ _ _ _ _
   | exact ih1 _ _ _ _ _ _ _ _ _ _ _ _ _ _ _ _ _ _ _ _
   | exact ih2 _ _ _ _ _ _ _ _ _ _ _ _ _ _ _ _ _ _ _ _
   | exact ih3 _
   | exact ih4 _ _ _ _ _ _ _ _ _ _ _ _ _ _ _ _ _ _ _ _
   | exact collect_Check.mono _ _ _ _ _ _ _ _ _
   | exact collect_Next.mono _ _ _ _ _ _ _ _ _
   | exact newellaw20_awake.mono _
   | exact newellaw20_without.mono _ _ _
   | exact LeO.none _
   | refine LeO.ite ?_ ?_
   | refine LeO.bind ?_ (fun _ => ?_)
  ·intro y0 y1 y2 y3 y4 y5 y6 y7 y8 y9 y10 y11 y12 y13 y14 y15 y16 y17 y18 y19
   unfold newellaw20_CollectAll.j4
   repeat' first
   | (with_reducible exact ih0 _ _ _ _ _ _ _ _ _)
   | (with_reducible exact ih1 _ _ _ _ _ _ _ _ _ _ _ _ _ _ _ _ _ _ _ _)
   | (with_reducible exact ih2 _ _ _ _ _ _ _ _ _ _ _ _ _ _ _ _ _ _ _ _)
   | (with_reducible exact ih3 _)
   | (with_reducible exact ih4 _ _ _ _ _ _ _ _ _ _ _ _ _ _ _ _ _ _ _ _)
   | (with_reducible exact collect_Check.mono _ _ _ _ _ _ _ _ _)
   | (with_reducible exact collect_Next.mono _ _ _ _ _ _ _ _ _)
   | (with_reducible exact newellaw20_awake.mono _)
   | (with_reducible exact newellaw20_without.mono _ _ _)
   | (with_reducible exact LeO.refl _)
   | (with_reducible exact LeO.none _)
   | (with_reducible refine LeO.ite ?_ ?_)
   | (with_reducible refine LeO.bind ?_ (fun _ => ?_))
   | exact ih0 _ _ _ _ _ _ _ _ _
   | exact ih1 _ _ _ _ _ _ _ _ _ _ _ _ _ _ _ _ _ _ _ _
   | exact ih2 _ _ _ _ _ _ _ _ _ _ _ _ _ _ _ _ _ _ _ _
   | exact ih3 _
   | exact ih4 _ _ _ _ _ _ _ _ _ _ _ _ _ _ _ _ _ _ _ _
   | exact collect_Check.mono _ _ _ _ _ _ _ _ _
   | exact collect_Next.mono _ _ _ _ _ _ _ _ _
   | exact newellaw20_awake.mono _
   | exact newellaw20_without.mono _ _ _
   | exact LeO.none _
   | refine LeO.ite ?_ ?_
   | refine LeO.bind ?_ (fun _ => ?_)
  ·intro y0
   unfold newellaw20_CollectAll.j2
   repeat' first
   | (with_reducible exact ih0 _ _ _ _ _ _ _ _ _)
   | (with_reducible exact ih1 _ _ _ _ _ _ _ _ _ _ _ _ _ _ _ _ _ _ _ _)
   | (with_reducible exact ih2 _ _ _ _ _ _ _ _ _ _ _ _ _ _ _ _ _ _ _ _)
   | (with_reducible exact ih3 _)
   | (with_reducible exact ih4 _ _ _ _ _ _ _ _ _ _ _ _ _ _ _ _ _ _ _ _)
   | (with_reducible exact collect_Check.mono _ _ _ _ _ _ _ _ _)
   | (with_reducible exact collect_Next.mono _ _ _ _ _ _ _ _ _)
   | (with_reducible exact newellaw20_awake.mono _)
   | (with_reducible exact newellaw20_without.mono _ _ _)
   | (with_reducible exact LeO.refl _)
   | (with_reducible exact LeO.none _)
   | (with_reducible refine LeO.ite ?_ ?_)
   | (with_reducible refine LeO.bind ?_ (fun _ => ?_))
   | exact ih0 _ _ _ _ _ _ _ _ _
   | exact ih1 _ _ _ _ _ _ _ _ _ _ _ _ _ _ _ _ _ _ _ _
   | exact ih2 _ _ _ _ _ _ _ _ _ _ _ _ _ _ _ _ _ _ _ _
   | exact ih3 _
   | exact ih4 _ _ _ _ _ _ _ _ _ _ _ _ _ _ _ _ _ _ _ _
   | exact collect_Check.mono _ _ _ _ _ _ _ _ _
   | exact collect_Next.mono _ _ _ _ _ _ _ _ _
   | exact newellaw20_awake.mono _
   | exact newellaw20_without.mono _ _ _
   | exact LeO.none _
   | refine LeO.ite ?_ ?_
   | refine LeO.bind ?_ (fun _ => ?_)
  ·intro y0 y1 y2 y3 y4 y5 y6 y7 y8 y9 y10 y11 y12 y13 y14 y15 y16 y17 y18 y19
   unfold newellaw20_CollectAll.j3
   repeat' first
   | (with_reducible exact ih0 _ _ _ _ _ _ _ _ _)
   | (with_reducible exact ih1 _ _ _ _ _ _ _ _ _ _ _ _ _ _ _ _ _ _ _ _)
   | (with_reducible exact ih2 _ _ _ _ _ _ _ _ _ _ _ _ _ _ _ _ _ _ _ _)
   | (with_reducible exact ih3 _)
   | (with_reducible exact ih4 _ _ _ _ _ _ _ _ _ _ _ _ _ _ _ _ _ _ _ _)
   | (with_reducible exact collect_Check.mono _ _ _ _ _ _ _ _ _)
   | (with_reducible exact collect_Next.mono _ _ _ _ _ _ _ _ _)
   | (with_reducible exact newellaw20_awake.mono _)
   | (with_reducible exact newellaw20_without.mono _ _ _)
   | (with_reducible exact LeO.refl _)
   | (with_reducible exact LeO.none _)
   | (with_reducible refine LeO.ite ?_ ?_)
   | (with_reducible refine LeO.bind ?_ (fun _ => ?_))
   | exact ih0 _ _ _ _ _ _ _ _ _
   | exact ih1 _ _ _ _ _ _ _ _ _ _ _ _ _ _ _ _ _ _ _ _
   | exact ih2 _ _ _ _ _ _ _ _ _ _ _ _ _ _ _ _ _ _ _ _
   | exact ih3 _
   | exact ih4 _ _ _ _ _ _ _ _ _ _ _ _ _ _ _ _ _ _ _ _
   | exact collect_Check.mono _ _ _ _ _ _ _ _ _
   | exact collect_Next.mono _ _ _ _ _ _ _ _ _
   | exact newellaw20_awake.mono _
   | exact newellaw20_without.mono _ _ _
   | exact LeO.none _
   | refine LeO.ite ?_ ?_
   | refine LeO.bind ?_ (fun _ => ?_)
theorem newellaw20_CollectAll.mono : ∀ a0 a1 a2 a3 a4 a5 a6 a7 k, LeO (newellaw20_CollectAll.f k a0 a1 a2 a3 a4 a5 a6 a7) (newellaw20_CollectAll.f (k + 1) a0 a1 a2 a3 a4 a5 a6 a7) := by
 intro a0 a1 a2 a3 a4 a5 a6 a7 k
 obtain ⟨ih0, ih1, ih2, ih3, ih4⟩ := newellaw20_CollectAll.mono_l k
 unfold newellaw20_CollectAll.f
 repeat' first
   | (with_reducible exact ih0 _ _ _ _ _ _ _ _ _)
   | (with_reducible exact ih1 _ _ _ _ _ _ _ _ _ _ _ _ _ _ _ _ _ _ _ _)
   | (with_reducible exact ih2 _ _ _ _ _ _ _ _ _ _ _ _ _ _ _ _ _ _ _ _)
   | (with_reducible exact ih3 _)
   | (with_reducible exact ih4 _ _ _ _ _ _ _ _ _ _ _ _ _ _ _ _ _ _ _ _)
   | (with_reducible exact collect_Check.mono _ _ _ _ _ _ _ _ _)
   | (with_reducible exact collect_Next.mono _ _ _ _ _ _ _ _ _)
   | (with_reducible exact newellaw20_awake.mono _)
   | (with_reducible exact newellaw20_without.mono _ _ _)
   | (with_reducible exact LeO.refl _)
   | (with_reducible exact LeO.none _)
   | (with_reducible refine LeO.ite ?_ ?_)
   | (with_reducible refine LeO.bind ?_ (fun _ => ?_))
   | exact ih0 _ _ _ _ _ _ _ _ _
   | exact ih1 _ _ _ _ _ _ _ _ _ _ _ _ _ _ _ _ _ _ _ _
   | exact ih2 _ _ _ _ _ _ _ _ _ _ _ _ _ _ _ _ _ _ _ _
   | exact ih3 _
   | exact ih4 _ _ _ _ _ _ _ _ _ _ _ _ _ _ _ _ _ _ _ _
   | exact collect_Check.mono _ _ _ _ _ _ _ _ _
   | exact collect_Next.mono _ _ _ _ _ _ _ _ _
   | exact newellaw20_awake.mono _
   | exact newellaw20_without.mono _ _ _
   | exact LeO.none _
   | refine LeO.ite ?_ ?_
   | refine LeO.bind ?_ (fun _ => ?_)
set_option maxHeartbeats 8000000 in
set_option maxRecDepth 100000 in
theorem newellaw20_CollectAll.calls (k : Nat) (a0_0 : Int) (a0_1 : Int) (a0_2 : Int) (a0_3 : Bool) (a0_4 : Bool) (A0_5 : Option Addr) (c0_5 : Nat) (l0_5 : List Int) (A0_6 : Option Addr) (c0_6 : Nat) (l0_6 : List Int) (A0_7 : Option Addr) (c0_7 : Nat) (l0_7 : List Int) (r : Bool) (w : World) (hr0_5 : Kd.C (Kd.int .i64) w A0_5 l0_5.length l0_5) (hc0_5 : l0_5.length ≤ c0_5) (hr0_6 : Kd.C (Kd.int .i64) w A0_6 l0_6.length l0_6) (hc0_6 : l0_6.length ≤ c0_6) (hr0_7 : Kd.C (Kd.int .i64) w A0_7 l0_7.length l0_7) (hc0_7 : l0_7.length ≤ c0_7) (h : newellaw20_CollectAll.f k a0_0 a0_1 a0_2 a0_3 a0_4 l0_5 l0_6 l0_7 = some r) :
  Calls Try.prog 7 #[.agg #[.int .i64 a0_0, .int .i64 a0_1, .int .i64 a0_2, .bool a0_3, .bool a0_4, .slice A0_5 l0_5.length c0_5, .slice A0_6 l0_6.length c0_6, .slice A0_7 l0_7.length c0_7]] w fun e w' => e = .returned (.bool r) ∧ Below w.heap.size w w' := by
 have hu26 := Try.underlying26
 have hu24 := Try.underlying24
 have HR0_5 := Aside0.mk hr0_5
 have HC0_5 := Aside0.mk hc0_5
 clear hr0_5 hc0_5
 have HR0_6 := Aside0.mk hr0_6
 have HC0_6 := Aside0.mk hc0_6
 clear hr0_6 hc0_6
 have HR0_7 := Aside0.mk hr0_7
 have HC0_7 := Aside0.mk hc0_7
 clear hr0_7 hc0_7
 have HB := Aside0.mk (Below.refl w.heap.size w)
 have H : ((newellaw20_few.f l0_5 l0_6 l0_7).bind fun t338 => (if t338 = true then ((newellaw20_Own.f a0_0 a0_1 a0_2 a0_3 a0_4 l0_5 l0_6 l0_7).bind fun bt339 => ((collect_Check.f k bt339.1 bt339.2.1 bt339.2.2.1 bt339.2.2.2.1 bt339.2.2.2.2.1 bt339.2.2.2.2.2.1 bt339.2.2.2.2.2.2.1 bt339.2.2.2.2.2.2.2).bind fun t353 => (newellaw20_CollectAll.j0 k (t353 != 0) a0_0 a0_1 a0_2 a0_3 a0_4 l0_5 l0_6 l0_7))) else (newellaw20_CollectAll.j0 k true a0_0 a0_1 a0_2 a0_3 a0_4 l0_5 l0_6 l0_7))) = some r := h
 clear h
 have HC2 := Aside0.mk H
 clear H
 go_enter Try.func7, Try.ntmps7
 go_upto_region 1 with (first | ((with_reducible refine gate_dst (N := 1) rfl ?_); (try (refine gate_guard (by rfl) ?_; dsimp only)); refine box_event ?hg (N := 1) ?hd (cs := #[.int .i64 a0_0, .int .i64 a0_1, .int .i64 a0_2, .bool a0_3, .bool a0_4, .slice A0_5 l0_5.length c0_5, .slice A0_6 l0_6.length c0_6, .slice A0_7 l0_7.length c0_7]) (t := 26) ?hr ?_; (case hd => rfl); (case hg => rfl); (case hr => first | (go_simp; done) | (go_simp; rfl)); intro gb337 hg w3 hbox hb; have n0_ := Aside0.mk (below_step (by repeat (first | (with_reducible first | exact HB.out | apply below_alloc | apply pw_below_drewN | apply below_drew1) | exact HB.out)) hb); have n1_ := Aside0.mk (hbox); have n2_ := Aside0.mk ((by rw [hg]; exact (below_size (by repeat (first | (with_reducible first | exact HB.out | apply below_alloc | apply pw_below_drewN | apply below_drew1) | exact HB.out))) : w.heap.size ≤ gb337)); have n3_ := Aside0.mk ((by rw [hg]; exact (below_size (by repeat (first | (with_reducible first | exact HB.out | apply below_alloc | apply pw_below_drewN | apply below_drew1) | exact HB.out))) : w.heap.size ≤ gb337)); clear HB; have HB := n0_; have BK337 := n1_; have GW337 := n2_; have GE337 := n3_; clear n0_ n1_ n2_ n3_; clear hb hbox hg))
 (try simp only [Act.put, List.setIfInBounds_toArray, List.set_cons_zero, List.set_cons_succ])
 go_cut [20] (fun v20 wc => ∃ (kq : Nat) (x20_1 : Bool), v20 = .bool x20_1 ∧ Aside0 (newellaw20_CollectAll.j0 kq x20_1 a0_0 a0_1 a0_2 a0_3 a0_4 l0_5 l0_6 l0_7 = some r) ∧ Aside0 (kq ≤ k) ∧ Aside0 (wc.heap[gb337]? = some (.cells #[.int .i64 a0_0, .int .i64 a0_1, .int .i64 a0_2, .bool a0_3, .bool a0_4, (.slice A0_5 l0_5.length c0_5), (.slice A0_6 l0_6.length c0_6), (.slice A0_7 l0_7.length c0_7)] 26 (0, 0))) ∧ Aside0 (Below w.heap.size w wc))
 case first =>
  have H := HC2.out
  clear HC2
  replace H := Option.bind_eq_some_iff.mp H
  obtain ⟨t338, A40, H⟩ := H
  replace H : (if t338 = true then ((newellaw20_Own.f a0_0 a0_1 a0_2 a0_3 a0_4 l0_5 l0_6 l0_7).bind fun bt339 => ((collect_Check.f k bt339.1 bt339.2.1 bt339.2.2.1 bt339.2.2.2.1 bt339.2.2.2.2.1 bt339.2.2.2.2.2.1 bt339.2.2.2.2.2.2.1 bt339.2.2.2.2.2.2.2).bind fun t353 => (newellaw20_CollectAll.j0 k (t353 != 0) a0_0 a0_1 a0_2 a0_3 a0_4 l0_5 l0_6 l0_7))) else (newellaw20_CollectAll.j0 k true a0_0 a0_1 a0_2 a0_3 a0_4 l0_5 l0_6 l0_7)) = some r := H
  have A4 := Aside0.mk A40
  clear A40
  by_cases c5 : t338 = true
  ·subst c5
   have H1 : ((newellaw20_Own.f a0_0 a0_1 a0_2 a0_3 a0_4 l0_5 l0_6 l0_7).bind fun bt339 => ((collect_Check.f k bt339.1 bt339.2.1 bt339.2.2.1 bt339.2.2.2.1 bt339.2.2.2.2.1 bt339.2.2.2.2.2.1 bt339.2.2.2.2.2.2.1 bt339.2.2.2.2.2.2.2).bind fun t353 => (newellaw20_CollectAll.j0 k (t353 != 0) a0_0 a0_1 a0_2 a0_3 a0_4 l0_5 l0_6 l0_7))) = some r := by rw [if_pos rfl] at H; exact H
   clear H
   have H := H1
   clear H1
   replace H := Option.bind_eq_some_iff.mp H
   obtain ⟨⟨t339, t340, t341, t342, t343, t344, t347, t350⟩, A60, H⟩ := H
   replace H : ((collect_Check.f k t339 t340 t341 t342 t343 t344 t347 t350).bind fun t353 => (newellaw20_CollectAll.j0 k (t353 != 0) a0_0 a0_1 a0_2 a0_3 a0_4 l0_5 l0_6 l0_7)) = some r := H
   have A6 := Aside0.mk A60
   clear A60
   replace H := Option.bind_eq_some_iff.mp H
   obtain ⟨t353, A70, H⟩ := H
   replace H : (newellaw20_CollectAll.j0 k (t353 != 0) a0_0 a0_1 a0_2 a0_3 a0_4 l0_5 l0_6 l0_7) = some r := H
   have A7 := Aside0.mk A70
   clear A70
   have H' := Aside0.mk H
   clear H
   have hcz8_0 : w3.cell? ⟨gb337, 0, none⟩ = some (.int .i64 a0_0) := (blk_cell BK337.out 0).trans rfl
   have hcz8_1 : w3.cell? ⟨gb337, 1, none⟩ = some (.int .i64 a0_1) := (blk_cell BK337.out 1).trans rfl
   have hcz8_2 : w3.cell? ⟨gb337, 2, none⟩ = some (.int .i64 a0_2) := (blk_cell BK337.out 2).trans rfl
   have hcz8_3 : w3.cell? ⟨gb337, 3, none⟩ = some (.bool a0_3) := (blk_cell BK337.out 3).trans rfl
   have hcz8_4 : w3.cell? ⟨gb337, 4, none⟩ = some (.bool a0_4) := (blk_cell BK337.out 4).trans rfl
   have hcz8_5 : w3.cell? ⟨gb337, 5, none⟩ = some (.slice A0_5 l0_5.length c0_5) := (blk_cell BK337.out 5).trans rfl
   have hcz8_6 : w3.cell? ⟨gb337, 6, none⟩ = some (.slice A0_6 l0_6.length c0_6) := (blk_cell BK337.out 6).trans rfl
   have hcz8_7 : w3.cell? ⟨gb337, 7, none⟩ = some (.slice A0_7 l0_7.length c0_7) := (blk_cell BK337.out 7).trans rfl
   have hfz8_0 := blk_frozen BK337.out 0
   have hfz8_1 := blk_frozen BK337.out 1
   have hfz8_2 := blk_frozen BK337.out 2
   have hfz8_3 := blk_frozen BK337.out 3
   have hfz8_4 := blk_frozen BK337.out 4
   have hfz8_5 := blk_frozen BK337.out 5
   have hfz8_6 := blk_frozen BK337.out 6
   have hfz8_7 := blk_frozen BK337.out 7
   go_wp2_with (first | ((with_reducible refine gate_callee (f := 9) rfl ?_); refine goesL_ (some 13) rfl rfl Try.func9 (by kernel_rfl) rfl #[.agg #[.slice A0_5 l0_5.length c0_5, .slice A0_6 l0_6.length c0_6, .slice A0_7 l0_7.length c0_7]] rfl (by (try simp only [List.map_toArray, List.map_cons, List.map_nil]); first | done | rfl | (simp only [List.length_drop, List.length_take]; rfl)) ?_; (with_reducible refine (newellaw20_few.calls _ _ l0_5 _ _ l0_6 _ _ l0_7 true _ ?side1 ?side2 ?side3 ?side4 ?side5 ?side6 A4.out).mono ?_); (case side1 => repeat (first | exact (Kd.C_below HR0_5.out HB.out) | (with_reducible refine Kd.C_alloc ?_ _) | (with_reducible refine Kd.C_drewN ?_ _) | (with_reducible refine Kd.C_drew ?_))); (case side2 => exact HC0_5.out); (case side3 => repeat (first | exact (Kd.C_below HR0_6.out HB.out) | (with_reducible refine Kd.C_alloc ?_ _) | (with_reducible refine Kd.C_drewN ?_ _) | (with_reducible refine Kd.C_drew ?_))); (case side4 => exact HC0_6.out); (case side5 => repeat (first | exact (Kd.C_below HR0_7.out HB.out) | (with_reducible refine Kd.C_alloc ?_ _) | (with_reducible refine Kd.C_drewN ?_ _) | (with_reducible refine Kd.C_drew ?_))); (case side6 => exact HC0_7.out); rintro e w9 ⟨rfl, hb⟩; refine ⟨_, rfl, ?_⟩; have n0_ := Aside0.mk (blk_below (g := gb337) (o := .cells #[.int .i64 a0_0, .int .i64 a0_1, .int .i64 a0_2, .bool a0_3, .bool a0_4, .slice A0_5 l0_5.length c0_5, .slice A0_6 l0_6.length c0_6, .slice A0_7 l0_7.length c0_7] 26 (0, 0)) (by (with_reducible repeat (first | refine blk_drewN ?_ _ | refine blk_drew ?_ | refine blk_alloc ?_ _)); exact BK337.out) hb); have n1_ := Aside0.mk (below_step (by repeat (first | (with_reducible first | exact HB.out | apply below_alloc | apply pw_below_drewN | apply below_drew1 | refine below_set ?_ GE337.out) | exact HB.out)) hb); clear BK337; clear HB; have BK337 := n0_; have HB := n1_; clear n0_ n1_; (try clear hb); (try clear hb2); (try clear hk); (try clear hi); have hcz10_0 : w9.cell? ⟨gb337, 0, none⟩ = some (.int .i64 a0_0) := (blk_cell BK337.out 0).trans rfl; have hcz10_1 : w9.cell? ⟨gb337, 1, none⟩ = some (.int .i64 a0_1) := (blk_cell BK337.out 1).trans rfl; have hcz10_2 : w9.cell? ⟨gb337, 2, none⟩ = some (.int .i64 a0_2) := (blk_cell BK337.out 2).trans rfl; have hcz10_3 : w9.cell? ⟨gb337, 3, none⟩ = some (.bool a0_3) := (blk_cell BK337.out 3).trans rfl; have hcz10_4 : w9.cell? ⟨gb337, 4, none⟩ = some (.bool a0_4) := (blk_cell BK337.out 4).trans rfl; have hcz10_5 : w9.cell? ⟨gb337, 5, none⟩ = some (.slice A0_5 l0_5.length c0_5) := (blk_cell BK337.out 5).trans rfl; have hcz10_6 : w9.cell? ⟨gb337, 6, none⟩ = some (.slice A0_6 l0_6.length c0_6) := (blk_cell BK337.out 6).trans rfl; have hcz10_7 : w9.cell? ⟨gb337, 7, none⟩ = some (.slice A0_7 l0_7.length c0_7) := (blk_cell BK337.out 7).trans rfl; have hfz10_0 := blk_frozen BK337.out 0; have hfz10_1 := blk_frozen BK337.out 1; have hfz10_2 := blk_frozen BK337.out 2; have hfz10_3 := blk_frozen BK337.out 3; have hfz10_4 := blk_frozen BK337.out 4; have hfz10_5 := blk_frozen BK337.out 5; have hfz10_6 := blk_frozen BK337.out 6; have hfz10_7 := blk_frozen BK337.out 7) | (go_at_call 12; (with_reducible refine (newellaw20_Own.calls a0_0 a0_1 a0_2 a0_3 a0_4 _ _ l0_5 _ _ l0_6 _ _ l0_7 t339 t340 t341 t342 t343 t344 t347 t350 _ ?side1 ?side2 ?side3 ?side4 ?side5 ?side6 A6.out).mono ?_); (case side1 => repeat (first | exact (Kd.C_below HR0_5.out HB.out) | (with_reducible refine Kd.C_alloc ?_ _) | (with_reducible refine Kd.C_drewN ?_ _) | (with_reducible refine Kd.C_drew ?_))); (case side2 => exact HC0_5.out); (case side3 => repeat (first | exact (Kd.C_below HR0_6.out HB.out) | (with_reducible refine Kd.C_alloc ?_ _) | (with_reducible refine Kd.C_drewN ?_ _) | (with_reducible refine Kd.C_drew ?_))); (case side4 => exact HC0_6.out); (case side5 => repeat (first | exact (Kd.C_below HR0_7.out HB.out) | (with_reducible refine Kd.C_alloc ?_ _) | (with_reducible refine Kd.C_drewN ?_ _) | (with_reducible refine Kd.C_drew ?_))); (case side6 => exact HC0_7.out); rintro e w11 ⟨v345, v348, v351, rfl, ho0, ho1, ho2, hb⟩; have n0_ := Aside0.mk (Kd.R_lower ho0 (below_size (by repeat (first | (with_reducible first | exact HB.out | apply below_alloc | apply pw_below_drewN | apply below_drew1 | refine below_set ?_ GE337.out) | exact HB.out)))); have n1_ := Aside0.mk (Kd.R_lower ho1 (below_size (by repeat (first | (with_reducible first | exact HB.out | apply below_alloc | apply pw_below_drewN | apply below_drew1 | refine below_set ?_ GE337.out) | exact HB.out)))); have n2_ := Aside0.mk (Kd.R_lower ho2 (below_size (by repeat (first | (with_reducible first | exact HB.out | apply below_alloc | apply pw_below_drewN | apply below_drew1 | refine below_set ?_ GE337.out) | exact HB.out)))); have n3_ := Aside0.mk (blk_below (g := gb337) (o := .cells #[.int .i64 a0_0, .int .i64 a0_1, .int .i64 a0_2, .bool a0_3, .bool a0_4, .slice A0_5 l0_5.length c0_5, .slice A0_6 l0_6.length c0_6, .slice A0_7 l0_7.length c0_7] 26 (0, 0)) (by (with_reducible repeat (first | refine blk_drewN ?_ _ | refine blk_drew ?_ | refine blk_alloc ?_ _)); exact BK337.out) hb); have n4_ := Aside0.mk (below_step (by repeat (first | (with_reducible first | exact HB.out | apply below_alloc | apply pw_below_drewN | apply below_drew1 | refine below_set ?_ GE337.out) | exact HB.out)) hb); clear BK337; clear HB; have HO346 := n0_; have HO349 := n1_; have HO352 := n2_; have BK337 := n3_; have HB := n4_; clear n0_ n1_ n2_ n3_ n4_; (try clear hb); (try clear hb2); (try clear hk); (try clear hi); (try clear ho0); (try clear ho1); (try clear ho2); obtain ⟨Ao12, co12, eo12⟩ := Kd.R_slice HO346.out; subst eo12; obtain ⟨Ao13, co13, eo13⟩ := Kd.R_slice HO349.out; subst eo13; obtain ⟨Ao14, co14, eo14⟩ := Kd.R_slice HO352.out; subst eo14) | (go_at_call 16; (with_reducible refine (collect_Check.calls k t339 t340 t341 t342 t343 (fun k_ => some k_ = (.slice Ao12 t344.length co12 : Value).ownBlock) _ _ t344 (fun k_ => some k_ = (.slice Ao13 t347.length co13 : Value).ownBlock) _ _ t347 (fun k_ => some k_ = (.slice Ao14 t350.length co14 : Value).ownBlock) _ _ t350 t353 _ ?side1 ?side2 ?side3 A7.out).mono ?_); (case side1 => exact Kd.R_V (Kd.R_tight rfl (Kd.R_types (HO346.out) BK337.out (by decide)))); (case side2 => exact Kd.R_V (Kd.R_tight rfl (Kd.R_types (HO349.out) BK337.out (by decide)))); (case side3 => exact Kd.R_V (Kd.R_tight rfl (Kd.R_types (HO352.out) BK337.out (by decide)))); rintro e w15 ⟨rfl, hb⟩; have n0_ := Aside0.mk (Kd.R_below (by (with_reducible repeat (first | apply Kd.R_alloc | apply Kd.R_drewN | apply Kd.R_drew)); exact HO346.out) hb); have n1_ := Aside0.mk (Kd.R_below (by (with_reducible repeat (first | apply Kd.R_alloc | apply Kd.R_drewN | apply Kd.R_drew)); exact HO349.out) hb); have n2_ := Aside0.mk (Kd.R_below (by (with_reducible repeat (first | apply Kd.R_alloc | apply Kd.R_drewN | apply Kd.R_drew)); exact HO352.out) hb); have n3_ := Aside0.mk (blk_below (g := gb337) (o := .cells #[.int .i64 a0_0, .int .i64 a0_1, .int .i64 a0_2, .bool a0_3, .bool a0_4, .slice A0_5 l0_5.length c0_5, .slice A0_6 l0_6.length c0_6, .slice A0_7 l0_7.length c0_7] 26 (0, 0)) (by (with_reducible repeat (first | refine blk_drewN ?_ _ | refine blk_drew ?_ | refine blk_alloc ?_ _)); exact BK337.out) hb); have n4_ := Aside0.mk (below_step (by repeat (first | (with_reducible first | exact HB.out | apply below_alloc | apply pw_below_drewN | apply below_drew1 | refine below_set ?_ GE337.out) | exact HB.out)) hb); clear HO346; clear HO349; clear HO352; clear BK337; clear HB; have HO346 := n0_; have HO349 := n1_; have HO352 := n2_; have BK337 := n3_; have HB := n4_; clear n0_ n1_ n2_ n3_ n4_; (try clear hb); (try clear hb2); (try clear hk); (try clear hi)))
   go_meet
   case rel => exact ⟨_, ((t353 != 0)), (by first | rfl | (simp; done) | (simp [*]; done)), H', ⟨by first | omega | exact Nat.le_refl _⟩, ⟨by (with_reducible repeat (first | refine blk_drewN ?_ _ | refine blk_drew ?_ | refine blk_alloc ?_ _)); exact BK337.out⟩, ⟨by repeat (first | (with_reducible first | exact HB.out | apply below_alloc | apply pw_below_drewN | apply below_drew1 | refine below_set ?_ GE337.out) | exact HB.out)⟩⟩
  ·replace c5 := Bool.eq_false_iff.mpr c5
   subst c5
   have H1 : (newellaw20_CollectAll.j0 k true a0_0 a0_1 a0_2 a0_3 a0_4 l0_5 l0_6 l0_7) = some r := by rw [if_neg (show ¬ (false = true) by decide)] at H; exact H
   clear H
   have H := H1
   clear H1
   have H' := Aside0.mk H
   clear H
   have hcz16_0 : w3.cell? ⟨gb337, 0, none⟩ = some (.int .i64 a0_0) := (blk_cell BK337.out 0).trans rfl
   have hcz16_1 : w3.cell? ⟨gb337, 1, none⟩ = some (.int .i64 a0_1) := (blk_cell BK337.out 1).trans rfl
   have hcz16_2 : w3.cell? ⟨gb337, 2, none⟩ = some (.int .i64 a0_2) := (blk_cell BK337.out 2).trans rfl
   have hcz16_3 : w3.cell? ⟨gb337, 3, none⟩ = some (.bool a0_3) := (blk_cell BK337.out 3).trans rfl
   have hcz16_4 : w3.cell? ⟨gb337, 4, none⟩ = some (.bool a0_4) := (blk_cell BK337.out 4).trans rfl
   have hcz16_5 : w3.cell? ⟨gb337, 5, none⟩ = some (.slice A0_5 l0_5.length c0_5) := (blk_cell BK337.out 5).trans rfl
   have hcz16_6 : w3.cell? ⟨gb337, 6, none⟩ = some (.slice A0_6 l0_6.length c0_6) := (blk_cell BK337.out 6).trans rfl
   have hcz16_7 : w3.cell? ⟨gb337, 7, none⟩ = some (.slice A0_7 l0_7.length c0_7) := (blk_cell BK337.out 7).trans rfl
   have hfz16_0 := blk_frozen BK337.out 0
   have hfz16_1 := blk_frozen BK337.out 1
   have hfz16_2 := blk_frozen BK337.out 2
   have hfz16_3 := blk_frozen BK337.out 3
   have hfz16_4 := blk_frozen BK337.out 4
   have hfz16_5 := blk_frozen BK337.out 5
   have hfz16_6 := blk_frozen BK337.out 6
   have hfz16_7 := blk_frozen BK337.out 7
   go_wp2_with (first | ((with_reducible refine gate_callee (f := 9) rfl ?_); refine goesL_ (some 13) rfl rfl Try.func9 (by kernel_rfl) rfl #[.agg #[.slice A0_5 l0_5.length c0_5, .slice A0_6 l0_6.length c0_6, .slice A0_7 l0_7.length c0_7]] rfl (by (try simp only [List.map_toArray, List.map_cons, List.map_nil]); first | done | rfl | (simp only [List.length_drop, List.length_take]; rfl)) ?_; (with_reducible refine (newellaw20_few.calls _ _ l0_5 _ _ l0_6 _ _ l0_7 false _ ?side1 ?side2 ?side3 ?side4 ?side5 ?side6 A4.out).mono ?_); (case side1 => repeat (first | exact (Kd.C_below HR0_5.out HB.out) | (with_reducible refine Kd.C_alloc ?_ _) | (with_reducible refine Kd.C_drewN ?_ _) | (with_reducible refine Kd.C_drew ?_))); (case side2 => exact HC0_5.out); (case side3 => repeat (first | exact (Kd.C_below HR0_6.out HB.out) | (with_reducible refine Kd.C_alloc ?_ _) | (with_reducible refine Kd.C_drewN ?_ _) | (with_reducible refine Kd.C_drew ?_))); (case side4 => exact HC0_6.out); (case side5 => repeat (first | exact (Kd.C_below HR0_7.out HB.out) | (with_reducible refine Kd.C_alloc ?_ _) | (with_reducible refine Kd.C_drewN ?_ _) | (with_reducible refine Kd.C_drew ?_))); (case side6 => exact HC0_7.out); rintro e w17 ⟨rfl, hb⟩; refine ⟨_, rfl, ?_⟩; have n0_ := Aside0.mk (blk_below (g := gb337) (o := .cells #[.int .i64 a0_0, .int .i64 a0_1, .int .i64 a0_2, .bool a0_3, .bool a0_4, .slice A0_5 l0_5.length c0_5, .slice A0_6 l0_6.length c0_6, .slice A0_7 l0_7.length c0_7] 26 (0, 0)) (by (with_reducible repeat (first | refine blk_drewN ?_ _ | refine blk_drew ?_ | refine blk_alloc ?_ _)); exact BK337.out) hb); have n1_ := Aside0.mk (below_step (by repeat (first | (with_reducible first | exact HB.out | apply below_alloc | apply pw_below_drewN | apply below_drew1 | refine below_set ?_ GE337.out) | exact HB.out)) hb); clear BK337; clear HB; have BK337 := n0_; have HB := n1_; clear n0_ n1_; (try clear hb); (try clear hb2); (try clear hk); (try clear hi)))
   go_meet
   case rel => exact ⟨_, (true), (by first | rfl | (simp; done) | (simp [*]; done)), H', ⟨by first | omega | exact Nat.le_refl _⟩, ⟨by (with_reducible repeat (first | refine blk_drewN ?_ _ | refine blk_drew ?_ | refine blk_alloc ?_ _)); exact BK337.out⟩, ⟨by repeat (first | (with_reducible first | exact HB.out | apply below_alloc | apply pw_below_drewN | apply below_drew1 | refine below_set ?_ GE337.out) | exact HB.out)⟩⟩
 case rest =>
  clear HC2
  try clear p2
  try clear c5
  try clear c7
  try clear c9
  try clear hcz10_0
  try clear hcz10_1
  try clear hcz10_2
  try clear hcz10_3
  try clear hcz10_4
  try clear hcz10_5
  try clear hcz10_6
  try clear hcz10_7
  try clear hcz16_0
  try clear hcz16_1
  try clear hcz16_2
  try clear hcz16_3
  try clear hcz16_4
  try clear hcz16_5
  try clear hcz16_6
  try clear hcz16_7
  try clear hcz8_0
  try clear hcz8_1
  try clear hcz8_2
  try clear hcz8_3
  try clear hcz8_4
  try clear hcz8_5
  try clear hcz8_6
  try clear hcz8_7
  try clear hfz10_0
  try clear hfz10_1
  try clear hfz10_2
  try clear hfz10_3
  try clear hfz10_4
  try clear hfz10_5
  try clear hfz10_6
  try clear hfz10_7
  try clear hfz16_0
  try clear hfz16_1
  try clear hfz16_2
  try clear hfz16_3
  try clear hfz16_4
  try clear hfz16_5
  try clear hfz16_6
  try clear hfz16_7
  try clear hfz8_0
  try clear hfz8_1
  try clear hfz8_2
  try clear hfz8_3
  try clear hfz8_4
  try clear hfz8_5
  try clear hfz8_6
  try clear hfz8_7
  obtain ⟨kq, x20_1, rfl, HA, HJ1, BK337, HB⟩ := hcut
  cases kq with
  | zero => exact absurd HA.out (by simp [newellaw20_CollectAll.j0])
  | succ kj1 =>
   have H := HA.out
   clear HA
   simp only [newellaw20_CollectAll.j0] at H
   by_cases c18 : x20_1 = true
   ·subst c18
    have H1 : ((newellaw20_awake.f kj1).bind fun t354 => (some t354)) = some r := by rw [if_pos rfl] at H; exact H
    clear H
    have H := H1
    clear H1
    replace H := Option.bind_eq_some_iff.mp H
    obtain ⟨t354, A190, H⟩ := H
    replace H : (some t354) = some r := H
    have A19 := Aside0.mk A190
    clear A190
    obtain rfl := Option.some.inj H
    go_wp2_with (first | ((with_reducible refine gate_callee (f := 10) rfl ?_); refine goesL_ (some 21) rfl rfl Try.func10 (by kernel_rfl) rfl #[] rfl (by (try simp only [List.map_toArray, List.map_cons, List.map_nil]); first | done | rfl | (simp only [List.length_drop, List.length_take]; rfl)) ?_; (with_reducible refine (newellaw20_awake.calls kj1  t354 _ A19.out).mono ?_); rintro e w20 ⟨rfl, hb⟩; refine ⟨_, rfl, ?_⟩; have n0_ := Aside0.mk (blk_below (g := gb337) (o := .cells #[.int .i64 a0_0, .int .i64 a0_1, .int .i64 a0_2, .bool a0_3, .bool a0_4, .slice A0_5 l0_5.length c0_5, .slice A0_6 l0_6.length c0_6, .slice A0_7 l0_7.length c0_7] 26 (0, 0)) (by (with_reducible repeat (first | refine blk_drewN ?_ _ | refine blk_drew ?_ | refine blk_alloc ?_ _)); exact BK337.out) hb); have n1_ := Aside0.mk (below_step (by repeat (first | (with_reducible first | exact HB.out | apply below_alloc | apply pw_below_drewN | apply below_drew1 | refine below_set ?_ GE337.out) | exact HB.out)) hb); clear BK337; clear HB; have BK337 := n0_; have HB := n1_; clear n0_ n1_; (try clear hb); (try clear hb2); (try clear hk); (try clear hi)))
    go_ret
    exact ⟨by first | rfl | (simp [errW_none, errW_some] <;> rfl) | (simp [*, errW_none, errW_some] <;> rfl), by repeat (first | (with_reducible first | exact HB.out | apply below_alloc | apply pw_below_drewN | apply below_drew1 | refine below_set ?_ GE337.out) | exact HB.out)⟩
   ·replace c18 := Bool.eq_false_iff.mpr c18
    subst c18
    have H1 : ((newellaw20_Own.f a0_0 a0_1 a0_2 a0_3 a0_4 l0_5 l0_6 l0_7).bind fun bt355 => (newellaw20_CollectAll.l0 kj1 (wrap64 ((wrap64 ((bt355.2.2.2.2.2.1.length : Int) + (bt355.2.2.2.2.2.2.1.length : Int))) + (bt355.2.2.2.2.2.2.2.length : Int))) 0 0 0 a0_0 a0_1 a0_2 a0_3 a0_4 l0_5 l0_6 l0_7 bt355.1 bt355.2.1 bt355.2.2.1 bt355.2.2.2.1 bt355.2.2.2.2.1 bt355.2.2.2.2.2.1 bt355.2.2.2.2.2.2.1 bt355.2.2.2.2.2.2.2)) = some r := by rw [if_neg (show ¬ (false = true) by decide)] at H; exact H
    clear H
    have H := H1
    clear H1
    replace H := Option.bind_eq_some_iff.mp H
    obtain ⟨⟨t355, t356, t357, t358, t359, t360, t363, t366⟩, A210, H⟩ := H
    replace H : (newellaw20_CollectAll.l0 kj1 (wrap64 ((wrap64 ((t360.length : Int) + (t363.length : Int))) + (t366.length : Int))) 0 0 0 a0_0 a0_1 a0_2 a0_3 a0_4 l0_5 l0_6 l0_7 t355 t356 t357 t358 t359 t360 t363 t366) = some r := H
    have A21 := Aside0.mk A210
    clear A210
    have H' := Aside0.mk H
    clear H
    have hcz22_0 : wc.cell? ⟨gb337, 0, none⟩ = some (.int .i64 a0_0) := (blk_cell BK337.out 0).trans rfl
    have hcz22_1 : wc.cell? ⟨gb337, 1, none⟩ = some (.int .i64 a0_1) := (blk_cell BK337.out 1).trans rfl
    have hcz22_2 : wc.cell? ⟨gb337, 2, none⟩ = some (.int .i64 a0_2) := (blk_cell BK337.out 2).trans rfl
    have hcz22_3 : wc.cell? ⟨gb337, 3, none⟩ = some (.bool a0_3) := (blk_cell BK337.out 3).trans rfl
    have hcz22_4 : wc.cell? ⟨gb337, 4, none⟩ = some (.bool a0_4) := (blk_cell BK337.out 4).trans rfl
    have hcz22_5 : wc.cell? ⟨gb337, 5, none⟩ = some (.slice A0_5 l0_5.length c0_5) := (blk_cell BK337.out 5).trans rfl
    have hcz22_6 : wc.cell? ⟨gb337, 6, none⟩ = some (.slice A0_6 l0_6.length c0_6) := (blk_cell BK337.out 6).trans rfl
    have hcz22_7 : wc.cell? ⟨gb337, 7, none⟩ = some (.slice A0_7 l0_7.length c0_7) := (blk_cell BK337.out 7).trans rfl
    have hfz22_0 := blk_frozen BK337.out 0
    have hfz22_1 := blk_frozen BK337.out 1
    have hfz22_2 := blk_frozen BK337.out 2
    have hfz22_3 := blk_frozen BK337.out 3
    have hfz22_4 := blk_frozen BK337.out 4
    have hfz22_5 := blk_frozen BK337.out 5
    have hfz22_6 := blk_frozen BK337.out 6
    have hfz22_7 := blk_frozen BK337.out 7
    go_wp2_with (first | ((with_reducible refine gate_callee (f := 12) rfl ?_); refine goesL_ (some 23) rfl rfl Try.func12 (by kernel_rfl) rfl #[.agg #[.int .i64 a0_0, .int .i64 a0_1, .int .i64 a0_2, .bool a0_3, .bool a0_4, .slice A0_5 l0_5.length c0_5, .slice A0_6 l0_6.length c0_6, .slice A0_7 l0_7.length c0_7]] rfl (by (try simp only [List.map_toArray, List.map_cons, List.map_nil]); first | done | rfl | (simp only [List.length_drop, List.length_take]; rfl)) ?_; (with_reducible refine (newellaw20_Own.calls a0_0 a0_1 a0_2 a0_3 a0_4 _ _ l0_5 _ _ l0_6 _ _ l0_7 t355 t356 t357 t358 t359 t360 t363 t366 _ ?side1 ?side2 ?side3 ?side4 ?side5 ?side6 A21.out).mono ?_); (case side1 => repeat (first | exact (Kd.C_below HR0_5.out HB.out) | (with_reducible refine Kd.C_alloc ?_ _) | (with_reducible refine Kd.C_drewN ?_ _) | (with_reducible refine Kd.C_drew ?_))); (case side2 => exact HC0_5.out); (case side3 => repeat (first | exact (Kd.C_below HR0_6.out HB.out) | (with_reducible refine Kd.C_alloc ?_ _) | (with_reducible refine Kd.C_drewN ?_ _) | (with_reducible refine Kd.C_drew ?_))); (case side4 => exact HC0_6.out); (case side5 => repeat (first | exact (Kd.C_below HR0_7.out HB.out) | (with_reducible refine Kd.C_alloc ?_ _) | (with_reducible refine Kd.C_drewN ?_ _) | (with_reducible refine Kd.C_drew ?_))); (case side6 => exact HC0_7.out); rintro e w23 ⟨v361, v364, v367, rfl, ho0, ho1, ho2, hb⟩; refine ⟨_, rfl, ?_⟩; have n0_ := Aside0.mk (Kd.R_lower ho0 (below_size (by repeat (first | (with_reducible first | exact HB.out | apply below_alloc | apply pw_below_drewN | apply below_drew1 | refine below_set ?_ GE337.out) | exact HB.out)))); have n1_ := Aside0.mk (Kd.R_lower ho1 (below_size (by repeat (first | (with_reducible first | exact HB.out | apply below_alloc | apply pw_below_drewN | apply below_drew1 | refine below_set ?_ GE337.out) | exact HB.out)))); have n2_ := Aside0.mk (Kd.R_lower ho2 (below_size (by repeat (first | (with_reducible first | exact HB.out | apply below_alloc | apply pw_below_drewN | apply below_drew1 | refine below_set ?_ GE337.out) | exact HB.out)))); have n3_ := Aside0.mk (blk_below (g := gb337) (o := .cells #[.int .i64 a0_0, .int .i64 a0_1, .int .i64 a0_2, .bool a0_3, .bool a0_4, .slice A0_5 l0_5.length c0_5, .slice A0_6 l0_6.length c0_6, .slice A0_7 l0_7.length c0_7] 26 (0, 0)) (by (with_reducible repeat (first | refine blk_drewN ?_ _ | refine blk_drew ?_ | refine blk_alloc ?_ _)); exact BK337.out) hb); have n4_ := Aside0.mk (below_step (by repeat (first | (with_reducible first | exact HB.out | apply below_alloc | apply pw_below_drewN | apply below_drew1 | refine below_set ?_ GE337.out) | exact HB.out)) hb); clear BK337; clear HB; have HO362 := n0_; have HO365 := n1_; have HO368 := n2_; have BK337 := n3_; have HB := n4_; clear n0_ n1_ n2_ n3_ n4_; (try clear hb); (try clear hb2); (try clear hk); (try clear hi); (try clear ho0); (try clear ho1); (try clear ho2)) | ((with_reducible refine gate_dst (N := 3) rfl ?_); (try (refine gate_guard (by rfl) ?_; dsimp only)); refine box_event ?hg (N := 3) ?hd (cs := #[.int .i64 0, .int .i64 0, .int .i64 0, .bool false, .bool false, .slice none 0 0, .slice none 0 0, .slice none 0 0]) (t := 26) ?hr ?_; (case hd => rfl); (case hg => rfl); (case hr => first | (go_simp; done) | (go_simp; rfl)); intro gb369 hg w24 hbox hb; have n0_ := Aside0.mk (Kd.R_below (by (with_reducible repeat (first | apply Kd.R_alloc | apply Kd.R_drewN | apply Kd.R_drew)); exact HO362.out) hb); have n1_ := Aside0.mk (Kd.R_below (by (with_reducible repeat (first | apply Kd.R_alloc | apply Kd.R_drewN | apply Kd.R_drew)); exact HO365.out) hb); have n2_ := Aside0.mk (Kd.R_below (by (with_reducible repeat (first | apply Kd.R_alloc | apply Kd.R_drewN | apply Kd.R_drew)); exact HO368.out) hb); have n3_ := Aside0.mk (blk_below (g := gb337) (o := .cells #[.int .i64 a0_0, .int .i64 a0_1, .int .i64 a0_2, .bool a0_3, .bool a0_4, .slice A0_5 l0_5.length c0_5, .slice A0_6 l0_6.length c0_6, .slice A0_7 l0_7.length c0_7] 26 (0, 0)) (by (with_reducible repeat (first | refine blk_drewN ?_ _ | refine blk_drew ?_ | refine blk_alloc ?_ _)); exact BK337.out) hb); have n4_ := Aside0.mk (below_step (by repeat (first | (with_reducible first | exact HB.out | apply below_alloc | apply pw_below_drewN | apply below_drew1 | refine below_set ?_ GE337.out) | exact HB.out)) hb); have n5_ := Aside0.mk (hbox); have n6_ := Aside0.mk ((by rw [hg]; exact (below_size (by repeat (first | (with_reducible first | exact HB.out | apply below_alloc | apply pw_below_drewN | apply below_drew1 | refine below_set ?_ GE337.out) | exact HB.out))) : w.heap.size ≤ gb369)); have n7_ := Aside0.mk ((by rw [hg]; exact (below_size (by repeat (first | (with_reducible first | exact HB.out | apply below_alloc | apply pw_below_drewN | apply below_drew1 | refine below_set ?_ GE337.out) | exact HB.out))) : w.heap.size ≤ gb369)); have n8_ := Aside0.mk ((by rw [hg]; exact Nat.ne_of_lt (blk_lt (g := gb337) (o := .cells #[.int .i64 a0_0, .int .i64 a0_1, .int .i64 a0_2, .bool a0_3, .bool a0_4, .slice A0_5 l0_5.length c0_5, .slice A0_6 l0_6.length c0_6, .slice A0_7 l0_7.length c0_7] 26 (0, 0)) (by (with_reducible repeat (first | refine blk_drewN ?_ _ | refine blk_drew ?_ | refine blk_alloc ?_ _)); exact BK337.out)) : gb337 ≠ gb369)); have n9_ := Aside0.mk ((by rw [hg]; exact Nat.ne_of_gt (blk_lt (g := gb337) (o := .cells #[.int .i64 a0_0, .int .i64 a0_1, .int .i64 a0_2, .bool a0_3, .bool a0_4, .slice A0_5 l0_5.length c0_5, .slice A0_6 l0_6.length c0_6, .slice A0_7 l0_7.length c0_7] 26 (0, 0)) (by (with_reducible repeat (first | refine blk_drewN ?_ _ | refine blk_drew ?_ | refine blk_alloc ?_ _)); exact BK337.out)) : gb369 ≠ gb337)); clear HO362; clear HO365; clear HO368; clear BK337; clear HB; have HO362 := n0_; have HO365 := n1_; have HO368 := n2_; have BK337 := n3_; have HB := n4_; have BK369 := n5_; have GW369 := n6_; have GE369 := n7_; have NB337_369 := n8_; have NB369_337 := n9_; clear n0_ n1_ n2_ n3_ n4_ n5_ n6_ n7_ n8_ n9_; clear hb hbox hg; have hnb25 := NB369_337.out; have hnc25 := NB337_369.out; have hcz26_0 : w24.cell? ⟨gb369, 0, none⟩ = some (.int .i64 0) := (blk_cell BK369.out 0).trans rfl; have hcz26_1 : w24.cell? ⟨gb369, 1, none⟩ = some (.int .i64 0) := (blk_cell BK369.out 1).trans rfl; have hcz26_2 : w24.cell? ⟨gb369, 2, none⟩ = some (.int .i64 0) := (blk_cell BK369.out 2).trans rfl; have hcz26_3 : w24.cell? ⟨gb369, 3, none⟩ = some (.bool false) := (blk_cell BK369.out 3).trans rfl; have hcz26_4 : w24.cell? ⟨gb369, 4, none⟩ = some (.bool false) := (blk_cell BK369.out 4).trans rfl; have hcz26_5 : w24.cell? ⟨gb369, 5, none⟩ = some (.slice none 0 0) := (blk_cell BK369.out 5).trans rfl; have hcz26_6 : w24.cell? ⟨gb369, 6, none⟩ = some (.slice none 0 0) := (blk_cell BK369.out 6).trans rfl; have hcz26_7 : w24.cell? ⟨gb369, 7, none⟩ = some (.slice none 0 0) := (blk_cell BK369.out 7).trans rfl; have hfz26_0 := blk_frozen BK369.out 0; have hfz26_1 := blk_frozen BK369.out 1; have hfz26_2 := blk_frozen BK369.out 2; have hfz26_3 := blk_frozen BK369.out 3; have hfz26_4 := blk_frozen BK369.out 4; have hfz26_5 := blk_frozen BK369.out 5; have hfz26_6 := blk_frozen BK369.out 6; have hfz26_7 := blk_frozen BK369.out 7; obtain ⟨Ao27, co27, eo27⟩ := Kd.R_slice HO362.out; subst eo27; obtain ⟨Ao28, co28, eo28⟩ := Kd.R_slice HO365.out; subst eo28; obtain ⟨Ao29, co29, eo29⟩ := Kd.R_slice HO368.out; subst eo29))
    go_loopg [5, 6, 7] kj1 (fun kq v5 v6 v7 w' => ∃ (x5_2 : Int) (x6_2 : Int) (x7_2 : Int) (x370001_2 : Int) (x370002_2 : Int) (x370003_2 : Bool) (x370004_2 : Bool) (x370005_2 : List Int) (x370006_2 : List Int) (x370007_2 : List Int) (u370005 : Value) (u370006 : Value) (u370007 : Value), v5 = .int .i64 x5_2 ∧ v6 = .int .i64 x6_2 ∧ v7 = .int .i64 x7_2 ∧ Aside0 (newellaw20_CollectAll.l0 kq (wrap64 ((wrap64 ((t360.length : Int) + (t363.length : Int))) + (t366.length : Int))) x5_2 x6_2 x7_2 a0_0 a0_1 a0_2 a0_3 a0_4 l0_5 l0_6 l0_7 t355 x370001_2 x370002_2 x370003_2 x370004_2 x370005_2 x370006_2 x370007_2 = some r) ∧ Aside0 (kq ≤ kj1) ∧ Aside0 (Kd.R (Kd.int .i64) 3 w' w.heap.size (fun k_ => some k_ ≠ (u370006 : Value).ownBlock ∧ some k_ ≠ (u370007 : Value).ownBlock) u370005 x370005_2) ∧ Aside0 (Kd.R (Kd.int .i64) 3 w' w.heap.size (fun k_ => some k_ ≠ (u370005 : Value).ownBlock ∧ some k_ ≠ (u370007 : Value).ownBlock) u370006 x370006_2) ∧ Aside0 (Kd.R (Kd.int .i64) 3 w' w.heap.size (fun k_ => some k_ ≠ (u370005 : Value).ownBlock ∧ some k_ ≠ (u370006 : Value).ownBlock) u370007 x370007_2) ∧ Aside0 (w'.heap[gb337]? = some (.cells #[.int .i64 a0_0, .int .i64 a0_1, .int .i64 a0_2, .bool a0_3, .bool a0_4, (.slice A0_5 l0_5.length c0_5), (.slice A0_6 l0_6.length c0_6), (.slice A0_7 l0_7.length c0_7)] 26 (0, 0))) ∧ Aside0 (w'.heap[gb369]? = some (.cells #[.int .i64 t355, .int .i64 x370001_2, .int .i64 x370002_2, .bool x370003_2, .bool x370004_2, u370005, u370006, u370007] 26 (0, 0))) ∧ Aside0 (Below w.heap.size w w'))
    case atStart => exact ⟨(0), (0), (0), (t356), (t357), (t358), (t359), (t360), (t363), (t366), (.slice Ao27 t360.length co27), (.slice Ao28 t363.length co28), (.slice Ao29 t366.length co29), (by first | rfl | (simp; done) | (simp [*]; done)), (by first | rfl | (simp; done) | (simp [*]; done)), (by first | rfl | (simp; done) | (simp [*]; done)), H', ⟨Nat.le_refl _⟩, ⟨by (with_reducible repeat (first | apply Kd.R_alloc | apply Kd.R_drewN | apply Kd.R_drew)); exact Kd.R_mono (Kd.R_far (p := ⟨gb369, 7, none⟩) (Kd.R_far (p := ⟨gb369, 6, none⟩) (Kd.R_far (p := ⟨gb369, 5, none⟩) (Kd.R_far (p := ⟨gb369, 4, none⟩) (Kd.R_far (p := ⟨gb369, 3, none⟩) (Kd.R_far (p := ⟨gb369, 2, none⟩) (Kd.R_far (p := ⟨gb369, 1, none⟩) (Kd.R_far (p := ⟨gb369, 0, none⟩) (Kd.R_types HO362.out BK369.out (by decide)) (fun _ hk => hk.2) (.int .i64 t355)) (fun _ hk => hk.2) (.int .i64 t356)) (fun _ hk => hk.2) (.int .i64 t357)) (fun _ hk => hk.2) (.bool t358)) (fun _ hk => hk.2) (.bool t359)) (fun _ hk => hk.2) (.slice Ao27 t360.length co27)) (fun _ hk => hk.2) (.slice Ao28 t363.length co28)) (fun _ hk => hk.2) (.slice Ao29 t366.length co29)) (fun _ hk => ⟨hk.1.1, hk.1.2⟩)⟩, ⟨by (with_reducible repeat (first | apply Kd.R_alloc | apply Kd.R_drewN | apply Kd.R_drew)); exact Kd.R_mono (Kd.R_far (p := ⟨gb369, 7, none⟩) (Kd.R_far (p := ⟨gb369, 6, none⟩) (Kd.R_far (p := ⟨gb369, 5, none⟩) (Kd.R_far (p := ⟨gb369, 4, none⟩) (Kd.R_far (p := ⟨gb369, 3, none⟩) (Kd.R_far (p := ⟨gb369, 2, none⟩) (Kd.R_far (p := ⟨gb369, 1, none⟩) (Kd.R_far (p := ⟨gb369, 0, none⟩) (Kd.R_types HO365.out BK369.out (by decide)) (fun _ hk => hk.2) (.int .i64 t355)) (fun _ hk => hk.2) (.int .i64 t356)) (fun _ hk => hk.2) (.int .i64 t357)) (fun _ hk => hk.2) (.bool t358)) (fun _ hk => hk.2) (.bool t359)) (fun _ hk => hk.2) (.slice Ao27 t360.length co27)) (fun _ hk => hk.2) (.slice Ao28 t363.length co28)) (fun _ hk => hk.2) (.slice Ao29 t366.length co29)) (fun _ hk => ⟨hk.1.1, hk.1.2⟩)⟩, ⟨by (with_reducible repeat (first | apply Kd.R_alloc | apply Kd.R_drewN | apply Kd.R_drew)); exact Kd.R_mono (Kd.R_far (p := ⟨gb369, 7, none⟩) (Kd.R_far (p := ⟨gb369, 6, none⟩) (Kd.R_far (p := ⟨gb369, 5, none⟩) (Kd.R_far (p := ⟨gb369, 4, none⟩) (Kd.R_far (p := ⟨gb369, 3, none⟩) (Kd.R_far (p := ⟨gb369, 2, none⟩) (Kd.R_far (p := ⟨gb369, 1, none⟩) (Kd.R_far (p := ⟨gb369, 0, none⟩) (Kd.R_types HO368.out BK369.out (by decide)) (fun _ hk => hk.2) (.int .i64 t355)) (fun _ hk => hk.2) (.int .i64 t356)) (fun _ hk => hk.2) (.int .i64 t357)) (fun _ hk => hk.2) (.bool t358)) (fun _ hk => hk.2) (.bool t359)) (fun _ hk => hk.2) (.slice Ao27 t360.length co27)) (fun _ hk => hk.2) (.slice Ao28 t363.length co28)) (fun _ hk => hk.2) (.slice Ao29 t366.length co29)) (fun _ hk => ⟨hk.1.1, hk.1.2⟩)⟩, ⟨by (with_reducible repeat (first | refine blk_drewN ?_ _ | refine blk_drew ?_ | refine blk_alloc ?_ _)); refine blk_far ?_ NB337_369.out _; (with_reducible repeat (first | refine blk_drewN ?_ _ | refine blk_drew ?_ | refine blk_alloc ?_ _)); refine blk_far ?_ NB337_369.out _; (with_reducible repeat (first | refine blk_drewN ?_ _ | refine blk_drew ?_ | refine blk_alloc ?_ _)); refine blk_far ?_ NB337_369.out _; (with_reducible repeat (first | refine blk_drewN ?_ _ | refine blk_drew ?_ | refine blk_alloc ?_ _)); refine blk_far ?_ NB337_369.out _; (with_reducible repeat (first | refine blk_drewN ?_ _ | refine blk_drew ?_ | refine blk_alloc ?_ _)); refine blk_far ?_ NB337_369.out _; (with_reducible repeat (first | refine blk_drewN ?_ _ | refine blk_drew ?_ | refine blk_alloc ?_ _)); refine blk_far ?_ NB337_369.out _; (with_reducible repeat (first | refine blk_drewN ?_ _ | refine blk_drew ?_ | refine blk_alloc ?_ _)); refine blk_far ?_ NB337_369.out _; (with_reducible repeat (first | refine blk_drewN ?_ _ | refine blk_drew ?_ | refine blk_alloc ?_ _)); refine blk_far ?_ NB337_369.out _; (with_reducible repeat (first | refine blk_drewN ?_ _ | refine blk_drew ?_ | refine blk_alloc ?_ _)); exact BK337.out⟩, ⟨by (with_reducible repeat (first | refine blk_drewN ?_ _ | refine blk_drew ?_ | refine blk_alloc ?_ _)); refine blk_put (cs := #[.int .i64 t355, .int .i64 t356, .int .i64 t357, .bool t358, .bool t359, .slice Ao27 t360.length co27, .slice Ao28 t363.length co28, .slice none 0 0]) ?_ 7 _ rfl; (with_reducible repeat (first | refine blk_drewN ?_ _ | refine blk_drew ?_ | refine blk_alloc ?_ _)); refine blk_put (cs := #[.int .i64 t355, .int .i64 t356, .int .i64 t357, .bool t358, .bool t359, .slice Ao27 t360.length co27, .slice none 0 0, .slice none 0 0]) ?_ 6 _ rfl; (with_reducible repeat (first | refine blk_drewN ?_ _ | refine blk_drew ?_ | refine blk_alloc ?_ _)); refine blk_put (cs := #[.int .i64 t355, .int .i64 t356, .int .i64 t357, .bool t358, .bool t359, .slice none 0 0, .slice none 0 0, .slice none 0 0]) ?_ 5 _ rfl; (with_reducible repeat (first | refine blk_drewN ?_ _ | refine blk_drew ?_ | refine blk_alloc ?_ _)); refine blk_put (cs := #[.int .i64 t355, .int .i64 t356, .int .i64 t357, .bool t358, .bool false, .slice none 0 0, .slice none 0 0, .slice none 0 0]) ?_ 4 _ rfl; (with_reducible repeat (first | refine blk_drewN ?_ _ | refine blk_drew ?_ | refine blk_alloc ?_ _)); refine blk_put (cs := #[.int .i64 t355, .int .i64 t356, .int .i64 t357, .bool false, .bool false, .slice none 0 0, .slice none 0 0, .slice none 0 0]) ?_ 3 _ rfl; (with_reducible repeat (first | refine blk_drewN ?_ _ | refine blk_drew ?_ | refine blk_alloc ?_ _)); refine blk_put (cs := #[.int .i64 t355, .int .i64 t356, .int .i64 0, .bool false, .bool false, .slice none 0 0, .slice none 0 0, .slice none 0 0]) ?_ 2 _ rfl; (with_reducible repeat (first | refine blk_drewN ?_ _ | refine blk_drew ?_ | refine blk_alloc ?_ _)); refine blk_put (cs := #[.int .i64 t355, .int .i64 0, .int .i64 0, .bool false, .bool false, .slice none 0 0, .slice none 0 0, .slice none 0 0]) ?_ 1 _ rfl; (with_reducible repeat (first | refine blk_drewN ?_ _ | refine blk_drew ?_ | refine blk_alloc ?_ _)); refine blk_put (cs := #[.int .i64 0, .int .i64 0, .int .i64 0, .bool false, .bool false, .slice none 0 0, .slice none 0 0, .slice none 0 0]) ?_ 0 _ rfl; (with_reducible repeat (first | refine blk_drewN ?_ _ | refine blk_drew ?_ | refine blk_alloc ?_ _)); exact BK369.out⟩, ⟨by repeat (first | (with_reducible first | exact HB.out | apply below_alloc | apply pw_below_drewN | apply below_drew1 | refine below_set ?_ GE337.out | refine below_set ?_ GE369.out) | exact HB.out)⟩⟩
    case round =>
     clear H'
     try clear c1
     try clear c2
     try clear p2
     try clear c5
     try clear p6
     try clear c7
     try clear c9
     try clear c10
     try clear c12
     try clear c18
     try clear c25
     try clear hcz10_0
     try clear hcz10_1
     try clear hcz10_2
     try clear hcz10_3
     try clear hcz10_4
     try clear hcz10_5
     try clear hcz10_6
     try clear hcz10_7
     try clear hcz16_0
     try clear hcz16_1
     try clear hcz16_2
     try clear hcz16_3
     try clear hcz16_4
     try clear hcz16_5
     try clear hcz16_6
     try clear hcz16_7
     try clear hcz22_0
     try clear hcz22_1
     try clear hcz22_2
     try clear hcz22_3
     try clear hcz22_4
     try clear hcz22_5
     try clear hcz22_6
     try clear hcz22_7
     try clear hcz26_0
     try clear hcz26_1
     try clear hcz26_2
     try clear hcz26_3
     try clear hcz26_4
     try clear hcz26_5
     try clear hcz26_6
     try clear hcz26_7
     try clear hcz8_0
     try clear hcz8_1
     try clear hcz8_2
     try clear hcz8_3
     try clear hcz8_4
     try clear hcz8_5
     try clear hcz8_6
     try clear hcz8_7
     try clear hfz10_0
     try clear hfz10_1
     try clear hfz10_2
     try clear hfz10_3
     try clear hfz10_4
     try clear hfz10_5
     try clear hfz10_6
     try clear hfz10_7
     try clear hfz16_0
     try clear hfz16_1
     try clear hfz16_2
     try clear hfz16_3
     try clear hfz16_4
     try clear hfz16_5
     try clear hfz16_6
     try clear hfz16_7
     try clear hfz22_0
     try clear hfz22_1
     try clear hfz22_2
     try clear hfz22_3
     try clear hfz22_4
     try clear hfz22_5
     try clear hfz22_6
     try clear hfz22_7
     try clear hfz26_0
     try clear hfz26_1
     try clear hfz26_2
     try clear hfz26_3
     try clear hfz26_4
     try clear hfz26_5
     try clear hfz26_6
     try clear hfz26_7
     try clear hfz8_0
     try clear hfz8_1
     try clear hfz8_2
     try clear hfz8_3
     try clear hfz8_4
     try clear hfz8_5
     try clear hfz8_6
     try clear hfz8_7
     try clear p2
     obtain ⟨x5_2, x6_2, x7_2, x370001_2, x370002_2, x370003_2, x370004_2, x370005_2, x370006_2, x370007_2, u370005, u370006, u370007, rfl, rfl, rfl, HA, HK2, HO_370005, HO_370006, HO_370007, BK337, BK369, HB⟩ := hrel
     cases gk with
     | zero => exact absurd HA.out (by simp [newellaw20_CollectAll.l0])
     | succ k2 =>
      have H := HA.out
      clear HA
      simp only [newellaw20_CollectAll.l0] at H
      by_cases c30 : x7_2 ≤ (wrap64 ((wrap64 (3 * a0_0)) + (wrap64 ((wrap64 ((t360.length : Int) + (t363.length : Int))) + (t366.length : Int)))))
      ·rw [if_pos c30] at H
       have c30b0 : decide (x7_2 ≤ (wrap64 ((wrap64 (3 * a0_0)) + (wrap64 ((wrap64 ((t360.length : Int) + (t363.length : Int))) + (t366.length : Int)))))) = true := decide_eq_true c30
       clear c30
       have HC31 := Aside0.mk H
       clear H
       have hnb32 := NB337_369.out
       have hnc32 := NB369_337.out
       have hcz33_0 : wr.cell? ⟨gb337, 0, none⟩ = some (.int .i64 a0_0) := (blk_cell BK337.out 0).trans rfl
       have hcz33_1 : wr.cell? ⟨gb337, 1, none⟩ = some (.int .i64 a0_1) := (blk_cell BK337.out 1).trans rfl
       have hcz33_2 : wr.cell? ⟨gb337, 2, none⟩ = some (.int .i64 a0_2) := (blk_cell BK337.out 2).trans rfl
       have hcz33_3 : wr.cell? ⟨gb337, 3, none⟩ = some (.bool a0_3) := (blk_cell BK337.out 3).trans rfl
       have hcz33_4 : wr.cell? ⟨gb337, 4, none⟩ = some (.bool a0_4) := (blk_cell BK337.out 4).trans rfl
       have hcz33_5 : wr.cell? ⟨gb337, 5, none⟩ = some (.slice A0_5 l0_5.length c0_5) := (blk_cell BK337.out 5).trans rfl
       have hcz33_6 : wr.cell? ⟨gb337, 6, none⟩ = some (.slice A0_6 l0_6.length c0_6) := (blk_cell BK337.out 6).trans rfl
       have hcz33_7 : wr.cell? ⟨gb337, 7, none⟩ = some (.slice A0_7 l0_7.length c0_7) := (blk_cell BK337.out 7).trans rfl
       have hfz33_0 := blk_frozen BK337.out 0
       have hfz33_1 := blk_frozen BK337.out 1
       have hfz33_2 := blk_frozen BK337.out 2
       have hfz33_3 := blk_frozen BK337.out 3
       have hfz33_4 := blk_frozen BK337.out 4
       have hfz33_5 := blk_frozen BK337.out 5
       have hfz33_6 := blk_frozen BK337.out 6
       have hfz33_7 := blk_frozen BK337.out 7
       go_upto_block 1 with (fail)
       go_cut [5, 6] (fun v5 v6 wc => ∃ (kq : Nat) (x5_30 : Int) (x6_30 : Int) (x370001_30 : Int) (x370002_30 : Int) (x370003_30 : Bool) (x370004_30 : Bool) (x370005_30 : List Int) (x370006_30 : List Int) (x370007_30 : List Int) (u370005 : Value) (u370006 : Value) (u370007 : Value), v5 = .int .i64 x5_30 ∧ v6 = .int .i64 x6_30 ∧ Aside0 (newellaw20_CollectAll.j4 kq (wrap64 ((wrap64 ((t360.length : Int) + (t363.length : Int))) + (t366.length : Int))) x5_30 x6_30 x7_2 a0_0 a0_1 a0_2 a0_3 a0_4 l0_5 l0_6 l0_7 t355 x370001_30 x370002_30 x370003_30 x370004_30 x370005_30 x370006_30 x370007_30 = some r) ∧ Aside0 (kq ≤ k2) ∧ Aside0 (Kd.R (Kd.int .i64) 3 wc w.heap.size (fun k_ => some k_ ≠ (u370006 : Value).ownBlock ∧ some k_ ≠ (u370007 : Value).ownBlock) u370005 x370005_30) ∧ Aside0 (Kd.R (Kd.int .i64) 3 wc w.heap.size (fun k_ => some k_ ≠ (u370005 : Value).ownBlock ∧ some k_ ≠ (u370007 : Value).ownBlock) u370006 x370006_30) ∧ Aside0 (Kd.R (Kd.int .i64) 3 wc w.heap.size (fun k_ => some k_ ≠ (u370005 : Value).ownBlock ∧ some k_ ≠ (u370006 : Value).ownBlock) u370007 x370007_30) ∧ Aside0 (wc.heap[gb337]? = some (.cells #[.int .i64 a0_0, .int .i64 a0_1, .int .i64 a0_2, .bool a0_3, .bool a0_4, (.slice A0_5 l0_5.length c0_5), (.slice A0_6 l0_6.length c0_6), (.slice A0_7 l0_7.length c0_7)] 26 (0, 0))) ∧ Aside0 (wc.heap[gb369]? = some (.cells #[.int .i64 t355, .int .i64 x370001_30, .int .i64 x370002_30, .bool x370003_30, .bool x370004_30, u370005, u370006, u370007] 26 (0, 0))) ∧ Aside0 (Below w.heap.size w wc))
       case first =>
        have H := HC31.out
        clear HC31
        replace H := Option.bind_eq_some_iff.mp H
        obtain ⟨⟨t370, t371, t372⟩, A340, H⟩ := H
        replace H : (if t372 = 0 then (if t370 = 0 then ((newellaw20_awake.f k2).bind fun t373 => (if t373 = true then (if (wrap64 ((wrap64 ((x370005_2.length : Int) + (x370006_2.length : Int))) + (x370007_2.length : Int))) = 0 then (if x5_2 ≤ (wrap64 (3 * (wrap64 (a0_0 - 1)))) then (newellaw20_CollectAll.j2 k2 (decide (x6_2 ≤ (wrap64 ((wrap64 ((t360.length : Int) + (t363.length : Int))) + (t366.length : Int)))))) else (none)) else (none)) else (none))) else (if t370 = 3 then ((newellaw20_without.f k2 x370005_2 x370001_2).bind fun t374 => (if t371 = 1 then ((newellaw20_without.f k2 x370006_2 x370001_2).bind fun t377 => (newellaw20_CollectAll.j3 k2 (wrap64 ((wrap64 ((t360.length : Int) + (t363.length : Int))) + (t366.length : Int))) x5_2 (wrap64 (x6_2 + 1)) x7_2 a0_0 a0_1 a0_2 a0_3 a0_4 l0_5 l0_6 l0_7 t355 x370001_2 t371 true x370004_2 t374 t377 x370007_2)) else ((newellaw20_without.f k2 x370007_2 x370001_2).bind fun t380 => (newellaw20_CollectAll.j3 k2 (wrap64 ((wrap64 ((t360.length : Int) + (t363.length : Int))) + (t366.length : Int))) x5_2 (wrap64 (x6_2 + 1)) x7_2 a0_0 a0_1 a0_2 a0_3 a0_4 l0_5 l0_6 l0_7 t355 x370001_2 t371 x370003_2 true t374 x370006_2 t380)))) else (newellaw20_CollectAll.j4 k2 (wrap64 ((wrap64 ((t360.length : Int) + (t363.length : Int))) + (t366.length : Int))) (wrap64 (x5_2 + 1)) x6_2 x7_2 a0_0 a0_1 a0_2 a0_3 a0_4 l0_5 l0_6 l0_7 t355 (wrap64 (x370001_2 + t371)) t371 false false x370005_2 x370006_2 x370007_2))) else (none)) = some r := H
        have A34 := Aside0.mk A340
        clear A340
        by_cases c35 : t372 = 0
        ·rw [if_pos c35] at H
         have c35b0 : (t372 == 0) = true := beq_iff_eq.mpr c35
         have c35b1 : (t372 != 0) = false := bne_eq_false_iff_eq.mpr c35
         clear c35
         (first | rw [c35b0] | (simp only [i64_w, i32_w]; rw [c35b0]) | skip)
         by_cases c36 : t370 = 0
         ·rw [if_pos c36] at H
          have c36b0 : (t370 == 0) = true := beq_iff_eq.mpr c36
          have c36b1 : (t370 != 0) = false := bne_eq_false_iff_eq.mpr c36
          clear c36
          have HC37 := Aside0.mk H
          clear H
          have hnb38 := NB369_337.out
          have hnc38 := NB337_369.out
          have hcz39_0 : wr.cell? ⟨gb369, 0, none⟩ = some (.int .i64 t355) := (blk_cell BK369.out 0).trans rfl
          have hcz39_1 : wr.cell? ⟨gb369, 1, none⟩ = some (.int .i64 x370001_2) := (blk_cell BK369.out 1).trans rfl
          have hcz39_2 : wr.cell? ⟨gb369, 2, none⟩ = some (.int .i64 x370002_2) := (blk_cell BK369.out 2).trans rfl
          have hcz39_3 : wr.cell? ⟨gb369, 3, none⟩ = some (.bool x370003_2) := (blk_cell BK369.out 3).trans rfl
          have hcz39_4 : wr.cell? ⟨gb369, 4, none⟩ = some (.bool x370004_2) := (blk_cell BK369.out 4).trans rfl
          have hcz39_5 : wr.cell? ⟨gb369, 5, none⟩ = some (u370005) := (blk_cell BK369.out 5).trans rfl
          have hcz39_6 : wr.cell? ⟨gb369, 6, none⟩ = some (u370006) := (blk_cell BK369.out 6).trans rfl
          have hcz39_7 : wr.cell? ⟨gb369, 7, none⟩ = some (u370007) := (blk_cell BK369.out 7).trans rfl
          have hfz39_0 := blk_frozen BK369.out 0
          have hfz39_1 := blk_frozen BK369.out 1
          have hfz39_2 := blk_frozen BK369.out 2
          have hfz39_3 := blk_frozen BK369.out 3
          have hfz39_4 := blk_frozen BK369.out 4
          have hfz39_5 := blk_frozen BK369.out 5
          have hfz39_6 := blk_frozen BK369.out 6
          have hfz39_7 := blk_frozen BK369.out 7
          obtain ⟨Ao40, co40, eo40⟩ := Kd.R_slice HO_370005.out
          subst eo40
          obtain ⟨Ao41, co41, eo41⟩ := Kd.R_slice HO_370006.out
          subst eo41
          obtain ⟨Ao42, co42, eo42⟩ := Kd.R_slice HO_370007.out
          subst eo42
          go_upto_region 14 with (first | ((with_reducible refine gate_callee (f := 11) rfl ?_); refine goesL_ (some 49) rfl rfl Try.func11 (by kernel_rfl) rfl #[.agg #[.int .i64 t355, .int .i64 x370001_2, .int .i64 x370002_2, .bool x370003_2, .bool x370004_2, .slice Ao40 x370005_2.length co40, .slice Ao41 x370006_2.length co41, .slice Ao42 x370007_2.length co42]] rfl (by (try simp only [List.map_toArray, List.map_cons, List.map_nil]); first | done | rfl | (simp only [List.length_drop, List.length_take]; rfl)) ?_; (with_reducible refine (collect_Next.calls k2 t355 x370001_2 x370002_2 x370003_2 x370004_2 _ _ x370005_2 _ _ x370006_2 _ _ x370007_2 t370 t371 t372 _ ?side1 ?side2 ?side3 ?side4 ?side5 ?side6 A34.out).mono ?_); (case side1 => repeat (first | exact (Kd.R_reads' HO_370005.out).2.2 | (with_reducible refine Kd.C_alloc ?_ _) | (with_reducible refine Kd.C_drewN ?_ _) | (with_reducible refine Kd.C_drew ?_))); (case side2 => exact (Kd.R_reads' HO_370005.out).2.1); (case side3 => repeat (first | exact (Kd.R_reads' HO_370006.out).2.2 | (with_reducible refine Kd.C_alloc ?_ _) | (with_reducible refine Kd.C_drewN ?_ _) | (with_reducible refine Kd.C_drew ?_))); (case side4 => exact (Kd.R_reads' HO_370006.out).2.1); (case side5 => repeat (first | exact (Kd.R_reads' HO_370007.out).2.2 | (with_reducible refine Kd.C_alloc ?_ _) | (with_reducible refine Kd.C_drewN ?_ _) | (with_reducible refine Kd.C_drew ?_))); (case side6 => exact (Kd.R_reads' HO_370007.out).2.1); rintro e w43 ⟨rfl, hb⟩; refine ⟨_, rfl, ?_⟩; have n0_ := Aside0.mk (Kd.R_below (by (with_reducible repeat (first | apply Kd.R_alloc | apply Kd.R_drewN | apply Kd.R_drew)); exact HO_370005.out) hb); have n1_ := Aside0.mk (Kd.R_below (by (with_reducible repeat (first | apply Kd.R_alloc | apply Kd.R_drewN | apply Kd.R_drew)); exact HO_370006.out) hb); have n2_ := Aside0.mk (Kd.R_below (by (with_reducible repeat (first | apply Kd.R_alloc | apply Kd.R_drewN | apply Kd.R_drew)); exact HO_370007.out) hb); have n3_ := Aside0.mk (blk_below (g := gb337) (o := .cells #[.int .i64 a0_0, .int .i64 a0_1, .int .i64 a0_2, .bool a0_3, .bool a0_4, .slice A0_5 l0_5.length c0_5, .slice A0_6 l0_6.length c0_6, .slice A0_7 l0_7.length c0_7] 26 (0, 0)) (by (with_reducible repeat (first | refine blk_drewN ?_ _ | refine blk_drew ?_ | refine blk_alloc ?_ _)); exact BK337.out) hb); have n4_ := Aside0.mk (blk_below (g := gb369) (o := .cells #[.int .i64 t355, .int .i64 x370001_2, .int .i64 x370002_2, .bool x370003_2, .bool x370004_2, .slice Ao40 x370005_2.length co40, .slice Ao41 x370006_2.length co41, .slice Ao42 x370007_2.length co42] 26 (0, 0)) (by (with_reducible repeat (first | refine blk_drewN ?_ _ | refine blk_drew ?_ | refine blk_alloc ?_ _)); exact BK369.out) hb); have n5_ := Aside0.mk (below_step (by repeat (first | (with_reducible first | exact HB.out | apply below_alloc | apply pw_below_drewN | apply below_drew1 | refine below_set ?_ GE337.out | refine below_set ?_ GE369.out) | exact HB.out)) hb); clear HO_370005; clear HO_370006; clear HO_370007; clear BK337; clear BK369; clear HB; have HO_370005 := n0_; have HO_370006 := n1_; have HO_370007 := n2_; have BK337 := n3_; have BK369 := n4_; have HB := n5_; clear n0_ n1_ n2_ n3_ n4_ n5_; (try clear hb); (try clear hb2); (try clear hk); (try clear hi)))
          (try simp only [Act.put, List.setIfInBounds_toArray, List.set_cons_zero, List.set_cons_succ])
          go_cut [2] (fun v2 wc => ∃ (kq : Nat) (x2_36 : Bool), v2 = .bool x2_36 ∧ Aside0 (newellaw20_CollectAll.j2 kq x2_36 = some r) ∧ Aside0 (kq ≤ k2) ∧ Aside0 (Kd.R (Kd.int .i64) 3 wc w.heap.size (fun k_ => some k_ ≠ ((.slice Ao41 x370006_2.length co41) : Value).ownBlock ∧ some k_ ≠ ((.slice Ao42 x370007_2.length co42) : Value).ownBlock) (.slice Ao40 x370005_2.length co40) x370005_2) ∧ Aside0 (Kd.R (Kd.int .i64) 3 wc w.heap.size (fun k_ => some k_ ≠ ((.slice Ao40 x370005_2.length co40) : Value).ownBlock ∧ some k_ ≠ ((.slice Ao42 x370007_2.length co42) : Value).ownBlock) (.slice Ao41 x370006_2.length co41) x370006_2) ∧ Aside0 (Kd.R (Kd.int .i64) 3 wc w.heap.size (fun k_ => some k_ ≠ ((.slice Ao40 x370005_2.length co40) : Value).ownBlock ∧ some k_ ≠ ((.slice Ao41 x370006_2.length co41) : Value).ownBlock) (.slice Ao42 x370007_2.length co42) x370007_2) ∧ Aside0 (wc.heap[gb337]? = some (.cells #[.int .i64 a0_0, .int .i64 a0_1, .int .i64 a0_2, .bool a0_3, .bool a0_4, (.slice A0_5 l0_5.length c0_5), (.slice A0_6 l0_6.length c0_6), (.slice A0_7 l0_7.length c0_7)] 26 (0, 0))) ∧ Aside0 (wc.heap[gb369]? = some (.cells #[.int .i64 t355, .int .i64 x370001_2, .int .i64 x370002_2, .bool x370003_2, .bool x370004_2, (.slice Ao40 x370005_2.length co40), (.slice Ao41 x370006_2.length co41), (.slice Ao42 x370007_2.length co42)] 26 (0, 0))) ∧ Aside0 (Below w.heap.size w wc))
          case first =>
           have H := HC37.out
           clear HC37
           replace H := Option.bind_eq_some_iff.mp H
           obtain ⟨t373, A440, H⟩ := H
           replace H : (if t373 = true then (if (wrap64 ((wrap64 ((x370005_2.length : Int) + (x370006_2.length : Int))) + (x370007_2.length : Int))) = 0 then (if x5_2 ≤ (wrap64 (3 * (wrap64 (a0_0 - 1)))) then (newellaw20_CollectAll.j2 k2 (decide (x6_2 ≤ (wrap64 ((wrap64 ((t360.length : Int) + (t363.length : Int))) + (t366.length : Int)))))) else (none)) else (none)) else (none)) = some r := H
           have A44 := Aside0.mk A440
           clear A440
           by_cases c45 : t373 = true
           ·subst c45
            have H1 : (if (wrap64 ((wrap64 ((x370005_2.length : Int) + (x370006_2.length : Int))) + (x370007_2.length : Int))) = 0 then (if x5_2 ≤ (wrap64 (3 * (wrap64 (a0_0 - 1)))) then (newellaw20_CollectAll.j2 k2 (decide (x6_2 ≤ (wrap64 ((wrap64 ((t360.length : Int) + (t363.length : Int))) + (t366.length : Int)))))) else (none)) else (none)) = some r := by rw [if_pos rfl] at H; exact H
            clear H
            have H := H1
            clear H1
            by_cases c46 : (wrap64 ((wrap64 ((x370005_2.length : Int) + (x370006_2.length : Int))) + (x370007_2.length : Int))) = 0
            ·rw [if_pos c46] at H
             have c46b0 : ((wrap64 ((wrap64 ((x370005_2.length : Int) + (x370006_2.length : Int))) + (x370007_2.length : Int))) == 0) = true := beq_iff_eq.mpr c46
             have c46b1 : ((wrap64 ((wrap64 ((x370005_2.length : Int) + (x370006_2.length : Int))) + (x370007_2.length : Int))) != 0) = false := bne_eq_false_iff_eq.mpr c46
             clear c46
             (first | rw [c46b0] | (simp only [i64_w, i32_w]; rw [c46b0]) | skip)
             by_cases c47 : x5_2 ≤ (wrap64 (3 * (wrap64 (a0_0 - 1))))
             ·rw [if_pos c47] at H
              have c47b0 : decide (x5_2 ≤ (wrap64 (3 * (wrap64 (a0_0 - 1))))) = true := decide_eq_true c47
              clear c47
              have H' := Aside0.mk H
              clear H
              go_wp2_with (first | ((with_reducible refine gate_callee (f := 10) rfl ?_); refine goesL_ (some 57) rfl rfl Try.func10 (by kernel_rfl) rfl #[] rfl (by (try simp only [List.map_toArray, List.map_cons, List.map_nil]); first | done | rfl | (simp only [List.length_drop, List.length_take]; rfl)) ?_; (with_reducible refine (newellaw20_awake.calls k2  true _ A44.out).mono ?_); rintro e w48 ⟨rfl, hb⟩; refine ⟨_, rfl, ?_⟩; have n0_ := Aside0.mk (Kd.R_below (by (with_reducible repeat (first | apply Kd.R_alloc | apply Kd.R_drewN | apply Kd.R_drew)); exact HO_370005.out) hb); have n1_ := Aside0.mk (Kd.R_below (by (with_reducible repeat (first | apply Kd.R_alloc | apply Kd.R_drewN | apply Kd.R_drew)); exact HO_370006.out) hb); have n2_ := Aside0.mk (Kd.R_below (by (with_reducible repeat (first | apply Kd.R_alloc | apply Kd.R_drewN | apply Kd.R_drew)); exact HO_370007.out) hb); have n3_ := Aside0.mk (blk_below (g := gb337) (o := .cells #[.int .i64 a0_0, .int .i64 a0_1, .int .i64 a0_2, .bool a0_3, .bool a0_4, .slice A0_5 l0_5.length c0_5, .slice A0_6 l0_6.length c0_6, .slice A0_7 l0_7.length c0_7] 26 (0, 0)) (by (with_reducible repeat (first | refine blk_drewN ?_ _ | refine blk_drew ?_ | refine blk_alloc ?_ _)); exact BK337.out) hb); have n4_ := Aside0.mk (blk_below (g := gb369) (o := .cells #[.int .i64 t355, .int .i64 x370001_2, .int .i64 x370002_2, .bool x370003_2, .bool x370004_2, .slice Ao40 x370005_2.length co40, .slice Ao41 x370006_2.length co41, .slice Ao42 x370007_2.length co42] 26 (0, 0)) (by (with_reducible repeat (first | refine blk_drewN ?_ _ | refine blk_drew ?_ | refine blk_alloc ?_ _)); exact BK369.out) hb); have n5_ := Aside0.mk (below_step (by repeat (first | (with_reducible first | exact HB.out | apply below_alloc | apply pw_below_drewN | apply below_drew1 | refine below_set ?_ GE337.out | refine below_set ?_ GE369.out) | exact HB.out)) hb); clear HO_370005; clear HO_370006; clear HO_370007; clear BK337; clear BK369; clear HB; have HO_370005 := n0_; have HO_370006 := n1_; have HO_370007 := n2_; have BK337 := n3_; have BK369 := n4_; have HB := n5_; clear n0_ n1_ n2_ n3_ n4_ n5_; (try clear hb); (try clear hb2); (try clear hk); (try clear hi); have hnb49 := NB369_337.out; have hnc49 := NB337_369.out; have hcz50_0 : w48.cell? ⟨gb369, 0, none⟩ = some (.int .i64 t355) := (blk_cell BK369.out 0).trans rfl; have hcz50_1 : w48.cell? ⟨gb369, 1, none⟩ = some (.int .i64 x370001_2) := (blk_cell BK369.out 1).trans rfl; have hcz50_2 : w48.cell? ⟨gb369, 2, none⟩ = some (.int .i64 x370002_2) := (blk_cell BK369.out 2).trans rfl; have hcz50_3 : w48.cell? ⟨gb369, 3, none⟩ = some (.bool x370003_2) := (blk_cell BK369.out 3).trans rfl; have hcz50_4 : w48.cell? ⟨gb369, 4, none⟩ = some (.bool x370004_2) := (blk_cell BK369.out 4).trans rfl; have hcz50_5 : w48.cell? ⟨gb369, 5, none⟩ = some (.slice Ao40 x370005_2.length co40) := (blk_cell BK369.out 5).trans rfl; have hcz50_6 : w48.cell? ⟨gb369, 6, none⟩ = some (.slice Ao41 x370006_2.length co41) := (blk_cell BK369.out 6).trans rfl; have hcz50_7 : w48.cell? ⟨gb369, 7, none⟩ = some (.slice Ao42 x370007_2.length co42) := (blk_cell BK369.out 7).trans rfl; have hfz50_0 := blk_frozen BK369.out 0; have hfz50_1 := blk_frozen BK369.out 1; have hfz50_2 := blk_frozen BK369.out 2; have hfz50_3 := blk_frozen BK369.out 3; have hfz50_4 := blk_frozen BK369.out 4; have hfz50_5 := blk_frozen BK369.out 5; have hfz50_6 := blk_frozen BK369.out 6; have hfz50_7 := blk_frozen BK369.out 7; have hcz51_0 : w48.cell? ⟨gb337, 0, none⟩ = some (.int .i64 a0_0) := (blk_cell BK337.out 0).trans rfl; have hcz51_1 : w48.cell? ⟨gb337, 1, none⟩ = some (.int .i64 a0_1) := (blk_cell BK337.out 1).trans rfl; have hcz51_2 : w48.cell? ⟨gb337, 2, none⟩ = some (.int .i64 a0_2) := (blk_cell BK337.out 2).trans rfl; have hcz51_3 : w48.cell? ⟨gb337, 3, none⟩ = some (.bool a0_3) := (blk_cell BK337.out 3).trans rfl; have hcz51_4 : w48.cell? ⟨gb337, 4, none⟩ = some (.bool a0_4) := (blk_cell BK337.out 4).trans rfl; have hcz51_5 : w48.cell? ⟨gb337, 5, none⟩ = some (.slice A0_5 l0_5.length c0_5) := (blk_cell BK337.out 5).trans rfl; have hcz51_6 : w48.cell? ⟨gb337, 6, none⟩ = some (.slice A0_6 l0_6.length c0_6) := (blk_cell BK337.out 6).trans rfl; have hcz51_7 : w48.cell? ⟨gb337, 7, none⟩ = some (.slice A0_7 l0_7.length c0_7) := (blk_cell BK337.out 7).trans rfl; have hfz51_0 := blk_frozen BK337.out 0; have hfz51_1 := blk_frozen BK337.out 1; have hfz51_2 := blk_frozen BK337.out 2; have hfz51_3 := blk_frozen BK337.out 3; have hfz51_4 := blk_frozen BK337.out 4; have hfz51_5 := blk_frozen BK337.out 5; have hfz51_6 := blk_frozen BK337.out 6; have hfz51_7 := blk_frozen BK337.out 7))
              go_meet
              case rel => exact ⟨_, (decide (x6_2 ≤ (wrap64 ((wrap64 ((t360.length : Int) + (t363.length : Int))) + (t366.length : Int))))), (by first | rfl | (simp; done) | (simp [*]; done)), H', ⟨by have := HJ1.out; have := HK2.out; first | omega | exact Nat.le_refl _⟩, ⟨by (with_reducible repeat (first | apply Kd.R_alloc | apply Kd.R_drewN | apply Kd.R_drew)); exact HO_370005.out⟩, ⟨by (with_reducible repeat (first | apply Kd.R_alloc | apply Kd.R_drewN | apply Kd.R_drew)); exact HO_370006.out⟩, ⟨by (with_reducible repeat (first | apply Kd.R_alloc | apply Kd.R_drewN | apply Kd.R_drew)); exact HO_370007.out⟩, ⟨by (with_reducible repeat (first | refine blk_drewN ?_ _ | refine blk_drew ?_ | refine blk_alloc ?_ _)); exact BK337.out⟩, ⟨by (with_reducible repeat (first | refine blk_drewN ?_ _ | refine blk_drew ?_ | refine blk_alloc ?_ _)); exact BK369.out⟩, ⟨by repeat (first | (with_reducible first | exact HB.out | apply below_alloc | apply pw_below_drewN | apply below_drew1 | refine below_set ?_ GE337.out | refine below_set ?_ GE369.out) | exact HB.out)⟩⟩
             ·rw [if_neg c47] at H
              exact absurd H (by simp)
            ·rw [if_neg c46] at H
             exact absurd H (by simp)
           ·replace c45 := Bool.eq_false_iff.mpr c45
            subst c45
            have H1 : (none) = some r := by rw [if_neg (show ¬ (false = true) by decide)] at H; exact H
            clear H
            have H := H1
            clear H1
            exact absurd H (by simp)
          case rest =>
           clear HC37
           try clear c1
           try clear c2
           try clear p2
           try clear c3
           try clear c4
           try clear c5
           try clear p6
           try clear c7
           try clear c9
           try clear c10
           try clear c11
           try clear c12
           try clear c18
           try clear c25
           try clear c30
           try clear c30b0
           try clear c32
           try clear c35
           try clear c35b0
           try clear c35b1
           try clear c36
           try clear c36b0
           try clear c36b1
           try clear c38
           try clear c45
           try clear c46
           try clear c46b0
           try clear c46b1
           try clear c47
           try clear c47b0
           try clear c49
           try clear hcz10_0
           try clear hcz10_1
           try clear hcz10_2
           try clear hcz10_3
           try clear hcz10_4
           try clear hcz10_5
           try clear hcz10_6
           try clear hcz10_7
           try clear hcz16_0
           try clear hcz16_1
           try clear hcz16_2
           try clear hcz16_3
           try clear hcz16_4
           try clear hcz16_5
           try clear hcz16_6
           try clear hcz16_7
           try clear hcz22_0
           try clear hcz22_1
           try clear hcz22_2
           try clear hcz22_3
           try clear hcz22_4
           try clear hcz22_5
           try clear hcz22_6
           try clear hcz22_7
           try clear hcz26_0
           try clear hcz26_1
           try clear hcz26_2
           try clear hcz26_3
           try clear hcz26_4
           try clear hcz26_5
           try clear hcz26_6
           try clear hcz26_7
           try clear hcz33_0
           try clear hcz33_1
           try clear hcz33_2
           try clear hcz33_3
           try clear hcz33_4
           try clear hcz33_5
           try clear hcz33_6
           try clear hcz33_7
           try clear hcz39_0
           try clear hcz39_1
           try clear hcz39_2
           try clear hcz39_3
           try clear hcz39_4
           try clear hcz39_5
           try clear hcz39_6
           try clear hcz39_7
           try clear hcz50_0
           try clear hcz50_1
           try clear hcz50_2
           try clear hcz50_3
           try clear hcz50_4
           try clear hcz50_5
           try clear hcz50_6
           try clear hcz50_7
           try clear hcz51_0
           try clear hcz51_1
           try clear hcz51_2
           try clear hcz51_3
           try clear hcz51_4
           try clear hcz51_5
           try clear hcz51_6
           try clear hcz51_7
           try clear hcz8_0
           try clear hcz8_1
           try clear hcz8_2
           try clear hcz8_3
           try clear hcz8_4
           try clear hcz8_5
           try clear hcz8_6
           try clear hcz8_7
           try clear hfz10_0
           try clear hfz10_1
           try clear hfz10_2
           try clear hfz10_3
           try clear hfz10_4
           try clear hfz10_5
           try clear hfz10_6
           try clear hfz10_7
           try clear hfz16_0
           try clear hfz16_1
           try clear hfz16_2
           try clear hfz16_3
           try clear hfz16_4
           try clear hfz16_5
           try clear hfz16_6
           try clear hfz16_7
           try clear hfz22_0
           try clear hfz22_1
           try clear hfz22_2
           try clear hfz22_3
           try clear hfz22_4
           try clear hfz22_5
           try clear hfz22_6
           try clear hfz22_7
           try clear hfz26_0
           try clear hfz26_1
           try clear hfz26_2
           try clear hfz26_3
           try clear hfz26_4
           try clear hfz26_5
           try clear hfz26_6
           try clear hfz26_7
           try clear hfz33_0
           try clear hfz33_1
           try clear hfz33_2
           try clear hfz33_3
           try clear hfz33_4
           try clear hfz33_5
           try clear hfz33_6
           try clear hfz33_7
           try clear hfz39_0
           try clear hfz39_1
           try clear hfz39_2
           try clear hfz39_3
           try clear hfz39_4
           try clear hfz39_5
           try clear hfz39_6
           try clear hfz39_7
           try clear hfz50_0
           try clear hfz50_1
           try clear hfz50_2
           try clear hfz50_3
           try clear hfz50_4
           try clear hfz50_5
           try clear hfz50_6
           try clear hfz50_7
           try clear hfz51_0
           try clear hfz51_1
           try clear hfz51_2
           try clear hfz51_3
           try clear hfz51_4
           try clear hfz51_5
           try clear hfz51_6
           try clear hfz51_7
           try clear hfz8_0
           try clear hfz8_1
           try clear hfz8_2
           try clear hfz8_3
           try clear hfz8_4
           try clear hfz8_5
           try clear hfz8_6
           try clear hfz8_7
           try clear p2
           try clear p6
           obtain ⟨kq, x2_36, rfl, HA, HJ36, HO_370005, HO_370006, HO_370007, BK337, BK369, HB⟩ := hcut
           cases kq with
           | zero => exact absurd HA.out (by simp [newellaw20_CollectAll.j2])
           | succ kj36 =>
            have H := HA.out
            clear HA
            simp only [newellaw20_CollectAll.j2] at H
            obtain rfl := Option.some.inj H
            go_wp2
            go_ret
            exact ⟨by first | rfl | (simp [errW_none, errW_some] <;> rfl) | (simp [*, errW_none, errW_some] <;> rfl), by repeat (first | (with_reducible first | exact HB.out | apply below_alloc | apply pw_below_drewN | apply below_drew1 | refine below_set ?_ GE337.out | refine below_set ?_ GE369.out) | exact HB.out)⟩
         ·rw [if_neg c36] at H
          have c36b0 : (t370 == 0) = false := beq_eq_false_iff_ne.mpr c36
          have c36b1 : (t370 != 0) = true := bne_iff_ne.mpr c36
          by_cases c52 : t370 = 3
          ·rw [if_pos c52] at H
           have c52b0 : (t370 == 3) = true := beq_iff_eq.mpr c52
           have c52b1 : (t370 != 3) = false := bne_eq_false_iff_eq.mpr c52
           clear c52
           replace H := Option.bind_eq_some_iff.mp H
           obtain ⟨t374, A530, H⟩ := H
           replace H : (if t371 = 1 then ((newellaw20_without.f k2 x370006_2 x370001_2).bind fun t377 => (newellaw20_CollectAll.j3 k2 (wrap64 ((wrap64 ((t360.length : Int) + (t363.length : Int))) + (t366.length : Int))) x5_2 (wrap64 (x6_2 + 1)) x7_2 a0_0 a0_1 a0_2 a0_3 a0_4 l0_5 l0_6 l0_7 t355 x370001_2 t371 true x370004_2 t374 t377 x370007_2)) else ((newellaw20_without.f k2 x370007_2 x370001_2).bind fun t380 => (newellaw20_CollectAll.j3 k2 (wrap64 ((wrap64 ((t360.length : Int) + (t363.length : Int))) + (t366.length : Int))) x5_2 (wrap64 (x6_2 + 1)) x7_2 a0_0 a0_1 a0_2 a0_3 a0_4 l0_5 l0_6 l0_7 t355 x370001_2 t371 x370003_2 true t374 x370006_2 t380))) = some r := H
           have A53 := Aside0.mk A530
           clear A530
           have HC54 := Aside0.mk H
           clear H
           have hnb55 := NB369_337.out
           have hnc55 := NB337_369.out
           have hcz56_0 : wr.cell? ⟨gb369, 0, none⟩ = some (.int .i64 t355) := (blk_cell BK369.out 0).trans rfl
           have hcz56_1 : wr.cell? ⟨gb369, 1, none⟩ = some (.int .i64 x370001_2) := (blk_cell BK369.out 1).trans rfl
           have hcz56_2 : wr.cell? ⟨gb369, 2, none⟩ = some (.int .i64 x370002_2) := (blk_cell BK369.out 2).trans rfl
           have hcz56_3 : wr.cell? ⟨gb369, 3, none⟩ = some (.bool x370003_2) := (blk_cell BK369.out 3).trans rfl
           have hcz56_4 : wr.cell? ⟨gb369, 4, none⟩ = some (.bool x370004_2) := (blk_cell BK369.out 4).trans rfl
           have hcz56_5 : wr.cell? ⟨gb369, 5, none⟩ = some (u370005) := (blk_cell BK369.out 5).trans rfl
           have hcz56_6 : wr.cell? ⟨gb369, 6, none⟩ = some (u370006) := (blk_cell BK369.out 6).trans rfl
           have hcz56_7 : wr.cell? ⟨gb369, 7, none⟩ = some (u370007) := (blk_cell BK369.out 7).trans rfl
           have hfz56_0 := blk_frozen BK369.out 0
           have hfz56_1 := blk_frozen BK369.out 1
           have hfz56_2 := blk_frozen BK369.out 2
           have hfz56_3 := blk_frozen BK369.out 3
           have hfz56_4 := blk_frozen BK369.out 4
           have hfz56_5 := blk_frozen BK369.out 5
           have hfz56_6 := blk_frozen BK369.out 6
           have hfz56_7 := blk_frozen BK369.out 7
           obtain ⟨Ao57, co57, eo57⟩ := Kd.R_slice HO_370005.out
           subst eo57
           obtain ⟨Ao58, co58, eo58⟩ := Kd.R_slice HO_370006.out
           subst eo58
           obtain ⟨Ao59, co59, eo59⟩ := Kd.R_slice HO_370007.out
           subst eo59
           go_upto_if 103 with (first | ((with_reducible refine gate_callee (f := 11) rfl ?_); refine goesL_ (some 49) rfl rfl Try.func11 (by kernel_rfl) rfl #[.agg #[.int .i64 t355, .int .i64 x370001_2, .int .i64 x370002_2, .bool x370003_2, .bool x370004_2, .slice Ao57 x370005_2.length co57, .slice Ao58 x370006_2.length co58, .slice Ao59 x370007_2.length co59]] rfl (by (try simp only [List.map_toArray, List.map_cons, List.map_nil]); first | done | rfl | (simp only [List.length_drop, List.length_take]; rfl)) ?_; (with_reducible refine (collect_Next.calls k2 t355 x370001_2 x370002_2 x370003_2 x370004_2 _ _ x370005_2 _ _ x370006_2 _ _ x370007_2 t370 t371 t372 _ ?side1 ?side2 ?side3 ?side4 ?side5 ?side6 A34.out).mono ?_); (case side1 => repeat (first | exact (Kd.R_reads' HO_370005.out).2.2 | (with_reducible refine Kd.C_alloc ?_ _) | (with_reducible refine Kd.C_drewN ?_ _) | (with_reducible refine Kd.C_drew ?_))); (case side2 => exact (Kd.R_reads' HO_370005.out).2.1); (case side3 => repeat (first | exact (Kd.R_reads' HO_370006.out).2.2 | (with_reducible refine Kd.C_alloc ?_ _) | (with_reducible refine Kd.C_drewN ?_ _) | (with_reducible refine Kd.C_drew ?_))); (case side4 => exact (Kd.R_reads' HO_370006.out).2.1); (case side5 => repeat (first | exact (Kd.R_reads' HO_370007.out).2.2 | (with_reducible refine Kd.C_alloc ?_ _) | (with_reducible refine Kd.C_drewN ?_ _) | (with_reducible refine Kd.C_drew ?_))); (case side6 => exact (Kd.R_reads' HO_370007.out).2.1); rintro e w60 ⟨rfl, hb⟩; refine ⟨_, rfl, ?_⟩; have n0_ := Aside0.mk (Kd.R_below (by (with_reducible repeat (first | apply Kd.R_alloc | apply Kd.R_drewN | apply Kd.R_drew)); exact HO_370005.out) hb); have n1_ := Aside0.mk (Kd.R_below (by (with_reducible repeat (first | apply Kd.R_alloc | apply Kd.R_drewN | apply Kd.R_drew)); exact HO_370006.out) hb); have n2_ := Aside0.mk (Kd.R_below (by (with_reducible repeat (first | apply Kd.R_alloc | apply Kd.R_drewN | apply Kd.R_drew)); exact HO_370007.out) hb); have n3_ := Aside0.mk (blk_below (g := gb337) (o := .cells #[.int .i64 a0_0, .int .i64 a0_1, .int .i64 a0_2, .bool a0_3, .bool a0_4, .slice A0_5 l0_5.length c0_5, .slice A0_6 l0_6.length c0_6, .slice A0_7 l0_7.length c0_7] 26 (0, 0)) (by (with_reducible repeat (first | refine blk_drewN ?_ _ | refine blk_drew ?_ | refine blk_alloc ?_ _)); exact BK337.out) hb); have n4_ := Aside0.mk (blk_below (g := gb369) (o := .cells #[.int .i64 t355, .int .i64 x370001_2, .int .i64 x370002_2, .bool x370003_2, .bool x370004_2, .slice Ao57 x370005_2.length co57, .slice Ao58 x370006_2.length co58, .slice Ao59 x370007_2.length co59] 26 (0, 0)) (by (with_reducible repeat (first | refine blk_drewN ?_ _ | refine blk_drew ?_ | refine blk_alloc ?_ _)); exact BK369.out) hb); have n5_ := Aside0.mk (below_step (by repeat (first | (with_reducible first | exact HB.out | apply below_alloc | apply pw_below_drewN | apply below_drew1 | refine below_set ?_ GE337.out | refine below_set ?_ GE369.out) | exact HB.out)) hb); clear HO_370005; clear HO_370006; clear HO_370007; clear BK337; clear BK369; clear HB; have HO_370005 := n0_; have HO_370006 := n1_; have HO_370007 := n2_; have BK337 := n3_; have BK369 := n4_; have HB := n5_; clear n0_ n1_ n2_ n3_ n4_ n5_; (try clear hb); (try clear hb2); (try clear hk); (try clear hi); have hcz61_0 : w60.cell? ⟨gb369, 0, none⟩ = some (.int .i64 t355) := (blk_cell BK369.out 0).trans rfl; have hcz61_1 : w60.cell? ⟨gb369, 1, none⟩ = some (.int .i64 x370001_2) := (blk_cell BK369.out 1).trans rfl; have hcz61_2 : w60.cell? ⟨gb369, 2, none⟩ = some (.int .i64 x370002_2) := (blk_cell BK369.out 2).trans rfl; have hcz61_3 : w60.cell? ⟨gb369, 3, none⟩ = some (.bool x370003_2) := (blk_cell BK369.out 3).trans rfl; have hcz61_4 : w60.cell? ⟨gb369, 4, none⟩ = some (.bool x370004_2) := (blk_cell BK369.out 4).trans rfl; have hcz61_5 : w60.cell? ⟨gb369, 5, none⟩ = some (.slice Ao57 x370005_2.length co57) := (blk_cell BK369.out 5).trans rfl; have hcz61_6 : w60.cell? ⟨gb369, 6, none⟩ = some (.slice Ao58 x370006_2.length co58) := (blk_cell BK369.out 6).trans rfl; have hcz61_7 : w60.cell? ⟨gb369, 7, none⟩ = some (.slice Ao59 x370007_2.length co59) := (blk_cell BK369.out 7).trans rfl; have hfz61_0 := blk_frozen BK369.out 0; have hfz61_1 := blk_frozen BK369.out 1; have hfz61_2 := blk_frozen BK369.out 2; have hfz61_3 := blk_frozen BK369.out 3; have hfz61_4 := blk_frozen BK369.out 4; have hfz61_5 := blk_frozen BK369.out 5; have hfz61_6 := blk_frozen BK369.out 6; have hfz61_7 := blk_frozen BK369.out 7) | ((with_reducible refine gate_callee (f := 19) rfl ?_); refine goesL_ (some 99) rfl rfl Try.func19 (by kernel_rfl) rfl #[.slice Ao57 x370005_2.length co57, .int .i64 x370001_2] rfl (by (try simp only [List.map_toArray, List.map_cons, List.map_nil]); first | done | rfl | (simp only [List.length_drop, List.length_take]; rfl)) ?_; (with_reducible refine (newellaw20_without.calls k2 _ _ x370005_2 x370001_2 t374 _ ?side1 ?side2 A53.out).mono ?_); (case side1 => refine (Kd.R_reads' (e := 3) (base := w.heap.size) (ok := fun k_ => (some k_ ≠ (.slice Ao58 x370006_2.length co58 : Value).ownBlock ∧ some k_ ≠ (.slice Ao59 x370007_2.length co59 : Value).ownBlock)) (n := x370005_2.length) (c := co57) ?_).2.2; exact (by (with_reducible repeat (first | apply Kd.R_alloc | apply Kd.R_drewN | apply Kd.R_drew)); exact (Kd.R_mono (Kd.R_far (p := ⟨gb369, 2, none⟩) (Kd.R_types HO_370005.out BK369.out (by decide)) (fun _ hk => hk.2) (.int .i64 t371)) (fun _ h_ => h_.1)))); (case side2 => exact (Kd.R_reads' HO_370005.out).2.1); rintro e w62 ⟨v375, rfl, ho0, hb⟩; refine ⟨_, rfl, ?_⟩; have n0_ := Aside0.mk (Kd.R_elder' (by (with_reducible repeat (first | apply Kd.R_alloc | apply Kd.R_drewN | apply Kd.R_drew)); exact (Kd.R_mono (Kd.R_far (p := ⟨gb369, 2, none⟩) (Kd.R_types HO_370005.out BK369.out (by decide)) (fun _ hk => hk.2) (.int .i64 t371)) (fun _ h_ => h_.1))) (Kd.R_base ho0) hb); have n1_ := Aside0.mk (Kd.R_elder' (by (with_reducible repeat (first | apply Kd.R_alloc | apply Kd.R_drewN | apply Kd.R_drew)); exact (Kd.R_mono (Kd.R_far (p := ⟨gb369, 2, none⟩) (Kd.R_types HO_370006.out BK369.out (by decide)) (fun _ hk => hk.2) (.int .i64 t371)) (fun _ h_ => h_.1))) (Kd.R_base ho0) hb); have n2_ := Aside0.mk (Kd.R_elder' (by (with_reducible repeat (first | apply Kd.R_alloc | apply Kd.R_drewN | apply Kd.R_drew)); exact (Kd.R_mono (Kd.R_far (p := ⟨gb369, 2, none⟩) (Kd.R_types HO_370007.out BK369.out (by decide)) (fun _ hk => hk.2) (.int .i64 t371)) (fun _ h_ => h_.1))) (Kd.R_base ho0) hb); have n3_ := Aside0.mk (Kd.R_lower (Kd.R_new' (Kd.R_new' (Kd.R_new' ho0 (Kd.R_lt (by (with_reducible repeat (first | apply Kd.R_alloc | apply Kd.R_drewN | apply Kd.R_drew)); exact (Kd.R_mono (Kd.R_far (p := ⟨gb369, 2, none⟩) (Kd.R_types HO_370005.out BK369.out (by decide)) (fun _ hk => hk.2) (.int .i64 t371)) (fun _ h_ => h_.1))))) (Kd.R_lt (by (with_reducible repeat (first | apply Kd.R_alloc | apply Kd.R_drewN | apply Kd.R_drew)); exact (Kd.R_mono (Kd.R_far (p := ⟨gb369, 2, none⟩) (Kd.R_types HO_370006.out BK369.out (by decide)) (fun _ hk => hk.2) (.int .i64 t371)) (fun _ h_ => h_.1))))) (Kd.R_lt (by (with_reducible repeat (first | apply Kd.R_alloc | apply Kd.R_drewN | apply Kd.R_drew)); exact (Kd.R_mono (Kd.R_far (p := ⟨gb369, 2, none⟩) (Kd.R_types HO_370007.out BK369.out (by decide)) (fun _ hk => hk.2) (.int .i64 t371)) (fun _ h_ => h_.1))))) (below_size (by repeat (first | (with_reducible first | exact HB.out | apply below_alloc | apply pw_below_drewN | apply below_drew1 | refine below_set ?_ GE337.out | refine below_set ?_ GE369.out) | exact HB.out)))); have n4_ := Aside0.mk (blk_below (g := gb337) (o := .cells #[.int .i64 a0_0, .int .i64 a0_1, .int .i64 a0_2, .bool a0_3, .bool a0_4, .slice A0_5 l0_5.length c0_5, .slice A0_6 l0_6.length c0_6, .slice A0_7 l0_7.length c0_7] 26 (0, 0)) (by (with_reducible repeat (first | refine blk_drewN ?_ _ | refine blk_drew ?_ | refine blk_alloc ?_ _)); refine blk_far ?_ NB337_369.out _; (with_reducible repeat (first | refine blk_drewN ?_ _ | refine blk_drew ?_ | refine blk_alloc ?_ _)); exact BK337.out) hb); have n5_ := Aside0.mk (blk_below (g := gb369) (o := .cells #[.int .i64 t355, .int .i64 x370001_2, .int .i64 t371, .bool x370003_2, .bool x370004_2, .slice Ao57 x370005_2.length co57, .slice Ao58 x370006_2.length co58, .slice Ao59 x370007_2.length co59] 26 (0, 0)) (by (with_reducible repeat (first | refine blk_drewN ?_ _ | refine blk_drew ?_ | refine blk_alloc ?_ _)); refine blk_put (cs := #[.int .i64 t355, .int .i64 x370001_2, .int .i64 x370002_2, .bool x370003_2, .bool x370004_2, .slice Ao57 x370005_2.length co57, .slice Ao58 x370006_2.length co58, .slice Ao59 x370007_2.length co59]) ?_ 2 _ rfl; (with_reducible repeat (first | refine blk_drewN ?_ _ | refine blk_drew ?_ | refine blk_alloc ?_ _)); exact BK369.out) hb); have n6_ := Aside0.mk (below_step (by repeat (first | (with_reducible first | exact HB.out | apply below_alloc | apply pw_below_drewN | apply below_drew1 | refine below_set ?_ GE337.out | refine below_set ?_ GE369.out) | exact HB.out)) hb); clear HO_370005; clear HO_370006; clear HO_370007; clear BK337; clear BK369; clear HB; have HO_370005 := n0_; have HO_370006 := n1_; have HO_370007 := n2_; have HO376 := n3_; have BK337 := n4_; have BK369 := n5_; have HB := n6_; clear n0_ n1_ n2_ n3_ n4_ n5_ n6_; (try clear hb); (try clear hb2); (try clear hk); (try clear hi); (try clear ho0); obtain ⟨Ao63, co63, eo63⟩ := Kd.R_slice HO376.out; subst eo63; have hcz64_0 : w62.cell? ⟨gb369, 0, none⟩ = some (.int .i64 t355) := (blk_cell BK369.out 0).trans rfl; have hcz64_1 : w62.cell? ⟨gb369, 1, none⟩ = some (.int .i64 x370001_2) := (blk_cell BK369.out 1).trans rfl; have hcz64_2 : w62.cell? ⟨gb369, 2, none⟩ = some (.int .i64 t371) := (blk_cell BK369.out 2).trans rfl; have hcz64_3 : w62.cell? ⟨gb369, 3, none⟩ = some (.bool x370003_2) := (blk_cell BK369.out 3).trans rfl; have hcz64_4 : w62.cell? ⟨gb369, 4, none⟩ = some (.bool x370004_2) := (blk_cell BK369.out 4).trans rfl; have hcz64_5 : w62.cell? ⟨gb369, 5, none⟩ = some (.slice Ao57 x370005_2.length co57) := (blk_cell BK369.out 5).trans rfl; have hcz64_6 : w62.cell? ⟨gb369, 6, none⟩ = some (.slice Ao58 x370006_2.length co58) := (blk_cell BK369.out 6).trans rfl; have hcz64_7 : w62.cell? ⟨gb369, 7, none⟩ = some (.slice Ao59 x370007_2.length co59) := (blk_cell BK369.out 7).trans rfl; have hfz64_0 := blk_frozen BK369.out 0; have hfz64_1 := blk_frozen BK369.out 1; have hfz64_2 := blk_frozen BK369.out 2; have hfz64_3 := blk_frozen BK369.out 3; have hfz64_4 := blk_frozen BK369.out 4; have hfz64_5 := blk_frozen BK369.out 5; have hfz64_6 := blk_frozen BK369.out 6; have hfz64_7 := blk_frozen BK369.out 7))
           (try simp only [Act.put, List.setIfInBounds_toArray, List.set_cons_zero, List.set_cons_succ])
           go_cut [] (fun wc => ∃ (kq : Nat) (x370003_53 : Bool) (x370004_53 : Bool) (x370006_53 : List Int) (x370007_53 : List Int) (u370006 : Value) (u370007 : Value), Aside0 (newellaw20_CollectAll.j3 kq (wrap64 ((wrap64 ((t360.length : Int) + (t363.length : Int))) + (t366.length : Int))) x5_2 (wrap64 (x6_2 + 1)) x7_2 a0_0 a0_1 a0_2 a0_3 a0_4 l0_5 l0_6 l0_7 t355 x370001_2 t371 x370003_53 x370004_53 t374 x370006_53 x370007_53 = some r) ∧ Aside0 (kq ≤ k2) ∧ Aside0 (Kd.R (Kd.int .i64) 3 wc w.heap.size (fun k_ => some k_ ≠ (u370006 : Value).ownBlock ∧ some k_ ≠ (u370007 : Value).ownBlock) (.slice Ao63 t374.length co63) t374) ∧ Aside0 (Kd.R (Kd.int .i64) 3 wc w.heap.size (fun k_ => some k_ ≠ ((.slice Ao63 t374.length co63) : Value).ownBlock ∧ some k_ ≠ (u370007 : Value).ownBlock) u370006 x370006_53) ∧ Aside0 (Kd.R (Kd.int .i64) 3 wc w.heap.size (fun k_ => some k_ ≠ ((.slice Ao63 t374.length co63) : Value).ownBlock ∧ some k_ ≠ (u370006 : Value).ownBlock) u370007 x370007_53) ∧ Aside0 (wc.heap[gb337]? = some (.cells #[.int .i64 a0_0, .int .i64 a0_1, .int .i64 a0_2, .bool a0_3, .bool a0_4, (.slice A0_5 l0_5.length c0_5), (.slice A0_6 l0_6.length c0_6), (.slice A0_7 l0_7.length c0_7)] 26 (0, 0))) ∧ Aside0 (wc.heap[gb369]? = some (.cells #[.int .i64 t355, .int .i64 x370001_2, .int .i64 t371, .bool x370003_53, .bool x370004_53, (.slice Ao63 t374.length co63), u370006, u370007] 26 (0, 0))) ∧ Aside0 (Below w.heap.size w wc))
           case first =>
            have H := HC54.out
            clear HC54
            by_cases c65 : t371 = 1
            ·rw [if_pos c65] at H
             have c65b0 : (t371 == 1) = true := beq_iff_eq.mpr c65
             have c65b1 : (t371 != 1) = false := bne_eq_false_iff_eq.mpr c65
             clear c65
             (first | rw [c65b0] | (simp only [i64_w, i32_w]; rw [c65b0]) | skip)
             replace H := Option.bind_eq_some_iff.mp H
             obtain ⟨t377, A660, H⟩ := H
             replace H : (newellaw20_CollectAll.j3 k2 (wrap64 ((wrap64 ((t360.length : Int) + (t363.length : Int))) + (t366.length : Int))) x5_2 (wrap64 (x6_2 + 1)) x7_2 a0_0 a0_1 a0_2 a0_3 a0_4 l0_5 l0_6 l0_7 t355 x370001_2 t371 true x370004_2 t374 t377 x370007_2) = some r := H
             have A66 := Aside0.mk A660
             clear A660
             have H' := Aside0.mk H
             clear H
             have hnb67 := NB369_337.out
             have hnc67 := NB337_369.out
             have hcz68_0 : w62.cell? ⟨gb369, 0, none⟩ = some (.int .i64 t355) := (blk_cell BK369.out 0).trans rfl
             have hcz68_1 : w62.cell? ⟨gb369, 1, none⟩ = some (.int .i64 x370001_2) := (blk_cell BK369.out 1).trans rfl
             have hcz68_2 : w62.cell? ⟨gb369, 2, none⟩ = some (.int .i64 t371) := (blk_cell BK369.out 2).trans rfl
             have hcz68_3 : w62.cell? ⟨gb369, 3, none⟩ = some (.bool x370003_2) := (blk_cell BK369.out 3).trans rfl
             have hcz68_4 : w62.cell? ⟨gb369, 4, none⟩ = some (.bool x370004_2) := (blk_cell BK369.out 4).trans rfl
             have hcz68_5 : w62.cell? ⟨gb369, 5, none⟩ = some (.slice Ao57 x370005_2.length co57) := (blk_cell BK369.out 5).trans rfl
             have hcz68_6 : w62.cell? ⟨gb369, 6, none⟩ = some (.slice Ao58 x370006_2.length co58) := (blk_cell BK369.out 6).trans rfl
             have hcz68_7 : w62.cell? ⟨gb369, 7, none⟩ = some (.slice Ao59 x370007_2.length co59) := (blk_cell BK369.out 7).trans rfl
             have hfz68_0 := blk_frozen BK369.out 0
             have hfz68_1 := blk_frozen BK369.out 1
             have hfz68_2 := blk_frozen BK369.out 2
             have hfz68_3 := blk_frozen BK369.out 3
             have hfz68_4 := blk_frozen BK369.out 4
             have hfz68_5 := blk_frozen BK369.out 5
             have hfz68_6 := blk_frozen BK369.out 6
             have hfz68_7 := blk_frozen BK369.out 7
             go_wp2_with (first | ((with_reducible refine gate_callee (f := 19) rfl ?_); refine goesL_ (some 110) rfl rfl Try.func19 (by kernel_rfl) rfl #[.slice Ao58 x370006_2.length co58, .int .i64 x370001_2] rfl (by (try simp only [List.map_toArray, List.map_cons, List.map_nil]); first | done | rfl | (simp only [List.length_drop, List.length_take]; rfl)) ?_; (with_reducible refine (newellaw20_without.calls k2 _ _ x370006_2 x370001_2 t377 _ ?side1 ?side2 A66.out).mono ?_); (case side1 => refine (Kd.R_reads' (e := 3) (base := w.heap.size) (ok := fun k_ => ((some k_ ≠ (.slice Ao57 x370005_2.length co57 : Value).ownBlock ∧ some k_ ≠ (.slice Ao59 x370007_2.length co59 : Value).ownBlock) ∧ some k_ ≠ (.slice Ao63 t374.length co63 : Value).ownBlock)) (n := x370006_2.length) (c := co58) ?_).2.2; exact (by (with_reducible repeat (first | apply Kd.R_alloc | apply Kd.R_drewN | apply Kd.R_drew)); exact (Kd.R_mono (Kd.R_far (p := ⟨gb369, 3, none⟩) (Kd.R_far (p := ⟨gb369, 5, none⟩) (Kd.R_types HO_370006.out BK369.out (by decide)) (fun _ hk => hk.2) (.slice Ao63 t374.length co63)) (fun _ hk => hk.2) (.bool true)) (fun _ h_ => h_.1)))); (case side2 => exact (Kd.R_reads' HO_370006.out).2.1); rintro e w69 ⟨v378, rfl, ho0, hb⟩; refine ⟨_, rfl, ?_⟩; have n0_ := Aside0.mk (Kd.R_elder' (by (with_reducible repeat (first | apply Kd.R_alloc | apply Kd.R_drewN | apply Kd.R_drew)); exact (Kd.R_mono (Kd.R_far (p := ⟨gb369, 3, none⟩) (Kd.R_far (p := ⟨gb369, 5, none⟩) (Kd.R_types HO_370005.out BK369.out (by decide)) (fun _ hk => hk.2) (.slice Ao63 t374.length co63)) (fun _ hk => hk.2) (.bool true)) (fun _ h_ => h_.1))) (Kd.R_base ho0) hb); have n1_ := Aside0.mk (Kd.R_elder' (by (with_reducible repeat (first | apply Kd.R_alloc | apply Kd.R_drewN | apply Kd.R_drew)); exact (Kd.R_mono (Kd.R_far (p := ⟨gb369, 3, none⟩) (Kd.R_far (p := ⟨gb369, 5, none⟩) (Kd.R_types HO_370006.out BK369.out (by decide)) (fun _ hk => hk.2) (.slice Ao63 t374.length co63)) (fun _ hk => hk.2) (.bool true)) (fun _ h_ => h_.1))) (Kd.R_base ho0) hb); have n2_ := Aside0.mk (Kd.R_elder' (by (with_reducible repeat (first | apply Kd.R_alloc | apply Kd.R_drewN | apply Kd.R_drew)); exact (Kd.R_mono (Kd.R_far (p := ⟨gb369, 3, none⟩) (Kd.R_far (p := ⟨gb369, 5, none⟩) (Kd.R_types HO_370007.out BK369.out (by decide)) (fun _ hk => hk.2) (.slice Ao63 t374.length co63)) (fun _ hk => hk.2) (.bool true)) (fun _ h_ => h_.1))) (Kd.R_base ho0) hb); have n3_ := Aside0.mk (Kd.R_elder' (by (with_reducible repeat (first | apply Kd.R_alloc | apply Kd.R_drewN | apply Kd.R_drew)); exact (Kd.R_mono (Kd.R_far (p := ⟨gb369, 3, none⟩) (Kd.R_far (p := ⟨gb369, 5, none⟩) (Kd.R_types HO376.out BK369.out (by decide)) (fun _ hk => hk.2) (.slice Ao63 t374.length co63)) (fun _ hk => hk.2) (.bool true)) (fun _ h_ => h_.1))) (Kd.R_base ho0) hb); have n4_ := Aside0.mk (Kd.R_lower (Kd.R_new' (Kd.R_new' (Kd.R_new' (Kd.R_new' ho0 (Kd.R_lt (by (with_reducible repeat (first | apply Kd.R_alloc | apply Kd.R_drewN | apply Kd.R_drew)); exact (Kd.R_mono (Kd.R_far (p := ⟨gb369, 3, none⟩) (Kd.R_far (p := ⟨gb369, 5, none⟩) (Kd.R_types HO_370005.out BK369.out (by decide)) (fun _ hk => hk.2) (.slice Ao63 t374.length co63)) (fun _ hk => hk.2) (.bool true)) (fun _ h_ => h_.1))))) (Kd.R_lt (by (with_reducible repeat (first | apply Kd.R_alloc | apply Kd.R_drewN | apply Kd.R_drew)); exact (Kd.R_mono (Kd.R_far (p := ⟨gb369, 3, none⟩) (Kd.R_far (p := ⟨gb369, 5, none⟩) (Kd.R_types HO_370006.out BK369.out (by decide)) (fun _ hk => hk.2) (.slice Ao63 t374.length co63)) (fun _ hk => hk.2) (.bool true)) (fun _ h_ => h_.1))))) (Kd.R_lt (by (with_reducible repeat (first | apply Kd.R_alloc | apply Kd.R_drewN | apply Kd.R_drew)); exact (Kd.R_mono (Kd.R_far (p := ⟨gb369, 3, none⟩) (Kd.R_far (p := ⟨gb369, 5, none⟩) (Kd.R_types HO_370007.out BK369.out (by decide)) (fun _ hk => hk.2) (.slice Ao63 t374.length co63)) (fun _ hk => hk.2) (.bool true)) (fun _ h_ => h_.1))))) (Kd.R_lt (by (with_reducible repeat (first | apply Kd.R_alloc | apply Kd.R_drewN | apply Kd.R_drew)); exact (Kd.R_mono (Kd.R_far (p := ⟨gb369, 3, none⟩) (Kd.R_far (p := ⟨gb369, 5, none⟩) (Kd.R_types HO376.out BK369.out (by decide)) (fun _ hk => hk.2) (.slice Ao63 t374.length co63)) (fun _ hk => hk.2) (.bool true)) (fun _ h_ => h_.1))))) (below_size (by repeat (first | (with_reducible first | exact HB.out | apply below_alloc | apply pw_below_drewN | apply below_drew1 | refine below_set ?_ GE337.out | refine below_set ?_ GE369.out) | exact HB.out)))); have n5_ := Aside0.mk (blk_below (g := gb337) (o := .cells #[.int .i64 a0_0, .int .i64 a0_1, .int .i64 a0_2, .bool a0_3, .bool a0_4, .slice A0_5 l0_5.length c0_5, .slice A0_6 l0_6.length c0_6, .slice A0_7 l0_7.length c0_7] 26 (0, 0)) (by (with_reducible repeat (first | refine blk_drewN ?_ _ | refine blk_drew ?_ | refine blk_alloc ?_ _)); refine blk_far ?_ NB337_369.out _; (with_reducible repeat (first | refine blk_drewN ?_ _ | refine blk_drew ?_ | refine blk_alloc ?_ _)); refine blk_far ?_ NB337_369.out _; (with_reducible repeat (first | refine blk_drewN ?_ _ | refine blk_drew ?_ | refine blk_alloc ?_ _)); exact BK337.out) hb); have n6_ := Aside0.mk (blk_below (g := gb369) (o := .cells #[.int .i64 t355, .int .i64 x370001_2, .int .i64 t371, .bool true, .bool x370004_2, .slice Ao63 t374.length co63, .slice Ao58 x370006_2.length co58, .slice Ao59 x370007_2.length co59] 26 (0, 0)) (by (with_reducible repeat (first | refine blk_drewN ?_ _ | refine blk_drew ?_ | refine blk_alloc ?_ _)); refine blk_put (cs := #[.int .i64 t355, .int .i64 x370001_2, .int .i64 t371, .bool x370003_2, .bool x370004_2, .slice Ao63 t374.length co63, .slice Ao58 x370006_2.length co58, .slice Ao59 x370007_2.length co59]) ?_ 3 _ rfl; (with_reducible repeat (first | refine blk_drewN ?_ _ | refine blk_drew ?_ | refine blk_alloc ?_ _)); refine blk_put (cs := #[.int .i64 t355, .int .i64 x370001_2, .int .i64 t371, .bool x370003_2, .bool x370004_2, .slice Ao57 x370005_2.length co57, .slice Ao58 x370006_2.length co58, .slice Ao59 x370007_2.length co59]) ?_ 5 _ rfl; (with_reducible repeat (first | refine blk_drewN ?_ _ | refine blk_drew ?_ | refine blk_alloc ?_ _)); exact BK369.out) hb); have n7_ := Aside0.mk (below_step (by repeat (first | (with_reducible first | exact HB.out | apply below_alloc | apply pw_below_drewN | apply below_drew1 | refine below_set ?_ GE337.out | refine below_set ?_ GE369.out) | exact HB.out)) hb); clear HO_370005; clear HO_370006; clear HO_370007; clear HO376; clear BK337; clear BK369; clear HB; have HO_370005 := n0_; have HO_370006 := n1_; have HO_370007 := n2_; have HO376 := n3_; have HO379 := n4_; have BK337 := n5_; have BK369 := n6_; have HB := n7_; clear n0_ n1_ n2_ n3_ n4_ n5_ n6_ n7_; (try clear hb); (try clear hb2); (try clear hk); (try clear hi); (try clear ho0); obtain ⟨Ao70, co70, eo70⟩ := Kd.R_slice HO379.out; subst eo70; have hcz71_0 : w69.cell? ⟨gb369, 0, none⟩ = some (.int .i64 t355) := (blk_cell BK369.out 0).trans rfl; have hcz71_1 : w69.cell? ⟨gb369, 1, none⟩ = some (.int .i64 x370001_2) := (blk_cell BK369.out 1).trans rfl; have hcz71_2 : w69.cell? ⟨gb369, 2, none⟩ = some (.int .i64 t371) := (blk_cell BK369.out 2).trans rfl; have hcz71_3 : w69.cell? ⟨gb369, 3, none⟩ = some (.bool true) := (blk_cell BK369.out 3).trans rfl; have hcz71_4 : w69.cell? ⟨gb369, 4, none⟩ = some (.bool x370004_2) := (blk_cell BK369.out 4).trans rfl; have hcz71_5 : w69.cell? ⟨gb369, 5, none⟩ = some (.slice Ao63 t374.length co63) := (blk_cell BK369.out 5).trans rfl; have hcz71_6 : w69.cell? ⟨gb369, 6, none⟩ = some (.slice Ao58 x370006_2.length co58) := (blk_cell BK369.out 6).trans rfl; have hcz71_7 : w69.cell? ⟨gb369, 7, none⟩ = some (.slice Ao59 x370007_2.length co59) := (blk_cell BK369.out 7).trans rfl; have hfz71_0 := blk_frozen BK369.out 0; have hfz71_1 := blk_frozen BK369.out 1; have hfz71_2 := blk_frozen BK369.out 2; have hfz71_3 := blk_frozen BK369.out 3; have hfz71_4 := blk_frozen BK369.out 4; have hfz71_5 := blk_frozen BK369.out 5; have hfz71_6 := blk_frozen BK369.out 6; have hfz71_7 := blk_frozen BK369.out 7))
             go_meet
             case rel => exact ⟨_, (true), (x370004_2), (t377), (x370007_2), (.slice Ao70 t377.length co70), (.slice Ao59 x370007_2.length co59), H', ⟨by have := HJ1.out; have := HK2.out; first | omega | exact Nat.le_refl _⟩, ⟨by (with_reducible repeat (first | apply Kd.R_alloc | apply Kd.R_drewN | apply Kd.R_drew)); exact Kd.R_mono (Kd.R_far (p := ⟨gb369, 6, none⟩) (Kd.R_types HO376.out BK369.out (by decide)) (fun _ hk => hk.2) (.slice Ao70 t377.length co70)) (fun _ hk => ⟨hk.1.2, hk.1.1.2⟩)⟩, ⟨by (with_reducible repeat (first | apply Kd.R_alloc | apply Kd.R_drewN | apply Kd.R_drew)); exact Kd.R_mono (Kd.R_far (p := ⟨gb369, 6, none⟩) (Kd.R_types HO379.out BK369.out (by decide)) (fun _ hk => hk.2) (.slice Ao70 t377.length co70)) (fun _ hk => ⟨hk.1.2, hk.1.1.2⟩)⟩, ⟨by (with_reducible repeat (first | apply Kd.R_alloc | apply Kd.R_drewN | apply Kd.R_drew)); exact Kd.R_mono (Kd.R_far (p := ⟨gb369, 6, none⟩) (Kd.R_types HO_370007.out BK369.out (by decide)) (fun _ hk => hk.2) (.slice Ao70 t377.length co70)) (fun _ hk => ⟨hk.1.1.2, hk.1.2⟩)⟩, ⟨by (with_reducible repeat (first | refine blk_drewN ?_ _ | refine blk_drew ?_ | refine blk_alloc ?_ _)); refine blk_far ?_ NB337_369.out _; (with_reducible repeat (first | refine blk_drewN ?_ _ | refine blk_drew ?_ | refine blk_alloc ?_ _)); exact BK337.out⟩, ⟨by (with_reducible repeat (first | refine blk_drewN ?_ _ | refine blk_drew ?_ | refine blk_alloc ?_ _)); refine blk_put (cs := #[.int .i64 t355, .int .i64 x370001_2, .int .i64 t371, .bool true, .bool x370004_2, .slice Ao63 t374.length co63, .slice Ao58 x370006_2.length co58, .slice Ao59 x370007_2.length co59]) ?_ 6 _ rfl; (with_reducible repeat (first | refine blk_drewN ?_ _ | refine blk_drew ?_ | refine blk_alloc ?_ _)); exact BK369.out⟩, ⟨by repeat (first | (with_reducible first | exact HB.out | apply below_alloc | apply pw_below_drewN | apply below_drew1 | refine below_set ?_ GE337.out | refine below_set ?_ GE369.out) | exact HB.out)⟩⟩
            ·rw [if_neg c65] at H
             have c65b0 : (t371 == 1) = false := beq_eq_false_iff_ne.mpr c65
             have c65b1 : (t371 != 1) = true := bne_iff_ne.mpr c65
             (first | rw [c65b0] | (simp only [i64_w, i32_w]; rw [c65b0]) | skip)
             replace H := Option.bind_eq_some_iff.mp H
             obtain ⟨t380, A720, H⟩ := H
             replace H : (newellaw20_CollectAll.j3 k2 (wrap64 ((wrap64 ((t360.length : Int) + (t363.length : Int))) + (t366.length : Int))) x5_2 (wrap64 (x6_2 + 1)) x7_2 a0_0 a0_1 a0_2 a0_3 a0_4 l0_5 l0_6 l0_7 t355 x370001_2 t371 x370003_2 true t374 x370006_2 t380) = some r := H
             have A72 := Aside0.mk A720
             clear A720
             have H' := Aside0.mk H
             clear H
             have hnb73 := NB369_337.out
             have hnc73 := NB337_369.out
             have hcz74_0 : w62.cell? ⟨gb369, 0, none⟩ = some (.int .i64 t355) := (blk_cell BK369.out 0).trans rfl
             have hcz74_1 : w62.cell? ⟨gb369, 1, none⟩ = some (.int .i64 x370001_2) := (blk_cell BK369.out 1).trans rfl
             have hcz74_2 : w62.cell? ⟨gb369, 2, none⟩ = some (.int .i64 t371) := (blk_cell BK369.out 2).trans rfl
             have hcz74_3 : w62.cell? ⟨gb369, 3, none⟩ = some (.bool x370003_2) := (blk_cell BK369.out 3).trans rfl
             have hcz74_4 : w62.cell? ⟨gb369, 4, none⟩ = some (.bool x370004_2) := (blk_cell BK369.out 4).trans rfl
             have hcz74_5 : w62.cell? ⟨gb369, 5, none⟩ = some (.slice Ao57 x370005_2.length co57) := (blk_cell BK369.out 5).trans rfl
             have hcz74_6 : w62.cell? ⟨gb369, 6, none⟩ = some (.slice Ao58 x370006_2.length co58) := (blk_cell BK369.out 6).trans rfl
             have hcz74_7 : w62.cell? ⟨gb369, 7, none⟩ = some (.slice Ao59 x370007_2.length co59) := (blk_cell BK369.out 7).trans rfl
             have hfz74_0 := blk_frozen BK369.out 0
             have hfz74_1 := blk_frozen BK369.out 1
             have hfz74_2 := blk_frozen BK369.out 2
             have hfz74_3 := blk_frozen BK369.out 3
             have hfz74_4 := blk_frozen BK369.out 4
             have hfz74_5 := blk_frozen BK369.out 5
             have hfz74_6 := blk_frozen BK369.out 6
             have hfz74_7 := blk_frozen BK369.out 7
             go_wp2_with (first | ((with_reducible refine gate_callee (f := 19) rfl ?_); refine goesL_ (some 119) rfl rfl Try.func19 (by kernel_rfl) rfl #[.slice Ao59 x370007_2.length co59, .int .i64 x370001_2] rfl (by (try simp only [List.map_toArray, List.map_cons, List.map_nil]); first | done | rfl | (simp only [List.length_drop, List.length_take]; rfl)) ?_; (with_reducible refine (newellaw20_without.calls k2 _ _ x370007_2 x370001_2 t380 _ ?side1 ?side2 A72.out).mono ?_); (case side1 => refine (Kd.R_reads' (e := 3) (base := w.heap.size) (ok := fun k_ => ((some k_ ≠ (.slice Ao57 x370005_2.length co57 : Value).ownBlock ∧ some k_ ≠ (.slice Ao58 x370006_2.length co58 : Value).ownBlock) ∧ some k_ ≠ (.slice Ao63 t374.length co63 : Value).ownBlock)) (n := x370007_2.length) (c := co59) ?_).2.2; exact (by (with_reducible repeat (first | apply Kd.R_alloc | apply Kd.R_drewN | apply Kd.R_drew)); exact (Kd.R_mono (Kd.R_far (p := ⟨gb369, 4, none⟩) (Kd.R_far (p := ⟨gb369, 5, none⟩) (Kd.R_types HO_370007.out BK369.out (by decide)) (fun _ hk => hk.2) (.slice Ao63 t374.length co63)) (fun _ hk => hk.2) (.bool true)) (fun _ h_ => h_.1)))); (case side2 => exact (Kd.R_reads' HO_370007.out).2.1); rintro e w75 ⟨v381, rfl, ho0, hb⟩; refine ⟨_, rfl, ?_⟩; have n0_ := Aside0.mk (Kd.R_elder' (by (with_reducible repeat (first | apply Kd.R_alloc | apply Kd.R_drewN | apply Kd.R_drew)); exact (Kd.R_mono (Kd.R_far (p := ⟨gb369, 4, none⟩) (Kd.R_far (p := ⟨gb369, 5, none⟩) (Kd.R_types HO_370005.out BK369.out (by decide)) (fun _ hk => hk.2) (.slice Ao63 t374.length co63)) (fun _ hk => hk.2) (.bool true)) (fun _ h_ => h_.1))) (Kd.R_base ho0) hb); have n1_ := Aside0.mk (Kd.R_elder' (by (with_reducible repeat (first | apply Kd.R_alloc | apply Kd.R_drewN | apply Kd.R_drew)); exact (Kd.R_mono (Kd.R_far (p := ⟨gb369, 4, none⟩) (Kd.R_far (p := ⟨gb369, 5, none⟩) (Kd.R_types HO_370006.out BK369.out (by decide)) (fun _ hk => hk.2) (.slice Ao63 t374.length co63)) (fun _ hk => hk.2) (.bool true)) (fun _ h_ => h_.1))) (Kd.R_base ho0) hb); have n2_ := Aside0.mk (Kd.R_elder' (by (with_reducible repeat (first | apply Kd.R_alloc | apply Kd.R_drewN | apply Kd.R_drew)); exact (Kd.R_mono (Kd.R_far (p := ⟨gb369, 4, none⟩) (Kd.R_far (p := ⟨gb369, 5, none⟩) (Kd.R_types HO_370007.out BK369.out (by decide)) (fun _ hk => hk.2) (.slice Ao63 t374.length co63)) (fun _ hk => hk.2) (.bool true)) (fun _ h_ => h_.1))) (Kd.R_base ho0) hb); have n3_ := Aside0.mk (Kd.R_elder' (by (with_reducible repeat (first | apply Kd.R_alloc | apply Kd.R_drewN | apply Kd.R_drew)); exact (Kd.R_mono (Kd.R_far (p := ⟨gb369, 4, none⟩) (Kd.R_far (p := ⟨gb369, 5, none⟩) (Kd.R_types HO376.out BK369.out (by decide)) (fun _ hk => hk.2) (.slice Ao63 t374.length co63)) (fun _ hk => hk.2) (.bool true)) (fun _ h_ => h_.1))) (Kd.R_base ho0) hb); have n4_ := Aside0.mk (Kd.R_lower (Kd.R_new' (Kd.R_new' (Kd.R_new' (Kd.R_new' ho0 (Kd.R_lt (by (with_reducible repeat (first | apply Kd.R_alloc | apply Kd.R_drewN | apply Kd.R_drew)); exact (Kd.R_mono (Kd.R_far (p := ⟨gb369, 4, none⟩) (Kd.R_far (p := ⟨gb369, 5, none⟩) (Kd.R_types HO_370005.out BK369.out (by decide)) (fun _ hk => hk.2) (.slice Ao63 t374.length co63)) (fun _ hk => hk.2) (.bool true)) (fun _ h_ => h_.1))))) (Kd.R_lt (by (with_reducible repeat (first | apply Kd.R_alloc | apply Kd.R_drewN | apply Kd.R_drew)); exact (Kd.R_mono (Kd.R_far (p := ⟨gb369, 4, none⟩) (Kd.R_far (p := ⟨gb369, 5, none⟩) (Kd.R_types HO_370006.out BK369.out (by decide)) (fun _ hk => hk.2) (.slice Ao63 t374.length co63)) (fun _ hk => hk.2) (.bool true)) (fun _ h_ => h_.1))))) (Kd.R_lt (by (with_reducible repeat (first | apply Kd.R_alloc | apply Kd.R_drewN | apply Kd.R_drew)); exact (Kd.R_mono (Kd.R_far (p := ⟨gb369, 4, none⟩) (Kd.R_far (p := ⟨gb369, 5, none⟩) (Kd.R_types HO_370007.out BK369.out (by decide)) (fun _ hk => hk.2) (.slice Ao63 t374.length co63)) (fun _ hk => hk.2) (.bool true)) (fun _ h_ => h_.1))))) (Kd.R_lt (by (with_reducible repeat (first | apply Kd.R_alloc | apply Kd.R_drewN | apply Kd.R_drew)); exact (Kd.R_mono (Kd.R_far (p := ⟨gb369, 4, none⟩) (Kd.R_far (p := ⟨gb369, 5, none⟩) (Kd.R_types HO376.out BK369.out (by decide)) (fun _ hk => hk.2) (.slice Ao63 t374.length co63)) (fun _ hk => hk.2) (.bool true)) (fun _ h_ => h_.1))))) (below_size (by repeat (first | (with_reducible first | exact HB.out | apply below_alloc | apply pw_below_drewN | apply below_drew1 | refine below_set ?_ GE337.out | refine below_set ?_ GE369.out) | exact HB.out)))); have n5_ := Aside0.mk (blk_below (g := gb337) (o := .cells #[.int .i64 a0_0, .int .i64 a0_1, .int .i64 a0_2, .bool a0_3, .bool a0_4, .slice A0_5 l0_5.length c0_5, .slice A0_6 l0_6.length c0_6, .slice A0_7 l0_7.length c0_7] 26 (0, 0)) (by (with_reducible repeat (first | refine blk_drewN ?_ _ | refine blk_drew ?_ | refine blk_alloc ?_ _)); refine blk_far ?_ NB337_369.out _; (with_reducible repeat (first | refine blk_drewN ?_ _ | refine blk_drew ?_ | refine blk_alloc ?_ _)); refine blk_far ?_ NB337_369.out _; (with_reducible repeat (first | refine blk_drewN ?_ _ | refine blk_drew ?_ | refine blk_alloc ?_ _)); exact BK337.out) hb); have n6_ := Aside0.mk (blk_below (g := gb369) (o := .cells #[.int .i64 t355, .int .i64 x370001_2, .int .i64 t371, .bool x370003_2, .bool true, .slice Ao63 t374.length co63, .slice Ao58 x370006_2.length co58, .slice Ao59 x370007_2.length co59] 26 (0, 0)) (by (with_reducible repeat (first | refine blk_drewN ?_ _ | refine blk_drew ?_ | refine blk_alloc ?_ _)); refine blk_put (cs := #[.int .i64 t355, .int .i64 x370001_2, .int .i64 t371, .bool x370003_2, .bool x370004_2, .slice Ao63 t374.length co63, .slice Ao58 x370006_2.length co58, .slice Ao59 x370007_2.length co59]) ?_ 4 _ rfl; (with_reducible repeat (first | refine blk_drewN ?_ _ | refine blk_drew ?_ | refine blk_alloc ?_ _)); refine blk_put (cs := #[.int .i64 t355, .int .i64 x370001_2, .int .i64 t371, .bool x370003_2, .bool x370004_2, .slice Ao57 x370005_2.length co57, .slice Ao58 x370006_2.length co58, .slice Ao59 x370007_2.length co59]) ?_ 5 _ rfl; (with_reducible repeat (first | refine blk_drewN ?_ _ | refine blk_drew ?_ | refine blk_alloc ?_ _)); exact BK369.out) hb); have n7_ := Aside0.mk (below_step (by repeat (first | (with_reducible first | exact HB.out | apply below_alloc | apply pw_below_drewN | apply below_drew1 | refine below_set ?_ GE337.out | refine below_set ?_ GE369.out) | exact HB.out)) hb); clear HO_370005; clear HO_370006; clear HO_370007; clear HO376; clear BK337; clear BK369; clear HB; have HO_370005 := n0_; have HO_370006 := n1_; have HO_370007 := n2_; have HO376 := n3_; have HO382 := n4_; have BK337 := n5_; have BK369 := n6_; have HB := n7_; clear n0_ n1_ n2_ n3_ n4_ n5_ n6_ n7_; (try clear hb); (try clear hb2); (try clear hk); (try clear hi); (try clear ho0); obtain ⟨Ao76, co76, eo76⟩ := Kd.R_slice HO382.out; subst eo76; have hcz77_0 : w75.cell? ⟨gb369, 0, none⟩ = some (.int .i64 t355) := (blk_cell BK369.out 0).trans rfl; have hcz77_1 : w75.cell? ⟨gb369, 1, none⟩ = some (.int .i64 x370001_2) := (blk_cell BK369.out 1).trans rfl; have hcz77_2 : w75.cell? ⟨gb369, 2, none⟩ = some (.int .i64 t371) := (blk_cell BK369.out 2).trans rfl; have hcz77_3 : w75.cell? ⟨gb369, 3, none⟩ = some (.bool x370003_2) := (blk_cell BK369.out 3).trans rfl; have hcz77_4 : w75.cell? ⟨gb369, 4, none⟩ = some (.bool true) := (blk_cell BK369.out 4).trans rfl; have hcz77_5 : w75.cell? ⟨gb369, 5, none⟩ = some (.slice Ao63 t374.length co63) := (blk_cell BK369.out 5).trans rfl; have hcz77_6 : w75.cell? ⟨gb369, 6, none⟩ = some (.slice Ao58 x370006_2.length co58) := (blk_cell BK369.out 6).trans rfl; have hcz77_7 : w75.cell? ⟨gb369, 7, none⟩ = some (.slice Ao59 x370007_2.length co59) := (blk_cell BK369.out 7).trans rfl; have hfz77_0 := blk_frozen BK369.out 0; have hfz77_1 := blk_frozen BK369.out 1; have hfz77_2 := blk_frozen BK369.out 2; have hfz77_3 := blk_frozen BK369.out 3; have hfz77_4 := blk_frozen BK369.out 4; have hfz77_5 := blk_frozen BK369.out 5; have hfz77_6 := blk_frozen BK369.out 6; have hfz77_7 := blk_frozen BK369.out 7))
             go_meet
             case rel => exact ⟨_, (x370003_2), (true), (x370006_2), (t380), (.slice Ao58 x370006_2.length co58), (.slice Ao76 t380.length co76), H', ⟨by have := HJ1.out; have := HK2.out; first | omega | exact Nat.le_refl _⟩, ⟨by (with_reducible repeat (first | apply Kd.R_alloc | apply Kd.R_drewN | apply Kd.R_drew)); exact Kd.R_mono (Kd.R_far (p := ⟨gb369, 7, none⟩) (Kd.R_types HO376.out BK369.out (by decide)) (fun _ hk => hk.2) (.slice Ao76 t380.length co76)) (fun _ hk => ⟨hk.1.1.1.2, hk.1.2⟩)⟩, ⟨by (with_reducible repeat (first | apply Kd.R_alloc | apply Kd.R_drewN | apply Kd.R_drew)); exact Kd.R_mono (Kd.R_far (p := ⟨gb369, 7, none⟩) (Kd.R_types HO_370006.out BK369.out (by decide)) (fun _ hk => hk.2) (.slice Ao76 t380.length co76)) (fun _ hk => ⟨hk.1.1.2, hk.1.2⟩)⟩, ⟨by (with_reducible repeat (first | apply Kd.R_alloc | apply Kd.R_drewN | apply Kd.R_drew)); exact Kd.R_mono (Kd.R_far (p := ⟨gb369, 7, none⟩) (Kd.R_types HO382.out BK369.out (by decide)) (fun _ hk => hk.2) (.slice Ao76 t380.length co76)) (fun _ hk => ⟨hk.1.2, hk.1.1.1.2⟩)⟩, ⟨by (with_reducible repeat (first | refine blk_drewN ?_ _ | refine blk_drew ?_ | refine blk_alloc ?_ _)); refine blk_far ?_ NB337_369.out _; (with_reducible repeat (first | refine blk_drewN ?_ _ | refine blk_drew ?_ | refine blk_alloc ?_ _)); exact BK337.out⟩, ⟨by (with_reducible repeat (first | refine blk_drewN ?_ _ | refine blk_drew ?_ | refine blk_alloc ?_ _)); refine blk_put (cs := #[.int .i64 t355, .int .i64 x370001_2, .int .i64 t371, .bool x370003_2, .bool true, .slice Ao63 t374.length co63, .slice Ao58 x370006_2.length co58, .slice Ao59 x370007_2.length co59]) ?_ 7 _ rfl; (with_reducible repeat (first | refine blk_drewN ?_ _ | refine blk_drew ?_ | refine blk_alloc ?_ _)); exact BK369.out⟩, ⟨by repeat (first | (with_reducible first | exact HB.out | apply below_alloc | apply pw_below_drewN | apply below_drew1 | refine below_set ?_ GE337.out | refine below_set ?_ GE369.out) | exact HB.out)⟩⟩
           case rest =>
            clear HC54
            try clear c1
            try clear c2
            try clear p2
            try clear c3
            try clear c4
            try clear c5
            try clear c6
            try clear p6
            try clear c7
            try clear c9
            try clear c10
            try clear c11
            try clear c12
            try clear c18
            try clear c19
            try clear c25
            try clear c30
            try clear c30b0
            try clear c32
            try clear c35
            try clear c35b0
            try clear c35b1
            try clear c36
            try clear c36b0
            try clear c36b1
            try clear c38
            try clear c45
            try clear c46
            try clear c46b0
            try clear c46b1
            try clear c47
            try clear c47b0
            try clear c49
            try clear c52
            try clear c52b0
            try clear c52b1
            try clear c55
            try clear p64
            try clear c65
            try clear c65b0
            try clear c65b1
            try clear c67
            try clear c73
            try clear hcz10_0
            try clear hcz10_1
            try clear hcz10_2
            try clear hcz10_3
            try clear hcz10_4
            try clear hcz10_5
            try clear hcz10_6
            try clear hcz10_7
            try clear hcz16_0
            try clear hcz16_1
            try clear hcz16_2
            try clear hcz16_3
            try clear hcz16_4
            try clear hcz16_5
            try clear hcz16_6
            try clear hcz16_7
            try clear hcz22_0
            try clear hcz22_1
            try clear hcz22_2
            try clear hcz22_3
            try clear hcz22_4
            try clear hcz22_5
            try clear hcz22_6
            try clear hcz22_7
            try clear hcz26_0
            try clear hcz26_1
            try clear hcz26_2
            try clear hcz26_3
            try clear hcz26_4
            try clear hcz26_5
            try clear hcz26_6
            try clear hcz26_7
            try clear hcz33_0
            try clear hcz33_1
            try clear hcz33_2
            try clear hcz33_3
            try clear hcz33_4
            try clear hcz33_5
            try clear hcz33_6
            try clear hcz33_7
            try clear hcz39_0
            try clear hcz39_1
            try clear hcz39_2
            try clear hcz39_3
            try clear hcz39_4
            try clear hcz39_5
            try clear hcz39_6
            try clear hcz39_7
            try clear hcz50_0
            try clear hcz50_1
            try clear hcz50_2
            try clear hcz50_3
            try clear hcz50_4
            try clear hcz50_5
            try clear hcz50_6
            try clear hcz50_7
            try clear hcz51_0
            try clear hcz51_1
            try clear hcz51_2
            try clear hcz51_3
            try clear hcz51_4
            try clear hcz51_5
            try clear hcz51_6
            try clear hcz51_7
            try clear hcz56_0
            try clear hcz56_1
            try clear hcz56_2
            try clear hcz56_3
            try clear hcz56_4
            try clear hcz56_5
            try clear hcz56_6
            try clear hcz56_7
            try clear hcz61_0
            try clear hcz61_1
            try clear hcz61_2
            try clear hcz61_3
            try clear hcz61_4
            try clear hcz61_5
            try clear hcz61_6
            try clear hcz61_7
            try clear hcz64_0
            try clear hcz64_1
            try clear hcz64_2
            try clear hcz64_3
            try clear hcz64_4
            try clear hcz64_5
            try clear hcz64_6
            try clear hcz64_7
            try clear hcz68_0
            try clear hcz68_1
            try clear hcz68_2
            try clear hcz68_3
            try clear hcz68_4
            try clear hcz68_5
            try clear hcz68_6
            try clear hcz68_7
            try clear hcz71_0
            try clear hcz71_1
            try clear hcz71_2
            try clear hcz71_3
            try clear hcz71_4
            try clear hcz71_5
            try clear hcz71_6
            try clear hcz71_7
            try clear hcz74_0
            try clear hcz74_1
            try clear hcz74_2
            try clear hcz74_3
            try clear hcz74_4
            try clear hcz74_5
            try clear hcz74_6
            try clear hcz74_7
            try clear hcz77_0
            try clear hcz77_1
            try clear hcz77_2
            try clear hcz77_3
            try clear hcz77_4
            try clear hcz77_5
            try clear hcz77_6
            try clear hcz77_7
            try clear hcz8_0
            try clear hcz8_1
            try clear hcz8_2
            try clear hcz8_3
            try clear hcz8_4
            try clear hcz8_5
            try clear hcz8_6
            try clear hcz8_7
            try clear hfz10_0
            try clear hfz10_1
            try clear hfz10_2
            try clear hfz10_3
            try clear hfz10_4
            try clear hfz10_5
            try clear hfz10_6
            try clear hfz10_7
            try clear hfz16_0
            try clear hfz16_1
            try clear hfz16_2
            try clear hfz16_3
            try clear hfz16_4
            try clear hfz16_5
            try clear hfz16_6
            try clear hfz16_7
            try clear hfz22_0
            try clear hfz22_1
            try clear hfz22_2
            try clear hfz22_3
            try clear hfz22_4
            try clear hfz22_5
            try clear hfz22_6
            try clear hfz22_7
            try clear hfz26_0
            try clear hfz26_1
            try clear hfz26_2
            try clear hfz26_3
            try clear hfz26_4
            try clear hfz26_5
            try clear hfz26_6
            try clear hfz26_7
            try clear hfz33_0
            try clear hfz33_1
            try clear hfz33_2
            try clear hfz33_3
            try clear hfz33_4
            try clear hfz33_5
            try clear hfz33_6
            try clear hfz33_7
            try clear hfz39_0
            try clear hfz39_1
            try clear hfz39_2
            try clear hfz39_3
            try clear hfz39_4
            try clear hfz39_5
            try clear hfz39_6
            try clear hfz39_7
            try clear hfz50_0
            try clear hfz50_1
            try clear hfz50_2
            try clear hfz50_3
            try clear hfz50_4
            try clear hfz50_5
            try clear hfz50_6
            try clear hfz50_7
            try clear hfz51_0
            try clear hfz51_1
            try clear hfz51_2
            try clear hfz51_3
            try clear hfz51_4
            try clear hfz51_5
            try clear hfz51_6
            try clear hfz51_7
            try clear hfz56_0
            try clear hfz56_1
            try clear hfz56_2
            try clear hfz56_3
            try clear hfz56_4
            try clear hfz56_5
            try clear hfz56_6
            try clear hfz56_7
            try clear hfz61_0
            try clear hfz61_1
            try clear hfz61_2
            try clear hfz61_3
            try clear hfz61_4
            try clear hfz61_5
            try clear hfz61_6
            try clear hfz61_7
            try clear hfz64_0
            try clear hfz64_1
            try clear hfz64_2
            try clear hfz64_3
            try clear hfz64_4
            try clear hfz64_5
            try clear hfz64_6
            try clear hfz64_7
            try clear hfz68_0
            try clear hfz68_1
            try clear hfz68_2
            try clear hfz68_3
            try clear hfz68_4
            try clear hfz68_5
            try clear hfz68_6
            try clear hfz68_7
            try clear hfz71_0
            try clear hfz71_1
            try clear hfz71_2
            try clear hfz71_3
            try clear hfz71_4
            try clear hfz71_5
            try clear hfz71_6
            try clear hfz71_7
            try clear hfz74_0
            try clear hfz74_1
            try clear hfz74_2
            try clear hfz74_3
            try clear hfz74_4
            try clear hfz74_5
            try clear hfz74_6
            try clear hfz74_7
            try clear hfz77_0
            try clear hfz77_1
            try clear hfz77_2
            try clear hfz77_3
            try clear hfz77_4
            try clear hfz77_5
            try clear hfz77_6
            try clear hfz77_7
            try clear hfz8_0
            try clear hfz8_1
            try clear hfz8_2
            try clear hfz8_3
            try clear hfz8_4
            try clear hfz8_5
            try clear hfz8_6
            try clear hfz8_7
            try clear p2
            try clear p6
            obtain ⟨kq, x370003_53, x370004_53, x370006_53, x370007_53, u370006, u370007, HA, HJ53, HO_370005, HO_370006, HO_370007, BK337, BK369, HB⟩ := hcut
            cases kq with
            | zero => exact absurd HA.out (by simp [newellaw20_CollectAll.j3])
            | succ kj53 =>
             have H := HA.out
             clear HA
             simp only [newellaw20_CollectAll.j3] at H
             have H' := Aside0.mk H
             clear H
             go_wp2
             go_meet
             case rel => exact ⟨_, (x5_2), ((wrap64 (x6_2 + 1))), (x370001_2), (t371), (x370003_53), (x370004_53), (t374), (x370006_53), (x370007_53), (.slice Ao63 t374.length co63), (u370006), (u370007), (by first | rfl | (simp; done) | (simp [*]; done)), (by first | rfl | (simp; done) | (simp [*]; done)), H', ⟨by have := HJ1.out; have := HK2.out; have := HJ53.out; first | omega | exact Nat.le_refl _⟩, ⟨by (with_reducible repeat (first | apply Kd.R_alloc | apply Kd.R_drewN | apply Kd.R_drew)); exact HO_370005.out⟩, ⟨by (with_reducible repeat (first | apply Kd.R_alloc | apply Kd.R_drewN | apply Kd.R_drew)); exact HO_370006.out⟩, ⟨by (with_reducible repeat (first | apply Kd.R_alloc | apply Kd.R_drewN | apply Kd.R_drew)); exact HO_370007.out⟩, ⟨by (with_reducible repeat (first | refine blk_drewN ?_ _ | refine blk_drew ?_ | refine blk_alloc ?_ _)); exact BK337.out⟩, ⟨by (with_reducible repeat (first | refine blk_drewN ?_ _ | refine blk_drew ?_ | refine blk_alloc ?_ _)); exact BK369.out⟩, ⟨by repeat (first | (with_reducible first | exact HB.out | apply below_alloc | apply pw_below_drewN | apply below_drew1 | refine below_set ?_ GE337.out | refine below_set ?_ GE369.out) | exact HB.out)⟩⟩
          ·rw [if_neg c52] at H
           have c52b0 : (t370 == 3) = false := beq_eq_false_iff_ne.mpr c52
           have c52b1 : (t370 != 3) = true := bne_iff_ne.mpr c52
           have H' := Aside0.mk H
           clear H
           have hnb78 := NB369_337.out
           have hnc78 := NB337_369.out
           have hcz79_0 : wr.cell? ⟨gb369, 0, none⟩ = some (.int .i64 t355) := (blk_cell BK369.out 0).trans rfl
           have hcz79_1 : wr.cell? ⟨gb369, 1, none⟩ = some (.int .i64 x370001_2) := (blk_cell BK369.out 1).trans rfl
           have hcz79_2 : wr.cell? ⟨gb369, 2, none⟩ = some (.int .i64 x370002_2) := (blk_cell BK369.out 2).trans rfl
           have hcz79_3 : wr.cell? ⟨gb369, 3, none⟩ = some (.bool x370003_2) := (blk_cell BK369.out 3).trans rfl
           have hcz79_4 : wr.cell? ⟨gb369, 4, none⟩ = some (.bool x370004_2) := (blk_cell BK369.out 4).trans rfl
           have hcz79_5 : wr.cell? ⟨gb369, 5, none⟩ = some (u370005) := (blk_cell BK369.out 5).trans rfl
           have hcz79_6 : wr.cell? ⟨gb369, 6, none⟩ = some (u370006) := (blk_cell BK369.out 6).trans rfl
           have hcz79_7 : wr.cell? ⟨gb369, 7, none⟩ = some (u370007) := (blk_cell BK369.out 7).trans rfl
           have hfz79_0 := blk_frozen BK369.out 0
           have hfz79_1 := blk_frozen BK369.out 1
           have hfz79_2 := blk_frozen BK369.out 2
           have hfz79_3 := blk_frozen BK369.out 3
           have hfz79_4 := blk_frozen BK369.out 4
           have hfz79_5 := blk_frozen BK369.out 5
           have hfz79_6 := blk_frozen BK369.out 6
           have hfz79_7 := blk_frozen BK369.out 7
           obtain ⟨Ao80, co80, eo80⟩ := Kd.R_slice HO_370005.out
           subst eo80
           obtain ⟨Ao81, co81, eo81⟩ := Kd.R_slice HO_370006.out
           subst eo81
           obtain ⟨Ao82, co82, eo82⟩ := Kd.R_slice HO_370007.out
           subst eo82
           go_wp2_with (first | ((with_reducible refine gate_callee (f := 11) rfl ?_); refine goesL_ (some 49) rfl rfl Try.func11 (by kernel_rfl) rfl #[.agg #[.int .i64 t355, .int .i64 x370001_2, .int .i64 x370002_2, .bool x370003_2, .bool x370004_2, .slice Ao80 x370005_2.length co80, .slice Ao81 x370006_2.length co81, .slice Ao82 x370007_2.length co82]] rfl (by (try simp only [List.map_toArray, List.map_cons, List.map_nil]); first | done | rfl | (simp only [List.length_drop, List.length_take]; rfl)) ?_; (with_reducible refine (collect_Next.calls k2 t355 x370001_2 x370002_2 x370003_2 x370004_2 _ _ x370005_2 _ _ x370006_2 _ _ x370007_2 t370 t371 t372 _ ?side1 ?side2 ?side3 ?side4 ?side5 ?side6 A34.out).mono ?_); (case side1 => repeat (first | exact (Kd.R_reads' HO_370005.out).2.2 | (with_reducible refine Kd.C_alloc ?_ _) | (with_reducible refine Kd.C_drewN ?_ _) | (with_reducible refine Kd.C_drew ?_))); (case side2 => exact (Kd.R_reads' HO_370005.out).2.1); (case side3 => repeat (first | exact (Kd.R_reads' HO_370006.out).2.2 | (with_reducible refine Kd.C_alloc ?_ _) | (with_reducible refine Kd.C_drewN ?_ _) | (with_reducible refine Kd.C_drew ?_))); (case side4 => exact (Kd.R_reads' HO_370006.out).2.1); (case side5 => repeat (first | exact (Kd.R_reads' HO_370007.out).2.2 | (with_reducible refine Kd.C_alloc ?_ _) | (with_reducible refine Kd.C_drewN ?_ _) | (with_reducible refine Kd.C_drew ?_))); (case side6 => exact (Kd.R_reads' HO_370007.out).2.1); rintro e w83 ⟨rfl, hb⟩; refine ⟨_, rfl, ?_⟩; have n0_ := Aside0.mk (Kd.R_below (by (with_reducible repeat (first | apply Kd.R_alloc | apply Kd.R_drewN | apply Kd.R_drew)); exact HO_370005.out) hb); have n1_ := Aside0.mk (Kd.R_below (by (with_reducible repeat (first | apply Kd.R_alloc | apply Kd.R_drewN | apply Kd.R_drew)); exact HO_370006.out) hb); have n2_ := Aside0.mk (Kd.R_below (by (with_reducible repeat (first | apply Kd.R_alloc | apply Kd.R_drewN | apply Kd.R_drew)); exact HO_370007.out) hb); have n3_ := Aside0.mk (blk_below (g := gb337) (o := .cells #[.int .i64 a0_0, .int .i64 a0_1, .int .i64 a0_2, .bool a0_3, .bool a0_4, .slice A0_5 l0_5.length c0_5, .slice A0_6 l0_6.length c0_6, .slice A0_7 l0_7.length c0_7] 26 (0, 0)) (by (with_reducible repeat (first | refine blk_drewN ?_ _ | refine blk_drew ?_ | refine blk_alloc ?_ _)); exact BK337.out) hb); have n4_ := Aside0.mk (blk_below (g := gb369) (o := .cells #[.int .i64 t355, .int .i64 x370001_2, .int .i64 x370002_2, .bool x370003_2, .bool x370004_2, .slice Ao80 x370005_2.length co80, .slice Ao81 x370006_2.length co81, .slice Ao82 x370007_2.length co82] 26 (0, 0)) (by (with_reducible repeat (first | refine blk_drewN ?_ _ | refine blk_drew ?_ | refine blk_alloc ?_ _)); exact BK369.out) hb); have n5_ := Aside0.mk (below_step (by repeat (first | (with_reducible first | exact HB.out | apply below_alloc | apply pw_below_drewN | apply below_drew1 | refine below_set ?_ GE337.out | refine below_set ?_ GE369.out) | exact HB.out)) hb); clear HO_370005; clear HO_370006; clear HO_370007; clear BK337; clear BK369; clear HB; have HO_370005 := n0_; have HO_370006 := n1_; have HO_370007 := n2_; have BK337 := n3_; have BK369 := n4_; have HB := n5_; clear n0_ n1_ n2_ n3_ n4_ n5_; (try clear hb); (try clear hb2); (try clear hk); (try clear hi); have hcz84_0 : w83.cell? ⟨gb369, 0, none⟩ = some (.int .i64 t355) := (blk_cell BK369.out 0).trans rfl; have hcz84_1 : w83.cell? ⟨gb369, 1, none⟩ = some (.int .i64 x370001_2) := (blk_cell BK369.out 1).trans rfl; have hcz84_2 : w83.cell? ⟨gb369, 2, none⟩ = some (.int .i64 x370002_2) := (blk_cell BK369.out 2).trans rfl; have hcz84_3 : w83.cell? ⟨gb369, 3, none⟩ = some (.bool x370003_2) := (blk_cell BK369.out 3).trans rfl; have hcz84_4 : w83.cell? ⟨gb369, 4, none⟩ = some (.bool x370004_2) := (blk_cell BK369.out 4).trans rfl; have hcz84_5 : w83.cell? ⟨gb369, 5, none⟩ = some (.slice Ao80 x370005_2.length co80) := (blk_cell BK369.out 5).trans rfl; have hcz84_6 : w83.cell? ⟨gb369, 6, none⟩ = some (.slice Ao81 x370006_2.length co81) := (blk_cell BK369.out 6).trans rfl; have hcz84_7 : w83.cell? ⟨gb369, 7, none⟩ = some (.slice Ao82 x370007_2.length co82) := (blk_cell BK369.out 7).trans rfl; have hfz84_0 := blk_frozen BK369.out 0; have hfz84_1 := blk_frozen BK369.out 1; have hfz84_2 := blk_frozen BK369.out 2; have hfz84_3 := blk_frozen BK369.out 3; have hfz84_4 := blk_frozen BK369.out 4; have hfz84_5 := blk_frozen BK369.out 5; have hfz84_6 := blk_frozen BK369.out 6; have hfz84_7 := blk_frozen BK369.out 7))
           go_meet
           case rel => exact ⟨_, (wrap64 (x5_2 + 1)), (x6_2), (wrap64 (x370001_2 + t371)), (t371), (false), (false), (x370005_2), (x370006_2), (x370007_2), (.slice Ao80 x370005_2.length co80), (.slice Ao81 x370006_2.length co81), (.slice Ao82 x370007_2.length co82), (by first | rfl | (simp; done) | (simp [*]; done)), (by first | rfl | (simp; done) | (simp [*]; done)), H', ⟨by have := HJ1.out; have := HK2.out; first | omega | exact Nat.le_refl _⟩, ⟨by (with_reducible repeat (first | apply Kd.R_alloc | apply Kd.R_drewN | apply Kd.R_drew)); exact Kd.R_mono (Kd.R_far (p := ⟨gb369, 4, none⟩) (Kd.R_far (p := ⟨gb369, 3, none⟩) (Kd.R_far (p := ⟨gb369, 1, none⟩) (Kd.R_far (p := ⟨gb369, 2, none⟩) (Kd.R_types HO_370005.out BK369.out (by decide)) (fun _ hk => hk.2) (.int .i64 t371)) (fun _ hk => hk.2) (.int .i64 (wrap64 (x370001_2 + t371)))) (fun _ hk => hk.2) (.bool false)) (fun _ hk => hk.2) (.bool false)) (fun _ hk => ⟨hk.1.1, hk.1.2⟩)⟩, ⟨by (with_reducible repeat (first | apply Kd.R_alloc | apply Kd.R_drewN | apply Kd.R_drew)); exact Kd.R_mono (Kd.R_far (p := ⟨gb369, 4, none⟩) (Kd.R_far (p := ⟨gb369, 3, none⟩) (Kd.R_far (p := ⟨gb369, 1, none⟩) (Kd.R_far (p := ⟨gb369, 2, none⟩) (Kd.R_types HO_370006.out BK369.out (by decide)) (fun _ hk => hk.2) (.int .i64 t371)) (fun _ hk => hk.2) (.int .i64 (wrap64 (x370001_2 + t371)))) (fun _ hk => hk.2) (.bool false)) (fun _ hk => hk.2) (.bool false)) (fun _ hk => ⟨hk.1.1, hk.1.2⟩)⟩, ⟨by (with_reducible repeat (first | apply Kd.R_alloc | apply Kd.R_drewN | apply Kd.R_drew)); exact Kd.R_mono (Kd.R_far (p := ⟨gb369, 4, none⟩) (Kd.R_far (p := ⟨gb369, 3, none⟩) (Kd.R_far (p := ⟨gb369, 1, none⟩) (Kd.R_far (p := ⟨gb369, 2, none⟩) (Kd.R_types HO_370007.out BK369.out (by decide)) (fun _ hk => hk.2) (.int .i64 t371)) (fun _ hk => hk.2) (.int .i64 (wrap64 (x370001_2 + t371)))) (fun _ hk => hk.2) (.bool false)) (fun _ hk => hk.2) (.bool false)) (fun _ hk => ⟨hk.1.1, hk.1.2⟩)⟩, ⟨by (with_reducible repeat (first | refine blk_drewN ?_ _ | refine blk_drew ?_ | refine blk_alloc ?_ _)); refine blk_far ?_ NB337_369.out _; (with_reducible repeat (first | refine blk_drewN ?_ _ | refine blk_drew ?_ | refine blk_alloc ?_ _)); refine blk_far ?_ NB337_369.out _; (with_reducible repeat (first | refine blk_drewN ?_ _ | refine blk_drew ?_ | refine blk_alloc ?_ _)); refine blk_far ?_ NB337_369.out _; (with_reducible repeat (first | refine blk_drewN ?_ _ | refine blk_drew ?_ | refine blk_alloc ?_ _)); refine blk_far ?_ NB337_369.out _; (with_reducible repeat (first | refine blk_drewN ?_ _ | refine blk_drew ?_ | refine blk_alloc ?_ _)); exact BK337.out⟩, ⟨by (with_reducible repeat (first | refine blk_drewN ?_ _ | refine blk_drew ?_ | refine blk_alloc ?_ _)); refine blk_put (cs := #[.int .i64 t355, .int .i64 (wrap64 (x370001_2 + t371)), .int .i64 t371, .bool false, .bool x370004_2, .slice Ao80 x370005_2.length co80, .slice Ao81 x370006_2.length co81, .slice Ao82 x370007_2.length co82]) ?_ 4 _ rfl; (with_reducible repeat (first | refine blk_drewN ?_ _ | refine blk_drew ?_ | refine blk_alloc ?_ _)); refine blk_put (cs := #[.int .i64 t355, .int .i64 (wrap64 (x370001_2 + t371)), .int .i64 t371, .bool x370003_2, .bool x370004_2, .slice Ao80 x370005_2.length co80, .slice Ao81 x370006_2.length co81, .slice Ao82 x370007_2.length co82]) ?_ 3 _ rfl; (with_reducible repeat (first | refine blk_drewN ?_ _ | refine blk_drew ?_ | refine blk_alloc ?_ _)); refine blk_put (cs := #[.int .i64 t355, .int .i64 x370001_2, .int .i64 t371, .bool x370003_2, .bool x370004_2, .slice Ao80 x370005_2.length co80, .slice Ao81 x370006_2.length co81, .slice Ao82 x370007_2.length co82]) ?_ 1 _ rfl; (with_reducible repeat (first | refine blk_drewN ?_ _ | refine blk_drew ?_ | refine blk_alloc ?_ _)); refine blk_put (cs := #[.int .i64 t355, .int .i64 x370001_2, .int .i64 x370002_2, .bool x370003_2, .bool x370004_2, .slice Ao80 x370005_2.length co80, .slice Ao81 x370006_2.length co81, .slice Ao82 x370007_2.length co82]) ?_ 2 _ rfl; (with_reducible repeat (first | refine blk_drewN ?_ _ | refine blk_drew ?_ | refine blk_alloc ?_ _)); exact BK369.out⟩, ⟨by repeat (first | (with_reducible first | exact HB.out | apply below_alloc | apply pw_below_drewN | apply below_drew1 | refine below_set ?_ GE337.out | refine below_set ?_ GE369.out) | exact HB.out)⟩⟩
        ·rw [if_neg c35] at H
         exact absurd H (by simp)
       case rest =>
        clear HC31
        try clear c1
        try clear c2
        try clear p2
        try clear c3
        try clear c4
        try clear c5
        try clear c6
        try clear p6
        try clear c7
        try clear c9
        try clear c10
        try clear c11
        try clear c12
        try clear c18
        try clear c19
        try clear c25
        try clear c30
        try clear c30b0
        try clear c32
        try clear c35
        try clear c35b0
        try clear c35b1
        try clear c36
        try clear c36b0
        try clear c36b1
        try clear c38
        try clear c45
        try clear c46
        try clear c46b0
        try clear c46b1
        try clear c47
        try clear c47b0
        try clear c49
        try clear c52
        try clear c52b0
        try clear c52b1
        try clear c55
        try clear p64
        try clear c65
        try clear c65b0
        try clear c65b1
        try clear c67
        try clear c73
        try clear c78
        try clear hcz10_0
        try clear hcz10_1
        try clear hcz10_2
        try clear hcz10_3
        try clear hcz10_4
        try clear hcz10_5
        try clear hcz10_6
        try clear hcz10_7
        try clear hcz16_0
        try clear hcz16_1
        try clear hcz16_2
        try clear hcz16_3
        try clear hcz16_4
        try clear hcz16_5
        try clear hcz16_6
        try clear hcz16_7
        try clear hcz22_0
        try clear hcz22_1
        try clear hcz22_2
        try clear hcz22_3
        try clear hcz22_4
        try clear hcz22_5
        try clear hcz22_6
        try clear hcz22_7
        try clear hcz26_0
        try clear hcz26_1
        try clear hcz26_2
        try clear hcz26_3
        try clear hcz26_4
        try clear hcz26_5
        try clear hcz26_6
        try clear hcz26_7
        try clear hcz33_0
        try clear hcz33_1
        try clear hcz33_2
        try clear hcz33_3
        try clear hcz33_4
        try clear hcz33_5
        try clear hcz33_6
        try clear hcz33_7
        try clear hcz39_0
        try clear hcz39_1
        try clear hcz39_2
        try clear hcz39_3
        try clear hcz39_4
        try clear hcz39_5
        try clear hcz39_6
        try clear hcz39_7
        try clear hcz50_0
        try clear hcz50_1
        try clear hcz50_2
        try clear hcz50_3
        try clear hcz50_4
        try clear hcz50_5
        try clear hcz50_6
        try clear hcz50_7
        try clear hcz51_0
        try clear hcz51_1
        try clear hcz51_2
        try clear hcz51_3
        try clear hcz51_4
        try clear hcz51_5
        try clear hcz51_6
        try clear hcz51_7
        try clear hcz56_0
        try clear hcz56_1
        try clear hcz56_2
        try clear hcz56_3
        try clear hcz56_4
        try clear hcz56_5
        try clear hcz56_6
        try clear hcz56_7
        try clear hcz61_0
        try clear hcz61_1
        try clear hcz61_2
        try clear hcz61_3
        try clear hcz61_4
        try clear hcz61_5
        try clear hcz61_6
        try clear hcz61_7
        try clear hcz64_0
        try clear hcz64_1
        try clear hcz64_2
        try clear hcz64_3
        try clear hcz64_4
        try clear hcz64_5
        try clear hcz64_6
        try clear hcz64_7
        try clear hcz68_0
        try clear hcz68_1
        try clear hcz68_2
        try clear hcz68_3
        try clear hcz68_4
        try clear hcz68_5
        try clear hcz68_6
        try clear hcz68_7
        try clear hcz71_0
        try clear hcz71_1
        try clear hcz71_2
        try clear hcz71_3
        try clear hcz71_4
        try clear hcz71_5
        try clear hcz71_6
        try clear hcz71_7
        try clear hcz74_0
        try clear hcz74_1
        try clear hcz74_2
        try clear hcz74_3
        try clear hcz74_4
        try clear hcz74_5
        try clear hcz74_6
        try clear hcz74_7
        try clear hcz77_0
        try clear hcz77_1
        try clear hcz77_2
        try clear hcz77_3
        try clear hcz77_4
        try clear hcz77_5
        try clear hcz77_6
        try clear hcz77_7
        try clear hcz79_0
        try clear hcz79_1
        try clear hcz79_2
        try clear hcz79_3
        try clear hcz79_4
        try clear hcz79_5
        try clear hcz79_6
        try clear hcz79_7
        try clear hcz84_0
        try clear hcz84_1
        try clear hcz84_2
        try clear hcz84_3
        try clear hcz84_4
        try clear hcz84_5
        try clear hcz84_6
        try clear hcz84_7
        try clear hcz8_0
        try clear hcz8_1
        try clear hcz8_2
        try clear hcz8_3
        try clear hcz8_4
        try clear hcz8_5
        try clear hcz8_6
        try clear hcz8_7
        try clear hfz10_0
        try clear hfz10_1
        try clear hfz10_2
        try clear hfz10_3
        try clear hfz10_4
        try clear hfz10_5
        try clear hfz10_6
        try clear hfz10_7
        try clear hfz16_0
        try clear hfz16_1
        try clear hfz16_2
        try clear hfz16_3
        try clear hfz16_4
        try clear hfz16_5
        try clear hfz16_6
        try clear hfz16_7
        try clear hfz22_0
        try clear hfz22_1
        try clear hfz22_2
        try clear hfz22_3
        try clear hfz22_4
        try clear hfz22_5
        try clear hfz22_6
        try clear hfz22_7
        try clear hfz26_0
        try clear hfz26_1
        try clear hfz26_2
        try clear hfz26_3
        try clear hfz26_4
        try clear hfz26_5
        try clear hfz26_6
        try clear hfz26_7
        try clear hfz33_0
        try clear hfz33_1
        try clear hfz33_2
        try clear hfz33_3
        try clear hfz33_4
        try clear hfz33_5
        try clear hfz33_6
        try clear hfz33_7
        try clear hfz39_0
        try clear hfz39_1
        try clear hfz39_2
        try clear hfz39_3
        try clear hfz39_4
        try clear hfz39_5
        try clear hfz39_6
        try clear hfz39_7
        try clear hfz50_0
        try clear hfz50_1
        try clear hfz50_2
        try clear hfz50_3
        try clear hfz50_4
        try clear hfz50_5
        try clear hfz50_6
        try clear hfz50_7
        try clear hfz51_0
        try clear hfz51_1
        try clear hfz51_2
        try clear hfz51_3
        try clear hfz51_4
        try clear hfz51_5
        try clear hfz51_6
        try clear hfz51_7
        try clear hfz56_0
        try clear hfz56_1
        try clear hfz56_2
        try clear hfz56_3
        try clear hfz56_4
        try clear hfz56_5
        try clear hfz56_6
        try clear hfz56_7
        try clear hfz61_0
        try clear hfz61_1
        try clear hfz61_2
        try clear hfz61_3
        try clear hfz61_4
        try clear hfz61_5
        try clear hfz61_6
        try clear hfz61_7
        try clear hfz64_0
        try clear hfz64_1
        try clear hfz64_2
        try clear hfz64_3
        try clear hfz64_4
        try clear hfz64_5
        try clear hfz64_6
        try clear hfz64_7
        try clear hfz68_0
        try clear hfz68_1
        try clear hfz68_2
        try clear hfz68_3
        try clear hfz68_4
        try clear hfz68_5
        try clear hfz68_6
        try clear hfz68_7
        try clear hfz71_0
        try clear hfz71_1
        try clear hfz71_2
        try clear hfz71_3
        try clear hfz71_4
        try clear hfz71_5
        try clear hfz71_6
        try clear hfz71_7
        try clear hfz74_0
        try clear hfz74_1
        try clear hfz74_2
        try clear hfz74_3
        try clear hfz74_4
        try clear hfz74_5
        try clear hfz74_6
        try clear hfz74_7
        try clear hfz77_0
        try clear hfz77_1
        try clear hfz77_2
        try clear hfz77_3
        try clear hfz77_4
        try clear hfz77_5
        try clear hfz77_6
        try clear hfz77_7
        try clear hfz79_0
        try clear hfz79_1
        try clear hfz79_2
        try clear hfz79_3
        try clear hfz79_4
        try clear hfz79_5
        try clear hfz79_6
        try clear hfz79_7
        try clear hfz84_0
        try clear hfz84_1
        try clear hfz84_2
        try clear hfz84_3
        try clear hfz84_4
        try clear hfz84_5
        try clear hfz84_6
        try clear hfz84_7
        try clear hfz8_0
        try clear hfz8_1
        try clear hfz8_2
        try clear hfz8_3
        try clear hfz8_4
        try clear hfz8_5
        try clear hfz8_6
        try clear hfz8_7
        try clear p2
        try clear p6
        try clear p64
        obtain ⟨kq, x5_30, x6_30, x370001_30, x370002_30, x370003_30, x370004_30, x370005_30, x370006_30, x370007_30, u370005, u370006, u370007, rfl, rfl, HA, HJ30, HO_370005, HO_370006, HO_370007, BK337, BK369, HB⟩ := hcut
        cases kq with
        | zero => exact absurd HA.out (by simp [newellaw20_CollectAll.j4])
        | succ kj30 =>
         have H := HA.out
         clear HA
         simp only [newellaw20_CollectAll.j4] at H
         have H' := Aside0.mk H
         clear H
         go_wp2
         go_roundg kj30
         case measure => have := HJ1.out; have := HK2.out; have := HJ30.out; omega
         case rel => exact ⟨(x5_30), (x6_30), (wrap64 (x7_2 + 1)), (x370001_30), (x370002_30), (x370003_30), (x370004_30), (x370005_30), (x370006_30), (x370007_30), (u370005), (u370006), (u370007), (by first | rfl | (simp; done) | (simp [*]; done)), (by first | rfl | (simp; done) | (simp [*]; done)), (by first | rfl | (simp; done) | (simp [*]; done)), H', ⟨by have := HJ1.out; have := HK2.out; have := HJ30.out; omega⟩, ⟨by (with_reducible repeat (first | apply Kd.R_alloc | apply Kd.R_drewN | apply Kd.R_drew)); exact HO_370005.out⟩, ⟨by (with_reducible repeat (first | apply Kd.R_alloc | apply Kd.R_drewN | apply Kd.R_drew)); exact HO_370006.out⟩, ⟨by (with_reducible repeat (first | apply Kd.R_alloc | apply Kd.R_drewN | apply Kd.R_drew)); exact HO_370007.out⟩, ⟨by (with_reducible repeat (first | refine blk_drewN ?_ _ | refine blk_drew ?_ | refine blk_alloc ?_ _)); exact BK337.out⟩, ⟨by (with_reducible repeat (first | refine blk_drewN ?_ _ | refine blk_drew ?_ | refine blk_alloc ?_ _)); exact BK369.out⟩, ⟨by repeat (first | (with_reducible first | exact HB.out | apply below_alloc | apply pw_below_drewN | apply below_drew1 | refine below_set ?_ GE337.out | refine below_set ?_ GE369.out) | exact HB.out)⟩⟩
      ·rw [if_neg c30] at H
       exact absurd H (by simp)

end Go.Proofs.Ytlfgdcgjndjdgaa.C
