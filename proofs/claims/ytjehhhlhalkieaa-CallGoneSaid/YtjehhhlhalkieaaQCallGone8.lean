/- Texts of this claim, one behind the other: what the law's functions come to, walked (printed by a program, with the words that the print uses), and what that is, in plain Lean. No conditions of their own. -/
import Derived.Test.YtjehhhlhalkieaaQCallGone7
namespace Go.Proofs.Ytjehhhlhalkieaa.C
open Go.RowKit Go.Proofs.YtjehhhlhalkieaaW.PrintWords Go.Proofs.YtjehhhlhalkieaaW.PrintLast Go.Proofs.YtjehhhlhalkieaaW.PrintMore
attribute [local go_sem] max2_int min2_int max_two min_two max_three min_three max_four min_four
set_option linter.unusedVariables false
set_option linter.unusedSimpArgs false
mutual
def newellaw19_CallGone.l0 : Nat → Int → Int → Int → Int → List (S56) → List (S62) → Int → Int → Int → List (S56) → List (S62) → List Int → List Int → List Int → Option (Bool)
 | 0, _, _, _, _, _, _, _, _, _, _, _, _, _, _ => none
 | k + 1, x10, x11, x201000, x201001, x202000, x202001, x203000, x203001, x203002, x219000, x219001, x231000, x231001, x231002 => if x11 < (x231000.length : Int) then (if 0 ≤ x11 then (if (rd x231000 x11) = x203001 then (none) else (newellaw19_CallGone.l0 k x10 (wrap64 (x11 + 1)) x201000 x201001 x202000 x202001 x203000 x203001 x203002 x219000 x219001 x231000 x231001 x231002)) else (none)) else (newellaw19_CallGone.l1 k x10 0 x201000 x201001 x202000 x202001 x203000 x203001 x203002 x219000 x219001)
def newellaw19_CallGone.l1 : Nat → Int → Int → Int → Int → List (S56) → List (S62) → Int → Int → Int → List (S56) → List (S62) → Option (Bool)
 | 0, _, _, _, _, _, _, _, _, _, _, _ => none
 | k + 1, x10, x12, x201000, x201001, x202000, x202001, x203000, x203001, x203002, x219000, x219001 => if x12 < (x219000.length : Int) then (if 0 ≤ x12 then (if ((rd_T56 x219000 x12).f0) = x203001 then (if ((rd_T56 x219000 x12).f1) = x203002 then (none) else (newellaw19_CallGone.l1 k x10 (wrap64 (x12 + 1)) x201000 x201001 x202000 x202001 x203000 x203001 x203002 x219000 x219001)) else (newellaw19_CallGone.l1 k x10 (wrap64 (x12 + 1)) x201000 x201001 x202000 x202001 x203000 x203001 x203002 x219000 x219001)) else (none)) else ((newellaw19_Own.f x219000 x219001).bind fun bt234 => ((call_Serve.f k x201000 x201001 bt234.1 bt234.2 x203000 x203001 x203002).bind fun bt240 => ((newellaw19_awake.f k).bind fun t248 => (if t248 = true then (if x10 = 0 then (if bt240.2.2 = 0 then ((call_Same.f k bt240.1 bt240.2.1 x219000 x219001).bind fun t249 => (if t249 = true then (if (wrap64 ((wrap64 ((wrap64 ((x202000.length : Int) + (x202001.length : Int))) - (x219000.length : Int))) - (x219001.length : Int))) ≥ 0 then (if (wrap64 ((wrap64 ((wrap64 ((x202000.length : Int) + (x202001.length : Int))) - (x219000.length : Int))) - (x219001.length : Int))) ≤ 2 then ((call_Check.f k x201000 x201001 x219000 x219001).bind fun t250 => (some (t250 == 0))) else (none)) else (none)) else (none))) else (none)) else (none)) else (none)))))
end
def newellaw19_CallGone.f (k : Nat) (a0_0 : Int) (a0_1 : Int) (l1_0 : List (S56)) (l1_1 : List (S62)) (a2_0 : Int) (a2_1 : Int) (a2_2 : Int) : Option (Bool) := (newelref19_Few.f l1_0 l1_1).bind fun t203 => (if t203 = true then ((newellaw19_Own.f l1_0 l1_1).bind fun bt205 => ((call_Serve.f k a0_0 a0_1 bt205.1 bt205.2 a2_0 a2_1 a2_2).bind fun bt211 => (if bt211.2.2 = 0 then ((call_View.f k a0_0 a0_1 bt211.1 bt211.2.1 a2_0).bind fun bt220 => (newellaw19_CallGone.l0 k bt220.2.2.2 0 a0_0 a0_1 l1_0 l1_1 a2_0 a2_1 a2_2 bt211.1 bt211.2.1 bt220.1 bt220.2.1 bt220.2.2.1)) else ((newellaw19_awake.f k).bind fun t219 => (some t219))))) else ((newellaw19_awake.f k).bind fun t204 => (some t204)))
theorem newellaw19_CallGone.mono_l : ∀ k, (∀ y0 y1 y2 y3 y4 y5 y6 y7 y8 y9 y10 y11 y12 y13, LeO (newellaw19_CallGone.l0 k y0 y1 y2 y3 y4 y5 y6 y7 y8 y9 y10 y11 y12 y13) (newellaw19_CallGone.l0 (k + 1) y0 y1 y2 y3 y4 y5 y6 y7 y8 y9 y10 y11 y12 y13)) ∧ (∀ y0 y1 y2 y3 y4 y5 y6 y7 y8 y9 y10, LeO (newellaw19_CallGone.l1 k y0 y1 y2 y3 y4 y5 y6 y7 y8 y9 y10) (newellaw19_CallGone.l1 (k + 1) y0 y1 y2 y3 y4 y5 y6 y7 y8 y9 y10))
 | 0 => ⟨fun _ _ _ _ _ _ _ _ _ _ _ _ _ _ r h => by simp [newellaw19_CallGone.l0] at h, fun _ _ _ _ _ _ _ _ _ _ _ r h => by simp [newellaw19_CallGone.l1] at h⟩
 | k + 1 => by
  obtain ⟨ih0, ih1⟩ := newellaw19_CallGone.mono_l k
  refine ⟨?_, ?_⟩
  ·intro y0 y1 y2 y3 y4 y5 y6 y7 y8 y9 y10 y11 y12 y13
   unfold newellaw19_CallGone.l0
   repeat' first
   | (with_reducible exact ih0 _ _ _ _ _ _ _ _ _ _ _ _ _ _)
   | (with_reducible exact ih1 _ _ _ _ _ _ _ _ _ _ _)
   | (with_reducible exact call_Check.mono _ _ _ _ _)
   | (with_reducible exact call_Same.mono _ _ _ _ _)
   | (with_reducible exact call_Serve.mono _ _ _ _ _ _ _ _)
   | (with_reducible exact call_View.mono _ _ _ _ _ _)
   | (with_reducible exact newellaw19_awake.mono _)
   | (with_reducible exact LeO.refl _)
   | (with_reducible exact LeO.none _)
   | (with_reducible refine LeO.ite ?_ ?_)
   | (with_reducible refine LeO.bind ?_ (fun _ => ?_))
   | exact ih0 _ _ _ _ _ _ _ _ _ _ _ _ _ _
   | exact ih1 _ _ _ _ _ _ _ _ _ _ _
   | exact call_Check.mono _ _ _ _ _
   | exact call_Same.mono _ _ _ _ _
   | exact call_Serve.mono _ _ _ _ _ _ _ _
   | exact call_View.mono _ _ _ _ _ _
   | exact newellaw19_awake.mono _
   | exact LeO.none _
   | refine LeO.ite ?_ ?_
   | refine LeO.bind ?_ (fun _ => ?_)
  ·intro y0 y1 y2 y3 y4 y5 y6 y7 y8 y9 y10
   unfold newellaw19_CallGone.l1
   repeat' first
   | (with_reducible exact ih0 _ _ _ _ _ _ _ _ _ _ _ _ _ _)
   | (with_reducible exact ih1 _ _ _ _ _ _ _ _ _ _ _)
   | (with_reducible exact call_Check.mono _ _ _ _ _)
   | (with_reducible exact call_Same.mono _ _ _ _ _)
   | (with_reducible exact call_Serve.mono _ _ _ _ _ _ _ _)
   | (with_reducible exact call_View.mono _ _ _ _ _ _)
   | (with_reducible exact newellaw19_awake.mono _)
   | (with_reducible exact LeO.refl _)
   | (with_reducible exact LeO.none _)
   | (with_reducible refine LeO.ite ?_ ?_)
   | (with_reducible refine LeO.bind ?_ (fun _ => ?_))
   | exact ih0 _ _ _ _ _ _ _ _ _ _ _ _ _ _
   | exact ih1 _ _ _ _ _ _ _ _ _ _ _
   | exact call_Check.mono _ _ _ _ _
   | exact call_Same.mono _ _ _ _ _
   | exact call_Serve.mono _ _ _ _ _ _ _ _
   | exact call_View.mono _ _ _ _ _ _
   | exact newellaw19_awake.mono _
   | exact LeO.none _
   | refine LeO.ite ?_ ?_
   | refine LeO.bind ?_ (fun _ => ?_)
theorem newellaw19_CallGone.mono : ∀ a0 a1 a2 a3 a4 a5 a6 k, LeO (newellaw19_CallGone.f k a0 a1 a2 a3 a4 a5 a6) (newellaw19_CallGone.f (k + 1) a0 a1 a2 a3 a4 a5 a6) := by
 intro a0 a1 a2 a3 a4 a5 a6 k
 obtain ⟨ih0, ih1⟩ := newellaw19_CallGone.mono_l k
 unfold newellaw19_CallGone.f
 repeat' first
   | (with_reducible exact ih0 _ _ _ _ _ _ _ _ _ _ _ _ _ _)
   | (with_reducible exact ih1 _ _ _ _ _ _ _ _ _ _ _)
   | (with_reducible exact call_Check.mono _ _ _ _ _)
   | (with_reducible exact call_Same.mono _ _ _ _ _)
   | (with_reducible exact call_Serve.mono _ _ _ _ _ _ _ _)
   | (with_reducible exact call_View.mono _ _ _ _ _ _)
   | (with_reducible exact newellaw19_awake.mono _)
   | (with_reducible exact LeO.refl _)
   | (with_reducible exact LeO.none _)
   | (with_reducible refine LeO.ite ?_ ?_)
   | (with_reducible refine LeO.bind ?_ (fun _ => ?_))
   | exact ih0 _ _ _ _ _ _ _ _ _ _ _ _ _ _
   | exact ih1 _ _ _ _ _ _ _ _ _ _ _
   | exact call_Check.mono _ _ _ _ _
   | exact call_Same.mono _ _ _ _ _
   | exact call_Serve.mono _ _ _ _ _ _ _ _
   | exact call_View.mono _ _ _ _ _ _
   | exact newellaw19_awake.mono _
   | exact LeO.none _
   | refine LeO.ite ?_ ?_
   | refine LeO.bind ?_ (fun _ => ?_)
def newellaw19_CallGone.T3 : Bool × List (List Nat × List Nat) := (true, [([], []), ([], []), ([1], [1]), ([], []), ([0, 2, 3, 2], [0, 2, 3]), ([4], [4]), ([5], [5]), ([5], [5]), ([], []), ([8, 6, 4, 0, 1, 2, 3, 4, 5, 6, 8], [6, 8]), ([7, 9, 0, 1, 2, 3, 4, 5, 6, 7, 8, 9], [7])])
def newellaw19_CallGone.B3 : List Nat := [0, 0, 2, 0, 15, 31, 63, 63, 0, 383, 1023]
theorem newellaw19_CallGone.tab3 : rtab .any (opsOf Try.f7 3) = newellaw19_CallGone.T3 := by kernel_rfl
theorem newellaw19_CallGone.bits3 : waitsOk newellaw19_CallGone.T3.2 newellaw19_CallGone.B3 = true := by kernel_rfl
def newellaw19_CallGone.T10 : Bool × List (List Nat × List Nat) := (true, [([], []), ([0], [0]), ([], []), ([1, 2], [1, 2]), ([3], [3]), ([], []), ([5], [5]), ([4, 6], [4, 6])])
def newellaw19_CallGone.B10 : List Nat := [0, 1, 0, 7, 15, 0, 32, 127]
theorem newellaw19_CallGone.tab10 : rtab .any (opsOf Try.f7 10) = newellaw19_CallGone.T10 := by kernel_rfl
theorem newellaw19_CallGone.bits10 : waitsOk newellaw19_CallGone.T10.2 newellaw19_CallGone.B10 = true := by kernel_rfl
def newellaw19_CallGone.T15 : Bool × List (List Nat × List Nat) := (true, [([], []), ([0], [0]), ([], []), ([1, 2], [1, 2]), ([3], [3]), ([4], [4]), ([], []), ([6], [6]), ([5, 7], [5, 7]), ([8], [8]), ([9], [9]), ([10, 9], [9, 10]), ([9], [9]), ([11, 12, 9], [9, 11, 12]), ([13, 9], [9, 13]), ([14, 9], [9, 14]), ([9], [9]), ([16, 9], [9, 16]), ([15, 17, 9], [9, 15, 17]), ([9, 18], [9, 18])])
def newellaw19_CallGone.B15 : List Nat := [0, 1, 0, 7, 15, 31, 0, 64, 255, 511, 1023, 2047, 1023, 8191, 16383, 32767, 1023, 66559, 262143, 524287]
theorem newellaw19_CallGone.tab15 : rtab .any (opsOf Try.f7 15) = newellaw19_CallGone.T15 := by kernel_rfl
theorem newellaw19_CallGone.bits15 : waitsOk newellaw19_CallGone.T15.2 newellaw19_CallGone.B15 = true := by kernel_rfl
def newellaw19_CallGone.T18 : Bool × List (List Nat × List Nat) := (true, [([], []), ([], []), ([1], [1]), ([], []), ([0, 2, 3, 2], [0, 2, 3]), ([4], [4]), ([5], [5]), ([5], [5]), ([], []), ([8, 6, 4, 0, 1, 2, 3, 4, 5, 6, 8], [6, 8]), ([7, 9, 0, 1, 2, 3, 4, 5, 6, 7, 8, 9], [7])])
def newellaw19_CallGone.B18 : List Nat := [0, 0, 2, 0, 15, 31, 63, 63, 0, 383, 1023]
theorem newellaw19_CallGone.tab18 : rtab .any (opsOf Try.f7 18) = newellaw19_CallGone.T18 := by kernel_rfl
theorem newellaw19_CallGone.bits18 : waitsOk newellaw19_CallGone.T18.2 newellaw19_CallGone.B18 = true := by kernel_rfl
set_option maxHeartbeats 8000000 in
set_option maxRecDepth 100000 in
theorem newellaw19_CallGone.calls (k : Nat) (a0_0 : Int) (a0_1 : Int) (A1_0 : Option Addr) (c1_0 : Nat) (l1_0 : List (S56)) (A1_1 : Option Addr) (c1_1 : Nat) (l1_1 : List (S62)) (a2_0 : Int) (a2_1 : Int) (a2_2 : Int) (r : Bool) (w : World) (hr1_0 : Kd.C k56 w A1_0 l1_0.length l1_0) (hc1_0 : l1_0.length ≤ c1_0) (hr1_1 : Kd.C k62 w A1_1 l1_1.length l1_1) (hc1_1 : l1_1.length ≤ c1_1) (h : newellaw19_CallGone.f k a0_0 a0_1 l1_0 l1_1 a2_0 a2_1 a2_2 = some r) :
  Calls Try.prog 7 #[.agg #[.int .i64 a0_0, .int .i64 a0_1], .agg #[.slice A1_0 l1_0.length c1_0, .slice A1_1 l1_1.length c1_1], .agg #[.int .i64 a2_0, .int .i64 a2_1, .int .i64 a2_2]] w fun e w' => e = .returned (.bool r) ∧ Below w.heap.size w w' := by
 have hu23 := Try.underlying23
 have hu27 := Try.underlying27
 have hu43 := Try.underlying43
 have hu47 := Try.underlying47
 have HR1_0 := Aside0.mk hr1_0
 have HC1_0 := Aside0.mk hc1_0
 clear hr1_0 hc1_0
 have HR1_1 := Aside0.mk hr1_1
 have HC1_1 := Aside0.mk hc1_1
 clear hr1_1 hc1_1
 have HB := Aside0.mk (Below.refl w.heap.size w)
 have H : ((newelref19_Few.f l1_0 l1_1).bind fun t203 => (if t203 = true then ((newellaw19_Own.f l1_0 l1_1).bind fun bt205 => ((call_Serve.f k a0_0 a0_1 bt205.1 bt205.2 a2_0 a2_1 a2_2).bind fun bt211 => (if bt211.2.2 = 0 then ((call_View.f k a0_0 a0_1 bt211.1 bt211.2.1 a2_0).bind fun bt220 => (newellaw19_CallGone.l0 k bt220.2.2.2 0 a0_0 a0_1 l1_0 l1_1 a2_0 a2_1 a2_2 bt211.1 bt211.2.1 bt220.1 bt220.2.1 bt220.2.2.1)) else ((newellaw19_awake.f k).bind fun t219 => (some t219))))) else ((newellaw19_awake.f k).bind fun t204 => (some t204)))) = some r := h
 clear h
 replace H := Option.bind_eq_some_iff.mp H
 obtain ⟨t203, A40, H⟩ := H
 replace H : (if t203 = true then ((newellaw19_Own.f l1_0 l1_1).bind fun bt205 => ((call_Serve.f k a0_0 a0_1 bt205.1 bt205.2 a2_0 a2_1 a2_2).bind fun bt211 => (if bt211.2.2 = 0 then ((call_View.f k a0_0 a0_1 bt211.1 bt211.2.1 a2_0).bind fun bt220 => (newellaw19_CallGone.l0 k bt220.2.2.2 0 a0_0 a0_1 l1_0 l1_1 a2_0 a2_1 a2_2 bt211.1 bt211.2.1 bt220.1 bt220.2.1 bt220.2.2.1)) else ((newellaw19_awake.f k).bind fun t219 => (some t219))))) else ((newellaw19_awake.f k).bind fun t204 => (some t204))) = some r := H
 have A4 := Aside0.mk A40
 clear A40
 by_cases c5 : t203 = true
 ·subst c5
  have H1 : ((newellaw19_Own.f l1_0 l1_1).bind fun bt205 => ((call_Serve.f k a0_0 a0_1 bt205.1 bt205.2 a2_0 a2_1 a2_2).bind fun bt211 => (if bt211.2.2 = 0 then ((call_View.f k a0_0 a0_1 bt211.1 bt211.2.1 a2_0).bind fun bt220 => (newellaw19_CallGone.l0 k bt220.2.2.2 0 a0_0 a0_1 l1_0 l1_1 a2_0 a2_1 a2_2 bt211.1 bt211.2.1 bt220.1 bt220.2.1 bt220.2.2.1)) else ((newellaw19_awake.f k).bind fun t219 => (some t219))))) = some r := by rw [if_pos rfl] at H; exact H
  clear H
  have H := H1
  clear H1
  replace H := Option.bind_eq_some_iff.mp H
  obtain ⟨⟨t205, t208⟩, A60, H⟩ := H
  replace H : ((call_Serve.f k a0_0 a0_1 t205 t208 a2_0 a2_1 a2_2).bind fun bt211 => (if bt211.2.2 = 0 then ((call_View.f k a0_0 a0_1 bt211.1 bt211.2.1 a2_0).bind fun bt220 => (newellaw19_CallGone.l0 k bt220.2.2.2 0 a0_0 a0_1 l1_0 l1_1 a2_0 a2_1 a2_2 bt211.1 bt211.2.1 bt220.1 bt220.2.1 bt220.2.2.1)) else ((newellaw19_awake.f k).bind fun t219 => (some t219)))) = some r := H
  have A6 := Aside0.mk A60
  clear A60
  replace H := Option.bind_eq_some_iff.mp H
  obtain ⟨⟨t211, t214, t217⟩, A70, H⟩ := H
  replace H : (if t217 = 0 then ((call_View.f k a0_0 a0_1 t211 t214 a2_0).bind fun bt220 => (newellaw19_CallGone.l0 k bt220.2.2.2 0 a0_0 a0_1 l1_0 l1_1 a2_0 a2_1 a2_2 t211 t214 bt220.1 bt220.2.1 bt220.2.2.1)) else ((newellaw19_awake.f k).bind fun t219 => (some t219))) = some r := H
  have A7 := Aside0.mk A70
  clear A70
  by_cases c8 : t217 = 0
  ·rw [if_pos c8] at H
   have c8b0 : (t217 == 0) = true := beq_iff_eq.mpr c8
   have c8b1 : (t217 != 0) = false := bne_eq_false_iff_eq.mpr c8
   clear c8
   replace H := Option.bind_eq_some_iff.mp H
   obtain ⟨⟨t220, t223, t226, t229⟩, A90, H⟩ := H
   replace H : (newellaw19_CallGone.l0 k t229 0 a0_0 a0_1 l1_0 l1_1 a2_0 a2_1 a2_2 t211 t214 t220 t223 t226) = some r := H
   have A9 := Aside0.mk A90
   clear A90
   have H' := Aside0.mk H
   clear H
   go_enter Try.func7, Try.ntmps7
   try go_wp2_with (first | ((with_reducible refine gate_dst (N := 3) rfl ?_); refine box_event ?hg (N := 3) ?hd (cs := #[.int .i64 a0_0, .int .i64 a0_1]) (t := 23) ?hr ?_; (case hd => rfl); (case hg => rfl); (case hr => go_simp <;> rfl); intro gb200 hg w10 hbox hb; have BK200 := Aside0.mk hbox; have GW200 := sGe hg; have GE200 := sGe hg; replace HB := sHb hb; clear hb hbox hg) | ((with_reducible refine gate_dst (N := 4) rfl ?_); refine box_event ?hg (N := 4) ?hd (cs := #[.slice A1_0 l1_0.length c1_0, .slice A1_1 l1_1.length c1_1]) (t := 27) ?hr ?_; (case hd => rfl); (case hg => rfl); (case hr => go_simp <;> rfl); intro gb201 hg w11 hbox hb; have BK201 := Aside0.mk hbox; have GW201 := sGe hg; have GE201 := sGe hg; have NB200_201 := sNl BK200 hg; have NB201_200 := sNg BK200 hg; replace BK200 := sBk BK200 hb; replace HB := sHb hb; clear hb hbox hg) | ((with_reducible refine gate_dst (N := 5) rfl ?_); refine box_event ?hg (N := 5) ?hd (cs := #[.int .i64 a2_0, .int .i64 a2_1, .int .i64 a2_2]) (t := 43) ?hr ?_; (case hd => rfl); (case hg => rfl); (case hr => go_simp <;> rfl); intro gb202 hg w12 hbox hb; have BK202 := Aside0.mk hbox; have GW202 := sGe hg; have GE202 := sGe hg; have NB200_202 := sNl BK200 hg; have NB202_200 := sNg BK200 hg; have NB201_202 := sNl BK201 hg; have NB202_201 := sNg BK201 hg; replace BK200 := sBk BK200 hb; replace BK201 := sBk BK201 hb; replace HB := sHb hb; clear hb hbox hg; have hnb13 := NB201_200.out; have hnc13 := NB200_201.out; have hnb14 := NB201_202.out; have hnc14 := NB202_201.out; have hcz15_0 : w12.cell? ⟨gb201, 0, none⟩ = some (.slice A1_0 l1_0.length c1_0) := (blk_cell BK201.out 0).trans rfl; have hcz15_1 : w12.cell? ⟨gb201, 1, none⟩ = some (.slice A1_1 l1_1.length c1_1) := (blk_cell BK201.out 1).trans rfl; have hfz15_0 := blk_frozen BK201.out 0; have hfz15_1 := blk_frozen BK201.out 1) | ((with_reducible refine gate_callee (f := 9) rfl ?_); refine goesL_ (some 17) rfl rfl Try.func9 (by kernel_rfl) rfl #[.agg #[.slice A1_0 l1_0.length c1_0, .slice A1_1 l1_1.length c1_1]] rfl (by simp only [List.map_toArray, List.map_cons, List.map_nil] <;> rfl) ?_; (with_reducible refine (newelref19_Few.calls _ _ l1_0 _ _ l1_1 true _ ?side1 ?side2 ?side3 ?side4 A4.out).mono ?_); (case side1 => exact (Kd.C_below HR1_0.out HB.out)); (case side2 => exact HC1_0.out); (case side3 => exact (Kd.C_below HR1_1.out HB.out)); (case side4 => exact HC1_1.out); rintro e w16 ⟨rfl, hb⟩; refine ⟨_, rfl, ?_⟩; replace BK200 := sBk BK200 hb; replace BK201 := sBk BK201 hb; replace BK202 := sBk BK202 hb; replace HB := sHb hb; (try clear hb); (try clear hb2); (try clear hk); (try clear hi)))
   replace BK200 := Aside0.mk (blk_drew BK200.out)
   replace BK201 := Aside0.mk (blk_drew BK201.out)
   replace BK202 := Aside0.mk (blk_drew BK202.out)
   replace HB := Aside0.mk (below_drew1 HB.out)
   refine start_ (n := 11) (S := fun w' => w'.cell? ⟨gb200, 0, none⟩ = some (.int .i64 a0_0) ∧ w'.cell? ⟨gb200, 1, none⟩ = some (.int .i64 a0_1) ∧ w'.cell? ⟨gb201, 0, none⟩ = some (.slice A1_0 l1_0.length c1_0) ∧ w'.cell? ⟨gb201, 1, none⟩ = some (.slice A1_1 l1_1.length c1_1) ∧ w'.cell? ⟨gb202, 0, none⟩ = some (.int .i64 a2_0) ∧ w'.cell? ⟨gb202, 1, none⟩ = some (.int .i64 a2_1) ∧ w'.cell? ⟨gb202, 2, none⟩ = some (.int .i64 a2_2)) (ds := []) #[false, false, false, false, false, false, false, false, false, false, false] (by kernel_rfl) rfl rfl ⟨(blk_cell BK200.out 0).trans rfl, (blk_cell BK200.out 1).trans rfl, (blk_cell BK201.out 0).trans rfl, (blk_cell BK201.out 1).trans rfl, (blk_cell BK202.out 0).trans rfl, (blk_cell BK202.out 1).trans rfl, (blk_cell BK202.out 2).trans rfl⟩ (fun hHeld => ?_); refine with_tabW newellaw19_CallGone.tab3 newellaw19_CallGone.bits3 (fun HT_ HW_ => ?_)
   generalize w16.drew = w17 at BK200 BK201 BK202 HB hHeld ⊢
   refine take_ (i := 0) (N := some 21) (v := ?_) (a' := ?_) (bN 11 1) rfl rfl (take_ofW HT_.out HW_.out (by kernel_rfl)) (fun _ _ _ h => h) (Or.inl ⟨by rfl, ?_⟩) hHeld ?_ ?_
   rotate_left
   ·rintro w' ⟨s0, s1, s2, s3, s4, s5, s6⟩
    go_simp
    with_reducible rfl
   rotate_left
   ·simp only [Act.put, List.setIfInBounds_toArray, List.set_cons_zero, List.set_cons_succ, i64_w, i32_w]
    rfl
   refine take_ (i := 1) (N := some 22) (v := ?_) (a' := ?_) (bN 11 3) rfl rfl (take_ofW HT_.out HW_.out (by kernel_rfl)) (fun _ _ _ h => h) (Or.inl ⟨by rfl, ?_⟩) hHeld ?_ ?_
   rotate_left
   ·rintro w' ⟨s0, s1, s2, s3, s4, s5, s6⟩
    go_simp
    with_reducible rfl
   rotate_left
   ·simp only [Act.put, List.setIfInBounds_toArray, List.set_cons_zero, List.set_cons_succ, i64_w, i32_w]
    rfl
   refine take_ (i := 3) (N := some 24) (v := ?_) (a' := ?_) (bN 11 11) rfl rfl (take_ofW HT_.out HW_.out (by kernel_rfl)) (fun _ _ _ h => h) (Or.inl ⟨by rfl, ?_⟩) hHeld ?_ ?_
   rotate_left
   ·rintro w' ⟨s0, s1, s2, s3, s4, s5, s6⟩
    go_simp
    with_reducible rfl
   rotate_left
   ·simp only [Act.put, List.setIfInBounds_toArray, List.set_cons_zero, List.set_cons_succ, i64_w, i32_w]
    rfl
   refine join_ (σ := Value × Value × Value × Value × Nat) 2 (bN 11 511) (fun s_ => [(23, .agg #[s_.1, s_.2.1]), (25, .tuple #[.agg #[s_.2.2.1, s_.2.2.2.1], .int .i64 t217]), (7, .pointer (some ⟨s_.2.2.2.2, 0, none⟩)), (20, .tuple #[.agg #[s_.2.2.1, s_.2.2.2.1], .int .i64 t217]), (26, .agg #[s_.2.2.1, s_.2.2.2.1]), (27, .int .i64 t217)]) (fun s_ w' => (w'.cell? ⟨gb200, 0, none⟩ = some (.int .i64 a0_0) ∧ w'.cell? ⟨gb200, 1, none⟩ = some (.int .i64 a0_1) ∧ w'.cell? ⟨gb201, 0, none⟩ = some (.slice A1_0 l1_0.length c1_0) ∧ w'.cell? ⟨gb201, 1, none⟩ = some (.slice A1_1 l1_1.length c1_1) ∧ w'.cell? ⟨gb202, 0, none⟩ = some (.int .i64 a2_0) ∧ w'.cell? ⟨gb202, 1, none⟩ = some (.int .i64 a2_1) ∧ w'.cell? ⟨gb202, 2, none⟩ = some (.int .i64 a2_2)) ∧ (Kd.R k56 56 w' w.heap.size (fun k_ => some k_ ≠ (s_.2.2.1 : Value).ownBlock) s_.1 t205) ∧ (Kd.R k62 62 w' w.heap.size (fun k_ => some k_ ≠ (s_.2.2.2.1 : Value).ownBlock) s_.2.1 t208) ∧ (Kd.R k56 56 w' w.heap.size (fun k_ => some k_ ≠ (s_.1 : Value).ownBlock) s_.2.2.1 t211) ∧ (Kd.R k62 62 w' w.heap.size (fun k_ => some k_ ≠ (s_.2.1 : Value).ownBlock) s_.2.2.2.1 t214) ∧ (w'.heap[gb200]? = some (.cells #[.int .i64 a0_0, .int .i64 a0_1] 23 (0, 0))) ∧ (w'.heap[gb201]? = some (.cells #[.slice A1_0 l1_0.length c1_0, .slice A1_1 l1_1.length c1_1] 27 (0, 0))) ∧ (w'.heap[gb202]? = some (.cells #[.int .i64 a2_0, .int .i64 a2_1, .int .i64 a2_2] 43 (0, 0))) ∧ (w'.heap[s_.2.2.2.2]? = some (.cells #[.slice none 0 0, .slice none 0 0] 27 (0, 0))) ∧ (w.heap.size ≤ s_.2.2.2.2) ∧ (w.heap.size ≤ s_.2.2.2.2) ∧ (gb200 ≠ s_.2.2.2.2) ∧ (s_.2.2.2.2 ≠ gb200) ∧ (gb201 ≠ s_.2.2.2.2) ∧ (s_.2.2.2.2 ≠ gb201) ∧ (gb202 ≠ s_.2.2.2.2) ∧ (s_.2.2.2.2 ≠ gb202) ∧ (Below w.heap.size w w')) ?_ ?_
   rotate_left
   ·intro hCont
    refine two_ (i := 2) (j := 8) (Ni := some 23) (Nj := some 7) (bN 11 15) (bN 11 267) rfl rfl rfl rfl (two_of HT_.out (by kernel_rfl)) (by decide) (by decide) (fun K hK => ?_) (fun K hK => ?_)
    ·skip
     refine goes_ Try.func12 (by kernel_rfl) rfl #[.agg #[.slice A1_0 l1_0.length c1_0, .slice A1_1 l1_1.length c1_1]] (by rfl) rfl rfl (by simp only [List.map_toArray, List.map_cons, List.map_nil] <;> rfl) ?_
     with_reducible refine (newellaw19_Own.calls _ _ l1_0 _ _ l1_1 t205 t208 _ ?side1 ?side2 ?side3 ?side4 A6.out).mono ?_
     (case side1 => exact (Kd.C_below HR1_0.out HB.out))
     (case side2 => exact HC1_0.out)
     (case side3 => exact (Kd.C_below HR1_1.out HB.out))
     (case side4 => exact HC1_1.out)
     rintro e w18 ⟨v206, v209, rfl, ho0, ho1, hb⟩
     refine ⟨_, rfl, ?_⟩
     have HO207 := Aside0.mk (Kd.R_lower ho0 (below_size HB.out))
     have HO210 := Aside0.mk (Kd.R_lower ho1 (below_size HB.out))
     replace BK200 := sBk BK200 hb
     replace BK201 := sBk BK201 hb
     replace BK202 := sBk BK202 hb
     replace HB := sHb hb
     (try clear hb)
     (try clear hb2)
     (try clear hk)
     (try clear hi)
     (try clear ho0)
     (try clear ho1)
     obtain ⟨Ao19, co19, eo19⟩ := Kd.R_slice HO207.out
     (first | subst eo19 | (injection eo19 with f1_ f2_ f3_; have f4_ := f1_.symm; have f5_ := f3_.symm; clear f1_ f2_ f3_; subst f4_; subst f5_))
     obtain ⟨Ao20, co20, eo20⟩ := Kd.R_slice HO210.out
     (first | subst eo20 | (injection eo20 with f1_ f2_ f3_; have f4_ := f1_.symm; have f5_ := f3_.symm; clear f1_ f2_ f3_; subst f4_; subst f5_))
     refine hK.out _ _ ⟨(blk_cell BK200.out 0).trans rfl, (blk_cell BK200.out 1).trans rfl, (blk_cell BK201.out 0).trans rfl, (blk_cell BK201.out 1).trans rfl, (blk_cell BK202.out 0).trans rfl, (blk_cell BK202.out 1).trans rfl, (blk_cell BK202.out 2).trans rfl⟩ (fun hHeld => ?_)
     clear hK K
     refine norm_ (a' := ?_) ?_ ?_
     rotate_left
     ·show Act.put _ (some 23) _ = _
      simp only [Act.put, List.setIfInBounds_toArray, List.set_cons_zero, List.set_cons_succ, i64_w, i32_w]
      rfl
     refine two_ (i := 4) (j := 8) (Ni := some 25) (Nj := some 7) (bN 11 31) (bN 11 271) rfl rfl rfl rfl (two_of HT_.out (by kernel_rfl)) (by decide) (by decide) (fun K hK => ?_) (fun K hK => ?_)
     ·skip
      refine goes_ Try.func18 (by kernel_rfl) rfl #[.agg #[.int .i64 a0_0, .int .i64 a0_1], .agg #[.slice Ao19 t205.length co19, .slice Ao20 t208.length co20], .agg #[.int .i64 a2_0, .int .i64 a2_1, .int .i64 a2_2]] (by rfl) rfl rfl (by simp only [List.map_toArray, List.map_cons, List.map_nil] <;> rfl) ?_
      with_reducible refine (call_Serve.calls k a0_0 a0_1 _ _ t205 _ _ t208 a2_0 a2_1 a2_2 t211 t214 t217 _ ?side1 ?side2 ?side3 ?side4 A7.out).mono ?_
      (case side1 => exact (Kd.R_reads' HO207.out).2.2)
      (case side2 => exact (Kd.R_reads' HO207.out).2.1)
      (case side3 => exact (Kd.R_reads' HO210.out).2.2)
      (case side4 => exact (Kd.R_reads' HO210.out).2.1)
      rintro e w21 ⟨v212, v215, rfl, ho0, ho1, hb⟩
      refine ⟨_, rfl, ?_⟩
      have HO213 := Aside0.mk (Kd.R_lower (Kd.R_new' ho0 (Kd.R_lt HO207.out)) (below_size HB.out))
      have HO216 := Aside0.mk (Kd.R_lower (Kd.R_new' ho1 (Kd.R_lt HO210.out)) (below_size HB.out))
      replace HO207 := Aside0.mk (Kd.R_elder' HO207.out (Kd.R_base ho0) hb)
      replace HO210 := Aside0.mk (Kd.R_elder' HO210.out (Kd.R_base ho1) hb)
      replace BK200 := sBk BK200 hb
      replace BK201 := sBk BK201 hb
      replace BK202 := sBk BK202 hb
      replace HB := sHb hb
      (try clear hb)
      (try clear hb2)
      (try clear hk)
      (try clear hi)
      (try clear ho0)
      (try clear ho1)
      refine hK.out _ _ ⟨(blk_cell BK200.out 0).trans rfl, (blk_cell BK200.out 1).trans rfl, (blk_cell BK201.out 0).trans rfl, (blk_cell BK201.out 1).trans rfl, (blk_cell BK202.out 0).trans rfl, (blk_cell BK202.out 1).trans rfl, (blk_cell BK202.out 2).trans rfl⟩ (fun hHeld => ?_)
      clear hK K
      refine norm_ (a' := ?_) ?_ ?_
      rotate_left
      ·show Act.put _ (some 25) _ = _
       simp only [Act.put, List.setIfInBounds_toArray, List.set_cons_zero, List.set_cons_succ, i64_w, i32_w]
       rfl
      refine pure_ (i := 5) (N := some 20) (v := ?_) (a' := ?_) (bN 11 63) rfl rfl (any_of HT_.out (by kernel_rfl)) (fun _ _ _ h => h) (Or.inl ⟨by rfl, ?_⟩) ?_ ?_
      rotate_left
      ·intro w'
       go_simp
       with_reducible rfl
      rotate_left
      ·simp only [Act.put, List.setIfInBounds_toArray, List.set_cons_zero, List.set_cons_succ, i64_w, i32_w]
       rfl
      refine pure_ (i := 6) (N := some 26) (v := ?_) (a' := ?_) (bN 11 127) rfl rfl (any_of HT_.out (by kernel_rfl)) (fun _ _ _ h => h) (Or.inl ⟨by rfl, ?_⟩) ?_ ?_
      rotate_left
      ·intro w'
       go_simp
       with_reducible rfl
      rotate_left
      ·simp only [Act.put, List.setIfInBounds_toArray, List.set_cons_zero, List.set_cons_succ, i64_w, i32_w]
       rfl
      refine pure_ (i := 7) (N := some 27) (v := ?_) (a' := ?_) (bN 11 255) rfl rfl (any_of HT_.out (by kernel_rfl)) (fun _ _ _ h => h) (Or.inl ⟨by rfl, ?_⟩) ?_ ?_
      rotate_left
      ·intro w'
       go_simp
       with_reducible rfl
      rotate_left
      ·simp only [Act.put, List.setIfInBounds_toArray, List.set_cons_zero, List.set_cons_succ, i64_w, i32_w]
       rfl
      refine one_ (i := 8) (N := some 7) (bN 11 511) rfl rfl (one_of HT_.out (by kernel_rfl)) (by decide) (fun K hK => ?_)
      refine box_step ?hg (N := 7) ?hd (cs := #[.slice none 0 0, .slice none 0 0]) (t := 27) ?hr ?_; (case hd => rfl); (case hg => rfl); (case hr => go_simp <;> rfl)
      intro gb218 hg w22 hbox hb
      have BK218 := Aside0.mk hbox
      have GW218 := sGe hg
      have GE218 := sGe hg
      have NB200_218 := sNl BK200 hg
      have NB218_200 := sNg BK200 hg
      have NB201_218 := sNl BK201 hg
      have NB218_201 := sNg BK201 hg
      have NB202_218 := sNl BK202 hg
      have NB218_202 := sNg BK202 hg
      replace HO207 := sRb HO207 hb
      replace HO210 := sRb HO210 hb
      replace HO213 := sRb HO213 hb
      replace HO216 := sRb HO216 hb
      replace BK200 := sBk BK200 hb
      replace BK201 := sBk BK201 hb
      replace BK202 := sBk BK202 hb
      replace HB := sHb hb
      clear hb hbox hg
      refine hK.out _ _ ⟨(blk_cell BK200.out 0).trans rfl, (blk_cell BK200.out 1).trans rfl, (blk_cell BK201.out 0).trans rfl, (blk_cell BK201.out 1).trans rfl, (blk_cell BK202.out 0).trans rfl, (blk_cell BK202.out 1).trans rfl, (blk_cell BK202.out 2).trans rfl⟩ (fun hHeld => ?_)
      clear hK K
      refine norm_ (a' := ?_) ?_ ?_
      rotate_left
      ·show Act.put _ (some 7) _ = _
       simp only [Act.put, List.setIfInBounds_toArray, List.set_cons_zero, List.set_cons_succ, i64_w, i32_w]
       rfl
      exact norm_ (by simp only [putAll, Act.put, List.setIfInBounds_toArray, List.set_cons_zero, List.set_cons_succ]) (hCont (.slice Ao19 t205.length co19, .slice Ao20 t208.length co20, v212, v215, gb218) _ ⟨hHeld, (by (with_reducible repeat (first | apply Kd.R_alloc | apply Kd.R_drewN | apply Kd.R_drew)); exact Kd.R_mono HO207.out (fun _ hk => hk.2)), (by (with_reducible repeat (first | apply Kd.R_alloc | apply Kd.R_drewN | apply Kd.R_drew)); exact Kd.R_mono HO210.out (fun _ hk => hk.2)), (by (with_reducible repeat (first | apply Kd.R_alloc | apply Kd.R_drewN | apply Kd.R_drew)); exact Kd.R_mono HO213.out (fun _ hk => hk.2)), (by (with_reducible repeat (first | apply Kd.R_alloc | apply Kd.R_drewN | apply Kd.R_drew)); exact Kd.R_mono HO216.out (fun _ hk => hk.2)), BK200.out, BK201.out, BK202.out, BK218.out, GW218.out, GE218.out, NB200_218.out, NB218_200.out, NB201_218.out, NB218_201.out, NB202_218.out, NB218_202.out, HB.out⟩)
     ·skip
      refine box_step ?hg (N := 7) ?hd (cs := #[.slice none 0 0, .slice none 0 0]) (t := 27) ?hr ?_; (case hd => rfl); (case hg => rfl); (case hr => go_simp <;> rfl)
      intro gb218 hg w19 hbox hb
      have BK218 := Aside0.mk hbox
      have GW218 := sGe hg
      have GE218 := sGe hg
      have NB200_218 := sNl BK200 hg
      have NB218_200 := sNg BK200 hg
      have NB201_218 := sNl BK201 hg
      have NB218_201 := sNg BK201 hg
      have NB202_218 := sNl BK202 hg
      have NB218_202 := sNg BK202 hg
      replace HO207 := sRb HO207 hb
      replace HO210 := sRb HO210 hb
      replace BK200 := sBk BK200 hb
      replace BK201 := sBk BK201 hb
      replace BK202 := sBk BK202 hb
      replace HB := sHb hb
      clear hb hbox hg
      obtain ⟨Ao20, co20, eo20⟩ := Kd.R_slice HO207.out
      (first | subst eo20 | (injection eo20 with f1_ f2_ f3_; have f4_ := f1_.symm; have f5_ := f3_.symm; clear f1_ f2_ f3_; subst f4_; subst f5_))
      obtain ⟨Ao21, co21, eo21⟩ := Kd.R_slice HO210.out
      (first | subst eo21 | (injection eo21 with f1_ f2_ f3_; have f4_ := f1_.symm; have f5_ := f3_.symm; clear f1_ f2_ f3_; subst f4_; subst f5_))
      refine hK.out _ _ ⟨(blk_cell BK200.out 0).trans rfl, (blk_cell BK200.out 1).trans rfl, (blk_cell BK201.out 0).trans rfl, (blk_cell BK201.out 1).trans rfl, (blk_cell BK202.out 0).trans rfl, (blk_cell BK202.out 1).trans rfl, (blk_cell BK202.out 2).trans rfl⟩ (fun hHeld => ?_)
      clear hK K
      refine norm_ (a' := ?_) ?_ ?_
      rotate_left
      ·show Act.put _ (some 7) _ = _
       simp only [Act.put, List.setIfInBounds_toArray, List.set_cons_zero, List.set_cons_succ, i64_w, i32_w]
       rfl
      refine one_ (i := 4) (N := some 25) (bN 11 287) rfl rfl (one_of HT_.out (by kernel_rfl)) (by decide) (fun K hK => ?_)
      refine goes_ Try.func18 (by kernel_rfl) rfl #[.agg #[.int .i64 a0_0, .int .i64 a0_1], .agg #[.slice Ao20 t205.length co20, .slice Ao21 t208.length co21], .agg #[.int .i64 a2_0, .int .i64 a2_1, .int .i64 a2_2]] (by rfl) rfl rfl (by simp only [List.map_toArray, List.map_cons, List.map_nil] <;> rfl) ?_
      with_reducible refine (call_Serve.calls k a0_0 a0_1 _ _ t205 _ _ t208 a2_0 a2_1 a2_2 t211 t214 t217 _ ?side1 ?side2 ?side3 ?side4 A7.out).mono ?_
      (case side1 => exact (Kd.R_reads' HO207.out).2.2)
      (case side2 => exact (Kd.R_reads' HO207.out).2.1)
      (case side3 => exact (Kd.R_reads' HO210.out).2.2)
      (case side4 => exact (Kd.R_reads' HO210.out).2.1)
      rintro e w22 ⟨v212, v215, rfl, ho0, ho1, hb⟩
      refine ⟨_, rfl, ?_⟩
      have HO213 := Aside0.mk (Kd.R_lower (Kd.R_new' ho0 (Kd.R_lt HO207.out)) (below_size HB.out))
      have HO216 := Aside0.mk (Kd.R_lower (Kd.R_new' ho1 (Kd.R_lt HO210.out)) (below_size HB.out))
      replace HO207 := Aside0.mk (Kd.R_elder' HO207.out (Kd.R_base ho0) hb)
      replace HO210 := Aside0.mk (Kd.R_elder' HO210.out (Kd.R_base ho1) hb)
      replace BK200 := sBk BK200 hb
      replace BK201 := sBk BK201 hb
      replace BK202 := sBk BK202 hb
      replace BK218 := sBk BK218 hb
      replace HB := sHb hb
      (try clear hb)
      (try clear hb2)
      (try clear hk)
      (try clear hi)
      (try clear ho0)
      (try clear ho1)
      refine hK.out _ _ ⟨(blk_cell BK200.out 0).trans rfl, (blk_cell BK200.out 1).trans rfl, (blk_cell BK201.out 0).trans rfl, (blk_cell BK201.out 1).trans rfl, (blk_cell BK202.out 0).trans rfl, (blk_cell BK202.out 1).trans rfl, (blk_cell BK202.out 2).trans rfl⟩ (fun hHeld => ?_)
      clear hK K
      refine norm_ (a' := ?_) ?_ ?_
      rotate_left
      ·show Act.put _ (some 25) _ = _
       simp only [Act.put, List.setIfInBounds_toArray, List.set_cons_zero, List.set_cons_succ, i64_w, i32_w]
       rfl
      refine pure_ (i := 5) (N := some 20) (v := ?_) (a' := ?_) (bN 11 319) rfl rfl (any_of HT_.out (by kernel_rfl)) (fun _ _ _ h => h) (Or.inl ⟨by rfl, ?_⟩) ?_ ?_
      rotate_left
      ·intro w'
       go_simp
       with_reducible rfl
      rotate_left
      ·simp only [Act.put, List.setIfInBounds_toArray, List.set_cons_zero, List.set_cons_succ, i64_w, i32_w]
       rfl
      refine pure_ (i := 6) (N := some 26) (v := ?_) (a' := ?_) (bN 11 383) rfl rfl (any_of HT_.out (by kernel_rfl)) (fun _ _ _ h => h) (Or.inl ⟨by rfl, ?_⟩) ?_ ?_
      rotate_left
      ·intro w'
       go_simp
       with_reducible rfl
      rotate_left
      ·simp only [Act.put, List.setIfInBounds_toArray, List.set_cons_zero, List.set_cons_succ, i64_w, i32_w]
       rfl
      refine pure_ (i := 7) (N := some 27) (v := ?_) (a' := ?_) (bN 11 511) rfl rfl (any_of HT_.out (by kernel_rfl)) (fun _ _ _ h => h) (Or.inl ⟨by rfl, ?_⟩) ?_ ?_
      rotate_left
      ·intro w'
       go_simp
       with_reducible rfl
      rotate_left
      ·simp only [Act.put, List.setIfInBounds_toArray, List.set_cons_zero, List.set_cons_succ, i64_w, i32_w]
       rfl
      exact norm_ (by simp only [putAll, Act.put, List.setIfInBounds_toArray, List.set_cons_zero, List.set_cons_succ]) (hCont (.slice Ao20 t205.length co20, .slice Ao21 t208.length co21, v212, v215, gb218) _ ⟨hHeld, (by (with_reducible repeat (first | apply Kd.R_alloc | apply Kd.R_drewN | apply Kd.R_drew)); exact Kd.R_mono HO207.out (fun _ hk => hk.2)), (by (with_reducible repeat (first | apply Kd.R_alloc | apply Kd.R_drewN | apply Kd.R_drew)); exact Kd.R_mono HO210.out (fun _ hk => hk.2)), (by (with_reducible repeat (first | apply Kd.R_alloc | apply Kd.R_drewN | apply Kd.R_drew)); exact Kd.R_mono HO213.out (fun _ hk => hk.2)), (by (with_reducible repeat (first | apply Kd.R_alloc | apply Kd.R_drewN | apply Kd.R_drew)); exact Kd.R_mono HO216.out (fun _ hk => hk.2)), BK200.out, BK201.out, BK202.out, BK218.out, GW218.out, GE218.out, NB200_218.out, NB218_200.out, NB201_218.out, NB218_201.out, NB202_218.out, NB218_202.out, HB.out⟩)
    ·skip
     refine box_step ?hg (N := 7) ?hd (cs := #[.slice none 0 0, .slice none 0 0]) (t := 27) ?hr ?_; (case hd => rfl); (case hg => rfl); (case hr => go_simp <;> rfl)
     intro gb218 hg w18 hbox hb
     have BK218 := Aside0.mk hbox
     have GW218 := sGe hg
     have GE218 := sGe hg
     have NB200_218 := sNl BK200 hg
     have NB218_200 := sNg BK200 hg
     have NB201_218 := sNl BK201 hg
     have NB218_201 := sNg BK201 hg
     have NB202_218 := sNl BK202 hg
     have NB218_202 := sNg BK202 hg
     replace BK200 := sBk BK200 hb
     replace BK201 := sBk BK201 hb
     replace BK202 := sBk BK202 hb
     replace HB := sHb hb
     clear hb hbox hg
     refine hK.out _ _ ⟨(blk_cell BK200.out 0).trans rfl, (blk_cell BK200.out 1).trans rfl, (blk_cell BK201.out 0).trans rfl, (blk_cell BK201.out 1).trans rfl, (blk_cell BK202.out 0).trans rfl, (blk_cell BK202.out 1).trans rfl, (blk_cell BK202.out 2).trans rfl⟩ (fun hHeld => ?_)
     clear hK K
     refine norm_ (a' := ?_) ?_ ?_
     rotate_left
     ·show Act.put _ (some 7) _ = _
      simp only [Act.put, List.setIfInBounds_toArray, List.set_cons_zero, List.set_cons_succ, i64_w, i32_w]
      rfl
     refine one_ (i := 2) (N := some 23) (bN 11 271) rfl rfl (one_of HT_.out (by kernel_rfl)) (by decide) (fun K hK => ?_)
     refine goes_ Try.func12 (by kernel_rfl) rfl #[.agg #[.slice A1_0 l1_0.length c1_0, .slice A1_1 l1_1.length c1_1]] (by rfl) rfl rfl (by simp only [List.map_toArray, List.map_cons, List.map_nil] <;> rfl) ?_
     with_reducible refine (newellaw19_Own.calls _ _ l1_0 _ _ l1_1 t205 t208 _ ?side1 ?side2 ?side3 ?side4 A6.out).mono ?_
     (case side1 => exact (Kd.C_below HR1_0.out HB.out))
     (case side2 => exact HC1_0.out)
     (case side3 => exact (Kd.C_below HR1_1.out HB.out))
     (case side4 => exact HC1_1.out)
     rintro e w19 ⟨v206, v209, rfl, ho0, ho1, hb⟩
     refine ⟨_, rfl, ?_⟩
     have HO207 := Aside0.mk (Kd.R_lower ho0 (below_size HB.out))
     have HO210 := Aside0.mk (Kd.R_lower ho1 (below_size HB.out))
     replace BK200 := sBk BK200 hb
     replace BK201 := sBk BK201 hb
     replace BK202 := sBk BK202 hb
     replace BK218 := sBk BK218 hb
     replace HB := sHb hb
     (try clear hb)
     (try clear hb2)
     (try clear hk)
     (try clear hi)
     (try clear ho0)
     (try clear ho1)
     obtain ⟨Ao20, co20, eo20⟩ := Kd.R_slice HO207.out
     (first | subst eo20 | (injection eo20 with f1_ f2_ f3_; have f4_ := f1_.symm; have f5_ := f3_.symm; clear f1_ f2_ f3_; subst f4_; subst f5_))
     obtain ⟨Ao21, co21, eo21⟩ := Kd.R_slice HO210.out
     (first | subst eo21 | (injection eo21 with f1_ f2_ f3_; have f4_ := f1_.symm; have f5_ := f3_.symm; clear f1_ f2_ f3_; subst f4_; subst f5_))
     refine hK.out _ _ ⟨(blk_cell BK200.out 0).trans rfl, (blk_cell BK200.out 1).trans rfl, (blk_cell BK201.out 0).trans rfl, (blk_cell BK201.out 1).trans rfl, (blk_cell BK202.out 0).trans rfl, (blk_cell BK202.out 1).trans rfl, (blk_cell BK202.out 2).trans rfl⟩ (fun hHeld => ?_)
     clear hK K
     refine norm_ (a' := ?_) ?_ ?_
     rotate_left
     ·show Act.put _ (some 23) _ = _
      simp only [Act.put, List.setIfInBounds_toArray, List.set_cons_zero, List.set_cons_succ, i64_w, i32_w]
      rfl
     refine one_ (i := 4) (N := some 25) (bN 11 287) rfl rfl (one_of HT_.out (by kernel_rfl)) (by decide) (fun K hK => ?_)
     refine goes_ Try.func18 (by kernel_rfl) rfl #[.agg #[.int .i64 a0_0, .int .i64 a0_1], .agg #[.slice Ao20 t205.length co20, .slice Ao21 t208.length co21], .agg #[.int .i64 a2_0, .int .i64 a2_1, .int .i64 a2_2]] (by rfl) rfl rfl (by simp only [List.map_toArray, List.map_cons, List.map_nil] <;> rfl) ?_
     with_reducible refine (call_Serve.calls k a0_0 a0_1 _ _ t205 _ _ t208 a2_0 a2_1 a2_2 t211 t214 t217 _ ?side1 ?side2 ?side3 ?side4 A7.out).mono ?_
     (case side1 => exact (Kd.R_reads' HO207.out).2.2)
     (case side2 => exact (Kd.R_reads' HO207.out).2.1)
     (case side3 => exact (Kd.R_reads' HO210.out).2.2)
     (case side4 => exact (Kd.R_reads' HO210.out).2.1)
     rintro e w22 ⟨v212, v215, rfl, ho0, ho1, hb⟩
     refine ⟨_, rfl, ?_⟩
     have HO213 := Aside0.mk (Kd.R_lower (Kd.R_new' ho0 (Kd.R_lt HO207.out)) (below_size HB.out))
     have HO216 := Aside0.mk (Kd.R_lower (Kd.R_new' ho1 (Kd.R_lt HO210.out)) (below_size HB.out))
     replace HO207 := Aside0.mk (Kd.R_elder' HO207.out (Kd.R_base ho0) hb)
     replace HO210 := Aside0.mk (Kd.R_elder' HO210.out (Kd.R_base ho1) hb)
     replace BK200 := sBk BK200 hb
     replace BK201 := sBk BK201 hb
     replace BK202 := sBk BK202 hb
     replace BK218 := sBk BK218 hb
     replace HB := sHb hb
     (try clear hb)
     (try clear hb2)
     (try clear hk)
     (try clear hi)
     (try clear ho0)
     (try clear ho1)
     refine hK.out _ _ ⟨(blk_cell BK200.out 0).trans rfl, (blk_cell BK200.out 1).trans rfl, (blk_cell BK201.out 0).trans rfl, (blk_cell BK201.out 1).trans rfl, (blk_cell BK202.out 0).trans rfl, (blk_cell BK202.out 1).trans rfl, (blk_cell BK202.out 2).trans rfl⟩ (fun hHeld => ?_)
     clear hK K
     refine norm_ (a' := ?_) ?_ ?_
     rotate_left
     ·show Act.put _ (some 25) _ = _
      simp only [Act.put, List.setIfInBounds_toArray, List.set_cons_zero, List.set_cons_succ, i64_w, i32_w]
      rfl
     refine pure_ (i := 5) (N := some 20) (v := ?_) (a' := ?_) (bN 11 319) rfl rfl (any_of HT_.out (by kernel_rfl)) (fun _ _ _ h => h) (Or.inl ⟨by rfl, ?_⟩) ?_ ?_
     rotate_left
     ·intro w'
      go_simp
      with_reducible rfl
     rotate_left
     ·simp only [Act.put, List.setIfInBounds_toArray, List.set_cons_zero, List.set_cons_succ, i64_w, i32_w]
      rfl
     refine pure_ (i := 6) (N := some 26) (v := ?_) (a' := ?_) (bN 11 383) rfl rfl (any_of HT_.out (by kernel_rfl)) (fun _ _ _ h => h) (Or.inl ⟨by rfl, ?_⟩) ?_ ?_
     rotate_left
     ·intro w'
      go_simp
      with_reducible rfl
     rotate_left
     ·simp only [Act.put, List.setIfInBounds_toArray, List.set_cons_zero, List.set_cons_succ, i64_w, i32_w]
      rfl
     refine pure_ (i := 7) (N := some 27) (v := ?_) (a' := ?_) (bN 11 511) rfl rfl (any_of HT_.out (by kernel_rfl)) (fun _ _ _ h => h) (Or.inl ⟨by rfl, ?_⟩) ?_ ?_
     rotate_left
     ·intro w'
      go_simp
      with_reducible rfl
     rotate_left
     ·simp only [Act.put, List.setIfInBounds_toArray, List.set_cons_zero, List.set_cons_succ, i64_w, i32_w]
      rfl
     exact norm_ (by simp only [putAll, Act.put, List.setIfInBounds_toArray, List.set_cons_zero, List.set_cons_succ]) (hCont (.slice Ao20 t205.length co20, .slice Ao21 t208.length co21, v212, v215, gb218) _ ⟨hHeld, (by (with_reducible repeat (first | apply Kd.R_alloc | apply Kd.R_drewN | apply Kd.R_drew)); exact Kd.R_mono HO207.out (fun _ hk => hk.2)), (by (with_reducible repeat (first | apply Kd.R_alloc | apply Kd.R_drewN | apply Kd.R_drew)); exact Kd.R_mono HO210.out (fun _ hk => hk.2)), (by (with_reducible repeat (first | apply Kd.R_alloc | apply Kd.R_drewN | apply Kd.R_drew)); exact Kd.R_mono HO213.out (fun _ hk => hk.2)), (by (with_reducible repeat (first | apply Kd.R_alloc | apply Kd.R_drewN | apply Kd.R_drew)); exact Kd.R_mono HO216.out (fun _ hk => hk.2)), BK200.out, BK201.out, BK202.out, BK218.out, GW218.out, GE218.out, NB200_218.out, NB218_200.out, NB201_218.out, NB218_201.out, NB202_218.out, NB218_202.out, HB.out⟩)
   rintro ⟨v206, v209, v212, v215, gb218⟩ w23 ⟨hS_, h0_, h1_, h2_, h3_, h4_, h5_, h6_, h7_, h8_, h9_, h10_, h11_, h12_, h13_, h14_, h15_, h16_⟩
   have n0_ : Aside0 (Kd.R k56 56 w23 w.heap.size (fun k_ => some k_ ≠ (v212 : Value).ownBlock) v206 t205) := ⟨h0_⟩
   have n1_ : Aside0 (Kd.R k62 62 w23 w.heap.size (fun k_ => some k_ ≠ (v215 : Value).ownBlock) v209 t208) := ⟨h1_⟩
   have n2_ : Aside0 (Kd.R k56 56 w23 w.heap.size (fun k_ => some k_ ≠ (v206 : Value).ownBlock) v212 t211) := ⟨h2_⟩
   have n3_ : Aside0 (Kd.R k62 62 w23 w.heap.size (fun k_ => some k_ ≠ (v209 : Value).ownBlock) v215 t214) := ⟨h3_⟩
   have n4_ : Aside0 (w23.heap[gb200]? = some (.cells #[.int .i64 a0_0, .int .i64 a0_1] 23 (0, 0))) := ⟨h4_⟩
   have n5_ : Aside0 (w23.heap[gb201]? = some (.cells #[.slice A1_0 l1_0.length c1_0, .slice A1_1 l1_1.length c1_1] 27 (0, 0))) := ⟨h5_⟩
   have n6_ : Aside0 (w23.heap[gb202]? = some (.cells #[.int .i64 a2_0, .int .i64 a2_1, .int .i64 a2_2] 43 (0, 0))) := ⟨h6_⟩
   have n7_ : Aside0 (w23.heap[gb218]? = some (.cells #[.slice none 0 0, .slice none 0 0] 27 (0, 0))) := ⟨h7_⟩
   have n8_ : Aside0 (w.heap.size ≤ gb218) := ⟨h8_⟩
   have n9_ : Aside0 (w.heap.size ≤ gb218) := ⟨h9_⟩
   have n10_ : Aside0 (gb200 ≠ gb218) := ⟨h10_⟩
   have n11_ : Aside0 (gb218 ≠ gb200) := ⟨h11_⟩
   have n12_ : Aside0 (gb201 ≠ gb218) := ⟨h12_⟩
   have n13_ : Aside0 (gb218 ≠ gb201) := ⟨h13_⟩
   have n14_ : Aside0 (gb202 ≠ gb218) := ⟨h14_⟩
   have n15_ : Aside0 (gb218 ≠ gb202) := ⟨h15_⟩
   have n16_ : Aside0 (Below w.heap.size w w23) := ⟨h16_⟩
   clear BK200
   clear BK201
   clear BK202
   clear HB
   clear h0_ h1_ h2_ h3_ h4_ h5_ h6_ h7_ h8_ h9_ h10_ h11_ h12_ h13_ h14_ h15_ h16_
   have HO207 := n0_
   have HO210 := n1_
   have HO213 := n2_
   have HO216 := n3_
   have BK200 := n4_
   have BK201 := n5_
   have BK202 := n6_
   have BK218 := n7_
   have GW218 := n8_
   have GE218 := n9_
   have NB200_218 := n10_
   have NB218_200 := n11_
   have NB201_218 := n12_
   have NB218_201 := n13_
   have NB202_218 := n14_
   have NB218_202 := n15_
   have HB := n16_
   clear n0_ n1_ n2_ n3_ n4_ n5_ n6_ n7_ n8_ n9_ n10_ n11_ n12_ n13_ n14_ n15_ n16_
   have hHeld : w23.cell? ⟨gb200, 0, none⟩ = some (.int .i64 a0_0) ∧ w23.cell? ⟨gb200, 1, none⟩ = some (.int .i64 a0_1) ∧ w23.cell? ⟨gb201, 0, none⟩ = some (.slice A1_0 l1_0.length c1_0) ∧ w23.cell? ⟨gb201, 1, none⟩ = some (.slice A1_1 l1_1.length c1_1) ∧ w23.cell? ⟨gb202, 0, none⟩ = some (.int .i64 a2_0) ∧ w23.cell? ⟨gb202, 1, none⟩ = some (.int .i64 a2_1) ∧ w23.cell? ⟨gb202, 2, none⟩ = some (.int .i64 a2_2) := hS_
   obtain ⟨Ao24, co24, eo24⟩ := Kd.R_slice HO213.out
   (first | subst eo24 | (injection eo24 with f1_ f2_ f3_; have f4_ := f1_.symm; have f5_ := f3_.symm; clear f1_ f2_ f3_; subst f4_; subst f5_))
   obtain ⟨Ao26, co26, eo26⟩ := Kd.R_slice HO216.out
   (first | subst eo26 | (injection eo26 with f1_ f2_ f3_; have f4_ := f1_.symm; have f5_ := f3_.symm; clear f1_ f2_ f3_; subst f4_; subst f5_))
   refine norm_ (a' := ?_) ?_ ?_
   rotate_left
   ·simp only [putAll, Act.put, List.setIfInBounds_toArray, List.set_cons_zero, List.set_cons_succ]
    rfl
   refine one_ (i := 9) (N := none) (bN 11 1023) rfl rfl (one_of HT_.out (by kernel_rfl)) (by decide) (fun K hK => ?_)
   have hs25 : w23.cell? ⟨gb218, 0, none⟩ = some (.slice none 0 0) := (blk_cell BK218.out 0).trans rfl
   have hfs25 := blk_frozen BK218.out 0
   have hns25_0 := NB200_218.out
   have hns25_1 := NB201_218.out
   have hns25_2 := NB202_218.out
   have hms25_0 := NB218_200.out
   have hms25_1 := NB218_201.out
   have hms25_2 := NB218_202.out
   have hs27 : w23.cell? ⟨gb218, 1, none⟩ = some (.slice none 0 0) := (blk_cell BK218.out 1).trans rfl
   have hfs27 := blk_frozen BK218.out 1
   have hns27_0 := NB200_218.out
   have hns27_1 := NB201_218.out
   have hns27_2 := NB202_218.out
   have hms27_0 := NB218_200.out
   have hms27_1 := NB218_201.out
   have hms27_2 := NB218_202.out
   refine skip_ (w1 := ?_) (by rfl) rfl ?_ ?_
   rotate_left
   ·go_simp
    rfl
   refine hK.out _ _ ⟨((cell_far (p := ⟨gb218, _, none⟩) NB200_218.out _).trans (((cell_far (p := ⟨gb218, _, none⟩) NB200_218.out _).trans (hHeld.1)))), ((cell_far (p := ⟨gb218, _, none⟩) NB200_218.out _).trans (((cell_far (p := ⟨gb218, _, none⟩) NB200_218.out _).trans (hHeld.2.1)))), ((cell_far (p := ⟨gb218, _, none⟩) NB201_218.out _).trans (((cell_far (p := ⟨gb218, _, none⟩) NB201_218.out _).trans (hHeld.2.2.1)))), ((cell_far (p := ⟨gb218, _, none⟩) NB201_218.out _).trans (((cell_far (p := ⟨gb218, _, none⟩) NB201_218.out _).trans (hHeld.2.2.2.1)))), ((cell_far (p := ⟨gb218, _, none⟩) NB202_218.out _).trans (((cell_far (p := ⟨gb218, _, none⟩) NB202_218.out _).trans (hHeld.2.2.2.2.1)))), ((cell_far (p := ⟨gb218, _, none⟩) NB202_218.out _).trans (((cell_far (p := ⟨gb218, _, none⟩) NB202_218.out _).trans (hHeld.2.2.2.2.2.1)))), ((cell_far (p := ⟨gb218, _, none⟩) NB202_218.out _).trans (((cell_far (p := ⟨gb218, _, none⟩) NB202_218.out _).trans (hHeld.2.2.2.2.2.2))))⟩ (fun hHeld => ?_)
   clear hK K
   refine pure_ (i := 10) (N := some 8) (v := ?_) (a' := ?_) (bN 11 2047) rfl rfl (any_of HT_.out (by kernel_rfl)) (fun _ _ _ h => h) (Or.inl ⟨by rfl, ?_⟩) ?_ ?_
   rotate_left
   ·intro w'
    go_simp
    with_reducible rfl
   rotate_left
   ·simp only [Act.put, List.setIfInBounds_toArray, List.set_cons_zero, List.set_cons_succ, i64_w, i32_w]
    rfl
   refine done_ (done_of HT_.out (by kernel_rfl)) ?_
   have hnb28 := NB200_202.out
   have hnc28 := NB202_200.out
   have hnb29 := NB200_218.out
   have hnc29 := NB218_200.out
   have hcz30_0 : w23.cell? ⟨gb200, 0, none⟩ = some (.int .i64 a0_0) := (blk_cell BK200.out 0).trans rfl
   have hcz30_1 : w23.cell? ⟨gb200, 1, none⟩ = some (.int .i64 a0_1) := (blk_cell BK200.out 1).trans rfl
   have hfz30_0 := blk_frozen BK200.out 0
   have hfz30_1 := blk_frozen BK200.out 1
   have hnb31 := NB218_201.out
   have hnc31 := NB201_218.out
   have hnb32 := NB218_202.out
   have hnc32 := NB202_218.out
   have hcz33_0 : w23.cell? ⟨gb218, 0, none⟩ = some (.slice none 0 0) := (blk_cell BK218.out 0).trans rfl
   have hcz33_1 : w23.cell? ⟨gb218, 1, none⟩ = some (.slice none 0 0) := (blk_cell BK218.out 1).trans rfl
   have hfz33_0 := blk_frozen BK218.out 0
   have hfz33_1 := blk_frozen BK218.out 1
   have hcz34_0 : w23.cell? ⟨gb202, 0, none⟩ = some (.int .i64 a2_0) := (blk_cell BK202.out 0).trans rfl
   have hcz34_1 : w23.cell? ⟨gb202, 1, none⟩ = some (.int .i64 a2_1) := (blk_cell BK202.out 1).trans rfl
   have hcz34_2 : w23.cell? ⟨gb202, 2, none⟩ = some (.int .i64 a2_2) := (blk_cell BK202.out 2).trans rfl
   have hfz34_0 := blk_frozen BK202.out 0
   have hfz34_1 := blk_frozen BK202.out 1
   have hfz34_2 := blk_frozen BK202.out 2
   try go_wp2_with (first | ((with_reducible refine gate_callee (f := 19) rfl ?_); refine goesL_ (some 36) rfl rfl Try.func19 (by kernel_rfl) rfl #[.agg #[.int .i64 a0_0, .int .i64 a0_1], .agg #[.slice Ao24 t211.length co24, .slice Ao26 t214.length co26], .int .i64 a2_0] rfl (by simp only [List.map_toArray, List.map_cons, List.map_nil] <;> rfl) ?_; (with_reducible refine (call_View.calls k a0_0 a0_1 _ _ t211 _ _ t214 a2_0 t220 t223 t226 t229 _ ?side1 ?side2 ?side3 ?side4 A9.out).mono ?_); (case side1 => refine (Kd.R_reads' (e := 56) (base := w.heap.size) (ok := fun k_ => some k_ ≠ (v206 : Value).ownBlock) (n := t211.length) (c := co24) ?_).2.2; exact (by (with_reducible repeat (first | apply Kd.R_alloc | apply Kd.R_drewN | apply Kd.R_drew)); exact (Kd.R_mono (Kd.R_far (Kd.R_far (Kd.R_types HO213.out BK218.out (by decide)) (fun _ hk => hk.2) _) (fun _ hk => hk.2) _) (fun _ h_ => h_.1)))); (case side2 => exact (Kd.R_reads' HO213.out).2.1); (case side3 => refine (Kd.R_reads' (e := 62) (base := w.heap.size) (ok := fun k_ => some k_ ≠ (v209 : Value).ownBlock) (n := t214.length) (c := co26) ?_).2.2; exact (by (with_reducible repeat (first | apply Kd.R_alloc | apply Kd.R_drewN | apply Kd.R_drew)); exact (Kd.R_mono (Kd.R_far (Kd.R_far (Kd.R_types HO216.out BK218.out (by decide)) (fun _ hk => hk.2) _) (fun _ hk => hk.2) _) (fun _ h_ => h_.1)))); (case side4 => exact (Kd.R_reads' HO216.out).2.1); rintro e w35 ⟨v221, v224, v227, rfl, ho0, ho1, ho2, hb⟩; refine ⟨_, rfl, ?_⟩; have HO222 := Aside0.mk (Kd.R_lower ho0 (below_size bel)); have HO225 := Aside0.mk (Kd.R_lower ho1 (below_size bel)); have HO228 := Aside0.mk (Kd.R_lower ho2 (below_size bel)); replace HO207 := Aside0.mk (Kd.R_below (by (with_reducible repeat (first | apply Kd.R_alloc | apply Kd.R_drewN | apply Kd.R_drew)); exact (Kd.R_mono (Kd.R_far (Kd.R_far (Kd.R_types HO207.out BK218.out (by decide)) (fun _ hk => hk.2) _) (fun _ hk => hk.2) _) (fun _ h_ => h_.1))) hb); replace HO210 := Aside0.mk (Kd.R_below (by (with_reducible repeat (first | apply Kd.R_alloc | apply Kd.R_drewN | apply Kd.R_drew)); exact (Kd.R_mono (Kd.R_far (Kd.R_far (Kd.R_types HO210.out BK218.out (by decide)) (fun _ hk => hk.2) _) (fun _ hk => hk.2) _) (fun _ h_ => h_.1))) hb); replace HO213 := Aside0.mk (Kd.R_below (by (with_reducible repeat (first | apply Kd.R_alloc | apply Kd.R_drewN | apply Kd.R_drew)); exact (Kd.R_mono (Kd.R_far (Kd.R_far (Kd.R_types HO213.out BK218.out (by decide)) (fun _ hk => hk.2) _) (fun _ hk => hk.2) _) (fun _ h_ => h_.1))) hb); replace HO216 := Aside0.mk (Kd.R_below (by (with_reducible repeat (first | apply Kd.R_alloc | apply Kd.R_drewN | apply Kd.R_drew)); exact (Kd.R_mono (Kd.R_far (Kd.R_far (Kd.R_types HO216.out BK218.out (by decide)) (fun _ hk => hk.2) _) (fun _ hk => hk.2) _) (fun _ h_ => h_.1))) hb); replace BK200 := sBk BK200 hb; replace BK201 := sBk BK201 hb; replace BK202 := sBk BK202 hb; replace BK218 := Aside0.mk (blk_below (g := gb218) (o := .cells #[.slice Ao24 t211.length co24, .slice Ao26 t214.length co26] 27 (0, 0)) (by (with_reducible repeat (first | refine blk_drewN ?_ _ | refine blk_drew ?_ | refine blk_alloc ?_ _)); refine blk_put (cs := #[.slice Ao24 t211.length co24, .slice none 0 0]) ?_ 1 _ rfl; (with_reducible repeat (first | refine blk_drewN ?_ _ | refine blk_drew ?_ | refine blk_alloc ?_ _)); refine blk_put (cs := #[.slice none 0 0, .slice none 0 0]) ?_ 0 _ rfl; (with_reducible repeat (first | refine blk_drewN ?_ _ | refine blk_drew ?_ | refine blk_alloc ?_ _)); exact BK218.out) hb); replace HB := sHb hb; (try clear hb); (try clear hb2); (try clear hk); (try clear hi); (try clear ho0); (try clear ho1); (try clear ho2)) | ((with_reducible refine gate_dst (N := 9) rfl ?_); refine box_event ?hg (N := 9) ?hd (cs := #[.slice none 0 0, .slice none 0 0, .slice none 0 0]) (t := 47) ?hr ?_; (case hd => rfl); (case hg => rfl); (case hr => go_simp <;> rfl); intro gb230 hg w36 hbox hb; have BK230 := Aside0.mk hbox; have GW230 := sGe hg; have GE230 := sGe hg; have NB200_230 := sNl BK200 hg; have NB230_200 := sNg BK200 hg; have NB201_230 := sNl BK201 hg; have NB230_201 := sNg BK201 hg; have NB202_230 := sNl BK202 hg; have NB230_202 := sNg BK202 hg; have NB218_230 := sNl BK218 hg; have NB230_218 := sNg BK218 hg; replace HO207 := sRb HO207 hb; replace HO210 := sRb HO210 hb; replace HO213 := sRb HO213 hb; replace HO216 := sRb HO216 hb; replace HO222 := sRb HO222 hb; replace HO225 := sRb HO225 hb; replace HO228 := sRb HO228 hb; replace BK200 := sBk BK200 hb; replace BK201 := sBk BK201 hb; replace BK202 := sBk BK202 hb; replace BK218 := sBk BK218 hb; replace HB := sHb hb; clear hb hbox hg; obtain ⟨Ao37, co37, eo37⟩ := Kd.R_slice HO222.out; subst eo37; have hnb38 := NB230_200.out; have hnc38 := NB200_230.out; have hnb39 := NB230_201.out; have hnc39 := NB201_230.out; have hnb40 := NB230_202.out; have hnc40 := NB202_230.out; have hnb41 := NB230_218.out; have hnc41 := NB218_230.out; have hcz42_0 : w36.cell? ⟨gb230, 0, none⟩ = some (.slice none 0 0) := (blk_cell BK230.out 0).trans rfl; have hcz42_1 : w36.cell? ⟨gb230, 1, none⟩ = some (.slice none 0 0) := (blk_cell BK230.out 1).trans rfl; have hcz42_2 : w36.cell? ⟨gb230, 2, none⟩ = some (.slice none 0 0) := (blk_cell BK230.out 2).trans rfl; have hfz42_0 := blk_frozen BK230.out 0; have hfz42_1 := blk_frozen BK230.out 1; have hfz42_2 := blk_frozen BK230.out 2; obtain ⟨Ao43, co43, eo43⟩ := Kd.R_slice HO225.out; subst eo43; obtain ⟨Ao44, co44, eo44⟩ := Kd.R_slice HO228.out; subst eo44))
   go_loopg [11] k (fun kq v11 w' => ∃ (x11_1 : Int), v11 = .int .i64 x11_1 ∧ Aside0 (newellaw19_CallGone.l0 kq t229 x11_1 a0_0 a0_1 l1_0 l1_1 a2_0 a2_1 a2_2 t211 t214 t220 t223 t226 = some r) ∧ Aside0 (kq ≤ k) ∧ Aside0 (Kd.R k56 56 w' w.heap.size (fun _ => True) (.slice Ao24 t211.length co24) t211) ∧ Aside0 (Kd.R k62 62 w' w.heap.size (fun _ => True) (.slice Ao26 t214.length co26) t214) ∧ Aside0 (Kd.R (Kd.int .i64) 3 w' w.heap.size (fun k_ => some k_ ≠ ((.slice Ao43 t223.length co43) : Value).ownBlock ∧ some k_ ≠ ((.slice Ao44 t226.length co44) : Value).ownBlock) (.slice Ao37 t220.length co37) t220) ∧ Aside0 (Kd.R (Kd.int .i64) 3 w' w.heap.size (fun k_ => some k_ ≠ ((.slice Ao37 t220.length co37) : Value).ownBlock ∧ some k_ ≠ ((.slice Ao44 t226.length co44) : Value).ownBlock) (.slice Ao43 t223.length co43) t223) ∧ Aside0 (Kd.R (Kd.int .i64) 3 w' w.heap.size (fun k_ => some k_ ≠ ((.slice Ao37 t220.length co37) : Value).ownBlock ∧ some k_ ≠ ((.slice Ao43 t223.length co43) : Value).ownBlock) (.slice Ao44 t226.length co44) t226) ∧ Aside0 (w'.heap[gb200]? = some (.cells #[.int .i64 a0_0, .int .i64 a0_1] 23 (0, 0))) ∧ Aside0 (w'.heap[gb201]? = some (.cells #[(.slice A1_0 l1_0.length c1_0), (.slice A1_1 l1_1.length c1_1)] 27 (0, 0))) ∧ Aside0 (w'.heap[gb202]? = some (.cells #[.int .i64 a2_0, .int .i64 a2_1, .int .i64 a2_2] 43 (0, 0))) ∧ Aside0 (w'.heap[gb218]? = some (.cells #[(.slice Ao24 t211.length co24), (.slice Ao26 t214.length co26)] 27 (0, 0))) ∧ Aside0 (w'.heap[gb230]? = some (.cells #[(.slice Ao37 t220.length co37), (.slice Ao43 t223.length co43), (.slice Ao44 t226.length co44)] 47 (0, 0))) ∧ Aside0 (Below w.heap.size w w'))
   case atStart => exact ⟨(0), (by first | rfl | (simp; done) | (simp [*]; done)), H', ⟨Nat.le_refl _⟩, ⟨by (with_reducible repeat (first | apply Kd.R_alloc | apply Kd.R_drewN | apply Kd.R_drew)); exact Kd.R_mono (Kd.R_far (Kd.R_far (Kd.R_far (Kd.R_types HO213.out BK230.out (by decide)) (fun _ hk => hk.2) _) (fun _ hk => hk.2) _) (fun _ hk => hk.2) _) (fun _ hk => trivial)⟩, ⟨by (with_reducible repeat (first | apply Kd.R_alloc | apply Kd.R_drewN | apply Kd.R_drew)); exact Kd.R_mono (Kd.R_far (Kd.R_far (Kd.R_far (Kd.R_types HO216.out BK230.out (by decide)) (fun _ hk => hk.2) _) (fun _ hk => hk.2) _) (fun _ hk => hk.2) _) (fun _ hk => trivial)⟩, ⟨by (with_reducible repeat (first | apply Kd.R_alloc | apply Kd.R_drewN | apply Kd.R_drew)); exact Kd.R_mono (Kd.R_far (Kd.R_far (Kd.R_far (Kd.R_types HO222.out BK230.out (by decide)) (fun _ hk => hk.2) _) (fun _ hk => hk.2) _) (fun _ hk => hk.2) _) (fun _ hk => ⟨hk.1.1, hk.1.2⟩)⟩, ⟨by (with_reducible repeat (first | apply Kd.R_alloc | apply Kd.R_drewN | apply Kd.R_drew)); exact Kd.R_mono (Kd.R_far (Kd.R_far (Kd.R_far (Kd.R_types HO225.out BK230.out (by decide)) (fun _ hk => hk.2) _) (fun _ hk => hk.2) _) (fun _ hk => hk.2) _) (fun _ hk => ⟨hk.1.1, hk.1.2⟩)⟩, ⟨by (with_reducible repeat (first | apply Kd.R_alloc | apply Kd.R_drewN | apply Kd.R_drew)); exact Kd.R_mono (Kd.R_far (Kd.R_far (Kd.R_far (Kd.R_types HO228.out BK230.out (by decide)) (fun _ hk => hk.2) _) (fun _ hk => hk.2) _) (fun _ hk => hk.2) _) (fun _ hk => ⟨hk.1.1, hk.1.2⟩)⟩, ⟨bka BK200⟩, ⟨bka BK201⟩, ⟨bka BK202⟩, ⟨bka BK218⟩, ⟨by (with_reducible repeat (first | refine blk_drewN ?_ _ | refine blk_drew ?_ | refine blk_alloc ?_ _)); refine blk_put (cs := #[.slice Ao37 t220.length co37, .slice Ao43 t223.length co43, .slice none 0 0]) ?_ 2 _ rfl; (with_reducible repeat (first | refine blk_drewN ?_ _ | refine blk_drew ?_ | refine blk_alloc ?_ _)); refine blk_put (cs := #[.slice Ao37 t220.length co37, .slice none 0 0, .slice none 0 0]) ?_ 1 _ rfl; (with_reducible repeat (first | refine blk_drewN ?_ _ | refine blk_drew ?_ | refine blk_alloc ?_ _)); refine blk_put (cs := #[.slice none 0 0, .slice none 0 0, .slice none 0 0]) ?_ 0 _ rfl; (with_reducible repeat (first | refine blk_drewN ?_ _ | refine blk_drew ?_ | refine blk_alloc ?_ _)); exact BK230.out⟩, ⟨bel⟩⟩
   case round =>
    clear H'
    try clear c1
    try clear c2
    try clear p2
    try clear c3
    try clear c4
    try clear c12
    try clear c18
    try clear c19
    try clear c28
    try clear c29
    try clear c31
    try clear c32
    try clear c38
    try clear c39
    try clear c40
    try clear c41
    try clear hcz30_0
    try clear hcz30_1
    try clear hcz33_0
    try clear hcz33_1
    try clear hcz34_0
    try clear hcz34_1
    try clear hcz34_2
    try clear hcz42_0
    try clear hcz42_1
    try clear hcz42_2
    try clear hfz30_0
    try clear hfz30_1
    try clear hfz33_0
    try clear hfz33_1
    try clear hfz34_0
    try clear hfz34_1
    try clear hfz34_2
    try clear hfz42_0
    try clear hfz42_1
    try clear hfz42_2
    obtain ⟨x11_1, rfl, HA, HK1, HO_219000, HO_219001, HO_231000, HO_231001, HO_231002, BK200, BK201, BK202, BK218, BK230, HB⟩ := hrel
    cases gk with
    | zero => exact absurd HA.out (by simp [newellaw19_CallGone.l0])
    | succ k1 =>
     have H := HA.out
     clear HA
     simp only [newellaw19_CallGone.l0] at H
     by_cases c45 : x11_1 < (t220.length : Int)
     ·rw [if_pos c45] at H
      have c45b0 : decide (x11_1 < (t220.length : Int)) = true := decide_eq_true c45
      clear c45
      by_cases c46 : 0 ≤ x11_1
      ·rw [if_pos c46] at H
       have c46b0 : decide (0 ≤ x11_1) = true := decide_eq_true c46
       clear c46
       by_cases c47 : (rd t220 x11_1) = a2_1
       ·rw [if_pos c47] at H
        exact absurd H (by simp)
       ·rw [if_neg c47] at H
        have c47b0 : ((rd t220 x11_1) == a2_1) = false := beq_eq_false_iff_ne.mpr c47
        have c47b1 : ((rd t220 x11_1) != a2_1) = true := bne_iff_ne.mpr c47
        have H' := Aside0.mk H
        clear H
        have hnb48 := NB230_200.out
        have hnc48 := NB200_230.out
        have hnb49 := NB230_201.out
        have hnc49 := NB201_230.out
        have hnb50 := NB230_202.out
        have hnc50 := NB202_230.out
        have hnb51 := NB230_218.out
        have hnc51 := NB218_230.out
        have hcz52_0 : wr.cell? ⟨gb230, 0, none⟩ = some (.slice Ao37 t220.length co37) := (blk_cell BK230.out 0).trans rfl
        have hcz52_1 : wr.cell? ⟨gb230, 1, none⟩ = some (.slice Ao43 t223.length co43) := (blk_cell BK230.out 1).trans rfl
        have hcz52_2 : wr.cell? ⟨gb230, 2, none⟩ = some (.slice Ao44 t226.length co44) := (blk_cell BK230.out 2).trans rfl
        have hfz52_0 := blk_frozen BK230.out 0
        have hfz52_1 := blk_frozen BK230.out 1
        have hfz52_2 := blk_frozen BK230.out 2
        try go_wp2
        replace HO_219000 := Aside0.mk (Kd.R_drew HO_219000.out)
        replace HO_219001 := Aside0.mk (Kd.R_drew HO_219001.out)
        replace HO_231000 := Aside0.mk (Kd.R_drew HO_231000.out)
        replace HO_231001 := Aside0.mk (Kd.R_drew HO_231001.out)
        replace HO_231002 := Aside0.mk (Kd.R_drew HO_231002.out)
        replace BK200 := Aside0.mk (blk_drew BK200.out)
        replace BK201 := Aside0.mk (blk_drew BK201.out)
        replace BK202 := Aside0.mk (blk_drew BK202.out)
        replace BK218 := Aside0.mk (blk_drew BK218.out)
        replace BK230 := Aside0.mk (blk_drew BK230.out)
        replace HB := Aside0.mk (below_drew1 HB.out)
        have p231 : 0 ≤ (x11_1 : Int) := of_decide_eq_true (by assumption)
        have q231 : x11_1 < (t220.length : Int) := of_decide_eq_true (by assumption)
        obtain ⟨ad231, e231, hx231_0⟩ := Kd.at_int (Kd.R_reads' HO_231000.out).2.2 x11_1 p231 q231
        cases e231
        replace p231 := eq_true p231
        replace q231 := eq_true q231
        refine start_ (n := 8) (S := fun w' => w'.cell? ⟨gb230, 0, none⟩ = some (.slice (some ad231) t220.length co37) ∧ w'.cell? ⟨gb230, 1, none⟩ = some (.slice Ao43 t223.length co43) ∧ w'.cell? ⟨gb230, 2, none⟩ = some (.slice Ao44 t226.length co44) ∧ w'.cell? ⟨gb202, 0, none⟩ = some (.int .i64 a2_0) ∧ w'.cell? ⟨gb202, 1, none⟩ = some (.int .i64 a2_1) ∧ w'.cell? ⟨gb202, 2, none⟩ = some (.int .i64 a2_2) ∧ w'.cell? (ad231.add (x11_1).toNat) = some (.int .i64 (rd t220 x11_1))) (ds := []) #[false, false, false, false, false, false, false, false] (by kernel_rfl) rfl rfl ⟨(blk_cell BK230.out 0).trans rfl, (blk_cell BK230.out 1).trans rfl, (blk_cell BK230.out 2).trans rfl, (blk_cell BK202.out 0).trans rfl, (blk_cell BK202.out 1).trans rfl, (blk_cell BK202.out 2).trans rfl, hx231_0⟩ (fun hHeld => ?_); refine with_tabW newellaw19_CallGone.tab10 newellaw19_CallGone.bits10 (fun HT_ HW_ => ?_)
        generalize wr.drew = w53 at HO_219000 HO_219001 HO_231000 HO_231001 HO_231002 BK200 BK201 BK202 BK218 BK230 HB hx231_0 hHeld ⊢
        refine pure_ (i := 0) (N := some 46) (v := ?_) (a' := ?_) (bN 8 1) rfl rfl (any_of HT_.out (by kernel_rfl)) (fun _ _ _ h => h) (Or.inl ⟨by rfl, ?_⟩) ?_ ?_
        rotate_left
        ·intro w'
         go_simp
         with_reducible rfl
        rotate_left
        ·simp only [Act.put, List.setIfInBounds_toArray, List.set_cons_zero, List.set_cons_succ, i64_w, i32_w]
         rfl
        refine pure_ (i := 2) (N := some 48) (v := ?_) (a' := ?_) (bN 8 5) rfl rfl (any_of HT_.out (by kernel_rfl)) (fun _ _ _ h => h) (Or.inl ⟨by rfl, ?_⟩) ?_ ?_
        rotate_left
        ·intro w'
         go_simp
         with_reducible rfl
        rotate_left
        ·simp only [Act.put, List.setIfInBounds_toArray, List.set_cons_zero, List.set_cons_succ, i64_w, i32_w]
         rfl
        refine pure_ (i := 5) (N := some 51) (v := ?_) (a' := ?_) (bN 8 37) rfl rfl (any_of HT_.out (by kernel_rfl)) (fun _ _ _ h => h) (Or.inl ⟨by rfl, ?_⟩) ?_ ?_
        rotate_left
        ·intro w'
         go_simp
         with_reducible rfl
        rotate_left
        ·simp only [Act.put, List.setIfInBounds_toArray, List.set_cons_zero, List.set_cons_succ, i64_w, i32_w]
         rfl
        refine take_ (i := 1) (N := some 47) (v := ?_) (a' := ?_) (bN 8 39) rfl rfl (take_ofW HT_.out HW_.out (by kernel_rfl)) (fun _ _ _ h => h) (Or.inl ⟨by rfl, ?_⟩) hHeld ?_ ?_
        rotate_left
        ·rintro w' ⟨s0, s1, s2, s3, s4, s5, s6⟩
         go_simp
         with_reducible rfl
        rotate_left
        ·simp only [Act.put, List.setIfInBounds_toArray, List.set_cons_zero, List.set_cons_succ, i64_w, i32_w]
         rfl
        refine pure_ (i := 3) (N := some 49) (v := ?_) (a' := ?_) (bN 8 47) rfl rfl (any_of HT_.out (by kernel_rfl)) (fun _ _ _ h => h) (Or.inl ⟨by rfl, ?_⟩) ?_ ?_
        rotate_left
        ·intro w'
         go_simp
         with_reducible rfl
        rotate_left
        ·simp only [Act.put, List.setIfInBounds_toArray, List.set_cons_zero, List.set_cons_succ, i64_w, i32_w]
         rfl
        refine take_ (i := 4) (N := some 50) (v := ?_) (a' := ?_) (bN 8 63) rfl rfl (take_ofW HT_.out HW_.out (by kernel_rfl)) (fun _ _ _ h => h) (Or.inl ⟨by rfl, ?_⟩) hHeld ?_ ?_
        rotate_left
        ·rintro w' ⟨s0, s1, s2, s3, s4, s5, s6⟩
         go_simp
         with_reducible rfl
        rotate_left
        ·simp only [Act.put, List.setIfInBounds_toArray, List.set_cons_zero, List.set_cons_succ, i64_w, i32_w]
         rfl
        refine take_ (i := 6) (N := some 52) (v := ?_) (a' := ?_) (bN 8 127) rfl rfl (take_ofW HT_.out HW_.out (by kernel_rfl)) (fun _ _ _ h => h) (Or.inl ⟨by rfl, ?_⟩) hHeld ?_ ?_
        rotate_left
        ·rintro w' ⟨s0, s1, s2, s3, s4, s5, s6⟩
         go_simp
         with_reducible rfl
        rotate_left
        ·simp only [Act.put, List.setIfInBounds_toArray, List.set_cons_zero, List.set_cons_succ, i64_w, i32_w]
         rfl
        refine pure_ (i := 7) (N := some 53) (v := ?_) (a' := ?_) (bN 8 255) rfl rfl (any_of HT_.out (by kernel_rfl)) (fun _ _ _ h => h) (Or.inl ⟨by rfl, ?_⟩) ?_ ?_
        rotate_left
        ·intro w'
         go_simp
         with_reducible rfl
        rotate_left
        ·simp only [Act.put, List.setIfInBounds_toArray, List.set_cons_zero, List.set_cons_succ, i64_w, i32_w]
         rfl
        refine done_ (done_of HT_.out (by kernel_rfl)) ?_
        try go_wp2
        go_roundg k1
        case measure => have := HK1.out; omega
        case rel => exact ⟨(wrap64 (x11_1 + 1)), rfl, H', ⟨by have := HK1.out; omega⟩, ⟨by (with_reducible repeat (first | apply Kd.R_alloc | apply Kd.R_drewN | apply Kd.R_drew)); exact HO_219000.out⟩, ⟨by (with_reducible repeat (first | apply Kd.R_alloc | apply Kd.R_drewN | apply Kd.R_drew)); exact HO_219001.out⟩, ⟨by (with_reducible repeat (first | apply Kd.R_alloc | apply Kd.R_drewN | apply Kd.R_drew)); exact HO_231000.out⟩, ⟨by (with_reducible repeat (first | apply Kd.R_alloc | apply Kd.R_drewN | apply Kd.R_drew)); exact HO_231001.out⟩, ⟨by (with_reducible repeat (first | apply Kd.R_alloc | apply Kd.R_drewN | apply Kd.R_drew)); exact HO_231002.out⟩, BK200, BK201, BK202, BK218, BK230, HB⟩
      ·rw [if_neg c46] at H
       exact absurd H (by simp)
     ·rw [if_neg c45] at H
      have c45b0 : decide (x11_1 < (t220.length : Int)) = false := decide_eq_false c45
      clear c45
      have H' := Aside0.mk H
      clear H
      have hnb54 := NB230_200.out
      have hnc54 := NB200_230.out
      have hnb55 := NB230_201.out
      have hnc55 := NB201_230.out
      have hnb56 := NB230_202.out
      have hnc56 := NB202_230.out
      have hnb57 := NB230_218.out
      have hnc57 := NB218_230.out
      have hcz58_0 : wr.cell? ⟨gb230, 0, none⟩ = some (.slice Ao37 t220.length co37) := (blk_cell BK230.out 0).trans rfl
      have hcz58_1 : wr.cell? ⟨gb230, 1, none⟩ = some (.slice Ao43 t223.length co43) := (blk_cell BK230.out 1).trans rfl
      have hcz58_2 : wr.cell? ⟨gb230, 2, none⟩ = some (.slice Ao44 t226.length co44) := (blk_cell BK230.out 2).trans rfl
      have hfz58_0 := blk_frozen BK230.out 0
      have hfz58_1 := blk_frozen BK230.out 1
      have hfz58_2 := blk_frozen BK230.out 2
      go_wp2
      go_loopg [12] k1 (fun kq v12 w' => ∃ (x12_2 : Int), v12 = .int .i64 x12_2 ∧ Aside0 (newellaw19_CallGone.l1 kq t229 x12_2 a0_0 a0_1 l1_0 l1_1 a2_0 a2_1 a2_2 t211 t214 = some r) ∧ Aside0 (kq ≤ k1) ∧ Aside0 (Kd.R k56 56 w' w.heap.size (fun _ => True) (.slice Ao24 t211.length co24) t211) ∧ Aside0 (Kd.R k62 62 w' w.heap.size (fun _ => True) (.slice Ao26 t214.length co26) t214) ∧ Aside0 (Kd.R (Kd.int .i64) 3 w' w.heap.size (fun k_ => some k_ ≠ ((.slice Ao43 t223.length co43) : Value).ownBlock ∧ some k_ ≠ ((.slice Ao44 t226.length co44) : Value).ownBlock) (.slice Ao37 t220.length co37) t220) ∧ Aside0 (Kd.R (Kd.int .i64) 3 w' w.heap.size (fun k_ => some k_ ≠ ((.slice Ao37 t220.length co37) : Value).ownBlock ∧ some k_ ≠ ((.slice Ao44 t226.length co44) : Value).ownBlock) (.slice Ao43 t223.length co43) t223) ∧ Aside0 (Kd.R (Kd.int .i64) 3 w' w.heap.size (fun k_ => some k_ ≠ ((.slice Ao37 t220.length co37) : Value).ownBlock ∧ some k_ ≠ ((.slice Ao43 t223.length co43) : Value).ownBlock) (.slice Ao44 t226.length co44) t226) ∧ Aside0 (w'.heap[gb200]? = some (.cells #[.int .i64 a0_0, .int .i64 a0_1] 23 (0, 0))) ∧ Aside0 (w'.heap[gb201]? = some (.cells #[(.slice A1_0 l1_0.length c1_0), (.slice A1_1 l1_1.length c1_1)] 27 (0, 0))) ∧ Aside0 (w'.heap[gb202]? = some (.cells #[.int .i64 a2_0, .int .i64 a2_1, .int .i64 a2_2] 43 (0, 0))) ∧ Aside0 (w'.heap[gb218]? = some (.cells #[(.slice Ao24 t211.length co24), (.slice Ao26 t214.length co26)] 27 (0, 0))) ∧ Aside0 (w'.heap[gb230]? = some (.cells #[(.slice Ao37 t220.length co37), (.slice Ao43 t223.length co43), (.slice Ao44 t226.length co44)] 47 (0, 0))) ∧ Aside0 (Below w.heap.size w w'))
      case atStart => exact ⟨(0), rfl, H', ⟨Nat.le_refl _⟩, ⟨by (with_reducible repeat (first | apply Kd.R_alloc | apply Kd.R_drewN | apply Kd.R_drew)); exact HO_219000.out⟩, ⟨by (with_reducible repeat (first | apply Kd.R_alloc | apply Kd.R_drewN | apply Kd.R_drew)); exact HO_219001.out⟩, ⟨by (with_reducible repeat (first | apply Kd.R_alloc | apply Kd.R_drewN | apply Kd.R_drew)); exact HO_231000.out⟩, ⟨by (with_reducible repeat (first | apply Kd.R_alloc | apply Kd.R_drewN | apply Kd.R_drew)); exact HO_231001.out⟩, ⟨by (with_reducible repeat (first | apply Kd.R_alloc | apply Kd.R_drewN | apply Kd.R_drew)); exact HO_231002.out⟩, BK200, BK201, BK202, BK218, BK230, HB⟩
      case round =>
       clear H'
       try clear c1
       try clear c2
       try clear p2
       try clear q2
       try clear hx2
       try clear c3
       try clear c4
       try clear c5
       try clear p6
       try clear c12
       try clear c18
       try clear c19
       try clear p23
       try clear q23
       try clear hx23
       try clear c28
       try clear c29
       try clear c31
       try clear c32
       try clear c38
       try clear c39
       try clear c40
       try clear c41
       try clear c45
       try clear c45b0
       try clear c46
       try clear c46b0
       try clear c47
       try clear c47b0
       try clear c47b1
       try clear c48
       try clear c49
       try clear c50
       try clear c51
       try clear c54
       try clear c55
       try clear c56
       try clear c57
       try clear hcz30_0
       try clear hcz30_1
       try clear hcz33_0
       try clear hcz33_1
       try clear hcz34_0
       try clear hcz34_1
       try clear hcz34_2
       try clear hcz42_0
       try clear hcz42_1
       try clear hcz42_2
       try clear hcz52_0
       try clear hcz52_1
       try clear hcz52_2
       try clear hcz58_0
       try clear hcz58_1
       try clear hcz58_2
       try clear hfz30_0
       try clear hfz30_1
       try clear hfz33_0
       try clear hfz33_1
       try clear hfz34_0
       try clear hfz34_1
       try clear hfz34_2
       try clear hfz42_0
       try clear hfz42_1
       try clear hfz42_2
       try clear hfz52_0
       try clear hfz52_1
       try clear hfz52_2
       try clear hfz58_0
       try clear hfz58_1
       try clear hfz58_2
       try clear hx231_0
       try clear p2
       try clear p231
       try clear q231
       obtain ⟨x12_2, rfl, HA, HK2, HO_219000, HO_219001, HO_231000, HO_231001, HO_231002, BK200, BK201, BK202, BK218, BK230, HB⟩ := hrel
       cases gk with
       | zero => exact absurd HA.out (by simp [newellaw19_CallGone.l1])
       | succ k2 =>
        have H := HA.out
        clear HA
        simp only [newellaw19_CallGone.l1] at H
        by_cases c59 : x12_2 < (t211.length : Int)
        ·rw [if_pos c59] at H
         have c59b0 : decide (x12_2 < (t211.length : Int)) = true := decide_eq_true c59
         clear c59
         by_cases c60 : 0 ≤ x12_2
         ·rw [if_pos c60] at H
          have c60b0 : decide (0 ≤ x12_2) = true := decide_eq_true c60
          clear c60
          by_cases c61 : ((rd_T56 t211 x12_2).f0) = a2_1
          ·rw [if_pos c61] at H
           have c61b0 : (((rd_T56 t211 x12_2).f0) == a2_1) = true := beq_iff_eq.mpr c61
           have c61b1 : (((rd_T56 t211 x12_2).f0) != a2_1) = false := bne_eq_false_iff_eq.mpr c61
           clear c61
           by_cases c62 : ((rd_T56 t211 x12_2).f1) = a2_2
           ·rw [if_pos c62] at H
            exact absurd H (by simp)
           ·rw [if_neg c62] at H
            have c62b0 : (((rd_T56 t211 x12_2).f1) == a2_2) = false := beq_eq_false_iff_ne.mpr c62
            have c62b1 : (((rd_T56 t211 x12_2).f1) != a2_2) = true := bne_iff_ne.mpr c62
            have H' := Aside0.mk H
            clear H
            have hnb63 := NB218_200.out
            have hnc63 := NB200_218.out
            have hnb64 := NB218_201.out
            have hnc64 := NB201_218.out
            have hnb65 := NB218_202.out
            have hnc65 := NB202_218.out
            have hnb66 := NB218_230.out
            have hnc66 := NB230_218.out
            have hcz67_0 : wr.cell? ⟨gb218, 0, none⟩ = some (.slice Ao24 t211.length co24) := (blk_cell BK218.out 0).trans rfl
            have hcz67_1 : wr.cell? ⟨gb218, 1, none⟩ = some (.slice Ao26 t214.length co26) := (blk_cell BK218.out 1).trans rfl
            have hfz67_0 := blk_frozen BK218.out 0
            have hfz67_1 := blk_frozen BK218.out 1
            try go_wp2
            replace HO_219000 := Aside0.mk (Kd.R_drew HO_219000.out)
            replace HO_219001 := Aside0.mk (Kd.R_drew HO_219001.out)
            replace HO_231000 := Aside0.mk (Kd.R_drew HO_231000.out)
            replace HO_231001 := Aside0.mk (Kd.R_drew HO_231001.out)
            replace HO_231002 := Aside0.mk (Kd.R_drew HO_231002.out)
            replace BK200 := Aside0.mk (blk_drew BK200.out)
            replace BK201 := Aside0.mk (blk_drew BK201.out)
            replace BK202 := Aside0.mk (blk_drew BK202.out)
            replace BK218 := Aside0.mk (blk_drew BK218.out)
            replace BK230 := Aside0.mk (blk_drew BK230.out)
            replace HB := Aside0.mk (below_drew1 HB.out)
            have p232 : 0 ≤ (x12_2 : Int) := of_decide_eq_true (by assumption)
            have q232 : x12_2 < (t211.length : Int) := of_decide_eq_true (by assumption)
            obtain ⟨ad232, e232, hx232_0, hx232_1, hx232_2⟩ := at_T56 (Kd.R_reads' HO_219000.out).2.2 x12_2 p232 q232
            cases e232
            replace p232 := eq_true p232
            replace q232 := eq_true q232
            have p233 : 0 ≤ (x12_2 : Int) := of_decide_eq_true (by assumption)
            have q233 : x12_2 < (t211.length : Int) := of_decide_eq_true (by assumption)
            obtain ⟨ad233, e233, hx233_0, hx233_1, hx233_2⟩ := at_T56 (Kd.R_reads' HO_219000.out).2.2 x12_2 p233 q233
            obtain rfl : ad232 = ad233 := (by injection e233)
            replace p233 := eq_true p233
            replace q233 := eq_true q233
            refine start_ (n := 20) (S := fun w' => w'.cell? ⟨gb218, 0, none⟩ = some (.slice (some ad232) t211.length co24) ∧ w'.cell? ⟨gb218, 1, none⟩ = some (.slice Ao26 t214.length co26) ∧ w'.cell? ⟨gb202, 0, none⟩ = some (.int .i64 a2_0) ∧ w'.cell? ⟨gb202, 1, none⟩ = some (.int .i64 a2_1) ∧ w'.cell? ⟨gb202, 2, none⟩ = some (.int .i64 a2_2) ∧ w'.cell? (ad232.add ((x12_2).toNat * 3)) = some (.int .i64 ((rd_T56 t211 x12_2).f0)) ∧ w'.cell? ⟨(ad232.add ((x12_2).toNat * 3)).block, (ad232.add ((x12_2).toNat * 3)).off + 1, none⟩ = some (.int .i64 ((rd_T56 t211 x12_2).f1)) ∧ w'.cell? ⟨(ad232.add ((x12_2).toNat * 3)).block, (ad232.add ((x12_2).toNat * 3)).off + 2, none⟩ = some (.int .i64 ((rd_T56 t211 x12_2).f2)) ∧ w'.cell? (ad232.add ((x12_2).toNat * 3)) = some (.int .i64 ((rd_T56 t211 x12_2).f0)) ∧ w'.cell? ⟨(ad232.add ((x12_2).toNat * 3)).block, (ad232.add ((x12_2).toNat * 3)).off + 1, none⟩ = some (.int .i64 ((rd_T56 t211 x12_2).f1)) ∧ w'.cell? ⟨(ad232.add ((x12_2).toNat * 3)).block, (ad232.add ((x12_2).toNat * 3)).off + 2, none⟩ = some (.int .i64 ((rd_T56 t211 x12_2).f2))) (ds := []) #[false, false, false, false, false, false, false, false, false, false, false, false, false, false, false, false, false, false, false, false] (by kernel_rfl) rfl rfl ⟨(blk_cell BK218.out 0).trans rfl, (blk_cell BK218.out 1).trans rfl, (blk_cell BK202.out 0).trans rfl, (blk_cell BK202.out 1).trans rfl, (blk_cell BK202.out 2).trans rfl, hx232_0, hx232_1, hx232_2, hx233_0, hx233_1, hx233_2⟩ (fun hHeld => ?_); refine with_tabW newellaw19_CallGone.tab15 newellaw19_CallGone.bits15 (fun HT_ HW_ => ?_)
            generalize wr.drew = w68 at HO_219000 HO_219001 HO_231000 HO_231001 HO_231002 BK200 BK201 BK202 BK218 BK230 HB hx232_0 hx232_1 hx232_2 hx233_0 hx233_1 hx233_2 hHeld ⊢
            refine pure_ (i := 0) (N := some 61) (v := ?_) (a' := ?_) (bN 20 1) rfl rfl (any_of HT_.out (by kernel_rfl)) (fun _ _ _ h => h) (Or.inl ⟨by rfl, ?_⟩) ?_ ?_
            rotate_left
            ·intro w'
             go_simp
             with_reducible rfl
            rotate_left
            ·simp only [Act.put, List.setIfInBounds_toArray, List.set_cons_zero, List.set_cons_succ, i64_w, i32_w]
             rfl
            refine pure_ (i := 2) (N := some 63) (v := ?_) (a' := ?_) (bN 20 5) rfl rfl (any_of HT_.out (by kernel_rfl)) (fun _ _ _ h => h) (Or.inl ⟨by rfl, ?_⟩) ?_ ?_
            rotate_left
            ·intro w'
             go_simp
             with_reducible rfl
            rotate_left
            ·simp only [Act.put, List.setIfInBounds_toArray, List.set_cons_zero, List.set_cons_succ, i64_w, i32_w]
             rfl
            refine pure_ (i := 6) (N := some 67) (v := ?_) (a' := ?_) (bN 20 69) rfl rfl (any_of HT_.out (by kernel_rfl)) (fun _ _ _ h => h) (Or.inl ⟨by rfl, ?_⟩) ?_ ?_
            rotate_left
            ·intro w'
             go_simp
             with_reducible rfl
            rotate_left
            ·simp only [Act.put, List.setIfInBounds_toArray, List.set_cons_zero, List.set_cons_succ, i64_w, i32_w]
             rfl
            refine take_ (i := 1) (N := some 62) (v := ?_) (a' := ?_) (bN 20 71) rfl rfl (take_ofW HT_.out HW_.out (by kernel_rfl)) (fun _ _ _ h => h) (Or.inl ⟨by rfl, ?_⟩) hHeld ?_ ?_
            rotate_left
            ·rintro w' ⟨s0, s1, s2, s3, s4, s5, s6, s7, s8, s9, s10⟩
             go_simp
             with_reducible rfl
            rotate_left
            ·simp only [Act.put, List.setIfInBounds_toArray, List.set_cons_zero, List.set_cons_succ, i64_w, i32_w]
             rfl
            refine pure_ (i := 3) (N := some 64) (v := ?_) (a' := ?_) (bN 20 79) rfl rfl (any_of HT_.out (by kernel_rfl)) (fun _ _ _ h => h) (Or.inl ⟨by rfl, ?_⟩) ?_ ?_
            rotate_left
            ·intro w'
             go_simp
             with_reducible rfl
            rotate_left
            ·simp only [Act.put, List.setIfInBounds_toArray, List.set_cons_zero, List.set_cons_succ, i64_w, i32_w]
             rfl
            refine pure_ (i := 4) (N := some 65) (v := ?_) (a' := ?_) (bN 20 95) rfl rfl (any_of HT_.out (by kernel_rfl)) (fun _ _ _ h => h) (Or.inl ⟨by rfl, ?_⟩) ?_ ?_
            rotate_left
            ·intro w'
             go_simp
             with_reducible rfl
            rotate_left
            ·simp only [Act.put, List.setIfInBounds_toArray, List.set_cons_zero, List.set_cons_succ, i64_w, i32_w]
             rfl
            refine take_ (i := 5) (N := some 66) (v := ?_) (a' := ?_) (bN 20 127) rfl rfl (take_ofW HT_.out HW_.out (by kernel_rfl)) (fun _ _ _ h => h) (Or.inl ⟨by rfl, ?_⟩) hHeld ?_ ?_
            rotate_left
            ·rintro w' ⟨s0, s1, s2, s3, s4, s5, s6, s7, s8, s9, s10⟩
             go_simp
             with_reducible rfl
            rotate_left
            ·simp only [Act.put, List.setIfInBounds_toArray, List.set_cons_zero, List.set_cons_succ, i64_w, i32_w]
             rfl
            refine take_ (i := 7) (N := some 68) (v := ?_) (a' := ?_) (bN 20 255) rfl rfl (take_ofW HT_.out HW_.out (by kernel_rfl)) (fun _ _ _ h => h) (Or.inl ⟨by rfl, ?_⟩) hHeld ?_ ?_
            rotate_left
            ·rintro w' ⟨s0, s1, s2, s3, s4, s5, s6, s7, s8, s9, s10⟩
             go_simp
             with_reducible rfl
            rotate_left
            ·simp only [Act.put, List.setIfInBounds_toArray, List.set_cons_zero, List.set_cons_succ, i64_w, i32_w]
             rfl
            refine pure_ (i := 8) (N := some 69) (v := ?_) (a' := ?_) (bN 20 511) rfl rfl (any_of HT_.out (by kernel_rfl)) (fun _ _ _ h => h) (Or.inl ⟨by rfl, ?_⟩) ?_ ?_
            rotate_left
            ·intro w'
             go_simp
             with_reducible rfl
            rotate_left
            ·simp only [Act.put, List.setIfInBounds_toArray, List.set_cons_zero, List.set_cons_succ, i64_w, i32_w]
             rfl
            refine pure_ (i := 9) (N := some 70) (v := ?_) (a' := ?_) (bN 20 1023) rfl rfl (any_of HT_.out (by kernel_rfl)) (fun _ _ _ h => h) (Or.inl ⟨by rfl, ?_⟩) ?_ ?_
            rotate_left
            ·intro w'
             go_simp
             with_reducible rfl
            rotate_left
            ·simp only [Act.put, List.setIfInBounds_toArray, List.set_cons_zero, List.set_cons_succ, i64_w, i32_w]
             rfl
            refine pure_ (i := 10) (N := some 71) (v := ?_) (a' := ?_) (bN 20 2047) rfl rfl (any_of HT_.out (by kernel_rfl)) (fun _ _ _ h => h) (Or.inl ⟨by rfl, ?_⟩) ?_ ?_
            rotate_left
            ·intro w'
             go_simp
             with_reducible rfl
            rotate_left
            ·simp only [Act.put, List.setIfInBounds_toArray, List.set_cons_zero, List.set_cons_succ, i64_w, i32_w]
             rfl
            refine pure_ (i := 12) (N := some 73) (v := ?_) (a' := ?_) (bN 20 6143) rfl rfl (any_of HT_.out (by kernel_rfl)) (fun _ _ _ h => h) (Or.inl ⟨by rfl, ?_⟩) ?_ ?_
            rotate_left
            ·intro w'
             go_simp
             with_reducible rfl
            rotate_left
            ·simp only [Act.put, List.setIfInBounds_toArray, List.set_cons_zero, List.set_cons_succ, i64_w, i32_w]
             rfl
            refine pure_ (i := 16) (N := some 77) (v := ?_) (a' := ?_) (bN 20 71679) rfl rfl (any_of HT_.out (by kernel_rfl)) (fun _ _ _ h => h) (Or.inl ⟨by rfl, ?_⟩) ?_ ?_
            rotate_left
            ·intro w'
             go_simp
             with_reducible rfl
            rotate_left
            ·simp only [Act.put, List.setIfInBounds_toArray, List.set_cons_zero, List.set_cons_succ, i64_w, i32_w]
             rfl
            refine take_ (i := 11) (N := some 72) (v := ?_) (a' := ?_) (bN 20 73727) rfl rfl (take_ofW HT_.out HW_.out (by kernel_rfl)) (fun _ _ _ h => h) (Or.inl ⟨by rfl, ?_⟩) hHeld ?_ ?_
            rotate_left
            ·rintro w' ⟨s0, s1, s2, s3, s4, s5, s6, s7, s8, s9, s10⟩
             go_simp
             with_reducible rfl
            rotate_left
            ·simp only [Act.put, List.setIfInBounds_toArray, List.set_cons_zero, List.set_cons_succ, i64_w, i32_w]
             rfl
            refine pure_ (i := 13) (N := some 74) (v := ?_) (a' := ?_) (bN 20 81919) rfl rfl (any_of HT_.out (by kernel_rfl)) (fun _ _ _ h => h) (Or.inl ⟨by rfl, ?_⟩) ?_ ?_
            rotate_left
            ·intro w'
             go_simp
             with_reducible rfl
            rotate_left
            ·simp only [Act.put, List.setIfInBounds_toArray, List.set_cons_zero, List.set_cons_succ, i64_w, i32_w]
             rfl
            refine pure_ (i := 14) (N := some 75) (v := ?_) (a' := ?_) (bN 20 98303) rfl rfl (any_of HT_.out (by kernel_rfl)) (fun _ _ _ h => h) (Or.inl ⟨by rfl, ?_⟩) ?_ ?_
            rotate_left
            ·intro w'
             go_simp
             with_reducible rfl
            rotate_left
            ·simp only [Act.put, List.setIfInBounds_toArray, List.set_cons_zero, List.set_cons_succ, i64_w, i32_w]
             rfl
            refine take_ (i := 15) (N := some 76) (v := ?_) (a' := ?_) (bN 20 131071) rfl rfl (take_ofW HT_.out HW_.out (by kernel_rfl)) (fun _ _ _ h => h) (Or.inl ⟨by rfl, ?_⟩) hHeld ?_ ?_
            rotate_left
            ·rintro w' ⟨s0, s1, s2, s3, s4, s5, s6, s7, s8, s9, s10⟩
             go_simp
             with_reducible rfl
            rotate_left
            ·simp only [Act.put, List.setIfInBounds_toArray, List.set_cons_zero, List.set_cons_succ, i64_w, i32_w]
             rfl
            refine take_ (i := 17) (N := some 78) (v := ?_) (a' := ?_) (bN 20 262143) rfl rfl (take_ofW HT_.out HW_.out (by kernel_rfl)) (fun _ _ _ h => h) (Or.inl ⟨by rfl, ?_⟩) hHeld ?_ ?_
            rotate_left
            ·rintro w' ⟨s0, s1, s2, s3, s4, s5, s6, s7, s8, s9, s10⟩
             go_simp
             with_reducible rfl
            rotate_left
            ·simp only [Act.put, List.setIfInBounds_toArray, List.set_cons_zero, List.set_cons_succ, i64_w, i32_w]
             rfl
            refine pure_ (i := 18) (N := some 79) (v := ?_) (a' := ?_) (bN 20 524287) rfl rfl (any_of HT_.out (by kernel_rfl)) (fun _ _ _ h => h) (Or.inl ⟨by rfl, ?_⟩) ?_ ?_
            rotate_left
            ·intro w'
             go_simp
             with_reducible rfl
            rotate_left
            ·simp only [Act.put, List.setIfInBounds_toArray, List.set_cons_zero, List.set_cons_succ, i64_w, i32_w]
             rfl
            refine pure_ (i := 19) (N := some 80) (v := ?_) (a' := ?_) (bN 20 1048575) rfl rfl (any_of HT_.out (by kernel_rfl)) (fun _ _ _ h => h) (Or.inl ⟨by rfl, ?_⟩) ?_ ?_
            rotate_left
            ·intro w'
             go_simp
             with_reducible rfl
            rotate_left
            ·simp only [Act.put, List.setIfInBounds_toArray, List.set_cons_zero, List.set_cons_succ, i64_w, i32_w]
             rfl
            refine done_ (done_of HT_.out (by kernel_rfl)) ?_
            try go_wp2
            go_roundg k2
            case measure => have := HK1.out; have := HK2.out; omega
            case rel => exact ⟨(wrap64 (x12_2 + 1)), rfl, H', ⟨by have := HK1.out; have := HK2.out; omega⟩, ⟨by (with_reducible repeat (first | apply Kd.R_alloc | apply Kd.R_drewN | apply Kd.R_drew)); exact HO_219000.out⟩, ⟨by (with_reducible repeat (first | apply Kd.R_alloc | apply Kd.R_drewN | apply Kd.R_drew)); exact HO_219001.out⟩, ⟨by (with_reducible repeat (first | apply Kd.R_alloc | apply Kd.R_drewN | apply Kd.R_drew)); exact HO_231000.out⟩, ⟨by (with_reducible repeat (first | apply Kd.R_alloc | apply Kd.R_drewN | apply Kd.R_drew)); exact HO_231001.out⟩, ⟨by (with_reducible repeat (first | apply Kd.R_alloc | apply Kd.R_drewN | apply Kd.R_drew)); exact HO_231002.out⟩, BK200, BK201, BK202, BK218, BK230, HB⟩
          ·rw [if_neg c61] at H
           have c61b0 : (((rd_T56 t211 x12_2).f0) == a2_1) = false := beq_eq_false_iff_ne.mpr c61
           have c61b1 : (((rd_T56 t211 x12_2).f0) != a2_1) = true := bne_iff_ne.mpr c61
           have H' := Aside0.mk H
           clear H
           have hnb69 := NB218_200.out
           have hnc69 := NB200_218.out
           have hnb70 := NB218_201.out
           have hnc70 := NB201_218.out
           have hnb71 := NB218_202.out
           have hnc71 := NB202_218.out
           have hnb72 := NB218_230.out
           have hnc72 := NB230_218.out
           have hcz73_0 : wr.cell? ⟨gb218, 0, none⟩ = some (.slice Ao24 t211.length co24) := (blk_cell BK218.out 0).trans rfl
           have hcz73_1 : wr.cell? ⟨gb218, 1, none⟩ = some (.slice Ao26 t214.length co26) := (blk_cell BK218.out 1).trans rfl
           have hfz73_0 := blk_frozen BK218.out 0
           have hfz73_1 := blk_frozen BK218.out 1
           try go_wp2
           replace HO_219000 := Aside0.mk (Kd.R_drew HO_219000.out)
           replace HO_219001 := Aside0.mk (Kd.R_drew HO_219001.out)
           replace HO_231000 := Aside0.mk (Kd.R_drew HO_231000.out)
           replace HO_231001 := Aside0.mk (Kd.R_drew HO_231001.out)
           replace HO_231002 := Aside0.mk (Kd.R_drew HO_231002.out)
           replace BK200 := Aside0.mk (blk_drew BK200.out)
           replace BK201 := Aside0.mk (blk_drew BK201.out)
           replace BK202 := Aside0.mk (blk_drew BK202.out)
           replace BK218 := Aside0.mk (blk_drew BK218.out)
           replace BK230 := Aside0.mk (blk_drew BK230.out)
           replace HB := Aside0.mk (below_drew1 HB.out)
           have p232 : 0 ≤ (x12_2 : Int) := of_decide_eq_true (by assumption)
           have q232 : x12_2 < (t211.length : Int) := of_decide_eq_true (by assumption)
           obtain ⟨ad232, e232, hx232_0, hx232_1, hx232_2⟩ := at_T56 (Kd.R_reads' HO_219000.out).2.2 x12_2 p232 q232
           cases e232
           replace p232 := eq_true p232
           replace q232 := eq_true q232
           refine start_ (n := 20) (S := fun w' => w'.cell? ⟨gb218, 0, none⟩ = some (.slice (some ad232) t211.length co24) ∧ w'.cell? ⟨gb218, 1, none⟩ = some (.slice Ao26 t214.length co26) ∧ w'.cell? ⟨gb202, 0, none⟩ = some (.int .i64 a2_0) ∧ w'.cell? ⟨gb202, 1, none⟩ = some (.int .i64 a2_1) ∧ w'.cell? ⟨gb202, 2, none⟩ = some (.int .i64 a2_2) ∧ w'.cell? (ad232.add ((x12_2).toNat * 3)) = some (.int .i64 ((rd_T56 t211 x12_2).f0)) ∧ w'.cell? ⟨(ad232.add ((x12_2).toNat * 3)).block, (ad232.add ((x12_2).toNat * 3)).off + 1, none⟩ = some (.int .i64 ((rd_T56 t211 x12_2).f1)) ∧ w'.cell? ⟨(ad232.add ((x12_2).toNat * 3)).block, (ad232.add ((x12_2).toNat * 3)).off + 2, none⟩ = some (.int .i64 ((rd_T56 t211 x12_2).f2))) (ds := []) #[false, false, false, false, false, false, false, false, false, false, false, false, false, false, false, false, false, false, false, false] (by kernel_rfl) rfl rfl ⟨(blk_cell BK218.out 0).trans rfl, (blk_cell BK218.out 1).trans rfl, (blk_cell BK202.out 0).trans rfl, (blk_cell BK202.out 1).trans rfl, (blk_cell BK202.out 2).trans rfl, hx232_0, hx232_1, hx232_2⟩ (fun hHeld => ?_); refine with_tabW newellaw19_CallGone.tab15 newellaw19_CallGone.bits15 (fun HT_ HW_ => ?_)
           generalize wr.drew = w74 at HO_219000 HO_219001 HO_231000 HO_231001 HO_231002 BK200 BK201 BK202 BK218 BK230 HB hx232_0 hx232_1 hx232_2 hHeld ⊢
           refine pure_ (i := 0) (N := some 61) (v := ?_) (a' := ?_) (bN 20 1) rfl rfl (any_of HT_.out (by kernel_rfl)) (fun _ _ _ h => h) (Or.inl ⟨by rfl, ?_⟩) ?_ ?_
           rotate_left
           ·intro w'
            go_simp
            with_reducible rfl
           rotate_left
           ·simp only [Act.put, List.setIfInBounds_toArray, List.set_cons_zero, List.set_cons_succ, i64_w, i32_w]
            rfl
           refine pure_ (i := 2) (N := some 63) (v := ?_) (a' := ?_) (bN 20 5) rfl rfl (any_of HT_.out (by kernel_rfl)) (fun _ _ _ h => h) (Or.inl ⟨by rfl, ?_⟩) ?_ ?_
           rotate_left
           ·intro w'
            go_simp
            with_reducible rfl
           rotate_left
           ·simp only [Act.put, List.setIfInBounds_toArray, List.set_cons_zero, List.set_cons_succ, i64_w, i32_w]
            rfl
           refine pure_ (i := 6) (N := some 67) (v := ?_) (a' := ?_) (bN 20 69) rfl rfl (any_of HT_.out (by kernel_rfl)) (fun _ _ _ h => h) (Or.inl ⟨by rfl, ?_⟩) ?_ ?_
           rotate_left
           ·intro w'
            go_simp
            with_reducible rfl
           rotate_left
           ·simp only [Act.put, List.setIfInBounds_toArray, List.set_cons_zero, List.set_cons_succ, i64_w, i32_w]
            rfl
           refine take_ (i := 1) (N := some 62) (v := ?_) (a' := ?_) (bN 20 71) rfl rfl (take_ofW HT_.out HW_.out (by kernel_rfl)) (fun _ _ _ h => h) (Or.inl ⟨by rfl, ?_⟩) hHeld ?_ ?_
           rotate_left
           ·rintro w' ⟨s0, s1, s2, s3, s4, s5, s6, s7⟩
            go_simp
            with_reducible rfl
           rotate_left
           ·simp only [Act.put, List.setIfInBounds_toArray, List.set_cons_zero, List.set_cons_succ, i64_w, i32_w]
            rfl
           refine pure_ (i := 3) (N := some 64) (v := ?_) (a' := ?_) (bN 20 79) rfl rfl (any_of HT_.out (by kernel_rfl)) (fun _ _ _ h => h) (Or.inl ⟨by rfl, ?_⟩) ?_ ?_
           rotate_left
           ·intro w'
            go_simp
            with_reducible rfl
           rotate_left
           ·simp only [Act.put, List.setIfInBounds_toArray, List.set_cons_zero, List.set_cons_succ, i64_w, i32_w]
            rfl
           refine pure_ (i := 4) (N := some 65) (v := ?_) (a' := ?_) (bN 20 95) rfl rfl (any_of HT_.out (by kernel_rfl)) (fun _ _ _ h => h) (Or.inl ⟨by rfl, ?_⟩) ?_ ?_
           rotate_left
           ·intro w'
            go_simp
            with_reducible rfl
           rotate_left
           ·simp only [Act.put, List.setIfInBounds_toArray, List.set_cons_zero, List.set_cons_succ, i64_w, i32_w]
            rfl
           refine take_ (i := 5) (N := some 66) (v := ?_) (a' := ?_) (bN 20 127) rfl rfl (take_ofW HT_.out HW_.out (by kernel_rfl)) (fun _ _ _ h => h) (Or.inl ⟨by rfl, ?_⟩) hHeld ?_ ?_
           rotate_left
           ·rintro w' ⟨s0, s1, s2, s3, s4, s5, s6, s7⟩
            go_simp
            with_reducible rfl
           rotate_left
           ·simp only [Act.put, List.setIfInBounds_toArray, List.set_cons_zero, List.set_cons_succ, i64_w, i32_w]
            rfl
           refine take_ (i := 7) (N := some 68) (v := ?_) (a' := ?_) (bN 20 255) rfl rfl (take_ofW HT_.out HW_.out (by kernel_rfl)) (fun _ _ _ h => h) (Or.inl ⟨by rfl, ?_⟩) hHeld ?_ ?_
           rotate_left
           ·rintro w' ⟨s0, s1, s2, s3, s4, s5, s6, s7⟩
            go_simp
            with_reducible rfl
           rotate_left
           ·simp only [Act.put, List.setIfInBounds_toArray, List.set_cons_zero, List.set_cons_succ, i64_w, i32_w]
            rfl
           refine pure_ (i := 8) (N := some 69) (v := ?_) (a' := ?_) (bN 20 511) rfl rfl (any_of HT_.out (by kernel_rfl)) (fun _ _ _ h => h) (Or.inl ⟨by rfl, ?_⟩) ?_ ?_
           rotate_left
           ·intro w'
            go_simp
            with_reducible rfl
           rotate_left
           ·simp only [Act.put, List.setIfInBounds_toArray, List.set_cons_zero, List.set_cons_succ, i64_w, i32_w]
            rfl
           refine pure_ (i := 9) (N := some 70) (v := ?_) (a' := ?_) (bN 20 1023) rfl rfl (any_of HT_.out (by kernel_rfl)) (fun _ _ _ h => h) (Or.inl ⟨by rfl, ?_⟩) ?_ ?_
           rotate_left
           ·intro w'
            go_simp
            with_reducible rfl
           rotate_left
           ·simp only [Act.put, List.setIfInBounds_toArray, List.set_cons_zero, List.set_cons_succ, i64_w, i32_w]
            rfl
           refine pure_ (i := 10) (N := some 71) (v := undef) (a' := ?_) (bN 20 2047) rfl rfl (any_of HT_.out (by kernel_rfl)) (fun _ _ _ h => h) (Or.inr ⟨by rfl, rfl⟩) ?_ ?_
           rotate_left
           ·simp only [Act.put, List.setIfInBounds_toArray, List.set_cons_zero, List.set_cons_succ, i64_w, i32_w]
            rfl
           refine pure_ (i := 11) (N := some 72) (v := undef) (a' := ?_) (bN 20 4095) rfl rfl (any_of HT_.out (by kernel_rfl)) (fun _ _ _ h => h) (Or.inr ⟨by rfl, rfl⟩) ?_ ?_
           rotate_left
           ·simp only [Act.put, List.setIfInBounds_toArray, List.set_cons_zero, List.set_cons_succ, i64_w, i32_w]
            rfl
           refine pure_ (i := 12) (N := some 73) (v := undef) (a' := ?_) (bN 20 8191) rfl rfl (any_of HT_.out (by kernel_rfl)) (fun _ _ _ h => h) (Or.inr ⟨by rfl, rfl⟩) ?_ ?_
           rotate_left
           ·simp only [Act.put, List.setIfInBounds_toArray, List.set_cons_zero, List.set_cons_succ, i64_w, i32_w]
            rfl
           refine pure_ (i := 13) (N := some 74) (v := undef) (a' := ?_) (bN 20 16383) rfl rfl (any_of HT_.out (by kernel_rfl)) (fun _ _ _ h => h) (Or.inr ⟨by rfl, rfl⟩) ?_ ?_
           rotate_left
           ·simp only [Act.put, List.setIfInBounds_toArray, List.set_cons_zero, List.set_cons_succ, i64_w, i32_w]
            rfl
           refine pure_ (i := 14) (N := some 75) (v := undef) (a' := ?_) (bN 20 32767) rfl rfl (any_of HT_.out (by kernel_rfl)) (fun _ _ _ h => h) (Or.inr ⟨by rfl, rfl⟩) ?_ ?_
           rotate_left
           ·simp only [Act.put, List.setIfInBounds_toArray, List.set_cons_zero, List.set_cons_succ, i64_w, i32_w]
            rfl
           refine pure_ (i := 15) (N := some 76) (v := undef) (a' := ?_) (bN 20 65535) rfl rfl (any_of HT_.out (by kernel_rfl)) (fun _ _ _ h => h) (Or.inr ⟨by rfl, rfl⟩) ?_ ?_
           rotate_left
           ·simp only [Act.put, List.setIfInBounds_toArray, List.set_cons_zero, List.set_cons_succ, i64_w, i32_w]
            rfl
           refine pure_ (i := 16) (N := some 77) (v := undef) (a' := ?_) (bN 20 131071) rfl rfl (any_of HT_.out (by kernel_rfl)) (fun _ _ _ h => h) (Or.inr ⟨by rfl, rfl⟩) ?_ ?_
           rotate_left
           ·simp only [Act.put, List.setIfInBounds_toArray, List.set_cons_zero, List.set_cons_succ, i64_w, i32_w]
            rfl
           refine pure_ (i := 17) (N := some 78) (v := undef) (a' := ?_) (bN 20 262143) rfl rfl (any_of HT_.out (by kernel_rfl)) (fun _ _ _ h => h) (Or.inr ⟨by rfl, rfl⟩) ?_ ?_
           rotate_left
           ·simp only [Act.put, List.setIfInBounds_toArray, List.set_cons_zero, List.set_cons_succ, i64_w, i32_w]
            rfl
           refine pure_ (i := 18) (N := some 79) (v := undef) (a' := ?_) (bN 20 524287) rfl rfl (any_of HT_.out (by kernel_rfl)) (fun _ _ _ h => h) (Or.inr ⟨by rfl, rfl⟩) ?_ ?_
           rotate_left
           ·simp only [Act.put, List.setIfInBounds_toArray, List.set_cons_zero, List.set_cons_succ, i64_w, i32_w]
            rfl
           refine pure_ (i := 19) (N := some 80) (v := ?_) (a' := ?_) (bN 20 1048575) rfl rfl (any_of HT_.out (by kernel_rfl)) (fun _ _ _ h => h) (Or.inl ⟨by rfl, ?_⟩) ?_ ?_
           rotate_left
           ·intro w'
            go_simp
            with_reducible rfl
           rotate_left
           ·simp only [Act.put, List.setIfInBounds_toArray, List.set_cons_zero, List.set_cons_succ, i64_w, i32_w]
            rfl
           refine done_ (done_of HT_.out (by kernel_rfl)) ?_
           try go_wp2
           go_roundg k2
           case measure => have := HK1.out; have := HK2.out; omega
           case rel => exact ⟨(wrap64 (x12_2 + 1)), rfl, H', ⟨by have := HK1.out; have := HK2.out; omega⟩, ⟨by (with_reducible repeat (first | apply Kd.R_alloc | apply Kd.R_drewN | apply Kd.R_drew)); exact HO_219000.out⟩, ⟨by (with_reducible repeat (first | apply Kd.R_alloc | apply Kd.R_drewN | apply Kd.R_drew)); exact HO_219001.out⟩, ⟨by (with_reducible repeat (first | apply Kd.R_alloc | apply Kd.R_drewN | apply Kd.R_drew)); exact HO_231000.out⟩, ⟨by (with_reducible repeat (first | apply Kd.R_alloc | apply Kd.R_drewN | apply Kd.R_drew)); exact HO_231001.out⟩, ⟨by (with_reducible repeat (first | apply Kd.R_alloc | apply Kd.R_drewN | apply Kd.R_drew)); exact HO_231002.out⟩, BK200, BK201, BK202, BK218, BK230, HB⟩
         ·rw [if_neg c60] at H
          exact absurd H (by simp)
        ·rw [if_neg c59] at H
         have c59b0 : decide (x12_2 < (t211.length : Int)) = false := decide_eq_false c59
         clear c59
         replace H := Option.bind_eq_some_iff.mp H
         obtain ⟨⟨t234, t237⟩, A750, H⟩ := H
         replace H : ((call_Serve.f k2 a0_0 a0_1 t234 t237 a2_0 a2_1 a2_2).bind fun bt240 => ((newellaw19_awake.f k2).bind fun t248 => (if t248 = true then (if t229 = 0 then (if bt240.2.2 = 0 then ((call_Same.f k2 bt240.1 bt240.2.1 t211 t214).bind fun t249 => (if t249 = true then (if (wrap64 ((wrap64 ((wrap64 ((l1_0.length : Int) + (l1_1.length : Int))) - (t211.length : Int))) - (t214.length : Int))) ≥ 0 then (if (wrap64 ((wrap64 ((wrap64 ((l1_0.length : Int) + (l1_1.length : Int))) - (t211.length : Int))) - (t214.length : Int))) ≤ 2 then ((call_Check.f k2 a0_0 a0_1 t211 t214).bind fun t250 => (some (t250 == 0))) else (none)) else (none)) else (none))) else (none)) else (none)) else (none)))) = some r := H
         have A75 := Aside0.mk A750
         clear A750
         replace H := Option.bind_eq_some_iff.mp H
         obtain ⟨⟨t240, t243, t246⟩, A760, H⟩ := H
         replace H : ((newellaw19_awake.f k2).bind fun t248 => (if t248 = true then (if t229 = 0 then (if t246 = 0 then ((call_Same.f k2 t240 t243 t211 t214).bind fun t249 => (if t249 = true then (if (wrap64 ((wrap64 ((wrap64 ((l1_0.length : Int) + (l1_1.length : Int))) - (t211.length : Int))) - (t214.length : Int))) ≥ 0 then (if (wrap64 ((wrap64 ((wrap64 ((l1_0.length : Int) + (l1_1.length : Int))) - (t211.length : Int))) - (t214.length : Int))) ≤ 2 then ((call_Check.f k2 a0_0 a0_1 t211 t214).bind fun t250 => (some (t250 == 0))) else (none)) else (none)) else (none))) else (none)) else (none)) else (none))) = some r := H
         have A76 := Aside0.mk A760
         clear A760
         replace H := Option.bind_eq_some_iff.mp H
         obtain ⟨t248, A770, H⟩ := H
         replace H : (if t248 = true then (if t229 = 0 then (if t246 = 0 then ((call_Same.f k2 t240 t243 t211 t214).bind fun t249 => (if t249 = true then (if (wrap64 ((wrap64 ((wrap64 ((l1_0.length : Int) + (l1_1.length : Int))) - (t211.length : Int))) - (t214.length : Int))) ≥ 0 then (if (wrap64 ((wrap64 ((wrap64 ((l1_0.length : Int) + (l1_1.length : Int))) - (t211.length : Int))) - (t214.length : Int))) ≤ 2 then ((call_Check.f k2 a0_0 a0_1 t211 t214).bind fun t250 => (some (t250 == 0))) else (none)) else (none)) else (none))) else (none)) else (none)) else (none)) = some r := H
         have A77 := Aside0.mk A770
         clear A770
         by_cases c78 : t248 = true
         ·subst c78
          have H1 : (if t229 = 0 then (if t246 = 0 then ((call_Same.f k2 t240 t243 t211 t214).bind fun t249 => (if t249 = true then (if (wrap64 ((wrap64 ((wrap64 ((l1_0.length : Int) + (l1_1.length : Int))) - (t211.length : Int))) - (t214.length : Int))) ≥ 0 then (if (wrap64 ((wrap64 ((wrap64 ((l1_0.length : Int) + (l1_1.length : Int))) - (t211.length : Int))) - (t214.length : Int))) ≤ 2 then ((call_Check.f k2 a0_0 a0_1 t211 t214).bind fun t250 => (some (t250 == 0))) else (none)) else (none)) else (none))) else (none)) else (none)) = some r := by rw [if_pos rfl] at H; exact H
          clear H
          have H := H1
          clear H1
          by_cases c79 : t229 = 0
          ·rw [if_pos c79] at H
           have c79b0 : (t229 == 0) = true := beq_iff_eq.mpr c79
           have c79b1 : (t229 != 0) = false := bne_eq_false_iff_eq.mpr c79
           clear c79
           by_cases c80 : t246 = 0
           ·rw [if_pos c80] at H
            have c80b0 : (t246 == 0) = true := beq_iff_eq.mpr c80
            have c80b1 : (t246 != 0) = false := bne_eq_false_iff_eq.mpr c80
            clear c80
            replace H := Option.bind_eq_some_iff.mp H
            obtain ⟨t249, A810, H⟩ := H
            replace H : (if t249 = true then (if (wrap64 ((wrap64 ((wrap64 ((l1_0.length : Int) + (l1_1.length : Int))) - (t211.length : Int))) - (t214.length : Int))) ≥ 0 then (if (wrap64 ((wrap64 ((wrap64 ((l1_0.length : Int) + (l1_1.length : Int))) - (t211.length : Int))) - (t214.length : Int))) ≤ 2 then ((call_Check.f k2 a0_0 a0_1 t211 t214).bind fun t250 => (some (t250 == 0))) else (none)) else (none)) else (none)) = some r := H
            have A81 := Aside0.mk A810
            clear A810
            by_cases c82 : t249 = true
            ·subst c82
             have H1 : (if (wrap64 ((wrap64 ((wrap64 ((l1_0.length : Int) + (l1_1.length : Int))) - (t211.length : Int))) - (t214.length : Int))) ≥ 0 then (if (wrap64 ((wrap64 ((wrap64 ((l1_0.length : Int) + (l1_1.length : Int))) - (t211.length : Int))) - (t214.length : Int))) ≤ 2 then ((call_Check.f k2 a0_0 a0_1 t211 t214).bind fun t250 => (some (t250 == 0))) else (none)) else (none)) = some r := by rw [if_pos rfl] at H; exact H
             clear H
             have H := H1
             clear H1
             by_cases c83 : (wrap64 ((wrap64 ((wrap64 ((l1_0.length : Int) + (l1_1.length : Int))) - (t211.length : Int))) - (t214.length : Int))) ≥ 0
             ·rw [if_pos c83] at H
              have c83b0 : decide (0 ≤ (wrap64 ((wrap64 ((wrap64 ((l1_0.length : Int) + (l1_1.length : Int))) - (t211.length : Int))) - (t214.length : Int)))) = true := decide_eq_true c83
              clear c83
              by_cases c84 : (wrap64 ((wrap64 ((wrap64 ((l1_0.length : Int) + (l1_1.length : Int))) - (t211.length : Int))) - (t214.length : Int))) ≤ 2
              ·rw [if_pos c84] at H
               have c84b0 : decide ((wrap64 ((wrap64 ((wrap64 ((l1_0.length : Int) + (l1_1.length : Int))) - (t211.length : Int))) - (t214.length : Int))) ≤ 2) = true := decide_eq_true c84
               clear c84
               replace H := Option.bind_eq_some_iff.mp H
               obtain ⟨t250, A850, H⟩ := H
               replace H : (some (t250 == 0)) = some r := H
               have A85 := Aside0.mk A850
               clear A850
               obtain rfl := Option.some.inj H
               have hnb86 := NB218_200.out
               have hnc86 := NB200_218.out
               have hnb87 := NB218_201.out
               have hnc87 := NB201_218.out
               have hnb88 := NB218_202.out
               have hnc88 := NB202_218.out
               have hnb89 := NB218_230.out
               have hnc89 := NB230_218.out
               have hcz90_0 : wr.cell? ⟨gb218, 0, none⟩ = some (.slice Ao24 t211.length co24) := (blk_cell BK218.out 0).trans rfl
               have hcz90_1 : wr.cell? ⟨gb218, 1, none⟩ = some (.slice Ao26 t214.length co26) := (blk_cell BK218.out 1).trans rfl
               have hfz90_0 := blk_frozen BK218.out 0
               have hfz90_1 := blk_frozen BK218.out 1
               have hnb91 := NB201_200.out
               have hnc91 := NB200_201.out
               have hnb92 := NB201_202.out
               have hnc92 := NB202_201.out
               have hnb93 := NB201_230.out
               have hnc93 := NB230_201.out
               have hcz94_0 : wr.cell? ⟨gb201, 0, none⟩ = some (.slice A1_0 l1_0.length c1_0) := (blk_cell BK201.out 0).trans rfl
               have hcz94_1 : wr.cell? ⟨gb201, 1, none⟩ = some (.slice A1_1 l1_1.length c1_1) := (blk_cell BK201.out 1).trans rfl
               have hfz94_0 := blk_frozen BK201.out 0
               have hfz94_1 := blk_frozen BK201.out 1
               try go_wp2
               replace HO_219000 := Aside0.mk (Kd.R_drew HO_219000.out)
               replace HO_219001 := Aside0.mk (Kd.R_drew HO_219001.out)
               replace HO_231000 := Aside0.mk (Kd.R_drew HO_231000.out)
               replace HO_231001 := Aside0.mk (Kd.R_drew HO_231001.out)
               replace HO_231002 := Aside0.mk (Kd.R_drew HO_231002.out)
               replace BK200 := Aside0.mk (blk_drew BK200.out)
               replace BK201 := Aside0.mk (blk_drew BK201.out)
               replace BK202 := Aside0.mk (blk_drew BK202.out)
               replace BK218 := Aside0.mk (blk_drew BK218.out)
               replace BK230 := Aside0.mk (blk_drew BK230.out)
               replace HB := Aside0.mk (below_drew1 HB.out)
               refine start_ (n := 11) (S := fun w' => w'.cell? ⟨gb200, 0, none⟩ = some (.int .i64 a0_0) ∧ w'.cell? ⟨gb200, 1, none⟩ = some (.int .i64 a0_1) ∧ w'.cell? ⟨gb218, 0, none⟩ = some (.slice Ao24 t211.length co24) ∧ w'.cell? ⟨gb218, 1, none⟩ = some (.slice Ao26 t214.length co26) ∧ w'.cell? ⟨gb202, 0, none⟩ = some (.int .i64 a2_0) ∧ w'.cell? ⟨gb202, 1, none⟩ = some (.int .i64 a2_1) ∧ w'.cell? ⟨gb202, 2, none⟩ = some (.int .i64 a2_2)) (ds := []) #[false, false, false, false, false, false, false, false, false, false, false] (by kernel_rfl) rfl rfl ⟨(blk_cell BK200.out 0).trans rfl, (blk_cell BK200.out 1).trans rfl, (blk_cell BK218.out 0).trans rfl, (blk_cell BK218.out 1).trans rfl, (blk_cell BK202.out 0).trans rfl, (blk_cell BK202.out 1).trans rfl, (blk_cell BK202.out 2).trans rfl⟩ (fun hHeld => ?_); refine with_tabW newellaw19_CallGone.tab18 newellaw19_CallGone.bits18 (fun HT_ HW_ => ?_)
               generalize wr.drew = w95 at HO_219000 HO_219001 HO_231000 HO_231001 HO_231002 BK200 BK201 BK202 BK218 BK230 HB hHeld ⊢
               refine take_ (i := 0) (N := some 97) (v := ?_) (a' := ?_) (bN 11 1) rfl rfl (take_ofW HT_.out HW_.out (by kernel_rfl)) (fun _ _ _ h => h) (Or.inl ⟨by rfl, ?_⟩) hHeld ?_ ?_
               rotate_left
               ·rintro w' ⟨s0, s1, s2, s3, s4, s5, s6⟩
                go_simp
                with_reducible rfl
               rotate_left
               ·simp only [Act.put, List.setIfInBounds_toArray, List.set_cons_zero, List.set_cons_succ, i64_w, i32_w]
                rfl
               refine take_ (i := 1) (N := some 98) (v := ?_) (a' := ?_) (bN 11 3) rfl rfl (take_ofW HT_.out HW_.out (by kernel_rfl)) (fun _ _ _ h => h) (Or.inl ⟨by rfl, ?_⟩) hHeld ?_ ?_
               rotate_left
               ·rintro w' ⟨s0, s1, s2, s3, s4, s5, s6⟩
                go_simp
                with_reducible rfl
               rotate_left
               ·simp only [Act.put, List.setIfInBounds_toArray, List.set_cons_zero, List.set_cons_succ, i64_w, i32_w]
                rfl
               refine take_ (i := 3) (N := some 100) (v := ?_) (a' := ?_) (bN 11 11) rfl rfl (take_ofW HT_.out HW_.out (by kernel_rfl)) (fun _ _ _ h => h) (Or.inl ⟨by rfl, ?_⟩) hHeld ?_ ?_
               rotate_left
               ·rintro w' ⟨s0, s1, s2, s3, s4, s5, s6⟩
                go_simp
                with_reducible rfl
               rotate_left
               ·simp only [Act.put, List.setIfInBounds_toArray, List.set_cons_zero, List.set_cons_succ, i64_w, i32_w]
                rfl
               refine join_ (σ := Value × Value × Value × Value × Nat) 2 (bN 11 511) (fun s_ => [(99, .agg #[s_.1, s_.2.1]), (101, .tuple #[.agg #[s_.2.2.1, s_.2.2.2.1], .int .i64 t246]), (14, .pointer (some ⟨s_.2.2.2.2, 0, none⟩)), (96, .tuple #[.agg #[s_.2.2.1, s_.2.2.2.1], .int .i64 t246]), (102, .agg #[s_.2.2.1, s_.2.2.2.1]), (103, .int .i64 t246)]) (fun s_ w' => (w'.cell? ⟨gb200, 0, none⟩ = some (.int .i64 a0_0) ∧ w'.cell? ⟨gb200, 1, none⟩ = some (.int .i64 a0_1) ∧ w'.cell? ⟨gb218, 0, none⟩ = some (.slice Ao24 t211.length co24) ∧ w'.cell? ⟨gb218, 1, none⟩ = some (.slice Ao26 t214.length co26) ∧ w'.cell? ⟨gb202, 0, none⟩ = some (.int .i64 a2_0) ∧ w'.cell? ⟨gb202, 1, none⟩ = some (.int .i64 a2_1) ∧ w'.cell? ⟨gb202, 2, none⟩ = some (.int .i64 a2_2)) ∧ (Kd.R k56 56 w' w.heap.size (fun k_ => some k_ ≠ (s_.2.2.1 : Value).ownBlock ∧ some k_ ≠ (.slice Ao24 t211.length co24 : Value).ownBlock) s_.1 t234) ∧ (Kd.R k62 62 w' w.heap.size (fun k_ => some k_ ≠ (s_.2.2.2.1 : Value).ownBlock ∧ some k_ ≠ (.slice Ao26 t214.length co26 : Value).ownBlock) s_.2.1 t237) ∧ (Kd.R k56 56 w' w.heap.size (fun k_ => some k_ ≠ (s_.1 : Value).ownBlock ∧ some k_ ≠ (.slice Ao24 t211.length co24 : Value).ownBlock) s_.2.2.1 t240) ∧ (Kd.R k62 62 w' w.heap.size (fun k_ => some k_ ≠ (s_.2.1 : Value).ownBlock ∧ some k_ ≠ (.slice Ao26 t214.length co26 : Value).ownBlock) s_.2.2.2.1 t243) ∧ (Kd.R k56 56 w' w.heap.size (fun k_ => some k_ ≠ (s_.1 : Value).ownBlock ∧ some k_ ≠ (s_.2.2.1 : Value).ownBlock) (.slice Ao24 t211.length co24) t211) ∧ (Kd.R k62 62 w' w.heap.size (fun k_ => some k_ ≠ (s_.2.1 : Value).ownBlock ∧ some k_ ≠ (s_.2.2.2.1 : Value).ownBlock) (.slice Ao26 t214.length co26) t214) ∧ (Kd.R (Kd.int .i64) 3 w' w.heap.size (fun k_ => some k_ ≠ (.slice Ao43 t223.length co43 : Value).ownBlock ∧ some k_ ≠ (.slice Ao44 t226.length co44 : Value).ownBlock) (.slice Ao37 t220.length co37) t220) ∧ (Kd.R (Kd.int .i64) 3 w' w.heap.size (fun k_ => some k_ ≠ (.slice Ao37 t220.length co37 : Value).ownBlock ∧ some k_ ≠ (.slice Ao44 t226.length co44 : Value).ownBlock) (.slice Ao43 t223.length co43) t223) ∧ (Kd.R (Kd.int .i64) 3 w' w.heap.size (fun k_ => some k_ ≠ (.slice Ao37 t220.length co37 : Value).ownBlock ∧ some k_ ≠ (.slice Ao43 t223.length co43 : Value).ownBlock) (.slice Ao44 t226.length co44) t226) ∧ (w'.heap[gb200]? = some (.cells #[.int .i64 a0_0, .int .i64 a0_1] 23 (0, 0))) ∧ (w'.heap[gb201]? = some (.cells #[.slice A1_0 l1_0.length c1_0, .slice A1_1 l1_1.length c1_1] 27 (0, 0))) ∧ (w'.heap[gb202]? = some (.cells #[.int .i64 a2_0, .int .i64 a2_1, .int .i64 a2_2] 43 (0, 0))) ∧ (w'.heap[gb218]? = some (.cells #[.slice Ao24 t211.length co24, .slice Ao26 t214.length co26] 27 (0, 0))) ∧ (w'.heap[gb230]? = some (.cells #[.slice Ao37 t220.length co37, .slice Ao43 t223.length co43, .slice Ao44 t226.length co44] 47 (0, 0))) ∧ (w'.heap[s_.2.2.2.2]? = some (.cells #[.slice none 0 0, .slice none 0 0] 27 (0, 0))) ∧ (w.heap.size ≤ s_.2.2.2.2) ∧ (w.heap.size ≤ s_.2.2.2.2) ∧ (gb200 ≠ s_.2.2.2.2) ∧ (s_.2.2.2.2 ≠ gb200) ∧ (gb201 ≠ s_.2.2.2.2) ∧ (s_.2.2.2.2 ≠ gb201) ∧ (gb202 ≠ s_.2.2.2.2) ∧ (s_.2.2.2.2 ≠ gb202) ∧ (gb218 ≠ s_.2.2.2.2) ∧ (s_.2.2.2.2 ≠ gb218) ∧ (gb230 ≠ s_.2.2.2.2) ∧ (s_.2.2.2.2 ≠ gb230) ∧ (Below w.heap.size w w')) ?_ ?_
               rotate_left
               ·intro hCont
                refine two_ (i := 2) (j := 8) (Ni := some 99) (Nj := some 14) (bN 11 15) (bN 11 267) rfl rfl rfl rfl (two_of HT_.out (by kernel_rfl)) (by decide) (by decide) (fun K hK => ?_) (fun K hK => ?_)
                ·skip
                 refine goes_ Try.func12 (by kernel_rfl) rfl #[.agg #[.slice Ao24 t211.length co24, .slice Ao26 t214.length co26]] (by rfl) rfl rfl (by simp only [List.map_toArray, List.map_cons, List.map_nil] <;> rfl) ?_
                 with_reducible refine (newellaw19_Own.calls _ _ t211 _ _ t214 t234 t237 _ ?side1 ?side2 ?side3 ?side4 A75.out).mono ?_
                 (case side1 => exact (Kd.R_reads' HO_219000.out).2.2)
                 (case side2 => exact (Kd.R_reads' HO_219000.out).2.1)
                 (case side3 => exact (Kd.R_reads' HO_219001.out).2.2)
                 (case side4 => exact (Kd.R_reads' HO_219001.out).2.1)
                 rintro e w96 ⟨v235, v238, rfl, ho0, ho1, hb⟩
                 refine ⟨_, rfl, ?_⟩
                 have HO236 := Aside0.mk (Kd.R_lower (Kd.R_new' ho0 (Kd.R_lt HO_219000.out)) (below_size HB.out))
                 have HO239 := Aside0.mk (Kd.R_lower (Kd.R_new' ho1 (Kd.R_lt HO_219001.out)) (below_size HB.out))
                 replace HO_219000 := Aside0.mk (Kd.R_elder' HO_219000.out (Kd.R_base ho0) hb)
                 replace HO_219001 := Aside0.mk (Kd.R_elder' HO_219001.out (Kd.R_base ho1) hb)
                 replace HO_231000 := sRb HO_231000 hb
                 replace HO_231001 := sRb HO_231001 hb
                 replace HO_231002 := sRb HO_231002 hb
                 replace BK200 := sBk BK200 hb
                 replace BK201 := sBk BK201 hb
                 replace BK202 := sBk BK202 hb
                 replace BK218 := sBk BK218 hb
                 replace BK230 := sBk BK230 hb
                 replace HB := sHb hb
                 (try clear hb)
                 (try clear hb2)
                 (try clear hk)
                 (try clear hi)
                 (try clear ho0)
                 (try clear ho1)
                 obtain ⟨Ao97, co97, eo97⟩ := Kd.R_slice HO236.out
                 (first | subst eo97 | (injection eo97 with f1_ f2_ f3_; have f4_ := f1_.symm; have f5_ := f3_.symm; clear f1_ f2_ f3_; subst f4_; subst f5_))
                 obtain ⟨Ao98, co98, eo98⟩ := Kd.R_slice HO239.out
                 (first | subst eo98 | (injection eo98 with f1_ f2_ f3_; have f4_ := f1_.symm; have f5_ := f3_.symm; clear f1_ f2_ f3_; subst f4_; subst f5_))
                 refine hK.out _ _ ⟨(blk_cell BK200.out 0).trans rfl, (blk_cell BK200.out 1).trans rfl, (blk_cell BK218.out 0).trans rfl, (blk_cell BK218.out 1).trans rfl, (blk_cell BK202.out 0).trans rfl, (blk_cell BK202.out 1).trans rfl, (blk_cell BK202.out 2).trans rfl⟩ (fun hHeld => ?_)
                 clear hK K
                 refine norm_ (a' := ?_) ?_ ?_
                 rotate_left
                 ·show Act.put _ (some 99) _ = _
                  simp only [Act.put, List.setIfInBounds_toArray, List.set_cons_zero, List.set_cons_succ, i64_w, i32_w]
                  rfl
                 refine two_ (i := 4) (j := 8) (Ni := some 101) (Nj := some 14) (bN 11 31) (bN 11 271) rfl rfl rfl rfl (two_of HT_.out (by kernel_rfl)) (by decide) (by decide) (fun K hK => ?_) (fun K hK => ?_)
                 ·skip
                  refine goes_ Try.func18 (by kernel_rfl) rfl #[.agg #[.int .i64 a0_0, .int .i64 a0_1], .agg #[.slice Ao97 t234.length co97, .slice Ao98 t237.length co98], .agg #[.int .i64 a2_0, .int .i64 a2_1, .int .i64 a2_2]] (by rfl) rfl rfl (by simp only [List.map_toArray, List.map_cons, List.map_nil] <;> rfl) ?_
                  with_reducible refine (call_Serve.calls k2 a0_0 a0_1 _ _ t234 _ _ t237 a2_0 a2_1 a2_2 t240 t243 t246 _ ?side1 ?side2 ?side3 ?side4 A76.out).mono ?_
                  (case side1 => exact (Kd.R_reads' HO236.out).2.2)
                  (case side2 => exact (Kd.R_reads' HO236.out).2.1)
                  (case side3 => exact (Kd.R_reads' HO239.out).2.2)
                  (case side4 => exact (Kd.R_reads' HO239.out).2.1)
                  rintro e w99 ⟨v241, v244, rfl, ho0, ho1, hb⟩
                  refine ⟨_, rfl, ?_⟩
                  have HO242 := Aside0.mk (Kd.R_lower (Kd.R_new' (Kd.R_new' ho0 (Kd.R_lt HO_219000.out)) (Kd.R_lt HO236.out)) (below_size HB.out))
                  have HO245 := Aside0.mk (Kd.R_lower (Kd.R_new' (Kd.R_new' ho1 (Kd.R_lt HO_219001.out)) (Kd.R_lt HO239.out)) (below_size HB.out))
                  replace HO_219000 := Aside0.mk (Kd.R_elder' HO_219000.out (Kd.R_base ho0) hb)
                  replace HO_219001 := Aside0.mk (Kd.R_elder' HO_219001.out (Kd.R_base ho1) hb)
                  replace HO_231000 := sRb HO_231000 hb
                  replace HO_231001 := sRb HO_231001 hb
                  replace HO_231002 := sRb HO_231002 hb
                  replace HO236 := Aside0.mk (Kd.R_elder' HO236.out (Kd.R_base ho0) hb)
                  replace HO239 := Aside0.mk (Kd.R_elder' HO239.out (Kd.R_base ho1) hb)
                  replace BK200 := sBk BK200 hb
                  replace BK201 := sBk BK201 hb
                  replace BK202 := sBk BK202 hb
                  replace BK218 := sBk BK218 hb
                  replace BK230 := sBk BK230 hb
                  replace HB := sHb hb
                  (try clear hb)
                  (try clear hb2)
                  (try clear hk)
                  (try clear hi)
                  (try clear ho0)
                  (try clear ho1)
                  refine hK.out _ _ ⟨(blk_cell BK200.out 0).trans rfl, (blk_cell BK200.out 1).trans rfl, (blk_cell BK218.out 0).trans rfl, (blk_cell BK218.out 1).trans rfl, (blk_cell BK202.out 0).trans rfl, (blk_cell BK202.out 1).trans rfl, (blk_cell BK202.out 2).trans rfl⟩ (fun hHeld => ?_)
                  clear hK K
                  refine norm_ (a' := ?_) ?_ ?_
                  rotate_left
                  ·show Act.put _ (some 101) _ = _
                   simp only [Act.put, List.setIfInBounds_toArray, List.set_cons_zero, List.set_cons_succ, i64_w, i32_w]
                   rfl
                  refine pure_ (i := 5) (N := some 96) (v := ?_) (a' := ?_) (bN 11 63) rfl rfl (any_of HT_.out (by kernel_rfl)) (fun _ _ _ h => h) (Or.inl ⟨by rfl, ?_⟩) ?_ ?_
                  rotate_left
                  ·intro w'
                   go_simp
                   with_reducible rfl
                  rotate_left
                  ·simp only [Act.put, List.setIfInBounds_toArray, List.set_cons_zero, List.set_cons_succ, i64_w, i32_w]
                   rfl
                  refine pure_ (i := 6) (N := some 102) (v := ?_) (a' := ?_) (bN 11 127) rfl rfl (any_of HT_.out (by kernel_rfl)) (fun _ _ _ h => h) (Or.inl ⟨by rfl, ?_⟩) ?_ ?_
                  rotate_left
                  ·intro w'
                   go_simp
                   with_reducible rfl
                  rotate_left
                  ·simp only [Act.put, List.setIfInBounds_toArray, List.set_cons_zero, List.set_cons_succ, i64_w, i32_w]
                   rfl
                  refine pure_ (i := 7) (N := some 103) (v := ?_) (a' := ?_) (bN 11 255) rfl rfl (any_of HT_.out (by kernel_rfl)) (fun _ _ _ h => h) (Or.inl ⟨by rfl, ?_⟩) ?_ ?_
                  rotate_left
                  ·intro w'
                   go_simp
                   with_reducible rfl
                  rotate_left
                  ·simp only [Act.put, List.setIfInBounds_toArray, List.set_cons_zero, List.set_cons_succ, i64_w, i32_w]
                   rfl
                  refine one_ (i := 8) (N := some 14) (bN 11 511) rfl rfl (one_of HT_.out (by kernel_rfl)) (by decide) (fun K hK => ?_)
                  refine box_step ?hg (N := 14) ?hd (cs := #[.slice none 0 0, .slice none 0 0]) (t := 27) ?hr ?_; (case hd => rfl); (case hg => rfl); (case hr => go_simp <;> rfl)
                  intro gb247 hg w100 hbox hb
                  have BK247 := Aside0.mk hbox
                  have GW247 := sGe hg
                  have GE247 := sGe hg
                  have NB200_247 := sNl BK200 hg
                  have NB247_200 := sNg BK200 hg
                  have NB201_247 := sNl BK201 hg
                  have NB247_201 := sNg BK201 hg
                  have NB202_247 := sNl BK202 hg
                  have NB247_202 := sNg BK202 hg
                  have NB218_247 := sNl BK218 hg
                  have NB247_218 := sNg BK218 hg
                  have NB230_247 := sNl BK230 hg
                  have NB247_230 := sNg BK230 hg
                  replace HO_219000 := sRb HO_219000 hb
                  replace HO_219001 := sRb HO_219001 hb
                  replace HO_231000 := sRb HO_231000 hb
                  replace HO_231001 := sRb HO_231001 hb
                  replace HO_231002 := sRb HO_231002 hb
                  replace HO236 := sRb HO236 hb
                  replace HO239 := sRb HO239 hb
                  replace HO242 := sRb HO242 hb
                  replace HO245 := sRb HO245 hb
                  replace BK200 := sBk BK200 hb
                  replace BK201 := sBk BK201 hb
                  replace BK202 := sBk BK202 hb
                  replace BK218 := sBk BK218 hb
                  replace BK230 := sBk BK230 hb
                  replace HB := sHb hb
                  clear hb hbox hg
                  refine hK.out _ _ ⟨(blk_cell BK200.out 0).trans rfl, (blk_cell BK200.out 1).trans rfl, (blk_cell BK218.out 0).trans rfl, (blk_cell BK218.out 1).trans rfl, (blk_cell BK202.out 0).trans rfl, (blk_cell BK202.out 1).trans rfl, (blk_cell BK202.out 2).trans rfl⟩ (fun hHeld => ?_)
                  clear hK K
                  refine norm_ (a' := ?_) ?_ ?_
                  rotate_left
                  ·show Act.put _ (some 14) _ = _
                   simp only [Act.put, List.setIfInBounds_toArray, List.set_cons_zero, List.set_cons_succ, i64_w, i32_w]
                   rfl
                  exact norm_ (by simp only [putAll, Act.put, List.setIfInBounds_toArray, List.set_cons_zero, List.set_cons_succ]) (hCont (.slice Ao97 t234.length co97, .slice Ao98 t237.length co98, v241, v244, gb247) _ ⟨hHeld, (by (with_reducible repeat (first | apply Kd.R_alloc | apply Kd.R_drewN | apply Kd.R_drew)); exact Kd.R_mono HO236.out (fun _ hk => ⟨hk.2, hk.1.2⟩)), (by (with_reducible repeat (first | apply Kd.R_alloc | apply Kd.R_drewN | apply Kd.R_drew)); exact Kd.R_mono HO239.out (fun _ hk => ⟨hk.2, hk.1.2⟩)), (by (with_reducible repeat (first | apply Kd.R_alloc | apply Kd.R_drewN | apply Kd.R_drew)); exact Kd.R_mono HO242.out (fun _ hk => ⟨hk.2, hk.1.2⟩)), (by (with_reducible repeat (first | apply Kd.R_alloc | apply Kd.R_drewN | apply Kd.R_drew)); exact Kd.R_mono HO245.out (fun _ hk => ⟨hk.2, hk.1.2⟩)), (by (with_reducible repeat (first | apply Kd.R_alloc | apply Kd.R_drewN | apply Kd.R_drew)); exact Kd.R_mono HO_219000.out (fun _ hk => ⟨hk.1.2, hk.2⟩)), (by (with_reducible repeat (first | apply Kd.R_alloc | apply Kd.R_drewN | apply Kd.R_drew)); exact Kd.R_mono HO_219001.out (fun _ hk => ⟨hk.1.2, hk.2⟩)), HO_231000.out, HO_231001.out, HO_231002.out, BK200.out, BK201.out, BK202.out, BK218.out, BK230.out, BK247.out, GW247.out, GE247.out, NB200_247.out, NB247_200.out, NB201_247.out, NB247_201.out, NB202_247.out, NB247_202.out, NB218_247.out, NB247_218.out, NB230_247.out, NB247_230.out, HB.out⟩)
                 ·skip
                  refine box_step ?hg (N := 14) ?hd (cs := #[.slice none 0 0, .slice none 0 0]) (t := 27) ?hr ?_; (case hd => rfl); (case hg => rfl); (case hr => go_simp <;> rfl)
                  intro gb247 hg w97 hbox hb
                  have BK247 := Aside0.mk hbox
                  have GW247 := sGe hg
                  have GE247 := sGe hg
                  have NB200_247 := sNl BK200 hg
                  have NB247_200 := sNg BK200 hg
                  have NB201_247 := sNl BK201 hg
                  have NB247_201 := sNg BK201 hg
                  have NB202_247 := sNl BK202 hg
                  have NB247_202 := sNg BK202 hg
                  have NB218_247 := sNl BK218 hg
                  have NB247_218 := sNg BK218 hg
                  have NB230_247 := sNl BK230 hg
                  have NB247_230 := sNg BK230 hg
                  replace HO_219000 := sRb HO_219000 hb
                  replace HO_219001 := sRb HO_219001 hb
                  replace HO_231000 := sRb HO_231000 hb
                  replace HO_231001 := sRb HO_231001 hb
                  replace HO_231002 := sRb HO_231002 hb
                  replace HO236 := sRb HO236 hb
                  replace HO239 := sRb HO239 hb
                  replace BK200 := sBk BK200 hb
                  replace BK201 := sBk BK201 hb
                  replace BK202 := sBk BK202 hb
                  replace BK218 := sBk BK218 hb
                  replace BK230 := sBk BK230 hb
                  replace HB := sHb hb
                  clear hb hbox hg
                  obtain ⟨Ao98, co98, eo98⟩ := Kd.R_slice HO236.out
                  (first | subst eo98 | (injection eo98 with f1_ f2_ f3_; have f4_ := f1_.symm; have f5_ := f3_.symm; clear f1_ f2_ f3_; subst f4_; subst f5_))
                  obtain ⟨Ao99, co99, eo99⟩ := Kd.R_slice HO239.out
                  (first | subst eo99 | (injection eo99 with f1_ f2_ f3_; have f4_ := f1_.symm; have f5_ := f3_.symm; clear f1_ f2_ f3_; subst f4_; subst f5_))
                  refine hK.out _ _ ⟨(blk_cell BK200.out 0).trans rfl, (blk_cell BK200.out 1).trans rfl, (blk_cell BK218.out 0).trans rfl, (blk_cell BK218.out 1).trans rfl, (blk_cell BK202.out 0).trans rfl, (blk_cell BK202.out 1).trans rfl, (blk_cell BK202.out 2).trans rfl⟩ (fun hHeld => ?_)
                  clear hK K
                  refine norm_ (a' := ?_) ?_ ?_
                  rotate_left
                  ·show Act.put _ (some 14) _ = _
                   simp only [Act.put, List.setIfInBounds_toArray, List.set_cons_zero, List.set_cons_succ, i64_w, i32_w]
                   rfl
                  refine one_ (i := 4) (N := some 101) (bN 11 287) rfl rfl (one_of HT_.out (by kernel_rfl)) (by decide) (fun K hK => ?_)
                  refine goes_ Try.func18 (by kernel_rfl) rfl #[.agg #[.int .i64 a0_0, .int .i64 a0_1], .agg #[.slice Ao98 t234.length co98, .slice Ao99 t237.length co99], .agg #[.int .i64 a2_0, .int .i64 a2_1, .int .i64 a2_2]] (by rfl) rfl rfl (by simp only [List.map_toArray, List.map_cons, List.map_nil] <;> rfl) ?_
                  with_reducible refine (call_Serve.calls k2 a0_0 a0_1 _ _ t234 _ _ t237 a2_0 a2_1 a2_2 t240 t243 t246 _ ?side1 ?side2 ?side3 ?side4 A76.out).mono ?_
                  (case side1 => exact (Kd.R_reads' HO236.out).2.2)
                  (case side2 => exact (Kd.R_reads' HO236.out).2.1)
                  (case side3 => exact (Kd.R_reads' HO239.out).2.2)
                  (case side4 => exact (Kd.R_reads' HO239.out).2.1)
                  rintro e w100 ⟨v241, v244, rfl, ho0, ho1, hb⟩
                  refine ⟨_, rfl, ?_⟩
                  have HO242 := Aside0.mk (Kd.R_lower (Kd.R_new' (Kd.R_new' ho0 (Kd.R_lt HO_219000.out)) (Kd.R_lt HO236.out)) (below_size HB.out))
                  have HO245 := Aside0.mk (Kd.R_lower (Kd.R_new' (Kd.R_new' ho1 (Kd.R_lt HO_219001.out)) (Kd.R_lt HO239.out)) (below_size HB.out))
                  replace HO_219000 := Aside0.mk (Kd.R_elder' HO_219000.out (Kd.R_base ho0) hb)
                  replace HO_219001 := Aside0.mk (Kd.R_elder' HO_219001.out (Kd.R_base ho1) hb)
                  replace HO_231000 := sRb HO_231000 hb
                  replace HO_231001 := sRb HO_231001 hb
                  replace HO_231002 := sRb HO_231002 hb
                  replace HO236 := Aside0.mk (Kd.R_elder' HO236.out (Kd.R_base ho0) hb)
                  replace HO239 := Aside0.mk (Kd.R_elder' HO239.out (Kd.R_base ho1) hb)
                  replace BK200 := sBk BK200 hb
                  replace BK201 := sBk BK201 hb
                  replace BK202 := sBk BK202 hb
                  replace BK218 := sBk BK218 hb
                  replace BK230 := sBk BK230 hb
                  replace BK247 := sBk BK247 hb
                  replace HB := sHb hb
                  (try clear hb)
                  (try clear hb2)
                  (try clear hk)
                  (try clear hi)
                  (try clear ho0)
                  (try clear ho1)
                  refine hK.out _ _ ⟨(blk_cell BK200.out 0).trans rfl, (blk_cell BK200.out 1).trans rfl, (blk_cell BK218.out 0).trans rfl, (blk_cell BK218.out 1).trans rfl, (blk_cell BK202.out 0).trans rfl, (blk_cell BK202.out 1).trans rfl, (blk_cell BK202.out 2).trans rfl⟩ (fun hHeld => ?_)
                  clear hK K
                  refine norm_ (a' := ?_) ?_ ?_
                  rotate_left
                  ·show Act.put _ (some 101) _ = _
                   simp only [Act.put, List.setIfInBounds_toArray, List.set_cons_zero, List.set_cons_succ, i64_w, i32_w]
                   rfl
                  refine pure_ (i := 5) (N := some 96) (v := ?_) (a' := ?_) (bN 11 319) rfl rfl (any_of HT_.out (by kernel_rfl)) (fun _ _ _ h => h) (Or.inl ⟨by rfl, ?_⟩) ?_ ?_
                  rotate_left
                  ·intro w'
                   go_simp
                   with_reducible rfl
                  rotate_left
                  ·simp only [Act.put, List.setIfInBounds_toArray, List.set_cons_zero, List.set_cons_succ, i64_w, i32_w]
                   rfl
                  refine pure_ (i := 6) (N := some 102) (v := ?_) (a' := ?_) (bN 11 383) rfl rfl (any_of HT_.out (by kernel_rfl)) (fun _ _ _ h => h) (Or.inl ⟨by rfl, ?_⟩) ?_ ?_
                  rotate_left
                  ·intro w'
                   go_simp
                   with_reducible rfl
                  rotate_left
                  ·simp only [Act.put, List.setIfInBounds_toArray, List.set_cons_zero, List.set_cons_succ, i64_w, i32_w]
                   rfl
                  refine pure_ (i := 7) (N := some 103) (v := ?_) (a' := ?_) (bN 11 511) rfl rfl (any_of HT_.out (by kernel_rfl)) (fun _ _ _ h => h) (Or.inl ⟨by rfl, ?_⟩) ?_ ?_
                  rotate_left
                  ·intro w'
                   go_simp
                   with_reducible rfl
                  rotate_left
                  ·simp only [Act.put, List.setIfInBounds_toArray, List.set_cons_zero, List.set_cons_succ, i64_w, i32_w]
                   rfl
                  exact norm_ (by simp only [putAll, Act.put, List.setIfInBounds_toArray, List.set_cons_zero, List.set_cons_succ]) (hCont (.slice Ao98 t234.length co98, .slice Ao99 t237.length co99, v241, v244, gb247) _ ⟨hHeld, (by (with_reducible repeat (first | apply Kd.R_alloc | apply Kd.R_drewN | apply Kd.R_drew)); exact Kd.R_mono HO236.out (fun _ hk => ⟨hk.2, hk.1.2⟩)), (by (with_reducible repeat (first | apply Kd.R_alloc | apply Kd.R_drewN | apply Kd.R_drew)); exact Kd.R_mono HO239.out (fun _ hk => ⟨hk.2, hk.1.2⟩)), (by (with_reducible repeat (first | apply Kd.R_alloc | apply Kd.R_drewN | apply Kd.R_drew)); exact Kd.R_mono HO242.out (fun _ hk => ⟨hk.2, hk.1.2⟩)), (by (with_reducible repeat (first | apply Kd.R_alloc | apply Kd.R_drewN | apply Kd.R_drew)); exact Kd.R_mono HO245.out (fun _ hk => ⟨hk.2, hk.1.2⟩)), (by (with_reducible repeat (first | apply Kd.R_alloc | apply Kd.R_drewN | apply Kd.R_drew)); exact Kd.R_mono HO_219000.out (fun _ hk => ⟨hk.1.2, hk.2⟩)), (by (with_reducible repeat (first | apply Kd.R_alloc | apply Kd.R_drewN | apply Kd.R_drew)); exact Kd.R_mono HO_219001.out (fun _ hk => ⟨hk.1.2, hk.2⟩)), HO_231000.out, HO_231001.out, HO_231002.out, BK200.out, BK201.out, BK202.out, BK218.out, BK230.out, BK247.out, GW247.out, GE247.out, NB200_247.out, NB247_200.out, NB201_247.out, NB247_201.out, NB202_247.out, NB247_202.out, NB218_247.out, NB247_218.out, NB230_247.out, NB247_230.out, HB.out⟩)
                ·skip
                 refine box_step ?hg (N := 14) ?hd (cs := #[.slice none 0 0, .slice none 0 0]) (t := 27) ?hr ?_; (case hd => rfl); (case hg => rfl); (case hr => go_simp <;> rfl)
                 intro gb247 hg w96 hbox hb
                 have BK247 := Aside0.mk hbox
                 have GW247 := sGe hg
                 have GE247 := sGe hg
                 have NB200_247 := sNl BK200 hg
                 have NB247_200 := sNg BK200 hg
                 have NB201_247 := sNl BK201 hg
                 have NB247_201 := sNg BK201 hg
                 have NB202_247 := sNl BK202 hg
                 have NB247_202 := sNg BK202 hg
                 have NB218_247 := sNl BK218 hg
                 have NB247_218 := sNg BK218 hg
                 have NB230_247 := sNl BK230 hg
                 have NB247_230 := sNg BK230 hg
                 replace HO_219000 := sRb HO_219000 hb
                 replace HO_219001 := sRb HO_219001 hb
                 replace HO_231000 := sRb HO_231000 hb
                 replace HO_231001 := sRb HO_231001 hb
                 replace HO_231002 := sRb HO_231002 hb
                 replace BK200 := sBk BK200 hb
                 replace BK201 := sBk BK201 hb
                 replace BK202 := sBk BK202 hb
                 replace BK218 := sBk BK218 hb
                 replace BK230 := sBk BK230 hb
                 replace HB := sHb hb
                 clear hb hbox hg
                 refine hK.out _ _ ⟨(blk_cell BK200.out 0).trans rfl, (blk_cell BK200.out 1).trans rfl, (blk_cell BK218.out 0).trans rfl, (blk_cell BK218.out 1).trans rfl, (blk_cell BK202.out 0).trans rfl, (blk_cell BK202.out 1).trans rfl, (blk_cell BK202.out 2).trans rfl⟩ (fun hHeld => ?_)
                 clear hK K
                 refine norm_ (a' := ?_) ?_ ?_
                 rotate_left
                 ·show Act.put _ (some 14) _ = _
                  simp only [Act.put, List.setIfInBounds_toArray, List.set_cons_zero, List.set_cons_succ, i64_w, i32_w]
                  rfl
                 refine one_ (i := 2) (N := some 99) (bN 11 271) rfl rfl (one_of HT_.out (by kernel_rfl)) (by decide) (fun K hK => ?_)
                 refine goes_ Try.func12 (by kernel_rfl) rfl #[.agg #[.slice Ao24 t211.length co24, .slice Ao26 t214.length co26]] (by rfl) rfl rfl (by simp only [List.map_toArray, List.map_cons, List.map_nil] <;> rfl) ?_
                 with_reducible refine (newellaw19_Own.calls _ _ t211 _ _ t214 t234 t237 _ ?side1 ?side2 ?side3 ?side4 A75.out).mono ?_
                 (case side1 => exact (Kd.R_reads' HO_219000.out).2.2)
                 (case side2 => exact (Kd.R_reads' HO_219000.out).2.1)
                 (case side3 => exact (Kd.R_reads' HO_219001.out).2.2)
                 (case side4 => exact (Kd.R_reads' HO_219001.out).2.1)
                 rintro e w97 ⟨v235, v238, rfl, ho0, ho1, hb⟩
                 refine ⟨_, rfl, ?_⟩
                 have HO236 := Aside0.mk (Kd.R_lower (Kd.R_new' ho0 (Kd.R_lt HO_219000.out)) (below_size HB.out))
                 have HO239 := Aside0.mk (Kd.R_lower (Kd.R_new' ho1 (Kd.R_lt HO_219001.out)) (below_size HB.out))
                 replace HO_219000 := Aside0.mk (Kd.R_elder' HO_219000.out (Kd.R_base ho0) hb)
                 replace HO_219001 := Aside0.mk (Kd.R_elder' HO_219001.out (Kd.R_base ho1) hb)
                 replace HO_231000 := sRb HO_231000 hb
                 replace HO_231001 := sRb HO_231001 hb
                 replace HO_231002 := sRb HO_231002 hb
                 replace BK200 := sBk BK200 hb
                 replace BK201 := sBk BK201 hb
                 replace BK202 := sBk BK202 hb
                 replace BK218 := sBk BK218 hb
                 replace BK230 := sBk BK230 hb
                 replace BK247 := sBk BK247 hb
                 replace HB := sHb hb
                 (try clear hb)
                 (try clear hb2)
                 (try clear hk)
                 (try clear hi)
                 (try clear ho0)
                 (try clear ho1)
                 obtain ⟨Ao98, co98, eo98⟩ := Kd.R_slice HO236.out
                 (first | subst eo98 | (injection eo98 with f1_ f2_ f3_; have f4_ := f1_.symm; have f5_ := f3_.symm; clear f1_ f2_ f3_; subst f4_; subst f5_))
                 obtain ⟨Ao99, co99, eo99⟩ := Kd.R_slice HO239.out
                 (first | subst eo99 | (injection eo99 with f1_ f2_ f3_; have f4_ := f1_.symm; have f5_ := f3_.symm; clear f1_ f2_ f3_; subst f4_; subst f5_))
                 refine hK.out _ _ ⟨(blk_cell BK200.out 0).trans rfl, (blk_cell BK200.out 1).trans rfl, (blk_cell BK218.out 0).trans rfl, (blk_cell BK218.out 1).trans rfl, (blk_cell BK202.out 0).trans rfl, (blk_cell BK202.out 1).trans rfl, (blk_cell BK202.out 2).trans rfl⟩ (fun hHeld => ?_)
                 clear hK K
                 refine norm_ (a' := ?_) ?_ ?_
                 rotate_left
                 ·show Act.put _ (some 99) _ = _
                  simp only [Act.put, List.setIfInBounds_toArray, List.set_cons_zero, List.set_cons_succ, i64_w, i32_w]
                  rfl
                 refine one_ (i := 4) (N := some 101) (bN 11 287) rfl rfl (one_of HT_.out (by kernel_rfl)) (by decide) (fun K hK => ?_)
                 refine goes_ Try.func18 (by kernel_rfl) rfl #[.agg #[.int .i64 a0_0, .int .i64 a0_1], .agg #[.slice Ao98 t234.length co98, .slice Ao99 t237.length co99], .agg #[.int .i64 a2_0, .int .i64 a2_1, .int .i64 a2_2]] (by rfl) rfl rfl (by simp only [List.map_toArray, List.map_cons, List.map_nil] <;> rfl) ?_
                 with_reducible refine (call_Serve.calls k2 a0_0 a0_1 _ _ t234 _ _ t237 a2_0 a2_1 a2_2 t240 t243 t246 _ ?side1 ?side2 ?side3 ?side4 A76.out).mono ?_
                 (case side1 => exact (Kd.R_reads' HO236.out).2.2)
                 (case side2 => exact (Kd.R_reads' HO236.out).2.1)
                 (case side3 => exact (Kd.R_reads' HO239.out).2.2)
                 (case side4 => exact (Kd.R_reads' HO239.out).2.1)
                 rintro e w100 ⟨v241, v244, rfl, ho0, ho1, hb⟩
                 refine ⟨_, rfl, ?_⟩
                 have HO242 := Aside0.mk (Kd.R_lower (Kd.R_new' (Kd.R_new' ho0 (Kd.R_lt HO_219000.out)) (Kd.R_lt HO236.out)) (below_size HB.out))
                 have HO245 := Aside0.mk (Kd.R_lower (Kd.R_new' (Kd.R_new' ho1 (Kd.R_lt HO_219001.out)) (Kd.R_lt HO239.out)) (below_size HB.out))
                 replace HO_219000 := Aside0.mk (Kd.R_elder' HO_219000.out (Kd.R_base ho0) hb)
                 replace HO_219001 := Aside0.mk (Kd.R_elder' HO_219001.out (Kd.R_base ho1) hb)
                 replace HO_231000 := sRb HO_231000 hb
                 replace HO_231001 := sRb HO_231001 hb
                 replace HO_231002 := sRb HO_231002 hb
                 replace HO236 := Aside0.mk (Kd.R_elder' HO236.out (Kd.R_base ho0) hb)
                 replace HO239 := Aside0.mk (Kd.R_elder' HO239.out (Kd.R_base ho1) hb)
                 replace BK200 := sBk BK200 hb
                 replace BK201 := sBk BK201 hb
                 replace BK202 := sBk BK202 hb
                 replace BK218 := sBk BK218 hb
                 replace BK230 := sBk BK230 hb
                 replace BK247 := sBk BK247 hb
                 replace HB := sHb hb
                 (try clear hb)
                 (try clear hb2)
                 (try clear hk)
                 (try clear hi)
                 (try clear ho0)
                 (try clear ho1)
                 refine hK.out _ _ ⟨(blk_cell BK200.out 0).trans rfl, (blk_cell BK200.out 1).trans rfl, (blk_cell BK218.out 0).trans rfl, (blk_cell BK218.out 1).trans rfl, (blk_cell BK202.out 0).trans rfl, (blk_cell BK202.out 1).trans rfl, (blk_cell BK202.out 2).trans rfl⟩ (fun hHeld => ?_)
                 clear hK K
                 refine norm_ (a' := ?_) ?_ ?_
                 rotate_left
                 ·show Act.put _ (some 101) _ = _
                  simp only [Act.put, List.setIfInBounds_toArray, List.set_cons_zero, List.set_cons_succ, i64_w, i32_w]
                  rfl
                 refine pure_ (i := 5) (N := some 96) (v := ?_) (a' := ?_) (bN 11 319) rfl rfl (any_of HT_.out (by kernel_rfl)) (fun _ _ _ h => h) (Or.inl ⟨by rfl, ?_⟩) ?_ ?_
                 rotate_left
                 ·intro w'
                  go_simp
                  with_reducible rfl
                 rotate_left
                 ·simp only [Act.put, List.setIfInBounds_toArray, List.set_cons_zero, List.set_cons_succ, i64_w, i32_w]
                  rfl
                 refine pure_ (i := 6) (N := some 102) (v := ?_) (a' := ?_) (bN 11 383) rfl rfl (any_of HT_.out (by kernel_rfl)) (fun _ _ _ h => h) (Or.inl ⟨by rfl, ?_⟩) ?_ ?_
                 rotate_left
                 ·intro w'
                  go_simp
                  with_reducible rfl
                 rotate_left
                 ·simp only [Act.put, List.setIfInBounds_toArray, List.set_cons_zero, List.set_cons_succ, i64_w, i32_w]
                  rfl
                 refine pure_ (i := 7) (N := some 103) (v := ?_) (a' := ?_) (bN 11 511) rfl rfl (any_of HT_.out (by kernel_rfl)) (fun _ _ _ h => h) (Or.inl ⟨by rfl, ?_⟩) ?_ ?_
                 rotate_left
                 ·intro w'
                  go_simp
                  with_reducible rfl
                 rotate_left
                 ·simp only [Act.put, List.setIfInBounds_toArray, List.set_cons_zero, List.set_cons_succ, i64_w, i32_w]
                  rfl
                 exact norm_ (by simp only [putAll, Act.put, List.setIfInBounds_toArray, List.set_cons_zero, List.set_cons_succ]) (hCont (.slice Ao98 t234.length co98, .slice Ao99 t237.length co99, v241, v244, gb247) _ ⟨hHeld, (by (with_reducible repeat (first | apply Kd.R_alloc | apply Kd.R_drewN | apply Kd.R_drew)); exact Kd.R_mono HO236.out (fun _ hk => ⟨hk.2, hk.1.2⟩)), (by (with_reducible repeat (first | apply Kd.R_alloc | apply Kd.R_drewN | apply Kd.R_drew)); exact Kd.R_mono HO239.out (fun _ hk => ⟨hk.2, hk.1.2⟩)), (by (with_reducible repeat (first | apply Kd.R_alloc | apply Kd.R_drewN | apply Kd.R_drew)); exact Kd.R_mono HO242.out (fun _ hk => ⟨hk.2, hk.1.2⟩)), (by (with_reducible repeat (first | apply Kd.R_alloc | apply Kd.R_drewN | apply Kd.R_drew)); exact Kd.R_mono HO245.out (fun _ hk => ⟨hk.2, hk.1.2⟩)), (by (with_reducible repeat (first | apply Kd.R_alloc | apply Kd.R_drewN | apply Kd.R_drew)); exact Kd.R_mono HO_219000.out (fun _ hk => ⟨hk.1.2, hk.2⟩)), (by (with_reducible repeat (first | apply Kd.R_alloc | apply Kd.R_drewN | apply Kd.R_drew)); exact Kd.R_mono HO_219001.out (fun _ hk => ⟨hk.1.2, hk.2⟩)), HO_231000.out, HO_231001.out, HO_231002.out, BK200.out, BK201.out, BK202.out, BK218.out, BK230.out, BK247.out, GW247.out, GE247.out, NB200_247.out, NB247_200.out, NB201_247.out, NB247_201.out, NB202_247.out, NB247_202.out, NB218_247.out, NB247_218.out, NB230_247.out, NB247_230.out, HB.out⟩)
               rintro ⟨v235, v238, v241, v244, gb247⟩ w101 ⟨hS_, h0_, h1_, h2_, h3_, h4_, h5_, h6_, h7_, h8_, h9_, h10_, h11_, h12_, h13_, h14_, h15_, h16_, h17_, h18_, h19_, h20_, h21_, h22_, h23_, h24_, h25_, h26_, h27_⟩
               have n0_ : Aside0 (Kd.R k56 56 w101 w.heap.size (fun k_ => some k_ ≠ (v241 : Value).ownBlock ∧ some k_ ≠ (.slice Ao24 t211.length co24 : Value).ownBlock) v235 t234) := ⟨h0_⟩
               have n1_ : Aside0 (Kd.R k62 62 w101 w.heap.size (fun k_ => some k_ ≠ (v244 : Value).ownBlock ∧ some k_ ≠ (.slice Ao26 t214.length co26 : Value).ownBlock) v238 t237) := ⟨h1_⟩
               have n2_ : Aside0 (Kd.R k56 56 w101 w.heap.size (fun k_ => some k_ ≠ (v235 : Value).ownBlock ∧ some k_ ≠ (.slice Ao24 t211.length co24 : Value).ownBlock) v241 t240) := ⟨h2_⟩
               have n3_ : Aside0 (Kd.R k62 62 w101 w.heap.size (fun k_ => some k_ ≠ (v238 : Value).ownBlock ∧ some k_ ≠ (.slice Ao26 t214.length co26 : Value).ownBlock) v244 t243) := ⟨h3_⟩
               have n4_ : Aside0 (Kd.R k56 56 w101 w.heap.size (fun k_ => some k_ ≠ (v235 : Value).ownBlock ∧ some k_ ≠ (v241 : Value).ownBlock) (.slice Ao24 t211.length co24) t211) := ⟨h4_⟩
               have n5_ : Aside0 (Kd.R k62 62 w101 w.heap.size (fun k_ => some k_ ≠ (v238 : Value).ownBlock ∧ some k_ ≠ (v244 : Value).ownBlock) (.slice Ao26 t214.length co26) t214) := ⟨h5_⟩
               have n6_ : Aside0 (Kd.R (Kd.int .i64) 3 w101 w.heap.size (fun k_ => some k_ ≠ (.slice Ao43 t223.length co43 : Value).ownBlock ∧ some k_ ≠ (.slice Ao44 t226.length co44 : Value).ownBlock) (.slice Ao37 t220.length co37) t220) := ⟨h6_⟩
               have n7_ : Aside0 (Kd.R (Kd.int .i64) 3 w101 w.heap.size (fun k_ => some k_ ≠ (.slice Ao37 t220.length co37 : Value).ownBlock ∧ some k_ ≠ (.slice Ao44 t226.length co44 : Value).ownBlock) (.slice Ao43 t223.length co43) t223) := ⟨h7_⟩
               have n8_ : Aside0 (Kd.R (Kd.int .i64) 3 w101 w.heap.size (fun k_ => some k_ ≠ (.slice Ao37 t220.length co37 : Value).ownBlock ∧ some k_ ≠ (.slice Ao43 t223.length co43 : Value).ownBlock) (.slice Ao44 t226.length co44) t226) := ⟨h8_⟩
               have n9_ : Aside0 (w101.heap[gb200]? = some (.cells #[.int .i64 a0_0, .int .i64 a0_1] 23 (0, 0))) := ⟨h9_⟩
               have n10_ : Aside0 (w101.heap[gb201]? = some (.cells #[.slice A1_0 l1_0.length c1_0, .slice A1_1 l1_1.length c1_1] 27 (0, 0))) := ⟨h10_⟩
               have n11_ : Aside0 (w101.heap[gb202]? = some (.cells #[.int .i64 a2_0, .int .i64 a2_1, .int .i64 a2_2] 43 (0, 0))) := ⟨h11_⟩
               have n12_ : Aside0 (w101.heap[gb218]? = some (.cells #[.slice Ao24 t211.length co24, .slice Ao26 t214.length co26] 27 (0, 0))) := ⟨h12_⟩
               have n13_ : Aside0 (w101.heap[gb230]? = some (.cells #[.slice Ao37 t220.length co37, .slice Ao43 t223.length co43, .slice Ao44 t226.length co44] 47 (0, 0))) := ⟨h13_⟩
               have n14_ : Aside0 (w101.heap[gb247]? = some (.cells #[.slice none 0 0, .slice none 0 0] 27 (0, 0))) := ⟨h14_⟩
               have n15_ : Aside0 (w.heap.size ≤ gb247) := ⟨h15_⟩
               have n16_ : Aside0 (w.heap.size ≤ gb247) := ⟨h16_⟩
               have n17_ : Aside0 (gb200 ≠ gb247) := ⟨h17_⟩
               have n18_ : Aside0 (gb247 ≠ gb200) := ⟨h18_⟩
               have n19_ : Aside0 (gb201 ≠ gb247) := ⟨h19_⟩
               have n20_ : Aside0 (gb247 ≠ gb201) := ⟨h20_⟩
               have n21_ : Aside0 (gb202 ≠ gb247) := ⟨h21_⟩
               have n22_ : Aside0 (gb247 ≠ gb202) := ⟨h22_⟩
               have n23_ : Aside0 (gb218 ≠ gb247) := ⟨h23_⟩
               have n24_ : Aside0 (gb247 ≠ gb218) := ⟨h24_⟩
               have n25_ : Aside0 (gb230 ≠ gb247) := ⟨h25_⟩
               have n26_ : Aside0 (gb247 ≠ gb230) := ⟨h26_⟩
               have n27_ : Aside0 (Below w.heap.size w w101) := ⟨h27_⟩
               clear HO_219000
               clear HO_219001
               clear HO_231000
               clear HO_231001
               clear HO_231002
               clear BK200
               clear BK201
               clear BK202
               clear BK218
               clear BK230
               clear HB
               clear h0_ h1_ h2_ h3_ h4_ h5_ h6_ h7_ h8_ h9_ h10_ h11_ h12_ h13_ h14_ h15_ h16_ h17_ h18_ h19_ h20_ h21_ h22_ h23_ h24_ h25_ h26_ h27_
               have HO236 := n0_
               have HO239 := n1_
               have HO242 := n2_
               have HO245 := n3_
               have HO_219000 := n4_
               have HO_219001 := n5_
               have HO_231000 := n6_
               have HO_231001 := n7_
               have HO_231002 := n8_
               have BK200 := n9_
               have BK201 := n10_
               have BK202 := n11_
               have BK218 := n12_
               have BK230 := n13_
               have BK247 := n14_
               have GW247 := n15_
               have GE247 := n16_
               have NB200_247 := n17_
               have NB247_200 := n18_
               have NB201_247 := n19_
               have NB247_201 := n20_
               have NB202_247 := n21_
               have NB247_202 := n22_
               have NB218_247 := n23_
               have NB247_218 := n24_
               have NB230_247 := n25_
               have NB247_230 := n26_
               have HB := n27_
               clear n0_ n1_ n2_ n3_ n4_ n5_ n6_ n7_ n8_ n9_ n10_ n11_ n12_ n13_ n14_ n15_ n16_ n17_ n18_ n19_ n20_ n21_ n22_ n23_ n24_ n25_ n26_ n27_
               have hHeld : w101.cell? ⟨gb200, 0, none⟩ = some (.int .i64 a0_0) ∧ w101.cell? ⟨gb200, 1, none⟩ = some (.int .i64 a0_1) ∧ w101.cell? ⟨gb218, 0, none⟩ = some (.slice Ao24 t211.length co24) ∧ w101.cell? ⟨gb218, 1, none⟩ = some (.slice Ao26 t214.length co26) ∧ w101.cell? ⟨gb202, 0, none⟩ = some (.int .i64 a2_0) ∧ w101.cell? ⟨gb202, 1, none⟩ = some (.int .i64 a2_1) ∧ w101.cell? ⟨gb202, 2, none⟩ = some (.int .i64 a2_2) := hS_
               obtain ⟨Ao102, co102, eo102⟩ := Kd.R_slice HO242.out
               (first | subst eo102 | (injection eo102 with f1_ f2_ f3_; have f4_ := f1_.symm; have f5_ := f3_.symm; clear f1_ f2_ f3_; subst f4_; subst f5_))
               obtain ⟨Ao104, co104, eo104⟩ := Kd.R_slice HO245.out
               (first | subst eo104 | (injection eo104 with f1_ f2_ f3_; have f4_ := f1_.symm; have f5_ := f3_.symm; clear f1_ f2_ f3_; subst f4_; subst f5_))
               refine norm_ (a' := ?_) ?_ ?_
               rotate_left
               ·simp only [putAll, Act.put, List.setIfInBounds_toArray, List.set_cons_zero, List.set_cons_succ]
                rfl
               refine one_ (i := 9) (N := none) (bN 11 1023) rfl rfl (one_of HT_.out (by kernel_rfl)) (by decide) (fun K hK => ?_)
               have hs103 : w101.cell? ⟨gb247, 0, none⟩ = some (.slice none 0 0) := (blk_cell BK247.out 0).trans rfl
               have hfs103 := blk_frozen BK247.out 0
               have hns103_0 := NB200_247.out
               have hns103_1 := NB201_247.out
               have hns103_2 := NB202_247.out
               have hns103_3 := NB218_247.out
               have hns103_4 := NB230_247.out
               have hms103_0 := NB247_200.out
               have hms103_1 := NB247_201.out
               have hms103_2 := NB247_202.out
               have hms103_3 := NB247_218.out
               have hms103_4 := NB247_230.out
               have hs105 : w101.cell? ⟨gb247, 1, none⟩ = some (.slice none 0 0) := (blk_cell BK247.out 1).trans rfl
               have hfs105 := blk_frozen BK247.out 1
               have hns105_0 := NB200_247.out
               have hns105_1 := NB201_247.out
               have hns105_2 := NB202_247.out
               have hns105_3 := NB218_247.out
               have hns105_4 := NB230_247.out
               have hms105_0 := NB247_200.out
               have hms105_1 := NB247_201.out
               have hms105_2 := NB247_202.out
               have hms105_3 := NB247_218.out
               have hms105_4 := NB247_230.out
               refine skip_ (w1 := ?_) (by rfl) rfl ?_ ?_
               rotate_left
               ·go_simp
                rfl
               refine hK.out _ _ ⟨((cell_far (p := ⟨gb247, _, none⟩) NB200_247.out _).trans (((cell_far (p := ⟨gb247, _, none⟩) NB200_247.out _).trans (hHeld.1)))), ((cell_far (p := ⟨gb247, _, none⟩) NB200_247.out _).trans (((cell_far (p := ⟨gb247, _, none⟩) NB200_247.out _).trans (hHeld.2.1)))), ((cell_far (p := ⟨gb247, _, none⟩) NB218_247.out _).trans (((cell_far (p := ⟨gb247, _, none⟩) NB218_247.out _).trans (hHeld.2.2.1)))), ((cell_far (p := ⟨gb247, _, none⟩) NB218_247.out _).trans (((cell_far (p := ⟨gb247, _, none⟩) NB218_247.out _).trans (hHeld.2.2.2.1)))), ((cell_far (p := ⟨gb247, _, none⟩) NB202_247.out _).trans (((cell_far (p := ⟨gb247, _, none⟩) NB202_247.out _).trans (hHeld.2.2.2.2.1)))), ((cell_far (p := ⟨gb247, _, none⟩) NB202_247.out _).trans (((cell_far (p := ⟨gb247, _, none⟩) NB202_247.out _).trans (hHeld.2.2.2.2.2.1)))), ((cell_far (p := ⟨gb247, _, none⟩) NB202_247.out _).trans (((cell_far (p := ⟨gb247, _, none⟩) NB202_247.out _).trans (hHeld.2.2.2.2.2.2))))⟩ (fun hHeld => ?_)
               clear hK K
               refine pure_ (i := 10) (N := some 15) (v := ?_) (a' := ?_) (bN 11 2047) rfl rfl (any_of HT_.out (by kernel_rfl)) (fun _ _ _ h => h) (Or.inl ⟨by rfl, ?_⟩) ?_ ?_
               rotate_left
               ·intro w'
                go_simp
                with_reducible rfl
               rotate_left
               ·simp only [Act.put, List.setIfInBounds_toArray, List.set_cons_zero, List.set_cons_succ, i64_w, i32_w]
                rfl
               refine done_ (done_of HT_.out (by kernel_rfl)) ?_
               try go_wp2_with (first | ((with_reducible refine gate_callee (f := 10) rfl ?_); refine goesL_ (some 104) rfl rfl Try.func10 (by kernel_rfl) rfl #[] rfl (by simp only [List.map_toArray, List.map_cons, List.map_nil] <;> rfl) ?_; (with_reducible refine (newellaw19_awake.calls k2  true _ A77.out).mono ?_); rintro e w106 ⟨rfl, hb⟩; refine ⟨_, rfl, ?_⟩; replace HO_219000 := Aside0.mk (Kd.R_below (by (with_reducible repeat (first | apply Kd.R_alloc | apply Kd.R_drewN | apply Kd.R_drew)); exact (Kd.R_mono (Kd.R_far (Kd.R_far (Kd.R_types HO_219000.out BK247.out (by decide)) (fun _ hk => hk.2) _) (fun _ hk => hk.2) _) (fun _ h_ => h_.1))) hb); replace HO_219001 := Aside0.mk (Kd.R_below (by (with_reducible repeat (first | apply Kd.R_alloc | apply Kd.R_drewN | apply Kd.R_drew)); exact (Kd.R_mono (Kd.R_far (Kd.R_far (Kd.R_types HO_219001.out BK247.out (by decide)) (fun _ hk => hk.2) _) (fun _ hk => hk.2) _) (fun _ h_ => h_.1))) hb); replace HO_231000 := Aside0.mk (Kd.R_below (by (with_reducible repeat (first | apply Kd.R_alloc | apply Kd.R_drewN | apply Kd.R_drew)); exact (Kd.R_mono (Kd.R_far (Kd.R_far (Kd.R_types HO_231000.out BK247.out (by decide)) (fun _ hk => hk.2) _) (fun _ hk => hk.2) _) (fun _ h_ => h_.1))) hb); replace HO_231001 := Aside0.mk (Kd.R_below (by (with_reducible repeat (first | apply Kd.R_alloc | apply Kd.R_drewN | apply Kd.R_drew)); exact (Kd.R_mono (Kd.R_far (Kd.R_far (Kd.R_types HO_231001.out BK247.out (by decide)) (fun _ hk => hk.2) _) (fun _ hk => hk.2) _) (fun _ h_ => h_.1))) hb); replace HO_231002 := Aside0.mk (Kd.R_below (by (with_reducible repeat (first | apply Kd.R_alloc | apply Kd.R_drewN | apply Kd.R_drew)); exact (Kd.R_mono (Kd.R_far (Kd.R_far (Kd.R_types HO_231002.out BK247.out (by decide)) (fun _ hk => hk.2) _) (fun _ hk => hk.2) _) (fun _ h_ => h_.1))) hb); replace HO236 := Aside0.mk (Kd.R_below (by (with_reducible repeat (first | apply Kd.R_alloc | apply Kd.R_drewN | apply Kd.R_drew)); exact (Kd.R_mono (Kd.R_far (Kd.R_far (Kd.R_types HO236.out BK247.out (by decide)) (fun _ hk => hk.2) _) (fun _ hk => hk.2) _) (fun _ h_ => h_.1))) hb); replace HO239 := Aside0.mk (Kd.R_below (by (with_reducible repeat (first | apply Kd.R_alloc | apply Kd.R_drewN | apply Kd.R_drew)); exact (Kd.R_mono (Kd.R_far (Kd.R_far (Kd.R_types HO239.out BK247.out (by decide)) (fun _ hk => hk.2) _) (fun _ hk => hk.2) _) (fun _ h_ => h_.1))) hb); replace HO242 := Aside0.mk (Kd.R_below (by (with_reducible repeat (first | apply Kd.R_alloc | apply Kd.R_drewN | apply Kd.R_drew)); exact (Kd.R_mono (Kd.R_far (Kd.R_far (Kd.R_types HO242.out BK247.out (by decide)) (fun _ hk => hk.2) _) (fun _ hk => hk.2) _) (fun _ h_ => h_.1))) hb); replace HO245 := Aside0.mk (Kd.R_below (by (with_reducible repeat (first | apply Kd.R_alloc | apply Kd.R_drewN | apply Kd.R_drew)); exact (Kd.R_mono (Kd.R_far (Kd.R_far (Kd.R_types HO245.out BK247.out (by decide)) (fun _ hk => hk.2) _) (fun _ hk => hk.2) _) (fun _ h_ => h_.1))) hb); replace BK200 := sBk BK200 hb; replace BK201 := sBk BK201 hb; replace BK202 := sBk BK202 hb; replace BK218 := sBk BK218 hb; replace BK230 := sBk BK230 hb; replace BK247 := Aside0.mk (blk_below (g := gb247) (o := .cells #[.slice Ao102 t240.length co102, .slice Ao104 t243.length co104] 27 (0, 0)) (by refine blk_put (cs := #[.slice Ao102 t240.length co102, .slice none 0 0]) ?_ 1 _ rfl; refine blk_put (cs := #[.slice none 0 0, .slice none 0 0]) ?_ 0 _ rfl; exact BK247.out) hb); replace HB := sHb hb; (try clear hb); (try clear hb2); (try clear hk); (try clear hi); have hnb107 := NB247_200.out; have hnc107 := NB200_247.out; have hnb108 := NB247_201.out; have hnc108 := NB201_247.out; have hnb109 := NB247_202.out; have hnc109 := NB202_247.out; have hnb110 := NB247_218.out; have hnc110 := NB218_247.out; have hnb111 := NB247_230.out; have hnc111 := NB230_247.out; have hcz112_0 : w106.cell? ⟨gb247, 0, none⟩ = some (.slice Ao102 t240.length co102) := (blk_cell BK247.out 0).trans rfl; have hcz112_1 : w106.cell? ⟨gb247, 1, none⟩ = some (.slice Ao104 t243.length co104) := (blk_cell BK247.out 1).trans rfl; have hfz112_0 := blk_frozen BK247.out 0; have hfz112_1 := blk_frozen BK247.out 1; have hcz113_0 : w106.cell? ⟨gb218, 0, none⟩ = some (.slice Ao24 t211.length co24) := (blk_cell BK218.out 0).trans rfl; have hcz113_1 : w106.cell? ⟨gb218, 1, none⟩ = some (.slice Ao26 t214.length co26) := (blk_cell BK218.out 1).trans rfl; have hfz113_0 := blk_frozen BK218.out 0; have hfz113_1 := blk_frozen BK218.out 1) | (go_at_call 27; (with_reducible refine (call_Same.calls k2 _ _ t240 _ _ t243 _ _ t211 _ _ t214 true _ ?side1 ?side2 ?side3 ?side4 ?side5 ?side6 ?side7 ?side8 A81.out).mono ?_); (case side1 => exact (Kd.R_reads' HO242.out).2.2); (case side2 => exact (Kd.R_reads' HO242.out).2.1); (case side3 => exact (Kd.R_reads' HO245.out).2.2); (case side4 => exact (Kd.R_reads' HO245.out).2.1); (case side5 => exact (Kd.R_reads' HO_219000.out).2.2); (case side6 => exact (Kd.R_reads' HO_219000.out).2.1); (case side7 => exact (Kd.R_reads' HO_219001.out).2.2); (case side8 => exact (Kd.R_reads' HO_219001.out).2.1); rintro e w114 ⟨rfl, hb⟩; have n0_ := Aside0.mk (Kd.R_below HO_219000.out hb); have n1_ := Aside0.mk (Kd.R_below HO_219001.out hb); have n2_ := Aside0.mk (Kd.R_below HO_231000.out hb); have n3_ := Aside0.mk (Kd.R_below HO_231001.out hb); have n4_ := Aside0.mk (Kd.R_below HO_231002.out hb); have n5_ := Aside0.mk (Kd.R_below HO236.out hb); have n6_ := Aside0.mk (Kd.R_below HO239.out hb); have n7_ := Aside0.mk (Kd.R_below HO242.out hb); have n8_ := Aside0.mk (Kd.R_below HO245.out hb); have n9_ := Aside0.mk (blk_below (g := gb200) (o := .cells #[.int .i64 a0_0, .int .i64 a0_1] 23 (0, 0)) BK200.out hb); have n10_ := Aside0.mk (blk_below (g := gb201) (o := .cells #[.slice A1_0 l1_0.length c1_0, .slice A1_1 l1_1.length c1_1] 27 (0, 0)) BK201.out hb); have n11_ := Aside0.mk (blk_below (g := gb202) (o := .cells #[.int .i64 a2_0, .int .i64 a2_1, .int .i64 a2_2] 43 (0, 0)) BK202.out hb); have n12_ := Aside0.mk (blk_below (g := gb218) (o := .cells #[.slice Ao24 t211.length co24, .slice Ao26 t214.length co26] 27 (0, 0)) BK218.out hb); have n13_ := Aside0.mk (blk_below (g := gb230) (o := .cells #[.slice Ao37 t220.length co37, .slice Ao43 t223.length co43, .slice Ao44 t226.length co44] 47 (0, 0)) BK230.out hb); have n14_ := Aside0.mk (blk_below (g := gb247) (o := .cells #[.slice Ao102 t240.length co102, .slice Ao104 t243.length co104] 27 (0, 0)) BK247.out hb); have n15_ := Aside0.mk (below_step HB.out hb); clear HO_219000; clear HO_219001; clear HO_231000; clear HO_231001; clear HO_231002; clear HO236; clear HO239; clear HO242; clear HO245; clear BK200; clear BK201; clear BK202; clear BK218; clear BK230; clear BK247; clear HB; have HO_219000 := n0_; have HO_219001 := n1_; have HO_231000 := n2_; have HO_231001 := n3_; have HO_231002 := n4_; have HO236 := n5_; have HO239 := n6_; have HO242 := n7_; have HO245 := n8_; have BK200 := n9_; have BK201 := n10_; have BK202 := n11_; have BK218 := n12_; have BK230 := n13_; have BK247 := n14_; have HB := n15_; clear n0_ n1_ n2_ n3_ n4_ n5_ n6_ n7_ n8_ n9_ n10_ n11_ n12_ n13_ n14_ n15_; (try clear hb); (try clear hb2); (try clear hk); (try clear hi); have hnb115 := NB200_202.out; have hnc115 := NB202_200.out; have hnb116 := NB200_230.out; have hnc116 := NB230_200.out; have hcz117_0 : w114.cell? ⟨gb200, 0, none⟩ = some (.int .i64 a0_0) := (blk_cell BK200.out 0).trans rfl; have hcz117_1 : w114.cell? ⟨gb200, 1, none⟩ = some (.int .i64 a0_1) := (blk_cell BK200.out 1).trans rfl; have hfz117_0 := blk_frozen BK200.out 0; have hfz117_1 := blk_frozen BK200.out 1; have hcz118_0 : w114.cell? ⟨gb218, 0, none⟩ = some (.slice Ao24 t211.length co24) := (blk_cell BK218.out 0).trans rfl; have hcz118_1 : w114.cell? ⟨gb218, 1, none⟩ = some (.slice Ao26 t214.length co26) := (blk_cell BK218.out 1).trans rfl; have hfz118_0 := blk_frozen BK218.out 0; have hfz118_1 := blk_frozen BK218.out 1) | (go_at_call 14; (with_reducible refine (call_Check.calls k2 a0_0 a0_1 _ _ t211 _ _ t214 t250 _ ?side1 ?side2 ?side3 ?side4 A85.out).mono ?_); (case side1 => exact (Kd.R_reads' HO_219000.out).2.2); (case side2 => exact (Kd.R_reads' HO_219000.out).2.1); (case side3 => exact (Kd.R_reads' HO_219001.out).2.2); (case side4 => exact (Kd.R_reads' HO_219001.out).2.1); rintro e w119 ⟨rfl, hb⟩; have n0_ := Aside0.mk (Kd.R_below HO_219000.out hb); have n1_ := Aside0.mk (Kd.R_below HO_219001.out hb); have n2_ := Aside0.mk (Kd.R_below HO_231000.out hb); have n3_ := Aside0.mk (Kd.R_below HO_231001.out hb); have n4_ := Aside0.mk (Kd.R_below HO_231002.out hb); have n5_ := Aside0.mk (Kd.R_below HO236.out hb); have n6_ := Aside0.mk (Kd.R_below HO239.out hb); have n7_ := Aside0.mk (Kd.R_below HO242.out hb); have n8_ := Aside0.mk (Kd.R_below HO245.out hb); have n9_ := Aside0.mk (blk_below (g := gb200) (o := .cells #[.int .i64 a0_0, .int .i64 a0_1] 23 (0, 0)) BK200.out hb); have n10_ := Aside0.mk (blk_below (g := gb201) (o := .cells #[.slice A1_0 l1_0.length c1_0, .slice A1_1 l1_1.length c1_1] 27 (0, 0)) BK201.out hb); have n11_ := Aside0.mk (blk_below (g := gb202) (o := .cells #[.int .i64 a2_0, .int .i64 a2_1, .int .i64 a2_2] 43 (0, 0)) BK202.out hb); have n12_ := Aside0.mk (blk_below (g := gb218) (o := .cells #[.slice Ao24 t211.length co24, .slice Ao26 t214.length co26] 27 (0, 0)) BK218.out hb); have n13_ := Aside0.mk (blk_below (g := gb230) (o := .cells #[.slice Ao37 t220.length co37, .slice Ao43 t223.length co43, .slice Ao44 t226.length co44] 47 (0, 0)) BK230.out hb); have n14_ := Aside0.mk (blk_below (g := gb247) (o := .cells #[.slice Ao102 t240.length co102, .slice Ao104 t243.length co104] 27 (0, 0)) BK247.out hb); have n15_ := Aside0.mk (below_step HB.out hb); clear HO_219000; clear HO_219001; clear HO_231000; clear HO_231001; clear HO_231002; clear HO236; clear HO239; clear HO242; clear HO245; clear BK200; clear BK201; clear BK202; clear BK218; clear BK230; clear BK247; clear HB; have HO_219000 := n0_; have HO_219001 := n1_; have HO_231000 := n2_; have HO_231001 := n3_; have HO_231002 := n4_; have HO236 := n5_; have HO239 := n6_; have HO242 := n7_; have HO245 := n8_; have BK200 := n9_; have BK201 := n10_; have BK202 := n11_; have BK218 := n12_; have BK230 := n13_; have BK247 := n14_; have HB := n15_; clear n0_ n1_ n2_ n3_ n4_ n5_ n6_ n7_ n8_ n9_ n10_ n11_ n12_ n13_ n14_ n15_; (try clear hb); (try clear hb2); (try clear hk); (try clear hi)))
               go_ret
               exact ⟨rfl, HB.out⟩
              ·rw [if_neg c84] at H
               exact absurd H (by simp)
             ·rw [if_neg c83] at H
              exact absurd H (by simp)
            ·replace c82 := Bool.eq_false_iff.mpr c82
             subst c82
             have H1 : (none) = some r := by rw [if_neg (show ¬ (false = true) by decide)] at H; exact H
             clear H
             have H := H1
             clear H1
             exact absurd H (by simp)
           ·rw [if_neg c80] at H
            exact absurd H (by simp)
          ·rw [if_neg c79] at H
           exact absurd H (by simp)
         ·replace c78 := Bool.eq_false_iff.mpr c78
          subst c78
          have H1 : (none) = some r := by rw [if_neg (show ¬ (false = true) by decide)] at H; exact H
          clear H
          have H := H1
          clear H1
          exact absurd H (by simp)
  ·rw [if_neg c8] at H
   have c8b0 : (t217 == 0) = false := beq_eq_false_iff_ne.mpr c8
   have c8b1 : (t217 != 0) = true := bne_iff_ne.mpr c8
   replace H := Option.bind_eq_some_iff.mp H
   obtain ⟨t219, A1200, H⟩ := H
   replace H : (some t219) = some r := H
   have A120 := Aside0.mk A1200
   clear A1200
   obtain rfl := Option.some.inj H
   go_enter Try.func7, Try.ntmps7
   try go_wp2_with (first | ((with_reducible refine gate_dst (N := 3) rfl ?_); refine box_event ?hg (N := 3) ?hd (cs := #[.int .i64 a0_0, .int .i64 a0_1]) (t := 23) ?hr ?_; (case hd => rfl); (case hg => rfl); (case hr => go_simp <;> rfl); intro gb200 hg w121 hbox hb; have BK200 := Aside0.mk hbox; have GW200 := sGe hg; have GE200 := sGe hg; replace HB := sHb hb; clear hb hbox hg) | ((with_reducible refine gate_dst (N := 4) rfl ?_); refine box_event ?hg (N := 4) ?hd (cs := #[.slice A1_0 l1_0.length c1_0, .slice A1_1 l1_1.length c1_1]) (t := 27) ?hr ?_; (case hd => rfl); (case hg => rfl); (case hr => go_simp <;> rfl); intro gb201 hg w122 hbox hb; have BK201 := Aside0.mk hbox; have GW201 := sGe hg; have GE201 := sGe hg; have NB200_201 := sNl BK200 hg; have NB201_200 := sNg BK200 hg; replace BK200 := sBk BK200 hb; replace HB := sHb hb; clear hb hbox hg) | ((with_reducible refine gate_dst (N := 5) rfl ?_); refine box_event ?hg (N := 5) ?hd (cs := #[.int .i64 a2_0, .int .i64 a2_1, .int .i64 a2_2]) (t := 43) ?hr ?_; (case hd => rfl); (case hg => rfl); (case hr => go_simp <;> rfl); intro gb202 hg w123 hbox hb; have BK202 := Aside0.mk hbox; have GW202 := sGe hg; have GE202 := sGe hg; have NB200_202 := sNl BK200 hg; have NB202_200 := sNg BK200 hg; have NB201_202 := sNl BK201 hg; have NB202_201 := sNg BK201 hg; replace BK200 := sBk BK200 hb; replace BK201 := sBk BK201 hb; replace HB := sHb hb; clear hb hbox hg; have hnb124 := NB201_200.out; have hnc124 := NB200_201.out; have hnb125 := NB201_202.out; have hnc125 := NB202_201.out; have hcz126_0 : w123.cell? ⟨gb201, 0, none⟩ = some (.slice A1_0 l1_0.length c1_0) := (blk_cell BK201.out 0).trans rfl; have hcz126_1 : w123.cell? ⟨gb201, 1, none⟩ = some (.slice A1_1 l1_1.length c1_1) := (blk_cell BK201.out 1).trans rfl; have hfz126_0 := blk_frozen BK201.out 0; have hfz126_1 := blk_frozen BK201.out 1) | ((with_reducible refine gate_callee (f := 9) rfl ?_); refine goesL_ (some 17) rfl rfl Try.func9 (by kernel_rfl) rfl #[.agg #[.slice A1_0 l1_0.length c1_0, .slice A1_1 l1_1.length c1_1]] rfl (by simp only [List.map_toArray, List.map_cons, List.map_nil] <;> rfl) ?_; (with_reducible refine (newelref19_Few.calls _ _ l1_0 _ _ l1_1 true _ ?side1 ?side2 ?side3 ?side4 A4.out).mono ?_); (case side1 => exact (Kd.C_below HR1_0.out HB.out)); (case side2 => exact HC1_0.out); (case side3 => exact (Kd.C_below HR1_1.out HB.out)); (case side4 => exact HC1_1.out); rintro e w127 ⟨rfl, hb⟩; refine ⟨_, rfl, ?_⟩; replace BK200 := sBk BK200 hb; replace BK201 := sBk BK201 hb; replace BK202 := sBk BK202 hb; replace HB := sHb hb; (try clear hb); (try clear hb2); (try clear hk); (try clear hi)))
   replace BK200 := Aside0.mk (blk_drew BK200.out)
   replace BK201 := Aside0.mk (blk_drew BK201.out)
   replace BK202 := Aside0.mk (blk_drew BK202.out)
   replace HB := Aside0.mk (below_drew1 HB.out)
   refine start_ (n := 11) (S := fun w' => w'.cell? ⟨gb200, 0, none⟩ = some (.int .i64 a0_0) ∧ w'.cell? ⟨gb200, 1, none⟩ = some (.int .i64 a0_1) ∧ w'.cell? ⟨gb201, 0, none⟩ = some (.slice A1_0 l1_0.length c1_0) ∧ w'.cell? ⟨gb201, 1, none⟩ = some (.slice A1_1 l1_1.length c1_1) ∧ w'.cell? ⟨gb202, 0, none⟩ = some (.int .i64 a2_0) ∧ w'.cell? ⟨gb202, 1, none⟩ = some (.int .i64 a2_1) ∧ w'.cell? ⟨gb202, 2, none⟩ = some (.int .i64 a2_2)) (ds := []) #[false, false, false, false, false, false, false, false, false, false, false] (by kernel_rfl) rfl rfl ⟨(blk_cell BK200.out 0).trans rfl, (blk_cell BK200.out 1).trans rfl, (blk_cell BK201.out 0).trans rfl, (blk_cell BK201.out 1).trans rfl, (blk_cell BK202.out 0).trans rfl, (blk_cell BK202.out 1).trans rfl, (blk_cell BK202.out 2).trans rfl⟩ (fun hHeld => ?_); refine with_tabW newellaw19_CallGone.tab3 newellaw19_CallGone.bits3 (fun HT_ HW_ => ?_)
   generalize w127.drew = w128 at BK200 BK201 BK202 HB hHeld ⊢
   refine take_ (i := 0) (N := some 21) (v := ?_) (a' := ?_) (bN 11 1) rfl rfl (take_ofW HT_.out HW_.out (by kernel_rfl)) (fun _ _ _ h => h) (Or.inl ⟨by rfl, ?_⟩) hHeld ?_ ?_
   rotate_left
   ·rintro w' ⟨s0, s1, s2, s3, s4, s5, s6⟩
    go_simp
    with_reducible rfl
   rotate_left
   ·simp only [Act.put, List.setIfInBounds_toArray, List.set_cons_zero, List.set_cons_succ, i64_w, i32_w]
    rfl
   refine take_ (i := 1) (N := some 22) (v := ?_) (a' := ?_) (bN 11 3) rfl rfl (take_ofW HT_.out HW_.out (by kernel_rfl)) (fun _ _ _ h => h) (Or.inl ⟨by rfl, ?_⟩) hHeld ?_ ?_
   rotate_left
   ·rintro w' ⟨s0, s1, s2, s3, s4, s5, s6⟩
    go_simp
    with_reducible rfl
   rotate_left
   ·simp only [Act.put, List.setIfInBounds_toArray, List.set_cons_zero, List.set_cons_succ, i64_w, i32_w]
    rfl
   refine take_ (i := 3) (N := some 24) (v := ?_) (a' := ?_) (bN 11 11) rfl rfl (take_ofW HT_.out HW_.out (by kernel_rfl)) (fun _ _ _ h => h) (Or.inl ⟨by rfl, ?_⟩) hHeld ?_ ?_
   rotate_left
   ·rintro w' ⟨s0, s1, s2, s3, s4, s5, s6⟩
    go_simp
    with_reducible rfl
   rotate_left
   ·simp only [Act.put, List.setIfInBounds_toArray, List.set_cons_zero, List.set_cons_succ, i64_w, i32_w]
    rfl
   refine join_ (σ := Value × Value × Value × Value × Nat) 2 (bN 11 511) (fun s_ => [(23, .agg #[s_.1, s_.2.1]), (25, .tuple #[.agg #[s_.2.2.1, s_.2.2.2.1], .int .i64 t217]), (7, .pointer (some ⟨s_.2.2.2.2, 0, none⟩)), (20, .tuple #[.agg #[s_.2.2.1, s_.2.2.2.1], .int .i64 t217]), (26, .agg #[s_.2.2.1, s_.2.2.2.1]), (27, .int .i64 t217)]) (fun s_ w' => (w'.cell? ⟨gb200, 0, none⟩ = some (.int .i64 a0_0) ∧ w'.cell? ⟨gb200, 1, none⟩ = some (.int .i64 a0_1) ∧ w'.cell? ⟨gb201, 0, none⟩ = some (.slice A1_0 l1_0.length c1_0) ∧ w'.cell? ⟨gb201, 1, none⟩ = some (.slice A1_1 l1_1.length c1_1) ∧ w'.cell? ⟨gb202, 0, none⟩ = some (.int .i64 a2_0) ∧ w'.cell? ⟨gb202, 1, none⟩ = some (.int .i64 a2_1) ∧ w'.cell? ⟨gb202, 2, none⟩ = some (.int .i64 a2_2)) ∧ (Kd.R k56 56 w' w.heap.size (fun k_ => some k_ ≠ (s_.2.2.1 : Value).ownBlock) s_.1 t205) ∧ (Kd.R k62 62 w' w.heap.size (fun k_ => some k_ ≠ (s_.2.2.2.1 : Value).ownBlock) s_.2.1 t208) ∧ (Kd.R k56 56 w' w.heap.size (fun k_ => some k_ ≠ (s_.1 : Value).ownBlock) s_.2.2.1 t211) ∧ (Kd.R k62 62 w' w.heap.size (fun k_ => some k_ ≠ (s_.2.1 : Value).ownBlock) s_.2.2.2.1 t214) ∧ (w'.heap[gb200]? = some (.cells #[.int .i64 a0_0, .int .i64 a0_1] 23 (0, 0))) ∧ (w'.heap[gb201]? = some (.cells #[.slice A1_0 l1_0.length c1_0, .slice A1_1 l1_1.length c1_1] 27 (0, 0))) ∧ (w'.heap[gb202]? = some (.cells #[.int .i64 a2_0, .int .i64 a2_1, .int .i64 a2_2] 43 (0, 0))) ∧ (w'.heap[s_.2.2.2.2]? = some (.cells #[.slice none 0 0, .slice none 0 0] 27 (0, 0))) ∧ (w.heap.size ≤ s_.2.2.2.2) ∧ (w.heap.size ≤ s_.2.2.2.2) ∧ (gb200 ≠ s_.2.2.2.2) ∧ (s_.2.2.2.2 ≠ gb200) ∧ (gb201 ≠ s_.2.2.2.2) ∧ (s_.2.2.2.2 ≠ gb201) ∧ (gb202 ≠ s_.2.2.2.2) ∧ (s_.2.2.2.2 ≠ gb202) ∧ (Below w.heap.size w w')) ?_ ?_
   rotate_left
   ·intro hCont
    refine two_ (i := 2) (j := 8) (Ni := some 23) (Nj := some 7) (bN 11 15) (bN 11 267) rfl rfl rfl rfl (two_of HT_.out (by kernel_rfl)) (by decide) (by decide) (fun K hK => ?_) (fun K hK => ?_)
    ·skip
     refine goes_ Try.func12 (by kernel_rfl) rfl #[.agg #[.slice A1_0 l1_0.length c1_0, .slice A1_1 l1_1.length c1_1]] (by rfl) rfl rfl (by simp only [List.map_toArray, List.map_cons, List.map_nil] <;> rfl) ?_
     with_reducible refine (newellaw19_Own.calls _ _ l1_0 _ _ l1_1 t205 t208 _ ?side1 ?side2 ?side3 ?side4 A6.out).mono ?_
     (case side1 => exact (Kd.C_below HR1_0.out HB.out))
     (case side2 => exact HC1_0.out)
     (case side3 => exact (Kd.C_below HR1_1.out HB.out))
     (case side4 => exact HC1_1.out)
     rintro e w129 ⟨v206, v209, rfl, ho0, ho1, hb⟩
     refine ⟨_, rfl, ?_⟩
     have HO207 := Aside0.mk (Kd.R_lower ho0 (below_size HB.out))
     have HO210 := Aside0.mk (Kd.R_lower ho1 (below_size HB.out))
     replace BK200 := sBk BK200 hb
     replace BK201 := sBk BK201 hb
     replace BK202 := sBk BK202 hb
     replace HB := sHb hb
     (try clear hb)
     (try clear hb2)
     (try clear hk)
     (try clear hi)
     (try clear ho0)
     (try clear ho1)
     obtain ⟨Ao130, co130, eo130⟩ := Kd.R_slice HO207.out
     (first | subst eo130 | (injection eo130 with f1_ f2_ f3_; have f4_ := f1_.symm; have f5_ := f3_.symm; clear f1_ f2_ f3_; subst f4_; subst f5_))
     obtain ⟨Ao131, co131, eo131⟩ := Kd.R_slice HO210.out
     (first | subst eo131 | (injection eo131 with f1_ f2_ f3_; have f4_ := f1_.symm; have f5_ := f3_.symm; clear f1_ f2_ f3_; subst f4_; subst f5_))
     refine hK.out _ _ ⟨(blk_cell BK200.out 0).trans rfl, (blk_cell BK200.out 1).trans rfl, (blk_cell BK201.out 0).trans rfl, (blk_cell BK201.out 1).trans rfl, (blk_cell BK202.out 0).trans rfl, (blk_cell BK202.out 1).trans rfl, (blk_cell BK202.out 2).trans rfl⟩ (fun hHeld => ?_)
     clear hK K
     refine norm_ (a' := ?_) ?_ ?_
     rotate_left
     ·show Act.put _ (some 23) _ = _
      simp only [Act.put, List.setIfInBounds_toArray, List.set_cons_zero, List.set_cons_succ, i64_w, i32_w]
      rfl
     refine two_ (i := 4) (j := 8) (Ni := some 25) (Nj := some 7) (bN 11 31) (bN 11 271) rfl rfl rfl rfl (two_of HT_.out (by kernel_rfl)) (by decide) (by decide) (fun K hK => ?_) (fun K hK => ?_)
     ·skip
      refine goes_ Try.func18 (by kernel_rfl) rfl #[.agg #[.int .i64 a0_0, .int .i64 a0_1], .agg #[.slice Ao130 t205.length co130, .slice Ao131 t208.length co131], .agg #[.int .i64 a2_0, .int .i64 a2_1, .int .i64 a2_2]] (by rfl) rfl rfl (by simp only [List.map_toArray, List.map_cons, List.map_nil] <;> rfl) ?_
      with_reducible refine (call_Serve.calls k a0_0 a0_1 _ _ t205 _ _ t208 a2_0 a2_1 a2_2 t211 t214 t217 _ ?side1 ?side2 ?side3 ?side4 A7.out).mono ?_
      (case side1 => exact (Kd.R_reads' HO207.out).2.2)
      (case side2 => exact (Kd.R_reads' HO207.out).2.1)
      (case side3 => exact (Kd.R_reads' HO210.out).2.2)
      (case side4 => exact (Kd.R_reads' HO210.out).2.1)
      rintro e w132 ⟨v212, v215, rfl, ho0, ho1, hb⟩
      refine ⟨_, rfl, ?_⟩
      have HO213 := Aside0.mk (Kd.R_lower (Kd.R_new' ho0 (Kd.R_lt HO207.out)) (below_size HB.out))
      have HO216 := Aside0.mk (Kd.R_lower (Kd.R_new' ho1 (Kd.R_lt HO210.out)) (below_size HB.out))
      replace HO207 := Aside0.mk (Kd.R_elder' HO207.out (Kd.R_base ho0) hb)
      replace HO210 := Aside0.mk (Kd.R_elder' HO210.out (Kd.R_base ho1) hb)
      replace BK200 := sBk BK200 hb
      replace BK201 := sBk BK201 hb
      replace BK202 := sBk BK202 hb
      replace HB := sHb hb
      (try clear hb)
      (try clear hb2)
      (try clear hk)
      (try clear hi)
      (try clear ho0)
      (try clear ho1)
      refine hK.out _ _ ⟨(blk_cell BK200.out 0).trans rfl, (blk_cell BK200.out 1).trans rfl, (blk_cell BK201.out 0).trans rfl, (blk_cell BK201.out 1).trans rfl, (blk_cell BK202.out 0).trans rfl, (blk_cell BK202.out 1).trans rfl, (blk_cell BK202.out 2).trans rfl⟩ (fun hHeld => ?_)
      clear hK K
      refine norm_ (a' := ?_) ?_ ?_
      rotate_left
      ·show Act.put _ (some 25) _ = _
       simp only [Act.put, List.setIfInBounds_toArray, List.set_cons_zero, List.set_cons_succ, i64_w, i32_w]
       rfl
      refine pure_ (i := 5) (N := some 20) (v := ?_) (a' := ?_) (bN 11 63) rfl rfl (any_of HT_.out (by kernel_rfl)) (fun _ _ _ h => h) (Or.inl ⟨by rfl, ?_⟩) ?_ ?_
      rotate_left
      ·intro w'
       go_simp
       with_reducible rfl
      rotate_left
      ·simp only [Act.put, List.setIfInBounds_toArray, List.set_cons_zero, List.set_cons_succ, i64_w, i32_w]
       rfl
      refine pure_ (i := 6) (N := some 26) (v := ?_) (a' := ?_) (bN 11 127) rfl rfl (any_of HT_.out (by kernel_rfl)) (fun _ _ _ h => h) (Or.inl ⟨by rfl, ?_⟩) ?_ ?_
      rotate_left
      ·intro w'
       go_simp
       with_reducible rfl
      rotate_left
      ·simp only [Act.put, List.setIfInBounds_toArray, List.set_cons_zero, List.set_cons_succ, i64_w, i32_w]
       rfl
      refine pure_ (i := 7) (N := some 27) (v := ?_) (a' := ?_) (bN 11 255) rfl rfl (any_of HT_.out (by kernel_rfl)) (fun _ _ _ h => h) (Or.inl ⟨by rfl, ?_⟩) ?_ ?_
      rotate_left
      ·intro w'
       go_simp
       with_reducible rfl
      rotate_left
      ·simp only [Act.put, List.setIfInBounds_toArray, List.set_cons_zero, List.set_cons_succ, i64_w, i32_w]
       rfl
      refine one_ (i := 8) (N := some 7) (bN 11 511) rfl rfl (one_of HT_.out (by kernel_rfl)) (by decide) (fun K hK => ?_)
      refine box_step ?hg (N := 7) ?hd (cs := #[.slice none 0 0, .slice none 0 0]) (t := 27) ?hr ?_; (case hd => rfl); (case hg => rfl); (case hr => go_simp <;> rfl)
      intro gb218 hg w133 hbox hb
      have BK218 := Aside0.mk hbox
      have GW218 := sGe hg
      have GE218 := sGe hg
      have NB200_218 := sNl BK200 hg
      have NB218_200 := sNg BK200 hg
      have NB201_218 := sNl BK201 hg
      have NB218_201 := sNg BK201 hg
      have NB202_218 := sNl BK202 hg
      have NB218_202 := sNg BK202 hg
      replace HO207 := sRb HO207 hb
      replace HO210 := sRb HO210 hb
      replace HO213 := sRb HO213 hb
      replace HO216 := sRb HO216 hb
      replace BK200 := sBk BK200 hb
      replace BK201 := sBk BK201 hb
      replace BK202 := sBk BK202 hb
      replace HB := sHb hb
      clear hb hbox hg
      refine hK.out _ _ ⟨(blk_cell BK200.out 0).trans rfl, (blk_cell BK200.out 1).trans rfl, (blk_cell BK201.out 0).trans rfl, (blk_cell BK201.out 1).trans rfl, (blk_cell BK202.out 0).trans rfl, (blk_cell BK202.out 1).trans rfl, (blk_cell BK202.out 2).trans rfl⟩ (fun hHeld => ?_)
      clear hK K
      refine norm_ (a' := ?_) ?_ ?_
      rotate_left
      ·show Act.put _ (some 7) _ = _
       simp only [Act.put, List.setIfInBounds_toArray, List.set_cons_zero, List.set_cons_succ, i64_w, i32_w]
       rfl
      exact norm_ (by simp only [putAll, Act.put, List.setIfInBounds_toArray, List.set_cons_zero, List.set_cons_succ]) (hCont (.slice Ao130 t205.length co130, .slice Ao131 t208.length co131, v212, v215, gb218) _ ⟨hHeld, (by (with_reducible repeat (first | apply Kd.R_alloc | apply Kd.R_drewN | apply Kd.R_drew)); exact Kd.R_mono HO207.out (fun _ hk => hk.2)), (by (with_reducible repeat (first | apply Kd.R_alloc | apply Kd.R_drewN | apply Kd.R_drew)); exact Kd.R_mono HO210.out (fun _ hk => hk.2)), (by (with_reducible repeat (first | apply Kd.R_alloc | apply Kd.R_drewN | apply Kd.R_drew)); exact Kd.R_mono HO213.out (fun _ hk => hk.2)), (by (with_reducible repeat (first | apply Kd.R_alloc | apply Kd.R_drewN | apply Kd.R_drew)); exact Kd.R_mono HO216.out (fun _ hk => hk.2)), BK200.out, BK201.out, BK202.out, BK218.out, GW218.out, GE218.out, NB200_218.out, NB218_200.out, NB201_218.out, NB218_201.out, NB202_218.out, NB218_202.out, HB.out⟩)
     ·skip
      refine box_step ?hg (N := 7) ?hd (cs := #[.slice none 0 0, .slice none 0 0]) (t := 27) ?hr ?_; (case hd => rfl); (case hg => rfl); (case hr => go_simp <;> rfl)
      intro gb218 hg w130 hbox hb
      have BK218 := Aside0.mk hbox
      have GW218 := sGe hg
      have GE218 := sGe hg
      have NB200_218 := sNl BK200 hg
      have NB218_200 := sNg BK200 hg
      have NB201_218 := sNl BK201 hg
      have NB218_201 := sNg BK201 hg
      have NB202_218 := sNl BK202 hg
      have NB218_202 := sNg BK202 hg
      replace HO207 := sRb HO207 hb
      replace HO210 := sRb HO210 hb
      replace BK200 := sBk BK200 hb
      replace BK201 := sBk BK201 hb
      replace BK202 := sBk BK202 hb
      replace HB := sHb hb
      clear hb hbox hg
      obtain ⟨Ao131, co131, eo131⟩ := Kd.R_slice HO207.out
      (first | subst eo131 | (injection eo131 with f1_ f2_ f3_; have f4_ := f1_.symm; have f5_ := f3_.symm; clear f1_ f2_ f3_; subst f4_; subst f5_))
      obtain ⟨Ao132, co132, eo132⟩ := Kd.R_slice HO210.out
      (first | subst eo132 | (injection eo132 with f1_ f2_ f3_; have f4_ := f1_.symm; have f5_ := f3_.symm; clear f1_ f2_ f3_; subst f4_; subst f5_))
      refine hK.out _ _ ⟨(blk_cell BK200.out 0).trans rfl, (blk_cell BK200.out 1).trans rfl, (blk_cell BK201.out 0).trans rfl, (blk_cell BK201.out 1).trans rfl, (blk_cell BK202.out 0).trans rfl, (blk_cell BK202.out 1).trans rfl, (blk_cell BK202.out 2).trans rfl⟩ (fun hHeld => ?_)
      clear hK K
      refine norm_ (a' := ?_) ?_ ?_
      rotate_left
      ·show Act.put _ (some 7) _ = _
       simp only [Act.put, List.setIfInBounds_toArray, List.set_cons_zero, List.set_cons_succ, i64_w, i32_w]
       rfl
      refine one_ (i := 4) (N := some 25) (bN 11 287) rfl rfl (one_of HT_.out (by kernel_rfl)) (by decide) (fun K hK => ?_)
      refine goes_ Try.func18 (by kernel_rfl) rfl #[.agg #[.int .i64 a0_0, .int .i64 a0_1], .agg #[.slice Ao131 t205.length co131, .slice Ao132 t208.length co132], .agg #[.int .i64 a2_0, .int .i64 a2_1, .int .i64 a2_2]] (by rfl) rfl rfl (by simp only [List.map_toArray, List.map_cons, List.map_nil] <;> rfl) ?_
      with_reducible refine (call_Serve.calls k a0_0 a0_1 _ _ t205 _ _ t208 a2_0 a2_1 a2_2 t211 t214 t217 _ ?side1 ?side2 ?side3 ?side4 A7.out).mono ?_
      (case side1 => exact (Kd.R_reads' HO207.out).2.2)
      (case side2 => exact (Kd.R_reads' HO207.out).2.1)
      (case side3 => exact (Kd.R_reads' HO210.out).2.2)
      (case side4 => exact (Kd.R_reads' HO210.out).2.1)
      rintro e w133 ⟨v212, v215, rfl, ho0, ho1, hb⟩
      refine ⟨_, rfl, ?_⟩
      have HO213 := Aside0.mk (Kd.R_lower (Kd.R_new' ho0 (Kd.R_lt HO207.out)) (below_size HB.out))
      have HO216 := Aside0.mk (Kd.R_lower (Kd.R_new' ho1 (Kd.R_lt HO210.out)) (below_size HB.out))
      replace HO207 := Aside0.mk (Kd.R_elder' HO207.out (Kd.R_base ho0) hb)
      replace HO210 := Aside0.mk (Kd.R_elder' HO210.out (Kd.R_base ho1) hb)
      replace BK200 := sBk BK200 hb
      replace BK201 := sBk BK201 hb
      replace BK202 := sBk BK202 hb
      replace BK218 := sBk BK218 hb
      replace HB := sHb hb
      (try clear hb)
      (try clear hb2)
      (try clear hk)
      (try clear hi)
      (try clear ho0)
      (try clear ho1)
      refine hK.out _ _ ⟨(blk_cell BK200.out 0).trans rfl, (blk_cell BK200.out 1).trans rfl, (blk_cell BK201.out 0).trans rfl, (blk_cell BK201.out 1).trans rfl, (blk_cell BK202.out 0).trans rfl, (blk_cell BK202.out 1).trans rfl, (blk_cell BK202.out 2).trans rfl⟩ (fun hHeld => ?_)
      clear hK K
      refine norm_ (a' := ?_) ?_ ?_
      rotate_left
      ·show Act.put _ (some 25) _ = _
       simp only [Act.put, List.setIfInBounds_toArray, List.set_cons_zero, List.set_cons_succ, i64_w, i32_w]
       rfl
      refine pure_ (i := 5) (N := some 20) (v := ?_) (a' := ?_) (bN 11 319) rfl rfl (any_of HT_.out (by kernel_rfl)) (fun _ _ _ h => h) (Or.inl ⟨by rfl, ?_⟩) ?_ ?_
      rotate_left
      ·intro w'
       go_simp
       with_reducible rfl
      rotate_left
      ·simp only [Act.put, List.setIfInBounds_toArray, List.set_cons_zero, List.set_cons_succ, i64_w, i32_w]
       rfl
      refine pure_ (i := 6) (N := some 26) (v := ?_) (a' := ?_) (bN 11 383) rfl rfl (any_of HT_.out (by kernel_rfl)) (fun _ _ _ h => h) (Or.inl ⟨by rfl, ?_⟩) ?_ ?_
      rotate_left
      ·intro w'
       go_simp
       with_reducible rfl
      rotate_left
      ·simp only [Act.put, List.setIfInBounds_toArray, List.set_cons_zero, List.set_cons_succ, i64_w, i32_w]
       rfl
      refine pure_ (i := 7) (N := some 27) (v := ?_) (a' := ?_) (bN 11 511) rfl rfl (any_of HT_.out (by kernel_rfl)) (fun _ _ _ h => h) (Or.inl ⟨by rfl, ?_⟩) ?_ ?_
      rotate_left
      ·intro w'
       go_simp
       with_reducible rfl
      rotate_left
      ·simp only [Act.put, List.setIfInBounds_toArray, List.set_cons_zero, List.set_cons_succ, i64_w, i32_w]
       rfl
      exact norm_ (by simp only [putAll, Act.put, List.setIfInBounds_toArray, List.set_cons_zero, List.set_cons_succ]) (hCont (.slice Ao131 t205.length co131, .slice Ao132 t208.length co132, v212, v215, gb218) _ ⟨hHeld, (by (with_reducible repeat (first | apply Kd.R_alloc | apply Kd.R_drewN | apply Kd.R_drew)); exact Kd.R_mono HO207.out (fun _ hk => hk.2)), (by (with_reducible repeat (first | apply Kd.R_alloc | apply Kd.R_drewN | apply Kd.R_drew)); exact Kd.R_mono HO210.out (fun _ hk => hk.2)), (by (with_reducible repeat (first | apply Kd.R_alloc | apply Kd.R_drewN | apply Kd.R_drew)); exact Kd.R_mono HO213.out (fun _ hk => hk.2)), (by (with_reducible repeat (first | apply Kd.R_alloc | apply Kd.R_drewN | apply Kd.R_drew)); exact Kd.R_mono HO216.out (fun _ hk => hk.2)), BK200.out, BK201.out, BK202.out, BK218.out, GW218.out, GE218.out, NB200_218.out, NB218_200.out, NB201_218.out, NB218_201.out, NB202_218.out, NB218_202.out, HB.out⟩)
    ·skip
     refine box_step ?hg (N := 7) ?hd (cs := #[.slice none 0 0, .slice none 0 0]) (t := 27) ?hr ?_; (case hd => rfl); (case hg => rfl); (case hr => go_simp <;> rfl)
     intro gb218 hg w129 hbox hb
     have BK218 := Aside0.mk hbox
     have GW218 := sGe hg
     have GE218 := sGe hg
     have NB200_218 := sNl BK200 hg
     have NB218_200 := sNg BK200 hg
     have NB201_218 := sNl BK201 hg
     have NB218_201 := sNg BK201 hg
     have NB202_218 := sNl BK202 hg
     have NB218_202 := sNg BK202 hg
     replace BK200 := sBk BK200 hb
     replace BK201 := sBk BK201 hb
     replace BK202 := sBk BK202 hb
     replace HB := sHb hb
     clear hb hbox hg
     refine hK.out _ _ ⟨(blk_cell BK200.out 0).trans rfl, (blk_cell BK200.out 1).trans rfl, (blk_cell BK201.out 0).trans rfl, (blk_cell BK201.out 1).trans rfl, (blk_cell BK202.out 0).trans rfl, (blk_cell BK202.out 1).trans rfl, (blk_cell BK202.out 2).trans rfl⟩ (fun hHeld => ?_)
     clear hK K
     refine norm_ (a' := ?_) ?_ ?_
     rotate_left
     ·show Act.put _ (some 7) _ = _
      simp only [Act.put, List.setIfInBounds_toArray, List.set_cons_zero, List.set_cons_succ, i64_w, i32_w]
      rfl
     refine one_ (i := 2) (N := some 23) (bN 11 271) rfl rfl (one_of HT_.out (by kernel_rfl)) (by decide) (fun K hK => ?_)
     refine goes_ Try.func12 (by kernel_rfl) rfl #[.agg #[.slice A1_0 l1_0.length c1_0, .slice A1_1 l1_1.length c1_1]] (by rfl) rfl rfl (by simp only [List.map_toArray, List.map_cons, List.map_nil] <;> rfl) ?_
     with_reducible refine (newellaw19_Own.calls _ _ l1_0 _ _ l1_1 t205 t208 _ ?side1 ?side2 ?side3 ?side4 A6.out).mono ?_
     (case side1 => exact (Kd.C_below HR1_0.out HB.out))
     (case side2 => exact HC1_0.out)
     (case side3 => exact (Kd.C_below HR1_1.out HB.out))
     (case side4 => exact HC1_1.out)
     rintro e w130 ⟨v206, v209, rfl, ho0, ho1, hb⟩
     refine ⟨_, rfl, ?_⟩
     have HO207 := Aside0.mk (Kd.R_lower ho0 (below_size HB.out))
     have HO210 := Aside0.mk (Kd.R_lower ho1 (below_size HB.out))
     replace BK200 := sBk BK200 hb
     replace BK201 := sBk BK201 hb
     replace BK202 := sBk BK202 hb
     replace BK218 := sBk BK218 hb
     replace HB := sHb hb
     (try clear hb)
     (try clear hb2)
     (try clear hk)
     (try clear hi)
     (try clear ho0)
     (try clear ho1)
     obtain ⟨Ao131, co131, eo131⟩ := Kd.R_slice HO207.out
     (first | subst eo131 | (injection eo131 with f1_ f2_ f3_; have f4_ := f1_.symm; have f5_ := f3_.symm; clear f1_ f2_ f3_; subst f4_; subst f5_))
     obtain ⟨Ao132, co132, eo132⟩ := Kd.R_slice HO210.out
     (first | subst eo132 | (injection eo132 with f1_ f2_ f3_; have f4_ := f1_.symm; have f5_ := f3_.symm; clear f1_ f2_ f3_; subst f4_; subst f5_))
     refine hK.out _ _ ⟨(blk_cell BK200.out 0).trans rfl, (blk_cell BK200.out 1).trans rfl, (blk_cell BK201.out 0).trans rfl, (blk_cell BK201.out 1).trans rfl, (blk_cell BK202.out 0).trans rfl, (blk_cell BK202.out 1).trans rfl, (blk_cell BK202.out 2).trans rfl⟩ (fun hHeld => ?_)
     clear hK K
     refine norm_ (a' := ?_) ?_ ?_
     rotate_left
     ·show Act.put _ (some 23) _ = _
      simp only [Act.put, List.setIfInBounds_toArray, List.set_cons_zero, List.set_cons_succ, i64_w, i32_w]
      rfl
     refine one_ (i := 4) (N := some 25) (bN 11 287) rfl rfl (one_of HT_.out (by kernel_rfl)) (by decide) (fun K hK => ?_)
     refine goes_ Try.func18 (by kernel_rfl) rfl #[.agg #[.int .i64 a0_0, .int .i64 a0_1], .agg #[.slice Ao131 t205.length co131, .slice Ao132 t208.length co132], .agg #[.int .i64 a2_0, .int .i64 a2_1, .int .i64 a2_2]] (by rfl) rfl rfl (by simp only [List.map_toArray, List.map_cons, List.map_nil] <;> rfl) ?_
     with_reducible refine (call_Serve.calls k a0_0 a0_1 _ _ t205 _ _ t208 a2_0 a2_1 a2_2 t211 t214 t217 _ ?side1 ?side2 ?side3 ?side4 A7.out).mono ?_
     (case side1 => exact (Kd.R_reads' HO207.out).2.2)
     (case side2 => exact (Kd.R_reads' HO207.out).2.1)
     (case side3 => exact (Kd.R_reads' HO210.out).2.2)
     (case side4 => exact (Kd.R_reads' HO210.out).2.1)
     rintro e w133 ⟨v212, v215, rfl, ho0, ho1, hb⟩
     refine ⟨_, rfl, ?_⟩
     have HO213 := Aside0.mk (Kd.R_lower (Kd.R_new' ho0 (Kd.R_lt HO207.out)) (below_size HB.out))
     have HO216 := Aside0.mk (Kd.R_lower (Kd.R_new' ho1 (Kd.R_lt HO210.out)) (below_size HB.out))
     replace HO207 := Aside0.mk (Kd.R_elder' HO207.out (Kd.R_base ho0) hb)
     replace HO210 := Aside0.mk (Kd.R_elder' HO210.out (Kd.R_base ho1) hb)
     replace BK200 := sBk BK200 hb
     replace BK201 := sBk BK201 hb
     replace BK202 := sBk BK202 hb
     replace BK218 := sBk BK218 hb
     replace HB := sHb hb
     (try clear hb)
     (try clear hb2)
     (try clear hk)
     (try clear hi)
     (try clear ho0)
     (try clear ho1)
     refine hK.out _ _ ⟨(blk_cell BK200.out 0).trans rfl, (blk_cell BK200.out 1).trans rfl, (blk_cell BK201.out 0).trans rfl, (blk_cell BK201.out 1).trans rfl, (blk_cell BK202.out 0).trans rfl, (blk_cell BK202.out 1).trans rfl, (blk_cell BK202.out 2).trans rfl⟩ (fun hHeld => ?_)
     clear hK K
     refine norm_ (a' := ?_) ?_ ?_
     rotate_left
     ·show Act.put _ (some 25) _ = _
      simp only [Act.put, List.setIfInBounds_toArray, List.set_cons_zero, List.set_cons_succ, i64_w, i32_w]
      rfl
     refine pure_ (i := 5) (N := some 20) (v := ?_) (a' := ?_) (bN 11 319) rfl rfl (any_of HT_.out (by kernel_rfl)) (fun _ _ _ h => h) (Or.inl ⟨by rfl, ?_⟩) ?_ ?_
     rotate_left
     ·intro w'
      go_simp
      with_reducible rfl
     rotate_left
     ·simp only [Act.put, List.setIfInBounds_toArray, List.set_cons_zero, List.set_cons_succ, i64_w, i32_w]
      rfl
     refine pure_ (i := 6) (N := some 26) (v := ?_) (a' := ?_) (bN 11 383) rfl rfl (any_of HT_.out (by kernel_rfl)) (fun _ _ _ h => h) (Or.inl ⟨by rfl, ?_⟩) ?_ ?_
     rotate_left
     ·intro w'
      go_simp
      with_reducible rfl
     rotate_left
     ·simp only [Act.put, List.setIfInBounds_toArray, List.set_cons_zero, List.set_cons_succ, i64_w, i32_w]
      rfl
     refine pure_ (i := 7) (N := some 27) (v := ?_) (a' := ?_) (bN 11 511) rfl rfl (any_of HT_.out (by kernel_rfl)) (fun _ _ _ h => h) (Or.inl ⟨by rfl, ?_⟩) ?_ ?_
     rotate_left
     ·intro w'
      go_simp
      with_reducible rfl
     rotate_left
     ·simp only [Act.put, List.setIfInBounds_toArray, List.set_cons_zero, List.set_cons_succ, i64_w, i32_w]
      rfl
     exact norm_ (by simp only [putAll, Act.put, List.setIfInBounds_toArray, List.set_cons_zero, List.set_cons_succ]) (hCont (.slice Ao131 t205.length co131, .slice Ao132 t208.length co132, v212, v215, gb218) _ ⟨hHeld, (by (with_reducible repeat (first | apply Kd.R_alloc | apply Kd.R_drewN | apply Kd.R_drew)); exact Kd.R_mono HO207.out (fun _ hk => hk.2)), (by (with_reducible repeat (first | apply Kd.R_alloc | apply Kd.R_drewN | apply Kd.R_drew)); exact Kd.R_mono HO210.out (fun _ hk => hk.2)), (by (with_reducible repeat (first | apply Kd.R_alloc | apply Kd.R_drewN | apply Kd.R_drew)); exact Kd.R_mono HO213.out (fun _ hk => hk.2)), (by (with_reducible repeat (first | apply Kd.R_alloc | apply Kd.R_drewN | apply Kd.R_drew)); exact Kd.R_mono HO216.out (fun _ hk => hk.2)), BK200.out, BK201.out, BK202.out, BK218.out, GW218.out, GE218.out, NB200_218.out, NB218_200.out, NB201_218.out, NB218_201.out, NB202_218.out, NB218_202.out, HB.out⟩)
   rintro ⟨v206, v209, v212, v215, gb218⟩ w134 ⟨hS_, h0_, h1_, h2_, h3_, h4_, h5_, h6_, h7_, h8_, h9_, h10_, h11_, h12_, h13_, h14_, h15_, h16_⟩
   have n0_ : Aside0 (Kd.R k56 56 w134 w.heap.size (fun k_ => some k_ ≠ (v212 : Value).ownBlock) v206 t205) := ⟨h0_⟩
   have n1_ : Aside0 (Kd.R k62 62 w134 w.heap.size (fun k_ => some k_ ≠ (v215 : Value).ownBlock) v209 t208) := ⟨h1_⟩
   have n2_ : Aside0 (Kd.R k56 56 w134 w.heap.size (fun k_ => some k_ ≠ (v206 : Value).ownBlock) v212 t211) := ⟨h2_⟩
   have n3_ : Aside0 (Kd.R k62 62 w134 w.heap.size (fun k_ => some k_ ≠ (v209 : Value).ownBlock) v215 t214) := ⟨h3_⟩
   have n4_ : Aside0 (w134.heap[gb200]? = some (.cells #[.int .i64 a0_0, .int .i64 a0_1] 23 (0, 0))) := ⟨h4_⟩
   have n5_ : Aside0 (w134.heap[gb201]? = some (.cells #[.slice A1_0 l1_0.length c1_0, .slice A1_1 l1_1.length c1_1] 27 (0, 0))) := ⟨h5_⟩
   have n6_ : Aside0 (w134.heap[gb202]? = some (.cells #[.int .i64 a2_0, .int .i64 a2_1, .int .i64 a2_2] 43 (0, 0))) := ⟨h6_⟩
   have n7_ : Aside0 (w134.heap[gb218]? = some (.cells #[.slice none 0 0, .slice none 0 0] 27 (0, 0))) := ⟨h7_⟩
   have n8_ : Aside0 (w.heap.size ≤ gb218) := ⟨h8_⟩
   have n9_ : Aside0 (w.heap.size ≤ gb218) := ⟨h9_⟩
   have n10_ : Aside0 (gb200 ≠ gb218) := ⟨h10_⟩
   have n11_ : Aside0 (gb218 ≠ gb200) := ⟨h11_⟩
   have n12_ : Aside0 (gb201 ≠ gb218) := ⟨h12_⟩
   have n13_ : Aside0 (gb218 ≠ gb201) := ⟨h13_⟩
   have n14_ : Aside0 (gb202 ≠ gb218) := ⟨h14_⟩
   have n15_ : Aside0 (gb218 ≠ gb202) := ⟨h15_⟩
   have n16_ : Aside0 (Below w.heap.size w w134) := ⟨h16_⟩
   clear BK200
   clear BK201
   clear BK202
   clear HB
   clear h0_ h1_ h2_ h3_ h4_ h5_ h6_ h7_ h8_ h9_ h10_ h11_ h12_ h13_ h14_ h15_ h16_
   have HO207 := n0_
   have HO210 := n1_
   have HO213 := n2_
   have HO216 := n3_
   have BK200 := n4_
   have BK201 := n5_
   have BK202 := n6_
   have BK218 := n7_
   have GW218 := n8_
   have GE218 := n9_
   have NB200_218 := n10_
   have NB218_200 := n11_
   have NB201_218 := n12_
   have NB218_201 := n13_
   have NB202_218 := n14_
   have NB218_202 := n15_
   have HB := n16_
   clear n0_ n1_ n2_ n3_ n4_ n5_ n6_ n7_ n8_ n9_ n10_ n11_ n12_ n13_ n14_ n15_ n16_
   have hHeld : w134.cell? ⟨gb200, 0, none⟩ = some (.int .i64 a0_0) ∧ w134.cell? ⟨gb200, 1, none⟩ = some (.int .i64 a0_1) ∧ w134.cell? ⟨gb201, 0, none⟩ = some (.slice A1_0 l1_0.length c1_0) ∧ w134.cell? ⟨gb201, 1, none⟩ = some (.slice A1_1 l1_1.length c1_1) ∧ w134.cell? ⟨gb202, 0, none⟩ = some (.int .i64 a2_0) ∧ w134.cell? ⟨gb202, 1, none⟩ = some (.int .i64 a2_1) ∧ w134.cell? ⟨gb202, 2, none⟩ = some (.int .i64 a2_2) := hS_
   obtain ⟨Ao135, co135, eo135⟩ := Kd.R_slice HO213.out
   (first | subst eo135 | (injection eo135 with f1_ f2_ f3_; have f4_ := f1_.symm; have f5_ := f3_.symm; clear f1_ f2_ f3_; subst f4_; subst f5_))
   obtain ⟨Ao137, co137, eo137⟩ := Kd.R_slice HO216.out
   (first | subst eo137 | (injection eo137 with f1_ f2_ f3_; have f4_ := f1_.symm; have f5_ := f3_.symm; clear f1_ f2_ f3_; subst f4_; subst f5_))
   refine norm_ (a' := ?_) ?_ ?_
   rotate_left
   ·simp only [putAll, Act.put, List.setIfInBounds_toArray, List.set_cons_zero, List.set_cons_succ]
    rfl
   refine one_ (i := 9) (N := none) (bN 11 1023) rfl rfl (one_of HT_.out (by kernel_rfl)) (by decide) (fun K hK => ?_)
   have hs136 : w134.cell? ⟨gb218, 0, none⟩ = some (.slice none 0 0) := (blk_cell BK218.out 0).trans rfl
   have hfs136 := blk_frozen BK218.out 0
   have hns136_0 := NB200_218.out
   have hns136_1 := NB201_218.out
   have hns136_2 := NB202_218.out
   have hms136_0 := NB218_200.out
   have hms136_1 := NB218_201.out
   have hms136_2 := NB218_202.out
   have hs138 : w134.cell? ⟨gb218, 1, none⟩ = some (.slice none 0 0) := (blk_cell BK218.out 1).trans rfl
   have hfs138 := blk_frozen BK218.out 1
   have hns138_0 := NB200_218.out
   have hns138_1 := NB201_218.out
   have hns138_2 := NB202_218.out
   have hms138_0 := NB218_200.out
   have hms138_1 := NB218_201.out
   have hms138_2 := NB218_202.out
   refine skip_ (w1 := ?_) (by rfl) rfl ?_ ?_
   rotate_left
   ·go_simp
    rfl
   refine hK.out _ _ ⟨((cell_far (p := ⟨gb218, _, none⟩) NB200_218.out _).trans (((cell_far (p := ⟨gb218, _, none⟩) NB200_218.out _).trans (hHeld.1)))), ((cell_far (p := ⟨gb218, _, none⟩) NB200_218.out _).trans (((cell_far (p := ⟨gb218, _, none⟩) NB200_218.out _).trans (hHeld.2.1)))), ((cell_far (p := ⟨gb218, _, none⟩) NB201_218.out _).trans (((cell_far (p := ⟨gb218, _, none⟩) NB201_218.out _).trans (hHeld.2.2.1)))), ((cell_far (p := ⟨gb218, _, none⟩) NB201_218.out _).trans (((cell_far (p := ⟨gb218, _, none⟩) NB201_218.out _).trans (hHeld.2.2.2.1)))), ((cell_far (p := ⟨gb218, _, none⟩) NB202_218.out _).trans (((cell_far (p := ⟨gb218, _, none⟩) NB202_218.out _).trans (hHeld.2.2.2.2.1)))), ((cell_far (p := ⟨gb218, _, none⟩) NB202_218.out _).trans (((cell_far (p := ⟨gb218, _, none⟩) NB202_218.out _).trans (hHeld.2.2.2.2.2.1)))), ((cell_far (p := ⟨gb218, _, none⟩) NB202_218.out _).trans (((cell_far (p := ⟨gb218, _, none⟩) NB202_218.out _).trans (hHeld.2.2.2.2.2.2))))⟩ (fun hHeld => ?_)
   clear hK K
   refine pure_ (i := 10) (N := some 8) (v := ?_) (a' := ?_) (bN 11 2047) rfl rfl (any_of HT_.out (by kernel_rfl)) (fun _ _ _ h => h) (Or.inl ⟨by rfl, ?_⟩) ?_ ?_
   rotate_left
   ·intro w'
    go_simp
    with_reducible rfl
   rotate_left
   ·simp only [Act.put, List.setIfInBounds_toArray, List.set_cons_zero, List.set_cons_succ, i64_w, i32_w]
    rfl
   refine done_ (done_of HT_.out (by kernel_rfl)) ?_
   try go_wp2_with (first | ((with_reducible refine gate_callee (f := 10) rfl ?_); refine goesL_ (some 30) rfl rfl Try.func10 (by kernel_rfl) rfl #[] rfl (by simp only [List.map_toArray, List.map_cons, List.map_nil] <;> rfl) ?_; (with_reducible refine (newellaw19_awake.calls k  t219 _ A120.out).mono ?_); rintro e w139 ⟨rfl, hb⟩; refine ⟨_, rfl, ?_⟩; replace HO207 := Aside0.mk (Kd.R_below (by (with_reducible repeat (first | apply Kd.R_alloc | apply Kd.R_drewN | apply Kd.R_drew)); exact (Kd.R_mono (Kd.R_far (Kd.R_far (Kd.R_types HO207.out BK218.out (by decide)) (fun _ hk => hk.2) _) (fun _ hk => hk.2) _) (fun _ h_ => h_.1))) hb); replace HO210 := Aside0.mk (Kd.R_below (by (with_reducible repeat (first | apply Kd.R_alloc | apply Kd.R_drewN | apply Kd.R_drew)); exact (Kd.R_mono (Kd.R_far (Kd.R_far (Kd.R_types HO210.out BK218.out (by decide)) (fun _ hk => hk.2) _) (fun _ hk => hk.2) _) (fun _ h_ => h_.1))) hb); replace HO213 := Aside0.mk (Kd.R_below (by (with_reducible repeat (first | apply Kd.R_alloc | apply Kd.R_drewN | apply Kd.R_drew)); exact (Kd.R_mono (Kd.R_far (Kd.R_far (Kd.R_types HO213.out BK218.out (by decide)) (fun _ hk => hk.2) _) (fun _ hk => hk.2) _) (fun _ h_ => h_.1))) hb); replace HO216 := Aside0.mk (Kd.R_below (by (with_reducible repeat (first | apply Kd.R_alloc | apply Kd.R_drewN | apply Kd.R_drew)); exact (Kd.R_mono (Kd.R_far (Kd.R_far (Kd.R_types HO216.out BK218.out (by decide)) (fun _ hk => hk.2) _) (fun _ hk => hk.2) _) (fun _ h_ => h_.1))) hb); replace BK200 := sBk BK200 hb; replace BK201 := sBk BK201 hb; replace BK202 := sBk BK202 hb; replace BK218 := Aside0.mk (blk_below (g := gb218) (o := .cells #[.slice Ao135 t211.length co135, .slice Ao137 t214.length co137] 27 (0, 0)) (by refine blk_put (cs := #[.slice Ao135 t211.length co135, .slice none 0 0]) ?_ 1 _ rfl; refine blk_put (cs := #[.slice none 0 0, .slice none 0 0]) ?_ 0 _ rfl; exact BK218.out) hb); replace HB := sHb hb; (try clear hb); (try clear hb2); (try clear hk); (try clear hi)))
   go_ret
   exact ⟨rfl, HB.out⟩
 ·replace c5 := Bool.eq_false_iff.mpr c5
  subst c5
  have H1 : ((newellaw19_awake.f k).bind fun t204 => (some t204)) = some r := by rw [if_neg (show ¬ (false = true) by decide)] at H; exact H
  clear H
  have H := H1
  clear H1
  replace H := Option.bind_eq_some_iff.mp H
  obtain ⟨t204, A1400, H⟩ := H
  replace H : (some t204) = some r := H
  have A140 := Aside0.mk A1400
  clear A1400
  obtain rfl := Option.some.inj H
  go_enter Try.func7, Try.ntmps7
  go_wp2_with (first | ((with_reducible refine gate_dst (N := 3) rfl ?_); refine box_event ?hg (N := 3) ?hd (cs := #[.int .i64 a0_0, .int .i64 a0_1]) (t := 23) ?hr ?_; (case hd => rfl); (case hg => rfl); (case hr => go_simp <;> rfl); intro gb200 hg w141 hbox hb; have BK200 := Aside0.mk hbox; have GW200 := sGe hg; have GE200 := sGe hg; replace HB := sHb hb; clear hb hbox hg) | ((with_reducible refine gate_dst (N := 4) rfl ?_); refine box_event ?hg (N := 4) ?hd (cs := #[.slice A1_0 l1_0.length c1_0, .slice A1_1 l1_1.length c1_1]) (t := 27) ?hr ?_; (case hd => rfl); (case hg => rfl); (case hr => go_simp <;> rfl); intro gb201 hg w142 hbox hb; have BK201 := Aside0.mk hbox; have GW201 := sGe hg; have GE201 := sGe hg; have NB200_201 := sNl BK200 hg; have NB201_200 := sNg BK200 hg; replace BK200 := sBk BK200 hb; replace HB := sHb hb; clear hb hbox hg) | ((with_reducible refine gate_dst (N := 5) rfl ?_); refine box_event ?hg (N := 5) ?hd (cs := #[.int .i64 a2_0, .int .i64 a2_1, .int .i64 a2_2]) (t := 43) ?hr ?_; (case hd => rfl); (case hg => rfl); (case hr => go_simp <;> rfl); intro gb202 hg w143 hbox hb; have BK202 := Aside0.mk hbox; have GW202 := sGe hg; have GE202 := sGe hg; have NB200_202 := sNl BK200 hg; have NB202_200 := sNg BK200 hg; have NB201_202 := sNl BK201 hg; have NB202_201 := sNg BK201 hg; replace BK200 := sBk BK200 hb; replace BK201 := sBk BK201 hb; replace HB := sHb hb; clear hb hbox hg; have hnb144 := NB201_200.out; have hnc144 := NB200_201.out; have hnb145 := NB201_202.out; have hnc145 := NB202_201.out; have hcz146_0 : w143.cell? ⟨gb201, 0, none⟩ = some (.slice A1_0 l1_0.length c1_0) := (blk_cell BK201.out 0).trans rfl; have hcz146_1 : w143.cell? ⟨gb201, 1, none⟩ = some (.slice A1_1 l1_1.length c1_1) := (blk_cell BK201.out 1).trans rfl; have hfz146_0 := blk_frozen BK201.out 0; have hfz146_1 := blk_frozen BK201.out 1) | ((with_reducible refine gate_callee (f := 9) rfl ?_); refine goesL_ (some 17) rfl rfl Try.func9 (by kernel_rfl) rfl #[.agg #[.slice A1_0 l1_0.length c1_0, .slice A1_1 l1_1.length c1_1]] rfl (by simp only [List.map_toArray, List.map_cons, List.map_nil] <;> rfl) ?_; (with_reducible refine (newelref19_Few.calls _ _ l1_0 _ _ l1_1 false _ ?side1 ?side2 ?side3 ?side4 A4.out).mono ?_); (case side1 => exact (Kd.C_below HR1_0.out HB.out)); (case side2 => exact HC1_0.out); (case side3 => exact (Kd.C_below HR1_1.out HB.out)); (case side4 => exact HC1_1.out); rintro e w147 ⟨rfl, hb⟩; refine ⟨_, rfl, ?_⟩; replace BK200 := sBk BK200 hb; replace BK201 := sBk BK201 hb; replace BK202 := sBk BK202 hb; replace HB := sHb hb; (try clear hb); (try clear hb2); (try clear hk); (try clear hi)) | ((with_reducible refine gate_callee (f := 10) rfl ?_); refine goesL_ (some 19) rfl rfl Try.func10 (by kernel_rfl) rfl #[] rfl (by simp only [List.map_toArray, List.map_cons, List.map_nil] <;> rfl) ?_; (with_reducible refine (newellaw19_awake.calls k  t204 _ A140.out).mono ?_); rintro e w148 ⟨rfl, hb⟩; refine ⟨_, rfl, ?_⟩; replace BK200 := sBk BK200 hb; replace BK201 := sBk BK201 hb; replace BK202 := sBk BK202 hb; replace HB := sHb hb; (try clear hb); (try clear hb2); (try clear hk); (try clear hi)))
  go_ret
  exact ⟨rfl, HB.out⟩
end Go.Proofs.Ytjehhhlhalkieaa.C
namespace Go.Proofs.Ytjehhhlhalkieaa.Call
open Go.RowKit Go.Proofs.YtjehhhlhalkieaaW.PrintWords Go.Proofs.YtjehhhlhalkieaaW.PrintLast Go.Proofs.YtjehhhlhalkieaaW.PrintMore Go.Proofs.Ytjehhhlhalkieaa.C
set_option linter.unusedVariables false
set_option linter.unusedSimpArgs false
theorem gone_wrap (a b H I : Nat) (ha : a ≤ H ∧ H ≤ a + 1) (hb : b ≤ I ∧ I ≤ b + 1) (hH : H ≤ 130) (hI : I ≤ 520) : wrap64 (wrap64 (wrap64 ((H : Int) + (I : Int)) - (a : Int)) - (b : Int)) = (H : Int) + (I : Int) - (a : Int) - (b : Int) := by
  have w1 : wrap64 ((H : Int) + (I : Int)) = (H : Int) + (I : Int) := by unfold wrap64; omega
  have w2 : wrap64 ((H : Int) + (I : Int) - (a : Int)) = (H : Int) + (I : Int) - (a : Int) := by unfold wrap64; omega
  have w3 : wrap64 ((H : Int) + (I : Int) - (a : Int) - (b : Int)) = (H : Int) + (I : Int) - (a : Int) - (b : Int) := by unfold wrap64; omega
  rw [w1, w2, w3]
section
variable (F C : Int) (H : List Hall) (I : List Ins) (car fl dir : Int) (a : List Hall) (b : List Ins) (hH : H.length ≤ 130) (hI : I.length ≤ 520) (ha : a.length ≤ H.length ∧ H.length ≤ a.length + 1) (hb : b.length ≤ I.length ∧ I.length ≤ b.length + 1)
include hH hI ha hb
theorem gone_l1 (k0 : Nat) (hk0 : 1000 ≤ k0) (hs : ∀ k, k0 ≤ k → call_Serve.f k F C a b car fl dir = some (a, b, 0)) (hc : ∀ k, k0 ≤ k → call_Check.f k F C a b = some 0) (hno : ∀ y ∈ a, ¬ (y.f0 = fl ∧ y.f1 = dir)) (j : Nat) : ∀ (f i : Nat), i + j = a.length → j + k0 < f →
    newellaw19_CallGone.l1 f 0 (i : Int) F C H I car fl dir a b = some true := by
  induction j with
  | zero =>
    intro f i hi hf
    obtain ⟨f, rfl⟩ : ∃ f', f = f' + 1 := ⟨f - 1, by omega⟩
    unfold newellaw19_CallGone.l1
    obtain ⟨D, hD⟩ : ∃ D, (H.length : Int) + (I.length : Int) - (a.length : Int) - (b.length : Int) = D := ⟨_, rfl⟩
    rw [if_neg (by omega), gone_wrap _ _ _ _ ha hb hH hI, hD, own_eq a b (by omega) (by omega), Option.bind_some, hs f (by omega), Option.bind_some, awake_eq f (by omega), Option.bind_some, if_pos rfl, if_pos rfl, if_pos rfl, same_refl f a b (by omega), Option.bind_some, if_pos rfl, if_pos (by omega), if_pos (by omega), hc f (by omega), Option.bind_some]
    rfl
  | succ j ih =>
    intro f i hi hf
    obtain ⟨f, rfl⟩ : ∃ f', f = f' + 1 := ⟨f - 1, by omega⟩
    have h1 : i < a.length := by omega
    unfold newellaw19_CallGone.l1
    obtain ⟨D, hD⟩ : ∃ D, (H.length : Int) + (I.length : Int) - (a.length : Int) - (b.length : Int) = D := ⟨_, rfl⟩
    rw [gone_wrap _ _ _ _ ha hb hH hI, hD, if_pos (by omega), if_pos (by omega), rdH_at a i h1, show wrap64 ((i : Int) + 1) = ((i + 1 : Nat) : Int) from by unfold wrap64; omega, ih f (i + 1) (by omega) (by omega)]
    have hn := hno a[i] (List.getElem_mem h1)
    by_cases h0 : a[i].f0 = fl
    · rw [if_pos h0, if_neg (fun h => hn ⟨h0, h⟩)]
    · rw [if_neg h0]
theorem gone_l0 (k0 : Nat) (hk0 : 1000 ≤ k0) (hs : ∀ k, k0 ≤ k → call_Serve.f k F C a b car fl dir = some (a, b, 0)) (hc : ∀ k, k0 ≤ k → call_Check.f k F C a b = some 0) (hno : ∀ y ∈ a, ¬ (y.f0 = fl ∧ y.f1 = dir)) (V U D : List Int) (hV : ∀ y ∈ V, y ≠ fl) (hVl : V.length ≤ 600) (j : Nat) : ∀ (f i : Nat), i + j = V.length → j + a.length + k0 + 1 < f →
    newellaw19_CallGone.l0 f 0 (i : Int) F C H I car fl dir a b V U D = some true := by
  induction j with
  | zero =>
    intro f i hi hf
    obtain ⟨f, rfl⟩ : ∃ f', f = f' + 1 := ⟨f - 1, by omega⟩
    unfold newellaw19_CallGone.l0
    rw [if_neg (by omega)]
    exact gone_l1 F C H I car fl dir a b hH hI ha hb k0 hk0 hs hc hno a.length f 0 (by omega) (by omega)
  | succ j ih =>
    intro f i hi hf
    obtain ⟨f, rfl⟩ : ∃ f', f = f' + 1 := ⟨f - 1, by omega⟩
    have h1 : i < V.length := by omega
    unfold newellaw19_CallGone.l0
    have hr : rd V (i : Int) = V[i] := by unfold rd; simp [h1]
    rw [if_pos (by omega), if_pos (by omega), hr, if_neg (hV _ (List.getElem_mem h1)), show wrap64 ((i : Int) + 1) = ((i + 1 : Nat) : Int) from by unfold wrap64; omega]
    exact ih f (i + 1) (by omega) (by omega)
end
theorem gone_eq (F C : Int) (H : List Hall) (I : List Ins) (car fl dir : Int) (hC : i64 C) (hf : i64 fl) (hd : i64 dir) (K : Nat) (hK : 3000 ≤ K) : newellaw19_CallGone.f K F C H I car fl dir = some true := by
  have haw := awake_eq K (by omega)
  have hse : ∀ k H I, 1 ≤ k → H.length < 900000000 → I.length < 900000000 → call_Serve.f k F C H I car fl dir = some (serveS F C H I car fl dir) := fun k H I hk h1 h2 => by
    obtain ⟨k, rfl⟩ : ∃ k', k = k' + 1 := ⟨k - 1, by omega⟩
    exact serve_eq k F C H I car fl dir h1 h2 hC hf hd
  unfold newellaw19_CallGone.f
  rcases few_eq H I with hw | ⟨hw, hH, hI⟩
  · rw [hw, haw]
    rfl
  · rw [hw, Option.bind_some, if_pos rfl, own_eq H I (by omega) (by omega), Option.bind_some, hse K H I (by omega) (by omega) (by omega), Option.bind_some, haw]
    cases hok : okB F C H I
    · have e : serveS F C H I car fl dir = ([], [], 190) := by unfold serveS; rw [hok, if_neg (by decide)]
      rw [e, if_neg (by decide)]
      rfl
    · by_cases hin : insB F C car fl = true ∧ (-1 ≤ dir ∧ dir ≤ 1)
      · have e : serveS F C H I car fl dir = (woH fl dir 0 H, woI car fl I, 0) := by unfold serveS; rw [hok, if_pos rfl, if_pos hin]
        rw [e, if_pos rfl]
        have ok2 := wo_ok hok fl dir 0 car fl
        have la := woH_len hok fl dir 0
        have lb := woI_len hok car fl
        obtain ⟨hF, hC1, _⟩ := ok_parts.1 hok
        have hcar := (ins_car hF hC1).1 hin.1
        have hma := woH_mem fl dir 0 H
        have hmb := woI_mem car fl I
        have e2 : serveS F C (woH fl dir 0 H) (woI car fl I) car fl dir = (woH fl dir 0 H, woI car fl I, 0) := by
          unfold serveS
          rw [ok2, if_pos rfl, if_pos hin]
          have i1 : woH fl dir 0 (woH fl dir 0 H) = woH fl dir 0 H := filter_again _ _
          have i2 : woI car fl (woI car fl I) = woI car fl I := filter_again _ _
          rw [i1, i2]
        obtain ⟨a, hea⟩ : ∃ a, woH fl dir 0 H = a := ⟨_, rfl⟩
        obtain ⟨b, heb⟩ : ∃ b, woI car fl I = b := ⟨_, rfl⟩
        rw [hea, heb] at e2 ok2
        rw [hea] at la hma
        rw [heb] at lb hmb
        rw [hea, heb, view_eq K F C a b car (by omega) (by omega) hC (by omega), if_pos ok2, if_pos hcar.1, Option.bind_some]
        refine gone_l0 F C H I car fl dir a b hH hI la lb 1000 (by omega) (fun k hk => by rw [hse k a b (by omega) (by omega) (by omega), e2]) (fun k hk => ?_) hma (viewI car b) _ _ ?_ ?_ (viewI car b).length K 0 (by omega) ?_
        · obtain ⟨k, rfl⟩ : ∃ k', k = k' + 1 := ⟨k - 1, by omega⟩
          rw [check_eq k F C a b (by omega) (by omega) hC, if_pos ok2]
        · intro y hy hyf
          unfold viewI at hy
          rw [List.mem_map] at hy
          obtain ⟨x, hx, rfl⟩ := hy
          rw [List.mem_filter, decide_eq_true_eq] at hx
          exact hmb x hx.1 ⟨hx.2, hyf⟩
        · unfold viewI
          rw [List.length_map]
          have := List.length_filter_le (fun x : Ins => decide (x.f0 = car)) b
          omega
        · have : (viewI car b).length ≤ b.length := by
            unfold viewI
            rw [List.length_map]
            exact List.length_filter_le _ _
          omega
      · have e : serveS F C H I car fl dir = ([], [], 191) := by unfold serveS; rw [hok, if_pos rfl, if_neg hin]
        rw [e, if_neg (by decide)]
        rfl
end Go.Proofs.Ytjehhhlhalkieaa.Call
