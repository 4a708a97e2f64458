/- Texts of this claim, one behind the other: what the law's functions come to, walked (printed by a program, with the words that the print uses), and what that is, in plain Lean. No conditions of their own. -/
import Derived.Test.YtjehhhlhalkieaaQCallViews7
namespace Go.Proofs.Ytjehhhlhalkieaa.C
open Go.RowKit Go.Proofs.YtjehhhlhalkieaaW.PrintWords Go.Proofs.YtjehhhlhalkieaaW.PrintLast Go.Proofs.YtjehhhlhalkieaaW.PrintMore
attribute [local go_sem] max2_int min2_int max_two min_two max_three min_three max_four min_four
set_option linter.unusedVariables false
set_option linter.unusedSimpArgs false
mutual
def newellaw19_CallViews.j0 : Nat → Bool → Int → Int → List (S56) → List (S62) → Option (Bool)
 | 0, _, _, _, _, _ => none
 | k + 1, x20, x201000, x201001, x202000, x202001 => if x20 = true then ((newellaw19_awake.f k).bind fun t210 => (some t210)) else (newellaw19_CallViews.l0 k 0 0 x201000 x201001 x202000 x202001)
def newellaw19_CallViews.l0 : Nat → Int → Int → Int → Int → List (S56) → List (S62) → Option (Bool)
 | 0, _, _, _, _, _, _ => none
 | k + 1, x5, x6, x201000, x201001, x202000, x202001 => if x6 < x201001 then ((newellaw19_Own.f x202000 x202001).bind fun bt211 => ((call_View.f k x201000 x201001 bt211.1 bt211.2 x6).bind fun bt217 => (if bt217.2.2.2 = 0 then (newellaw19_CallViews.l0 k (wrap64 ((wrap64 ((wrap64 (x5 + (bt217.1.length : Int))) + (bt217.2.1.length : Int))) + (bt217.2.2.1.length : Int))) (wrap64 (x6 + 1)) x201000 x201001 x202000 x202001) else (none)))) else (newellaw19_CallViews.l1 k x5 0 0 x202000 x202001)
def newellaw19_CallViews.l1 : Nat → Int → Int → Int → List (S56) → List (S62) → Option (Bool)
 | 0, _, _, _, _, _ => none
 | k + 1, x5, x9, x10, x202000, x202001 => if x10 < (x202000.length : Int) then (if 0 ≤ x10 then (if ((rd_T56 x202000 x10).f2) < 0 then (newellaw19_CallViews.l1 k x5 (wrap64 (x9 + 1)) (wrap64 (x10 + 1)) x202000 x202001) else (newellaw19_CallViews.l1 k x5 x9 (wrap64 (x10 + 1)) x202000 x202001)) else (none)) else ((newellaw19_awake.f k).bind fun t229 => (if t229 = true then (some ((wrap64 (x5 + x9)) == (wrap64 ((x202000.length : Int) + (x202001.length : Int))))) else (none)))
end
def newellaw19_CallViews.f (k : Nat) (a0_0 : Int) (a0_1 : Int) (l1_0 : List (S56)) (l1_1 : List (S62)) : Option (Bool) := (newelref19_Few.f l1_0 l1_1).bind fun t202 => (if t202 = true then ((newellaw19_Own.f l1_0 l1_1).bind fun bt203 => ((call_Check.f k a0_0 a0_1 bt203.1 bt203.2).bind fun t209 => (newellaw19_CallViews.j0 k (t209 != 0) a0_0 a0_1 l1_0 l1_1))) else (newellaw19_CallViews.j0 k true a0_0 a0_1 l1_0 l1_1))
theorem newellaw19_CallViews.mono_l : ∀ k, (∀ y0 y1 y2 y3 y4, LeO (newellaw19_CallViews.j0 k y0 y1 y2 y3 y4) (newellaw19_CallViews.j0 (k + 1) y0 y1 y2 y3 y4)) ∧ (∀ y0 y1 y2 y3 y4 y5, LeO (newellaw19_CallViews.l0 k y0 y1 y2 y3 y4 y5) (newellaw19_CallViews.l0 (k + 1) y0 y1 y2 y3 y4 y5)) ∧ (∀ y0 y1 y2 y3 y4, LeO (newellaw19_CallViews.l1 k y0 y1 y2 y3 y4) (newellaw19_CallViews.l1 (k + 1) y0 y1 y2 y3 y4))
 | 0 => ⟨fun _ _ _ _ _ r h => by simp [newellaw19_CallViews.j0] at h, fun _ _ _ _ _ _ r h => by simp [newellaw19_CallViews.l0] at h, fun _ _ _ _ _ r h => by simp [newellaw19_CallViews.l1] at h⟩
 | k + 1 => by
  obtain ⟨ih0, ih1, ih2⟩ := newellaw19_CallViews.mono_l k
  refine ⟨?_, ?_, ?_⟩
  ·intro y0 y1 y2 y3 y4
   unfold newellaw19_CallViews.j0
   repeat' first
   | (with_reducible exact ih0 _ _ _ _ _)
   | (with_reducible exact ih1 _ _ _ _ _ _)
   | (with_reducible exact ih2 _ _ _ _ _)
   | (with_reducible exact call_Check.mono _ _ _ _ _)
   | (with_reducible exact call_View.mono _ _ _ _ _ _)
   | (with_reducible exact newellaw19_awake.mono _)
   | (with_reducible exact LeO.refl _)
   | (with_reducible exact LeO.none _)
   | (with_reducible refine LeO.ite ?_ ?_)
   | (with_reducible refine LeO.bind ?_ (fun _ => ?_))
   | exact ih0 _ _ _ _ _
   | exact ih1 _ _ _ _ _ _
   | exact ih2 _ _ _ _ _
   | exact call_Check.mono _ _ _ _ _
   | exact call_View.mono _ _ _ _ _ _
   | exact newellaw19_awake.mono _
   | exact LeO.none _
   | refine LeO.ite ?_ ?_
   | refine LeO.bind ?_ (fun _ => ?_)
  ·intro y0 y1 y2 y3 y4 y5
   unfold newellaw19_CallViews.l0
   repeat' first
   | (with_reducible exact ih0 _ _ _ _ _)
   | (with_reducible exact ih1 _ _ _ _ _ _)
   | (with_reducible exact ih2 _ _ _ _ _)
   | (with_reducible exact call_Check.mono _ _ _ _ _)
   | (with_reducible exact call_View.mono _ _ _ _ _ _)
   | (with_reducible exact newellaw19_awake.mono _)
   | (with_reducible exact LeO.refl _)
   | (with_reducible exact LeO.none _)
   | (with_reducible refine LeO.ite ?_ ?_)
   | (with_reducible refine LeO.bind ?_ (fun _ => ?_))
   | exact ih0 _ _ _ _ _
   | exact ih1 _ _ _ _ _ _
   | exact ih2 _ _ _ _ _
   | exact call_Check.mono _ _ _ _ _
   | exact call_View.mono _ _ _ _ _ _
   | exact newellaw19_awake.mono _
   | exact LeO.none _
   | refine LeO.ite ?_ ?_
   | refine LeO.bind ?_ (fun _ => ?_)
  ·intro y0 y1 y2 y3 y4
   unfold newellaw19_CallViews.l1
   repeat' first
   | (with_reducible exact ih0 _ _ _ _ _)
   | (with_reducible exact ih1 _ _ _ _ _ _)
   | (with_reducible exact ih2 _ _ _ _ _)
   | (with_reducible exact call_Check.mono _ _ _ _ _)
   | (with_reducible exact call_View.mono _ _ _ _ _ _)
   | (with_reducible exact newellaw19_awake.mono _)
   | (with_reducible exact LeO.refl _)
   | (with_reducible exact LeO.none _)
   | (with_reducible refine LeO.ite ?_ ?_)
   | (with_reducible refine LeO.bind ?_ (fun _ => ?_))
   | exact ih0 _ _ _ _ _
   | exact ih1 _ _ _ _ _ _
   | exact ih2 _ _ _ _ _
   | exact call_Check.mono _ _ _ _ _
   | exact call_View.mono _ _ _ _ _ _
   | exact newellaw19_awake.mono _
   | exact LeO.none _
   | refine LeO.ite ?_ ?_
   | refine LeO.bind ?_ (fun _ => ?_)
theorem newellaw19_CallViews.mono : ∀ a0 a1 a2 a3 k, LeO (newellaw19_CallViews.f k a0 a1 a2 a3) (newellaw19_CallViews.f (k + 1) a0 a1 a2 a3) := by
 intro a0 a1 a2 a3 k
 obtain ⟨ih0, ih1, ih2⟩ := newellaw19_CallViews.mono_l k
 unfold newellaw19_CallViews.f
 repeat' first
   | (with_reducible exact ih0 _ _ _ _ _)
   | (with_reducible exact ih1 _ _ _ _ _ _)
   | (with_reducible exact ih2 _ _ _ _ _)
   | (with_reducible exact call_Check.mono _ _ _ _ _)
   | (with_reducible exact call_View.mono _ _ _ _ _ _)
   | (with_reducible exact newellaw19_awake.mono _)
   | (with_reducible exact LeO.refl _)
   | (with_reducible exact LeO.none _)
   | (with_reducible refine LeO.ite ?_ ?_)
   | (with_reducible refine LeO.bind ?_ (fun _ => ?_))
   | exact ih0 _ _ _ _ _
   | exact ih1 _ _ _ _ _ _
   | exact ih2 _ _ _ _ _
   | exact call_Check.mono _ _ _ _ _
   | exact call_View.mono _ _ _ _ _ _
   | exact newellaw19_awake.mono _
   | exact LeO.none _
   | refine LeO.ite ?_ ?_
   | refine LeO.bind ?_ (fun _ => ?_)
def newellaw19_CallViews.T1 : Bool × List (List Nat × List Nat) := (true, [([], []), ([0], [0]), ([1], [1]), ([2, 1], [2]), ([3], [3]), ([3], [3]), ([5, 3, 3], [3, 5]), ([4, 6, 6, 3], [3, 4, 6]), ([7, 3], [3, 7]), ([3, 8], [3, 8])])
def newellaw19_CallViews.B1 : List Nat := [0, 1, 3, 7, 15, 15, 47, 127, 255, 511]
theorem newellaw19_CallViews.tab1 : rtab .any (opsOf Try.f8 1) = newellaw19_CallViews.T1 := by kernel_rfl
theorem newellaw19_CallViews.bits1 : waitsOk newellaw19_CallViews.T1.2 newellaw19_CallViews.B1 = true := by kernel_rfl
def newellaw19_CallViews.T7 : Bool × List (List Nat × List Nat) := (true, [([], []), ([], []), ([1], [1]), ([], []), ([0, 2, 3, 2], [0, 2, 3]), ([4], [4]), ([5], [5]), ([5], [5]), ([], []), ([8, 6, 4, 0, 1, 2, 3, 4, 5, 6, 8], [6, 8]), ([7, 9, 0, 1, 2, 3, 4, 5, 6, 7, 8, 9], [7])])
def newellaw19_CallViews.B7 : List Nat := [0, 0, 2, 0, 15, 31, 63, 63, 0, 383, 1023]
theorem newellaw19_CallViews.tab7 : rtab .any (opsOf Try.f8 7) = newellaw19_CallViews.T7 := by kernel_rfl
theorem newellaw19_CallViews.bits7 : waitsOk newellaw19_CallViews.T7.2 newellaw19_CallViews.B7 = true := by kernel_rfl
set_option maxHeartbeats 8000000 in
set_option maxRecDepth 100000 in
theorem newellaw19_CallViews.calls (k : Nat) (a0_0 : Int) (a0_1 : Int) (A1_0 : Option Addr) (c1_0 : Nat) (l1_0 : List (S56)) (A1_1 : Option Addr) (c1_1 : Nat) (l1_1 : List (S62)) (r : Bool) (w : World) (hr1_0 : Kd.C k56 w A1_0 l1_0.length l1_0) (hc1_0 : l1_0.length ≤ c1_0) (hr1_1 : Kd.C k62 w A1_1 l1_1.length l1_1) (hc1_1 : l1_1.length ≤ c1_1) (h : newellaw19_CallViews.f k a0_0 a0_1 l1_0 l1_1 = some r) :
  Calls Try.prog 8 #[.agg #[.int .i64 a0_0, .int .i64 a0_1], .agg #[.slice A1_0 l1_0.length c1_0, .slice A1_1 l1_1.length c1_1]] w fun e w' => e = .returned (.bool r) ∧ Below w.heap.size w w' := by
 have hu23 := Try.underlying23
 have hu27 := Try.underlying27
 have hu47 := Try.underlying47
 have HR1_0 := Aside0.mk hr1_0
 have HC1_0 := Aside0.mk hc1_0
 clear hr1_0 hc1_0
 have HR1_1 := Aside0.mk hr1_1
 have HC1_1 := Aside0.mk hc1_1
 clear hr1_1 hc1_1
 have HB := Aside0.mk (Below.refl w.heap.size w)
 have H : ((newelref19_Few.f l1_0 l1_1).bind fun t202 => (if t202 = true then ((newellaw19_Own.f l1_0 l1_1).bind fun bt203 => ((call_Check.f k a0_0 a0_1 bt203.1 bt203.2).bind fun t209 => (newellaw19_CallViews.j0 k (t209 != 0) a0_0 a0_1 l1_0 l1_1))) else (newellaw19_CallViews.j0 k true a0_0 a0_1 l1_0 l1_1))) = some r := h
 clear h
 have HC3 := Aside0.mk H
 clear H
 go_enter Try.func8, Try.ntmps8
 go_upto_region 1 with (first | ((with_reducible refine gate_dst (N := 2) rfl ?_); (try (refine gate_guard (by rfl) ?_; dsimp only)); refine box_event ?hg (N := 2) ?hd (cs := #[.int .i64 a0_0, .int .i64 a0_1]) (t := 23) ?hr ?_; (case hd => rfl); (case hg => rfl); (case hr => go_simp <;> rfl); intro gb200 hg w4 hbox hb; have BK200 := Aside0.mk hbox; have GW200 := sGe hg; have GE200 := sGe hg; replace HB := sHb hb; clear hb hbox hg) | ((with_reducible refine gate_dst (N := 3) rfl ?_); (try (refine gate_guard (by rfl) ?_; dsimp only)); refine box_event ?hg (N := 3) ?hd (cs := #[.slice A1_0 l1_0.length c1_0, .slice A1_1 l1_1.length c1_1]) (t := 27) ?hr ?_; (case hd => rfl); (case hg => rfl); (case hr => go_simp <;> rfl); intro gb201 hg w5 hbox hb; have BK201 := Aside0.mk hbox; have GW201 := sGe hg; have GE201 := sGe hg; have NB200_201 := sNl BK200 hg; have NB201_200 := sNg BK200 hg; replace BK200 := sBk BK200 hb; replace HB := sHb hb; clear hb hbox hg))
 (try simp only [Act.put, List.setIfInBounds_toArray, List.set_cons_zero, List.set_cons_succ])
 go_cut [20] (fun v20 wc => ∃ (kq : Nat) (x20_2 : Bool), v20 = .bool x20_2 ∧ Aside0 (newellaw19_CallViews.j0 kq x20_2 a0_0 a0_1 l1_0 l1_1 = some r) ∧ Aside0 (kq ≤ k) ∧ Aside0 (wc.heap[gb200]? = some (.cells #[.int .i64 a0_0, .int .i64 a0_1] 23 (0, 0))) ∧ Aside0 (wc.heap[gb201]? = some (.cells #[(.slice A1_0 l1_0.length c1_0), (.slice A1_1 l1_1.length c1_1)] 27 (0, 0))) ∧ Aside0 (Below w.heap.size w wc))
 case first =>
  have H := HC3.out
  clear HC3
  replace H := Option.bind_eq_some_iff.mp H
  obtain ⟨t202, A60, H⟩ := H
  replace H : (if t202 = true then ((newellaw19_Own.f l1_0 l1_1).bind fun bt203 => ((call_Check.f k a0_0 a0_1 bt203.1 bt203.2).bind fun t209 => (newellaw19_CallViews.j0 k (t209 != 0) a0_0 a0_1 l1_0 l1_1))) else (newellaw19_CallViews.j0 k true a0_0 a0_1 l1_0 l1_1)) = some r := H
  have A6 := Aside0.mk A60
  clear A60
  by_cases c7 : t202 = true
  ·subst c7
   have H1 : ((newellaw19_Own.f l1_0 l1_1).bind fun bt203 => ((call_Check.f k a0_0 a0_1 bt203.1 bt203.2).bind fun t209 => (newellaw19_CallViews.j0 k (t209 != 0) a0_0 a0_1 l1_0 l1_1))) = some r := by rw [if_pos rfl] at H; exact H
   clear H
   have H := H1
   clear H1
   replace H := Option.bind_eq_some_iff.mp H
   obtain ⟨⟨t203, t206⟩, A80, H⟩ := H
   replace H : ((call_Check.f k a0_0 a0_1 t203 t206).bind fun t209 => (newellaw19_CallViews.j0 k (t209 != 0) a0_0 a0_1 l1_0 l1_1)) = some r := H
   have A8 := Aside0.mk A80
   clear A80
   replace H := Option.bind_eq_some_iff.mp H
   obtain ⟨t209, A90, H⟩ := H
   replace H : (newellaw19_CallViews.j0 k (t209 != 0) a0_0 a0_1 l1_0 l1_1) = some r := H
   have A9 := Aside0.mk A90
   clear A90
   have H' := Aside0.mk H
   clear H
   try go_wp2
   replace BK200 := Aside0.mk (blk_drew BK200.out)
   replace BK201 := Aside0.mk (blk_drew BK201.out)
   replace HB := Aside0.mk (below_drew1 HB.out)
   refine start_ (n := 10) (S := fun w' => w'.cell? ⟨gb201, 0, none⟩ = some (.slice A1_0 l1_0.length c1_0) ∧ w'.cell? ⟨gb201, 1, none⟩ = some (.slice A1_1 l1_1.length c1_1) ∧ w'.cell? ⟨gb200, 0, none⟩ = some (.int .i64 a0_0) ∧ w'.cell? ⟨gb200, 1, none⟩ = some (.int .i64 a0_1)) (ds := []) #[false, false, false, false, false, false, false, false, false, false] (by kernel_rfl) rfl rfl ⟨(blk_cell BK201.out 0).trans rfl, (blk_cell BK201.out 1).trans rfl, (blk_cell BK200.out 0).trans rfl, (blk_cell BK200.out 1).trans rfl⟩ (fun hHeld => ?_); refine with_tabW newellaw19_CallViews.tab1 newellaw19_CallViews.bits1 (fun HT_ HW_ => ?_)
   generalize w5.drew = w10 at BK200 BK201 HB hHeld ⊢
   refine take_ (i := 0) (N := some 11) (v := ?_) (a' := ?_) (bN 10 1) rfl rfl (take_ofW HT_.out HW_.out (by kernel_rfl)) (fun _ _ _ h => h) (Or.inl ⟨by rfl, ?_⟩) hHeld ?_ ?_
   rotate_left
   ·rintro w' ⟨s0, s1, s2, s3⟩
    go_simp
    with_reducible rfl
   rotate_left
   ·simp only [Act.put, List.setIfInBounds_toArray, List.set_cons_zero, List.set_cons_succ, i64_w, i32_w]
    rfl
   refine one_ (i := 1) (N := some 12) (bN 10 3) rfl rfl (one_of HT_.out (by kernel_rfl)) (by decide) (fun K hK => ?_)
   refine goes_ Try.func9 (by kernel_rfl) rfl #[.agg #[.slice A1_0 l1_0.length c1_0, .slice A1_1 l1_1.length c1_1]] (by rfl) rfl rfl (by simp only [List.map_toArray, List.map_cons, List.map_nil] <;> rfl) ?_
   with_reducible refine (newelref19_Few.calls _ _ l1_0 _ _ l1_1 true _ ?side1 ?side2 ?side3 ?side4 A6.out).mono ?_
   (case side1 => exact (Kd.C_below HR1_0.out HB.out))
   (case side2 => exact HC1_0.out)
   (case side3 => exact (Kd.C_below HR1_1.out HB.out))
   (case side4 => exact HC1_1.out)
   rintro e w11 ⟨rfl, hb⟩
   refine ⟨_, rfl, ?_⟩
   replace BK200 := sBk BK200 hb
   replace BK201 := sBk BK201 hb
   replace HB := sHb hb
   (try clear hb)
   (try clear hb2)
   (try clear hk)
   (try clear hi)
   refine hK.out _ _ ⟨(blk_cell BK201.out 0).trans rfl, (blk_cell BK201.out 1).trans rfl, (blk_cell BK200.out 0).trans rfl, (blk_cell BK200.out 1).trans rfl⟩ (fun hHeld => ?_)
   clear hK K
   refine norm_ (a' := ?_) ?_ ?_
   rotate_left
   ·show Act.put _ (some 12) _ = _
    simp only [Act.put, List.setIfInBounds_toArray, List.set_cons_zero, List.set_cons_succ, i64_w, i32_w]
    rfl
   refine pure_ (i := 2) (N := some 13) (v := ?_) (a' := ?_) (bN 10 7) rfl rfl (any_of HT_.out (by kernel_rfl)) (fun _ _ _ h => h) (Or.inl ⟨by rfl, ?_⟩) ?_ ?_
   rotate_left
   ·intro w'
    go_simp
    with_reducible rfl
   rotate_left
   ·simp only [Act.put, List.setIfInBounds_toArray, List.set_cons_zero, List.set_cons_succ, i64_w, i32_w]
    rfl
   refine pure_ (i := 3) (N := some 14) (v := ?_) (a' := ?_) (bN 10 15) rfl rfl (any_of HT_.out (by kernel_rfl)) (fun _ _ _ h => h) (Or.inl ⟨by rfl, ?_⟩) ?_ ?_
   rotate_left
   ·intro w'
    go_simp
    with_reducible rfl
   rotate_left
   ·simp only [Act.put, List.setIfInBounds_toArray, List.set_cons_zero, List.set_cons_succ, i64_w, i32_w]
    rfl
   refine take_ (i := 4) (N := some 15) (v := ?_) (a' := ?_) (bN 10 31) rfl rfl (take_ofW HT_.out HW_.out (by kernel_rfl)) (fun _ _ _ h => h) (Or.inl ⟨by rfl, ?_⟩) hHeld ?_ ?_
   rotate_left
   ·rintro w' ⟨s0, s1, s2, s3⟩
    go_simp
    with_reducible rfl
   rotate_left
   ·simp only [Act.put, List.setIfInBounds_toArray, List.set_cons_zero, List.set_cons_succ, i64_w, i32_w]
    rfl
   refine take_ (i := 5) (N := some 16) (v := ?_) (a' := ?_) (bN 10 63) rfl rfl (take_ofW HT_.out HW_.out (by kernel_rfl)) (fun _ _ _ h => h) (Or.inl ⟨by rfl, ?_⟩) hHeld ?_ ?_
   rotate_left
   ·rintro w' ⟨s0, s1, s2, s3⟩
    go_simp
    with_reducible rfl
   rotate_left
   ·simp only [Act.put, List.setIfInBounds_toArray, List.set_cons_zero, List.set_cons_succ, i64_w, i32_w]
    rfl
   refine one_ (i := 6) (N := some 17) (bN 10 127) rfl rfl (one_of HT_.out (by kernel_rfl)) (by decide) (fun K hK => ?_)
   refine goes_ Try.func12 (by kernel_rfl) rfl #[.agg #[.slice A1_0 l1_0.length c1_0, .slice A1_1 l1_1.length c1_1]] (by rfl) rfl rfl (by simp only [List.map_toArray, List.map_cons, List.map_nil] <;> rfl) ?_
   with_reducible refine (newellaw19_Own.calls _ _ l1_0 _ _ l1_1 t203 t206 _ ?side1 ?side2 ?side3 ?side4 A8.out).mono ?_
   (case side1 => exact (Kd.C_below HR1_0.out HB.out))
   (case side2 => exact HC1_0.out)
   (case side3 => exact (Kd.C_below HR1_1.out HB.out))
   (case side4 => exact HC1_1.out)
   rintro e w12 ⟨v204, v207, rfl, ho0, ho1, hb⟩
   refine ⟨_, rfl, ?_⟩
   have HO205 := Aside0.mk (Kd.R_lower ho0 (below_size HB.out))
   have HO208 := Aside0.mk (Kd.R_lower ho1 (below_size HB.out))
   replace BK200 := sBk BK200 hb
   replace BK201 := sBk BK201 hb
   replace HB := sHb hb
   (try clear hb)
   (try clear hb2)
   (try clear hk)
   (try clear hi)
   (try clear ho0)
   (try clear ho1)
   obtain ⟨Ao13, co13, eo13⟩ := Kd.R_slice HO205.out
   (first | subst eo13 | (injection eo13 with f1_ f2_ f3_; have f4_ := f1_.symm; have f5_ := f3_.symm; clear f1_ f2_ f3_; subst f4_; subst f5_))
   obtain ⟨Ao14, co14, eo14⟩ := Kd.R_slice HO208.out
   (first | subst eo14 | (injection eo14 with f1_ f2_ f3_; have f4_ := f1_.symm; have f5_ := f3_.symm; clear f1_ f2_ f3_; subst f4_; subst f5_))
   refine hK.out _ _ ⟨(blk_cell BK201.out 0).trans rfl, (blk_cell BK201.out 1).trans rfl, (blk_cell BK200.out 0).trans rfl, (blk_cell BK200.out 1).trans rfl⟩ (fun hHeld => ?_)
   clear hK K
   refine norm_ (a' := ?_) ?_ ?_
   rotate_left
   ·show Act.put _ (some 17) _ = _
    simp only [Act.put, List.setIfInBounds_toArray, List.set_cons_zero, List.set_cons_succ, i64_w, i32_w]
    rfl
   refine one_ (i := 7) (N := some 18) (bN 10 255) rfl rfl (one_of HT_.out (by kernel_rfl)) (by decide) (fun K hK => ?_)
   refine goes_ Try.func14 (by kernel_rfl) rfl #[.agg #[.int .i64 a0_0, .int .i64 a0_1], .agg #[.slice Ao13 t203.length co13, .slice Ao14 t206.length co14]] (by rfl) rfl rfl (by simp only [List.map_toArray, List.map_cons, List.map_nil] <;> rfl) ?_
   with_reducible refine (call_Check.calls k a0_0 a0_1 _ _ t203 _ _ t206 t209 _ ?side1 ?side2 ?side3 ?side4 A9.out).mono ?_
   (case side1 => exact (Kd.R_reads' HO205.out).2.2)
   (case side2 => exact (Kd.R_reads' HO205.out).2.1)
   (case side3 => exact (Kd.R_reads' HO208.out).2.2)
   (case side4 => exact (Kd.R_reads' HO208.out).2.1)
   rintro e w15 ⟨rfl, hb⟩
   refine ⟨_, rfl, ?_⟩
   replace HO205 := sRb HO205 hb
   replace HO208 := sRb HO208 hb
   replace BK200 := sBk BK200 hb
   replace BK201 := sBk BK201 hb
   replace HB := sHb hb
   (try clear hb)
   (try clear hb2)
   (try clear hk)
   (try clear hi)
   refine hK.out _ _ ⟨(blk_cell BK201.out 0).trans rfl, (blk_cell BK201.out 1).trans rfl, (blk_cell BK200.out 0).trans rfl, (blk_cell BK200.out 1).trans rfl⟩ (fun hHeld => ?_)
   clear hK K
   refine norm_ (a' := ?_) ?_ ?_
   rotate_left
   ·show Act.put _ (some 18) _ = _
    simp only [Act.put, List.setIfInBounds_toArray, List.set_cons_zero, List.set_cons_succ, i64_w, i32_w]
    rfl
   refine pure_ (i := 8) (N := some 19) (v := ?_) (a' := ?_) (bN 10 511) rfl rfl (any_of HT_.out (by kernel_rfl)) (fun _ _ _ h => h) (Or.inl ⟨by rfl, ?_⟩) ?_ ?_
   rotate_left
   ·intro w'
    go_simp
    with_reducible rfl
   rotate_left
   ·simp only [Act.put, List.setIfInBounds_toArray, List.set_cons_zero, List.set_cons_succ, i64_w, i32_w]
    rfl
   refine pure_ (i := 9) (N := some 20) (v := ?_) (a' := ?_) (bN 10 1023) rfl rfl (any_of HT_.out (by kernel_rfl)) (fun _ _ _ h => h) (Or.inl ⟨by rfl, ?_⟩) ?_ ?_
   rotate_left
   ·intro w'
    go_simp
    with_reducible rfl
   rotate_left
   ·simp only [Act.put, List.setIfInBounds_toArray, List.set_cons_zero, List.set_cons_succ, i64_w, i32_w]
    rfl
   refine done_ (done_of HT_.out (by kernel_rfl)) ?_
   try go_wp2
   go_meet
   case rel => exact ⟨_, ((t209 != 0)), rfl, H', ⟨by first | omega | exact Nat.le_refl _⟩, BK200, BK201, HB⟩
  ·replace c7 := Bool.eq_false_iff.mpr c7
   subst c7
   have H1 : (newellaw19_CallViews.j0 k true a0_0 a0_1 l1_0 l1_1) = some r := by rw [if_neg (show ¬ (false = true) by decide)] at H; exact H
   clear H
   have H := H1
   clear H1
   have H' := Aside0.mk H
   clear H
   try go_wp2
   replace BK200 := Aside0.mk (blk_drew BK200.out)
   replace BK201 := Aside0.mk (blk_drew BK201.out)
   replace HB := Aside0.mk (below_drew1 HB.out)
   refine start_ (n := 10) (S := fun w' => w'.cell? ⟨gb201, 0, none⟩ = some (.slice A1_0 l1_0.length c1_0) ∧ w'.cell? ⟨gb201, 1, none⟩ = some (.slice A1_1 l1_1.length c1_1)) (ds := []) #[false, false, false, false, false, false, false, false, false, false] (by kernel_rfl) rfl rfl ⟨(blk_cell BK201.out 0).trans rfl, (blk_cell BK201.out 1).trans rfl⟩ (fun hHeld => ?_); refine with_tabW newellaw19_CallViews.tab1 newellaw19_CallViews.bits1 (fun HT_ HW_ => ?_)
   generalize w5.drew = w16 at BK200 BK201 HB hHeld ⊢
   refine take_ (i := 0) (N := some 11) (v := ?_) (a' := ?_) (bN 10 1) rfl rfl (take_ofW HT_.out HW_.out (by kernel_rfl)) (fun _ _ _ h => h) (Or.inl ⟨by rfl, ?_⟩) hHeld ?_ ?_
   rotate_left
   ·rintro w' ⟨s0, s1⟩
    go_simp
    with_reducible rfl
   rotate_left
   ·simp only [Act.put, List.setIfInBounds_toArray, List.set_cons_zero, List.set_cons_succ, i64_w, i32_w]
    rfl
   refine one_ (i := 1) (N := some 12) (bN 10 3) rfl rfl (one_of HT_.out (by kernel_rfl)) (by decide) (fun K hK => ?_)
   refine goes_ Try.func9 (by kernel_rfl) rfl #[.agg #[.slice A1_0 l1_0.length c1_0, .slice A1_1 l1_1.length c1_1]] (by rfl) rfl rfl (by simp only [List.map_toArray, List.map_cons, List.map_nil] <;> rfl) ?_
   with_reducible refine (newelref19_Few.calls _ _ l1_0 _ _ l1_1 false _ ?side1 ?side2 ?side3 ?side4 A6.out).mono ?_
   (case side1 => exact (Kd.C_below HR1_0.out HB.out))
   (case side2 => exact HC1_0.out)
   (case side3 => exact (Kd.C_below HR1_1.out HB.out))
   (case side4 => exact HC1_1.out)
   rintro e w17 ⟨rfl, hb⟩
   refine ⟨_, rfl, ?_⟩
   replace BK200 := sBk BK200 hb
   replace BK201 := sBk BK201 hb
   replace HB := sHb hb
   (try clear hb)
   (try clear hb2)
   (try clear hk)
   (try clear hi)
   refine hK.out _ _ ⟨(blk_cell BK201.out 0).trans rfl, (blk_cell BK201.out 1).trans rfl⟩ (fun hHeld => ?_)
   clear hK K
   refine norm_ (a' := ?_) ?_ ?_
   rotate_left
   ·show Act.put _ (some 12) _ = _
    simp only [Act.put, List.setIfInBounds_toArray, List.set_cons_zero, List.set_cons_succ, i64_w, i32_w]
    rfl
   refine pure_ (i := 2) (N := some 13) (v := ?_) (a' := ?_) (bN 10 7) rfl rfl (any_of HT_.out (by kernel_rfl)) (fun _ _ _ h => h) (Or.inl ⟨by rfl, ?_⟩) ?_ ?_
   rotate_left
   ·intro w'
    go_simp
    with_reducible rfl
   rotate_left
   ·simp only [Act.put, List.setIfInBounds_toArray, List.set_cons_zero, List.set_cons_succ, i64_w, i32_w]
    rfl
   refine pure_ (i := 3) (N := some 14) (v := ?_) (a' := ?_) (bN 10 15) rfl rfl (any_of HT_.out (by kernel_rfl)) (fun _ _ _ h => h) (Or.inl ⟨by rfl, ?_⟩) ?_ ?_
   rotate_left
   ·intro w'
    go_simp
    with_reducible rfl
   rotate_left
   ·simp only [Act.put, List.setIfInBounds_toArray, List.set_cons_zero, List.set_cons_succ, i64_w, i32_w]
    rfl
   refine pure_ (i := 4) (N := some 15) (v := undef) (a' := ?_) (bN 10 31) rfl rfl (any_of HT_.out (by kernel_rfl)) (fun _ _ _ h => h) (Or.inr ⟨by rfl, rfl⟩) ?_ ?_
   rotate_left
   ·simp only [Act.put, List.setIfInBounds_toArray, List.set_cons_zero, List.set_cons_succ, i64_w, i32_w]
    rfl
   refine pure_ (i := 5) (N := some 16) (v := undef) (a' := ?_) (bN 10 63) rfl rfl (any_of HT_.out (by kernel_rfl)) (fun _ _ _ h => h) (Or.inr ⟨by rfl, rfl⟩) ?_ ?_
   rotate_left
   ·simp only [Act.put, List.setIfInBounds_toArray, List.set_cons_zero, List.set_cons_succ, i64_w, i32_w]
    rfl
   refine pure_ (i := 6) (N := some 17) (v := undef) (a' := ?_) (bN 10 127) rfl rfl (any_of HT_.out (by kernel_rfl)) (fun _ _ _ h => h) (Or.inr ⟨by rfl, rfl⟩) ?_ ?_
   rotate_left
   ·simp only [Act.put, List.setIfInBounds_toArray, List.set_cons_zero, List.set_cons_succ, i64_w, i32_w]
    rfl
   refine pure_ (i := 7) (N := some 18) (v := undef) (a' := ?_) (bN 10 255) rfl rfl (any_of HT_.out (by kernel_rfl)) (fun _ _ _ h => h) (Or.inr ⟨by rfl, rfl⟩) ?_ ?_
   rotate_left
   ·simp only [Act.put, List.setIfInBounds_toArray, List.set_cons_zero, List.set_cons_succ, i64_w, i32_w]
    rfl
   refine pure_ (i := 8) (N := some 19) (v := undef) (a' := ?_) (bN 10 511) rfl rfl (any_of HT_.out (by kernel_rfl)) (fun _ _ _ h => h) (Or.inr ⟨by rfl, rfl⟩) ?_ ?_
   rotate_left
   ·simp only [Act.put, List.setIfInBounds_toArray, List.set_cons_zero, List.set_cons_succ, i64_w, i32_w]
    rfl
   refine pure_ (i := 9) (N := some 20) (v := ?_) (a' := ?_) (bN 10 1023) rfl rfl (any_of HT_.out (by kernel_rfl)) (fun _ _ _ h => h) (Or.inl ⟨by rfl, ?_⟩) ?_ ?_
   rotate_left
   ·intro w'
    go_simp
    with_reducible rfl
   rotate_left
   ·simp only [Act.put, List.setIfInBounds_toArray, List.set_cons_zero, List.set_cons_succ, i64_w, i32_w]
    rfl
   refine done_ (done_of HT_.out (by kernel_rfl)) ?_
   try go_wp2
   go_meet
   case rel => exact ⟨_, (true), rfl, H', ⟨by first | omega | exact Nat.le_refl _⟩, BK200, BK201, HB⟩
 case rest =>
  clear HC3
  try clear c1
  try clear p2
  try clear c7
  try clear c8
  try clear c9
  try clear c12
  try clear c14
  obtain ⟨kq, x20_2, rfl, HA, HJ2, BK200, BK201, HB⟩ := hcut
  cases kq with
  | zero => exact absurd HA.out (by simp [newellaw19_CallViews.j0])
  | succ kj2 =>
   have H := HA.out
   clear HA
   simp only [newellaw19_CallViews.j0] at H
   by_cases c18 : x20_2 = true
   ·subst c18
    have H1 : ((newellaw19_awake.f kj2).bind fun t210 => (some t210)) = some r := by rw [if_pos rfl] at H; exact H
    clear H
    have H := H1
    clear H1
    replace H := Option.bind_eq_some_iff.mp H
    obtain ⟨t210, A190, H⟩ := H
    replace H : (some t210) = some r := H
    have A19 := Aside0.mk A190
    clear A190
    obtain rfl := Option.some.inj H
    go_wp2_with (first | ((with_reducible refine gate_callee (f := 10) rfl ?_); refine goesL_ (some 21) rfl rfl Try.func10 (by kernel_rfl) rfl #[] rfl (by simp only [List.map_toArray, List.map_cons, List.map_nil] <;> rfl) ?_; (with_reducible refine (newellaw19_awake.calls kj2  t210 _ A19.out).mono ?_); rintro e w20 ⟨rfl, hb⟩; refine ⟨_, rfl, ?_⟩; replace BK200 := sBk BK200 hb; replace BK201 := sBk BK201 hb; replace HB := sHb hb; (try clear hb); (try clear hb2); (try clear hk); (try clear hi)))
    go_ret
    exact ⟨rfl, HB.out⟩
   ·replace c18 := Bool.eq_false_iff.mpr c18
    subst c18
    have H1 : (newellaw19_CallViews.l0 kj2 0 0 a0_0 a0_1 l1_0 l1_1) = some r := by rw [if_neg (show ¬ (false = true) by decide)] at H; exact H
    clear H
    have H := H1
    clear H1
    have H' := Aside0.mk H
    clear H
    go_wp2
    go_loopg [5, 6] kj2 (fun kq v5 v6 w' => ∃ (x5_2 : Int) (x6_2 : Int), v5 = .int .i64 x5_2 ∧ v6 = .int .i64 x6_2 ∧ Aside0 (newellaw19_CallViews.l0 kq x5_2 x6_2 a0_0 a0_1 l1_0 l1_1 = some r) ∧ Aside0 (kq ≤ kj2) ∧ Aside0 (w'.heap[gb200]? = some (.cells #[.int .i64 a0_0, .int .i64 a0_1] 23 (0, 0))) ∧ Aside0 (w'.heap[gb201]? = some (.cells #[(.slice A1_0 l1_0.length c1_0), (.slice A1_1 l1_1.length c1_1)] 27 (0, 0))) ∧ Aside0 (Below w.heap.size w w'))
    case atStart => exact ⟨(0), (0), rfl, rfl, H', ⟨Nat.le_refl _⟩, BK200, BK201, HB⟩
    case round =>
     clear H'
     try clear c1
     try clear p2
     try clear c7
     try clear c8
     try clear c9
     try clear c10
     try clear c12
     try clear c14
     try clear c18
     try clear p2
     obtain ⟨x5_2, x6_2, rfl, rfl, HA, HK2, BK200, BK201, HB⟩ := hrel
     cases gk with
     | zero => exact absurd HA.out (by simp [newellaw19_CallViews.l0])
     | succ k2 =>
      have H := HA.out
      clear HA
      simp only [newellaw19_CallViews.l0] at H
      by_cases c21 : x6_2 < a0_1
      ·rw [if_pos c21] at H
       have c21b0 : decide (x6_2 < a0_1) = true := decide_eq_true c21
       clear c21
       replace H := Option.bind_eq_some_iff.mp H
       obtain ⟨⟨t211, t214⟩, A220, H⟩ := H
       replace H : ((call_View.f k2 a0_0 a0_1 t211 t214 x6_2).bind fun bt217 => (if bt217.2.2.2 = 0 then (newellaw19_CallViews.l0 k2 (wrap64 ((wrap64 ((wrap64 (x5_2 + (bt217.1.length : Int))) + (bt217.2.1.length : Int))) + (bt217.2.2.1.length : Int))) (wrap64 (x6_2 + 1)) a0_0 a0_1 l1_0 l1_1) else (none))) = some r := H
       have A22 := Aside0.mk A220
       clear A220
       replace H := Option.bind_eq_some_iff.mp H
       obtain ⟨⟨t217, t220, t223, t226⟩, A230, H⟩ := H
       replace H : (if t226 = 0 then (newellaw19_CallViews.l0 k2 (wrap64 ((wrap64 ((wrap64 (x5_2 + (t217.length : Int))) + (t220.length : Int))) + (t223.length : Int))) (wrap64 (x6_2 + 1)) a0_0 a0_1 l1_0 l1_1) else (none)) = some r := H
       have A23 := Aside0.mk A230
       clear A230
       by_cases c24 : t226 = 0
       ·rw [if_pos c24] at H
        have c24b0 : (t226 == 0) = true := beq_iff_eq.mpr c24
        have c24b1 : (t226 != 0) = false := bne_eq_false_iff_eq.mpr c24
        clear c24
        have H' := Aside0.mk H
        clear H
        have hnb25 := NB200_201.out
        have hnc25 := NB201_200.out
        have hcz26_0 : wr.cell? ⟨gb200, 0, none⟩ = some (.int .i64 a0_0) := (blk_cell BK200.out 0).trans rfl
        have hcz26_1 : wr.cell? ⟨gb200, 1, none⟩ = some (.int .i64 a0_1) := (blk_cell BK200.out 1).trans rfl
        have hfz26_0 := blk_frozen BK200.out 0
        have hfz26_1 := blk_frozen BK200.out 1
        try go_wp2
        replace BK200 := Aside0.mk (blk_drew BK200.out)
        replace BK201 := Aside0.mk (blk_drew BK201.out)
        replace HB := Aside0.mk (below_drew1 HB.out)
        refine start_ (n := 11) (S := fun w' => w'.cell? ⟨gb200, 0, none⟩ = some (.int .i64 a0_0) ∧ w'.cell? ⟨gb200, 1, none⟩ = some (.int .i64 a0_1) ∧ w'.cell? ⟨gb201, 0, none⟩ = some (.slice A1_0 l1_0.length c1_0) ∧ w'.cell? ⟨gb201, 1, none⟩ = some (.slice A1_1 l1_1.length c1_1)) (ds := []) #[false, false, false, false, false, false, false, false, false, false, false] (by kernel_rfl) rfl rfl ⟨(blk_cell BK200.out 0).trans rfl, (blk_cell BK200.out 1).trans rfl, (blk_cell BK201.out 0).trans rfl, (blk_cell BK201.out 1).trans rfl⟩ (fun hHeld => ?_); refine with_tabW newellaw19_CallViews.tab7 newellaw19_CallViews.bits7 (fun HT_ HW_ => ?_)
        generalize wr.drew = w27 at BK200 BK201 HB hHeld ⊢
        refine pure_ (i := 3) (N := some 32) (v := ?_) (a' := ?_) (bN 11 8) rfl rfl (any_of HT_.out (by kernel_rfl)) (fun _ _ _ h => h) (Or.inl ⟨by rfl, ?_⟩) ?_ ?_
        rotate_left
        ·intro w'
         go_simp
         with_reducible rfl
        rotate_left
        ·simp only [Act.put, List.setIfInBounds_toArray, List.set_cons_zero, List.set_cons_succ, i64_w, i32_w]
         rfl
        refine take_ (i := 0) (N := some 29) (v := ?_) (a' := ?_) (bN 11 9) rfl rfl (take_ofW HT_.out HW_.out (by kernel_rfl)) (fun _ _ _ h => h) (Or.inl ⟨by rfl, ?_⟩) hHeld ?_ ?_
        rotate_left
        ·rintro w' ⟨s0, s1, s2, s3⟩
         go_simp
         with_reducible rfl
        rotate_left
        ·simp only [Act.put, List.setIfInBounds_toArray, List.set_cons_zero, List.set_cons_succ, i64_w, i32_w]
         rfl
        refine take_ (i := 1) (N := some 30) (v := ?_) (a' := ?_) (bN 11 11) rfl rfl (take_ofW HT_.out HW_.out (by kernel_rfl)) (fun _ _ _ h => h) (Or.inl ⟨by rfl, ?_⟩) hHeld ?_ ?_
        rotate_left
        ·rintro w' ⟨s0, s1, s2, s3⟩
         go_simp
         with_reducible rfl
        rotate_left
        ·simp only [Act.put, List.setIfInBounds_toArray, List.set_cons_zero, List.set_cons_succ, i64_w, i32_w]
         rfl
        refine join_ (σ := Value × Value × Value × Value × Value × Nat) 2 (bN 11 511) (fun s_ => [(31, .agg #[s_.1, s_.2.1]), (33, .tuple #[.agg #[s_.2.2.1, s_.2.2.2.1, s_.2.2.2.2.1], .int .i64 t226]), (7, .pointer (some ⟨s_.2.2.2.2.2, 0, none⟩)), (28, .tuple #[.agg #[s_.2.2.1, s_.2.2.2.1, s_.2.2.2.2.1], .int .i64 t226]), (34, .agg #[s_.2.2.1, s_.2.2.2.1, s_.2.2.2.2.1]), (35, .int .i64 t226)]) (fun s_ w' => (w'.cell? ⟨gb200, 0, none⟩ = some (.int .i64 a0_0) ∧ w'.cell? ⟨gb200, 1, none⟩ = some (.int .i64 a0_1) ∧ w'.cell? ⟨gb201, 0, none⟩ = some (.slice A1_0 l1_0.length c1_0) ∧ w'.cell? ⟨gb201, 1, none⟩ = some (.slice A1_1 l1_1.length c1_1)) ∧ (Kd.R k56 56 w' w.heap.size (fun _ => True) s_.1 t211) ∧ (Kd.R k62 62 w' w.heap.size (fun _ => True) s_.2.1 t214) ∧ (Kd.R (Kd.int .i64) 3 w' w.heap.size (fun k_ => some k_ ≠ (s_.2.2.2.1 : Value).ownBlock ∧ some k_ ≠ (s_.2.2.2.2.1 : Value).ownBlock) s_.2.2.1 t217) ∧ (Kd.R (Kd.int .i64) 3 w' w.heap.size (fun k_ => some k_ ≠ (s_.2.2.1 : Value).ownBlock ∧ some k_ ≠ (s_.2.2.2.2.1 : Value).ownBlock) s_.2.2.2.1 t220) ∧ (Kd.R (Kd.int .i64) 3 w' w.heap.size (fun k_ => some k_ ≠ (s_.2.2.1 : Value).ownBlock ∧ some k_ ≠ (s_.2.2.2.1 : Value).ownBlock) s_.2.2.2.2.1 t223) ∧ (w'.heap[gb200]? = some (.cells #[.int .i64 a0_0, .int .i64 a0_1] 23 (0, 0))) ∧ (w'.heap[gb201]? = some (.cells #[.slice A1_0 l1_0.length c1_0, .slice A1_1 l1_1.length c1_1] 27 (0, 0))) ∧ (w'.heap[s_.2.2.2.2.2]? = some (.cells #[.slice none 0 0, .slice none 0 0, .slice none 0 0] 47 (0, 0))) ∧ (w.heap.size ≤ s_.2.2.2.2.2) ∧ (w.heap.size ≤ s_.2.2.2.2.2) ∧ (gb200 ≠ s_.2.2.2.2.2) ∧ (s_.2.2.2.2.2 ≠ gb200) ∧ (gb201 ≠ s_.2.2.2.2.2) ∧ (s_.2.2.2.2.2 ≠ gb201) ∧ (Below w.heap.size w w')) ?_ ?_
        rotate_left
        ·intro hCont
         refine two_ (i := 2) (j := 8) (Ni := some 31) (Nj := some 7) (bN 11 15) (bN 11 267) rfl rfl rfl rfl (two_of HT_.out (by kernel_rfl)) (by decide) (by decide) (fun K hK => ?_) (fun K hK => ?_)
         ·skip
          refine goes_ Try.func12 (by kernel_rfl) rfl #[.agg #[.slice A1_0 l1_0.length c1_0, .slice A1_1 l1_1.length c1_1]] (by rfl) rfl rfl (by simp only [List.map_toArray, List.map_cons, List.map_nil] <;> rfl) ?_
          with_reducible refine (newellaw19_Own.calls _ _ l1_0 _ _ l1_1 t211 t214 _ ?side1 ?side2 ?side3 ?side4 A22.out).mono ?_
          (case side1 => exact (Kd.C_below HR1_0.out HB.out))
          (case side2 => exact HC1_0.out)
          (case side3 => exact (Kd.C_below HR1_1.out HB.out))
          (case side4 => exact HC1_1.out)
          rintro e w28 ⟨v212, v215, rfl, ho0, ho1, hb⟩
          refine ⟨_, rfl, ?_⟩
          have HO213 := Aside0.mk (Kd.R_lower ho0 (below_size HB.out))
          have HO216 := Aside0.mk (Kd.R_lower ho1 (below_size HB.out))
          replace BK200 := sBk BK200 hb
          replace BK201 := sBk BK201 hb
          replace HB := sHb hb
          (try clear hb)
          (try clear hb2)
          (try clear hk)
          (try clear hi)
          (try clear ho0)
          (try clear ho1)
          obtain ⟨Ao29, co29, eo29⟩ := Kd.R_slice HO213.out
          (first | subst eo29 | (injection eo29 with f1_ f2_ f3_; have f4_ := f1_.symm; have f5_ := f3_.symm; clear f1_ f2_ f3_; subst f4_; subst f5_))
          obtain ⟨Ao30, co30, eo30⟩ := Kd.R_slice HO216.out
          (first | subst eo30 | (injection eo30 with f1_ f2_ f3_; have f4_ := f1_.symm; have f5_ := f3_.symm; clear f1_ f2_ f3_; subst f4_; subst f5_))
          refine hK.out _ _ ⟨(blk_cell BK200.out 0).trans rfl, (blk_cell BK200.out 1).trans rfl, (blk_cell BK201.out 0).trans rfl, (blk_cell BK201.out 1).trans rfl⟩ (fun hHeld => ?_)
          clear hK K
          refine norm_ (a' := ?_) ?_ ?_
          rotate_left
          ·show Act.put _ (some 31) _ = _
           simp only [Act.put, List.setIfInBounds_toArray, List.set_cons_zero, List.set_cons_succ, i64_w, i32_w]
           rfl
          refine two_ (i := 4) (j := 8) (Ni := some 33) (Nj := some 7) (bN 11 31) (bN 11 271) rfl rfl rfl rfl (two_of HT_.out (by kernel_rfl)) (by decide) (by decide) (fun K hK => ?_) (fun K hK => ?_)
          ·skip
           refine goes_ Try.func19 (by kernel_rfl) rfl #[.agg #[.int .i64 a0_0, .int .i64 a0_1], .agg #[.slice Ao29 t211.length co29, .slice Ao30 t214.length co30], .int .i64 x6_2] (by rfl) rfl rfl (by simp only [List.map_toArray, List.map_cons, List.map_nil] <;> rfl) ?_
           with_reducible refine (call_View.calls k2 a0_0 a0_1 _ _ t211 _ _ t214 x6_2 t217 t220 t223 t226 _ ?side1 ?side2 ?side3 ?side4 A23.out).mono ?_
           (case side1 => exact (Kd.R_reads' HO213.out).2.2)
           (case side2 => exact (Kd.R_reads' HO213.out).2.1)
           (case side3 => exact (Kd.R_reads' HO216.out).2.2)
           (case side4 => exact (Kd.R_reads' HO216.out).2.1)
           rintro e w31 ⟨v218, v221, v224, rfl, ho0, ho1, ho2, hb⟩
           refine ⟨_, rfl, ?_⟩
           have HO219 := Aside0.mk (Kd.R_lower ho0 (below_size HB.out))
           have HO222 := Aside0.mk (Kd.R_lower ho1 (below_size HB.out))
           have HO225 := Aside0.mk (Kd.R_lower ho2 (below_size HB.out))
           replace HO213 := sRb HO213 hb
           replace HO216 := sRb HO216 hb
           replace BK200 := sBk BK200 hb
           replace BK201 := sBk BK201 hb
           replace HB := sHb hb
           (try clear hb)
           (try clear hb2)
           (try clear hk)
           (try clear hi)
           (try clear ho0)
           (try clear ho1)
           (try clear ho2)
           refine hK.out _ _ ⟨(blk_cell BK200.out 0).trans rfl, (blk_cell BK200.out 1).trans rfl, (blk_cell BK201.out 0).trans rfl, (blk_cell BK201.out 1).trans rfl⟩ (fun hHeld => ?_)
           clear hK K
           refine norm_ (a' := ?_) ?_ ?_
           rotate_left
           ·show Act.put _ (some 33) _ = _
            simp only [Act.put, List.setIfInBounds_toArray, List.set_cons_zero, List.set_cons_succ, i64_w, i32_w]
            rfl
           refine pure_ (i := 5) (N := some 28) (v := ?_) (a' := ?_) (bN 11 63) rfl rfl (any_of HT_.out (by kernel_rfl)) (fun _ _ _ h => h) (Or.inl ⟨by rfl, ?_⟩) ?_ ?_
           rotate_left
           ·intro w'
            go_simp
            with_reducible rfl
           rotate_left
           ·simp only [Act.put, List.setIfInBounds_toArray, List.set_cons_zero, List.set_cons_succ, i64_w, i32_w]
            rfl
           refine pure_ (i := 6) (N := some 34) (v := ?_) (a' := ?_) (bN 11 127) rfl rfl (any_of HT_.out (by kernel_rfl)) (fun _ _ _ h => h) (Or.inl ⟨by rfl, ?_⟩) ?_ ?_
           rotate_left
           ·intro w'
            go_simp
            with_reducible rfl
           rotate_left
           ·simp only [Act.put, List.setIfInBounds_toArray, List.set_cons_zero, List.set_cons_succ, i64_w, i32_w]
            rfl
           refine pure_ (i := 7) (N := some 35) (v := ?_) (a' := ?_) (bN 11 255) rfl rfl (any_of HT_.out (by kernel_rfl)) (fun _ _ _ h => h) (Or.inl ⟨by rfl, ?_⟩) ?_ ?_
           rotate_left
           ·intro w'
            go_simp
            with_reducible rfl
           rotate_left
           ·simp only [Act.put, List.setIfInBounds_toArray, List.set_cons_zero, List.set_cons_succ, i64_w, i32_w]
            rfl
           refine one_ (i := 8) (N := some 7) (bN 11 511) rfl rfl (one_of HT_.out (by kernel_rfl)) (by decide) (fun K hK => ?_)
           refine box_step ?hg (N := 7) ?hd (cs := #[.slice none 0 0, .slice none 0 0, .slice none 0 0]) (t := 47) ?hr ?_; (case hd => rfl); (case hg => rfl); (case hr => go_simp <;> rfl)
           intro gb227 hg w32 hbox hb
           have BK227 := Aside0.mk hbox
           have GW227 := sGe hg
           have GE227 := sGe hg
           have NB200_227 := sNl BK200 hg
           have NB227_200 := sNg BK200 hg
           have NB201_227 := sNl BK201 hg
           have NB227_201 := sNg BK201 hg
           replace HO213 := sRb HO213 hb
           replace HO216 := sRb HO216 hb
           replace HO219 := sRb HO219 hb
           replace HO222 := sRb HO222 hb
           replace HO225 := sRb HO225 hb
           replace BK200 := sBk BK200 hb
           replace BK201 := sBk BK201 hb
           replace HB := sHb hb
           clear hb hbox hg
           refine hK.out _ _ ⟨(blk_cell BK200.out 0).trans rfl, (blk_cell BK200.out 1).trans rfl, (blk_cell BK201.out 0).trans rfl, (blk_cell BK201.out 1).trans rfl⟩ (fun hHeld => ?_)
           clear hK K
           refine norm_ (a' := ?_) ?_ ?_
           rotate_left
           ·show Act.put _ (some 7) _ = _
            simp only [Act.put, List.setIfInBounds_toArray, List.set_cons_zero, List.set_cons_succ, i64_w, i32_w]
            rfl
           exact norm_ (by simp only [putAll, Act.put, List.setIfInBounds_toArray, List.set_cons_zero, List.set_cons_succ]) (hCont (.slice Ao29 t211.length co29, .slice Ao30 t214.length co30, v218, v221, v224, gb227) _ ⟨hHeld, HO213.out, HO216.out, HO219.out, HO222.out, HO225.out, BK200.out, BK201.out, BK227.out, GW227.out, GE227.out, NB200_227.out, NB227_200.out, NB201_227.out, NB227_201.out, HB.out⟩)
          ·skip
           refine box_step ?hg (N := 7) ?hd (cs := #[.slice none 0 0, .slice none 0 0, .slice none 0 0]) (t := 47) ?hr ?_; (case hd => rfl); (case hg => rfl); (case hr => go_simp <;> rfl)
           intro gb227 hg w29 hbox hb
           have BK227 := Aside0.mk hbox
           have GW227 := sGe hg
           have GE227 := sGe hg
           have NB200_227 := sNl BK200 hg
           have NB227_200 := sNg BK200 hg
           have NB201_227 := sNl BK201 hg
           have NB227_201 := sNg BK201 hg
           replace HO213 := sRb HO213 hb
           replace HO216 := sRb HO216 hb
           replace BK200 := sBk BK200 hb
           replace BK201 := sBk BK201 hb
           replace HB := sHb hb
           clear hb hbox hg
           obtain ⟨Ao30, co30, eo30⟩ := Kd.R_slice HO213.out
           (first | subst eo30 | (injection eo30 with f1_ f2_ f3_; have f4_ := f1_.symm; have f5_ := f3_.symm; clear f1_ f2_ f3_; subst f4_; subst f5_))
           obtain ⟨Ao31, co31, eo31⟩ := Kd.R_slice HO216.out
           (first | subst eo31 | (injection eo31 with f1_ f2_ f3_; have f4_ := f1_.symm; have f5_ := f3_.symm; clear f1_ f2_ f3_; subst f4_; subst f5_))
           refine hK.out _ _ ⟨(blk_cell BK200.out 0).trans rfl, (blk_cell BK200.out 1).trans rfl, (blk_cell BK201.out 0).trans rfl, (blk_cell BK201.out 1).trans rfl⟩ (fun hHeld => ?_)
           clear hK K
           refine norm_ (a' := ?_) ?_ ?_
           rotate_left
           ·show Act.put _ (some 7) _ = _
            simp only [Act.put, List.setIfInBounds_toArray, List.set_cons_zero, List.set_cons_succ, i64_w, i32_w]
            rfl
           refine one_ (i := 4) (N := some 33) (bN 11 287) rfl rfl (one_of HT_.out (by kernel_rfl)) (by decide) (fun K hK => ?_)
           refine goes_ Try.func19 (by kernel_rfl) rfl #[.agg #[.int .i64 a0_0, .int .i64 a0_1], .agg #[.slice Ao30 t211.length co30, .slice Ao31 t214.length co31], .int .i64 x6_2] (by rfl) rfl rfl (by simp only [List.map_toArray, List.map_cons, List.map_nil] <;> rfl) ?_
           with_reducible refine (call_View.calls k2 a0_0 a0_1 _ _ t211 _ _ t214 x6_2 t217 t220 t223 t226 _ ?side1 ?side2 ?side3 ?side4 A23.out).mono ?_
           (case side1 => exact (Kd.R_reads' HO213.out).2.2)
           (case side2 => exact (Kd.R_reads' HO213.out).2.1)
           (case side3 => exact (Kd.R_reads' HO216.out).2.2)
           (case side4 => exact (Kd.R_reads' HO216.out).2.1)
           rintro e w32 ⟨v218, v221, v224, rfl, ho0, ho1, ho2, hb⟩
           refine ⟨_, rfl, ?_⟩
           have HO219 := Aside0.mk (Kd.R_lower ho0 (below_size HB.out))
           have HO222 := Aside0.mk (Kd.R_lower ho1 (below_size HB.out))
           have HO225 := Aside0.mk (Kd.R_lower ho2 (below_size HB.out))
           replace HO213 := sRb HO213 hb
           replace HO216 := sRb HO216 hb
           replace BK200 := sBk BK200 hb
           replace BK201 := sBk BK201 hb
           replace BK227 := sBk BK227 hb
           replace HB := sHb hb
           (try clear hb)
           (try clear hb2)
           (try clear hk)
           (try clear hi)
           (try clear ho0)
           (try clear ho1)
           (try clear ho2)
           refine hK.out _ _ ⟨(blk_cell BK200.out 0).trans rfl, (blk_cell BK200.out 1).trans rfl, (blk_cell BK201.out 0).trans rfl, (blk_cell BK201.out 1).trans rfl⟩ (fun hHeld => ?_)
           clear hK K
           refine norm_ (a' := ?_) ?_ ?_
           rotate_left
           ·show Act.put _ (some 33) _ = _
            simp only [Act.put, List.setIfInBounds_toArray, List.set_cons_zero, List.set_cons_succ, i64_w, i32_w]
            rfl
           refine pure_ (i := 5) (N := some 28) (v := ?_) (a' := ?_) (bN 11 319) rfl rfl (any_of HT_.out (by kernel_rfl)) (fun _ _ _ h => h) (Or.inl ⟨by rfl, ?_⟩) ?_ ?_
           rotate_left
           ·intro w'
            go_simp
            with_reducible rfl
           rotate_left
           ·simp only [Act.put, List.setIfInBounds_toArray, List.set_cons_zero, List.set_cons_succ, i64_w, i32_w]
            rfl
           refine pure_ (i := 6) (N := some 34) (v := ?_) (a' := ?_) (bN 11 383) rfl rfl (any_of HT_.out (by kernel_rfl)) (fun _ _ _ h => h) (Or.inl ⟨by rfl, ?_⟩) ?_ ?_
           rotate_left
           ·intro w'
            go_simp
            with_reducible rfl
           rotate_left
           ·simp only [Act.put, List.setIfInBounds_toArray, List.set_cons_zero, List.set_cons_succ, i64_w, i32_w]
            rfl
           refine pure_ (i := 7) (N := some 35) (v := ?_) (a' := ?_) (bN 11 511) rfl rfl (any_of HT_.out (by kernel_rfl)) (fun _ _ _ h => h) (Or.inl ⟨by rfl, ?_⟩) ?_ ?_
           rotate_left
           ·intro w'
            go_simp
            with_reducible rfl
           rotate_left
           ·simp only [Act.put, List.setIfInBounds_toArray, List.set_cons_zero, List.set_cons_succ, i64_w, i32_w]
            rfl
           exact norm_ (by simp only [putAll, Act.put, List.setIfInBounds_toArray, List.set_cons_zero, List.set_cons_succ]) (hCont (.slice Ao30 t211.length co30, .slice Ao31 t214.length co31, v218, v221, v224, gb227) _ ⟨hHeld, HO213.out, HO216.out, HO219.out, HO222.out, HO225.out, BK200.out, BK201.out, BK227.out, GW227.out, GE227.out, NB200_227.out, NB227_200.out, NB201_227.out, NB227_201.out, HB.out⟩)
         ·skip
          refine box_step ?hg (N := 7) ?hd (cs := #[.slice none 0 0, .slice none 0 0, .slice none 0 0]) (t := 47) ?hr ?_; (case hd => rfl); (case hg => rfl); (case hr => go_simp <;> rfl)
          intro gb227 hg w28 hbox hb
          have BK227 := Aside0.mk hbox
          have GW227 := sGe hg
          have GE227 := sGe hg
          have NB200_227 := sNl BK200 hg
          have NB227_200 := sNg BK200 hg
          have NB201_227 := sNl BK201 hg
          have NB227_201 := sNg BK201 hg
          replace BK200 := sBk BK200 hb
          replace BK201 := sBk BK201 hb
          replace HB := sHb hb
          clear hb hbox hg
          refine hK.out _ _ ⟨(blk_cell BK200.out 0).trans rfl, (blk_cell BK200.out 1).trans rfl, (blk_cell BK201.out 0).trans rfl, (blk_cell BK201.out 1).trans rfl⟩ (fun hHeld => ?_)
          clear hK K
          refine norm_ (a' := ?_) ?_ ?_
          rotate_left
          ·show Act.put _ (some 7) _ = _
           simp only [Act.put, List.setIfInBounds_toArray, List.set_cons_zero, List.set_cons_succ, i64_w, i32_w]
           rfl
          refine one_ (i := 2) (N := some 31) (bN 11 271) rfl rfl (one_of HT_.out (by kernel_rfl)) (by decide) (fun K hK => ?_)
          refine goes_ Try.func12 (by kernel_rfl) rfl #[.agg #[.slice A1_0 l1_0.length c1_0, .slice A1_1 l1_1.length c1_1]] (by rfl) rfl rfl (by simp only [List.map_toArray, List.map_cons, List.map_nil] <;> rfl) ?_
          with_reducible refine (newellaw19_Own.calls _ _ l1_0 _ _ l1_1 t211 t214 _ ?side1 ?side2 ?side3 ?side4 A22.out).mono ?_
          (case side1 => exact (Kd.C_below HR1_0.out HB.out))
          (case side2 => exact HC1_0.out)
          (case side3 => exact (Kd.C_below HR1_1.out HB.out))
          (case side4 => exact HC1_1.out)
          rintro e w29 ⟨v212, v215, rfl, ho0, ho1, hb⟩
          refine ⟨_, rfl, ?_⟩
          have HO213 := Aside0.mk (Kd.R_lower ho0 (below_size HB.out))
          have HO216 := Aside0.mk (Kd.R_lower ho1 (below_size HB.out))
          replace BK200 := sBk BK200 hb
          replace BK201 := sBk BK201 hb
          replace BK227 := sBk BK227 hb
          replace HB := sHb hb
          (try clear hb)
          (try clear hb2)
          (try clear hk)
          (try clear hi)
          (try clear ho0)
          (try clear ho1)
          obtain ⟨Ao30, co30, eo30⟩ := Kd.R_slice HO213.out
          (first | subst eo30 | (injection eo30 with f1_ f2_ f3_; have f4_ := f1_.symm; have f5_ := f3_.symm; clear f1_ f2_ f3_; subst f4_; subst f5_))
          obtain ⟨Ao31, co31, eo31⟩ := Kd.R_slice HO216.out
          (first | subst eo31 | (injection eo31 with f1_ f2_ f3_; have f4_ := f1_.symm; have f5_ := f3_.symm; clear f1_ f2_ f3_; subst f4_; subst f5_))
          refine hK.out _ _ ⟨(blk_cell BK200.out 0).trans rfl, (blk_cell BK200.out 1).trans rfl, (blk_cell BK201.out 0).trans rfl, (blk_cell BK201.out 1).trans rfl⟩ (fun hHeld => ?_)
          clear hK K
          refine norm_ (a' := ?_) ?_ ?_
          rotate_left
          ·show Act.put _ (some 31) _ = _
           simp only [Act.put, List.setIfInBounds_toArray, List.set_cons_zero, List.set_cons_succ, i64_w, i32_w]
           rfl
          refine one_ (i := 4) (N := some 33) (bN 11 287) rfl rfl (one_of HT_.out (by kernel_rfl)) (by decide) (fun K hK => ?_)
          refine goes_ Try.func19 (by kernel_rfl) rfl #[.agg #[.int .i64 a0_0, .int .i64 a0_1], .agg #[.slice Ao30 t211.length co30, .slice Ao31 t214.length co31], .int .i64 x6_2] (by rfl) rfl rfl (by simp only [List.map_toArray, List.map_cons, List.map_nil] <;> rfl) ?_
          with_reducible refine (call_View.calls k2 a0_0 a0_1 _ _ t211 _ _ t214 x6_2 t217 t220 t223 t226 _ ?side1 ?side2 ?side3 ?side4 A23.out).mono ?_
          (case side1 => exact (Kd.R_reads' HO213.out).2.2)
          (case side2 => exact (Kd.R_reads' HO213.out).2.1)
          (case side3 => exact (Kd.R_reads' HO216.out).2.2)
          (case side4 => exact (Kd.R_reads' HO216.out).2.1)
          rintro e w32 ⟨v218, v221, v224, rfl, ho0, ho1, ho2, hb⟩
          refine ⟨_, rfl, ?_⟩
          have HO219 := Aside0.mk (Kd.R_lower ho0 (below_size HB.out))
          have HO222 := Aside0.mk (Kd.R_lower ho1 (below_size HB.out))
          have HO225 := Aside0.mk (Kd.R_lower ho2 (below_size HB.out))
          replace HO213 := sRb HO213 hb
          replace HO216 := sRb HO216 hb
          replace BK200 := sBk BK200 hb
          replace BK201 := sBk BK201 hb
          replace BK227 := sBk BK227 hb
          replace HB := sHb hb
          (try clear hb)
          (try clear hb2)
          (try clear hk)
          (try clear hi)
          (try clear ho0)
          (try clear ho1)
          (try clear ho2)
          refine hK.out _ _ ⟨(blk_cell BK200.out 0).trans rfl, (blk_cell BK200.out 1).trans rfl, (blk_cell BK201.out 0).trans rfl, (blk_cell BK201.out 1).trans rfl⟩ (fun hHeld => ?_)
          clear hK K
          refine norm_ (a' := ?_) ?_ ?_
          rotate_left
          ·show Act.put _ (some 33) _ = _
           simp only [Act.put, List.setIfInBounds_toArray, List.set_cons_zero, List.set_cons_succ, i64_w, i32_w]
           rfl
          refine pure_ (i := 5) (N := some 28) (v := ?_) (a' := ?_) (bN 11 319) rfl rfl (any_of HT_.out (by kernel_rfl)) (fun _ _ _ h => h) (Or.inl ⟨by rfl, ?_⟩) ?_ ?_
          rotate_left
          ·intro w'
           go_simp
           with_reducible rfl
          rotate_left
          ·simp only [Act.put, List.setIfInBounds_toArray, List.set_cons_zero, List.set_cons_succ, i64_w, i32_w]
           rfl
          refine pure_ (i := 6) (N := some 34) (v := ?_) (a' := ?_) (bN 11 383) rfl rfl (any_of HT_.out (by kernel_rfl)) (fun _ _ _ h => h) (Or.inl ⟨by rfl, ?_⟩) ?_ ?_
          rotate_left
          ·intro w'
           go_simp
           with_reducible rfl
          rotate_left
          ·simp only [Act.put, List.setIfInBounds_toArray, List.set_cons_zero, List.set_cons_succ, i64_w, i32_w]
           rfl
          refine pure_ (i := 7) (N := some 35) (v := ?_) (a' := ?_) (bN 11 511) rfl rfl (any_of HT_.out (by kernel_rfl)) (fun _ _ _ h => h) (Or.inl ⟨by rfl, ?_⟩) ?_ ?_
          rotate_left
          ·intro w'
           go_simp
           with_reducible rfl
          rotate_left
          ·simp only [Act.put, List.setIfInBounds_toArray, List.set_cons_zero, List.set_cons_succ, i64_w, i32_w]
           rfl
          exact norm_ (by simp only [putAll, Act.put, List.setIfInBounds_toArray, List.set_cons_zero, List.set_cons_succ]) (hCont (.slice Ao30 t211.length co30, .slice Ao31 t214.length co31, v218, v221, v224, gb227) _ ⟨hHeld, HO213.out, HO216.out, HO219.out, HO222.out, HO225.out, BK200.out, BK201.out, BK227.out, GW227.out, GE227.out, NB200_227.out, NB227_200.out, NB201_227.out, NB227_201.out, HB.out⟩)
        rintro ⟨v212, v215, v218, v221, v224, gb227⟩ w33 ⟨hS_, h0_, h1_, h2_, h3_, h4_, h5_, h6_, h7_, h8_, h9_, h10_, h11_, h12_, h13_, h14_⟩
        have n0_ : Aside0 (Kd.R k56 56 w33 w.heap.size (fun _ => True) v212 t211) := ⟨h0_⟩
        have n1_ : Aside0 (Kd.R k62 62 w33 w.heap.size (fun _ => True) v215 t214) := ⟨h1_⟩
        have n2_ : Aside0 (Kd.R (Kd.int .i64) 3 w33 w.heap.size (fun k_ => some k_ ≠ (v221 : Value).ownBlock ∧ some k_ ≠ (v224 : Value).ownBlock) v218 t217) := ⟨h2_⟩
        have n3_ : Aside0 (Kd.R (Kd.int .i64) 3 w33 w.heap.size (fun k_ => some k_ ≠ (v218 : Value).ownBlock ∧ some k_ ≠ (v224 : Value).ownBlock) v221 t220) := ⟨h3_⟩
        have n4_ : Aside0 (Kd.R (Kd.int .i64) 3 w33 w.heap.size (fun k_ => some k_ ≠ (v218 : Value).ownBlock ∧ some k_ ≠ (v221 : Value).ownBlock) v224 t223) := ⟨h4_⟩
        have n5_ : Aside0 (w33.heap[gb200]? = some (.cells #[.int .i64 a0_0, .int .i64 a0_1] 23 (0, 0))) := ⟨h5_⟩
        have n6_ : Aside0 (w33.heap[gb201]? = some (.cells #[.slice A1_0 l1_0.length c1_0, .slice A1_1 l1_1.length c1_1] 27 (0, 0))) := ⟨h6_⟩
        have n7_ : Aside0 (w33.heap[gb227]? = some (.cells #[.slice none 0 0, .slice none 0 0, .slice none 0 0] 47 (0, 0))) := ⟨h7_⟩
        have n8_ : Aside0 (w.heap.size ≤ gb227) := ⟨h8_⟩
        have n9_ : Aside0 (w.heap.size ≤ gb227) := ⟨h9_⟩
        have n10_ : Aside0 (gb200 ≠ gb227) := ⟨h10_⟩
        have n11_ : Aside0 (gb227 ≠ gb200) := ⟨h11_⟩
        have n12_ : Aside0 (gb201 ≠ gb227) := ⟨h12_⟩
        have n13_ : Aside0 (gb227 ≠ gb201) := ⟨h13_⟩
        have n14_ : Aside0 (Below w.heap.size w w33) := ⟨h14_⟩
        clear BK200
        clear BK201
        clear HB
        clear h0_ h1_ h2_ h3_ h4_ h5_ h6_ h7_ h8_ h9_ h10_ h11_ h12_ h13_ h14_
        have HO213 := n0_
        have HO216 := n1_
        have HO219 := n2_
        have HO222 := n3_
        have HO225 := n4_
        have BK200 := n5_
        have BK201 := n6_
        have BK227 := n7_
        have GW227 := n8_
        have GE227 := n9_
        have NB200_227 := n10_
        have NB227_200 := n11_
        have NB201_227 := n12_
        have NB227_201 := n13_
        have HB := n14_
        clear n0_ n1_ n2_ n3_ n4_ n5_ n6_ n7_ n8_ n9_ n10_ n11_ n12_ n13_ n14_
        have hHeld : w33.cell? ⟨gb200, 0, none⟩ = some (.int .i64 a0_0) ∧ w33.cell? ⟨gb200, 1, none⟩ = some (.int .i64 a0_1) ∧ w33.cell? ⟨gb201, 0, none⟩ = some (.slice A1_0 l1_0.length c1_0) ∧ w33.cell? ⟨gb201, 1, none⟩ = some (.slice A1_1 l1_1.length c1_1) := hS_
        obtain ⟨Ao34, co34, eo34⟩ := Kd.R_slice HO219.out
        (first | subst eo34 | (injection eo34 with f1_ f2_ f3_; have f4_ := f1_.symm; have f5_ := f3_.symm; clear f1_ f2_ f3_; subst f4_; subst f5_))
        obtain ⟨Ao36, co36, eo36⟩ := Kd.R_slice HO222.out
        (first | subst eo36 | (injection eo36 with f1_ f2_ f3_; have f4_ := f1_.symm; have f5_ := f3_.symm; clear f1_ f2_ f3_; subst f4_; subst f5_))
        obtain ⟨Ao38, co38, eo38⟩ := Kd.R_slice HO225.out
        (first | subst eo38 | (injection eo38 with f1_ f2_ f3_; have f4_ := f1_.symm; have f5_ := f3_.symm; clear f1_ f2_ f3_; subst f4_; subst f5_))
        refine norm_ (a' := ?_) ?_ ?_
        rotate_left
        ·simp only [putAll, Act.put, List.setIfInBounds_toArray, List.set_cons_zero, List.set_cons_succ]
         rfl
        refine one_ (i := 9) (N := none) (bN 11 1023) rfl rfl (one_of HT_.out (by kernel_rfl)) (by decide) (fun K hK => ?_)
        have hs35 : w33.cell? ⟨gb227, 0, none⟩ = some (.slice none 0 0) := (blk_cell BK227.out 0).trans rfl
        have hfs35 := blk_frozen BK227.out 0
        have hns35_0 := NB200_227.out
        have hns35_1 := NB201_227.out
        have hms35_0 := NB227_200.out
        have hms35_1 := NB227_201.out
        have hs37 : w33.cell? ⟨gb227, 1, none⟩ = some (.slice none 0 0) := (blk_cell BK227.out 1).trans rfl
        have hfs37 := blk_frozen BK227.out 1
        have hns37_0 := NB200_227.out
        have hns37_1 := NB201_227.out
        have hms37_0 := NB227_200.out
        have hms37_1 := NB227_201.out
        have hs39 : w33.cell? ⟨gb227, 2, none⟩ = some (.slice none 0 0) := (blk_cell BK227.out 2).trans rfl
        have hfs39 := blk_frozen BK227.out 2
        have hns39_0 := NB200_227.out
        have hns39_1 := NB201_227.out
        have hms39_0 := NB227_200.out
        have hms39_1 := NB227_201.out
        refine skip_ (w1 := ?_) (by rfl) rfl ?_ ?_
        rotate_left
        ·go_simp
         rfl
        refine hK.out _ _ ⟨((cell_far (p := ⟨gb227, _, none⟩) NB200_227.out _).trans (((cell_far (p := ⟨gb227, _, none⟩) NB200_227.out _).trans (((cell_far (p := ⟨gb227, _, none⟩) NB200_227.out _).trans (hHeld.1)))))), ((cell_far (p := ⟨gb227, _, none⟩) NB200_227.out _).trans (((cell_far (p := ⟨gb227, _, none⟩) NB200_227.out _).trans (((cell_far (p := ⟨gb227, _, none⟩) NB200_227.out _).trans (hHeld.2.1)))))), ((cell_far (p := ⟨gb227, _, none⟩) NB201_227.out _).trans (((cell_far (p := ⟨gb227, _, none⟩) NB201_227.out _).trans (((cell_far (p := ⟨gb227, _, none⟩) NB201_227.out _).trans (hHeld.2.2.1)))))), ((cell_far (p := ⟨gb227, _, none⟩) NB201_227.out _).trans (((cell_far (p := ⟨gb227, _, none⟩) NB201_227.out _).trans (((cell_far (p := ⟨gb227, _, none⟩) NB201_227.out _).trans (hHeld.2.2.2))))))⟩ (fun hHeld => ?_)
        clear hK K
        refine pure_ (i := 10) (N := some 8) (v := ?_) (a' := ?_) (bN 11 2047) rfl rfl (any_of HT_.out (by kernel_rfl)) (fun _ _ _ h => h) (Or.inl ⟨by rfl, ?_⟩) ?_ ?_
        rotate_left
        ·intro w'
         go_simp
         with_reducible rfl
        rotate_left
        ·simp only [Act.put, List.setIfInBounds_toArray, List.set_cons_zero, List.set_cons_succ, i64_w, i32_w]
         rfl
        refine done_ (done_of HT_.out (by kernel_rfl)) ?_
        have hnb40 := NB227_200.out
        have hnc40 := NB200_227.out
        have hnb41 := NB227_201.out
        have hnc41 := NB201_227.out
        have hcz42_0 : w33.cell? ⟨gb227, 0, none⟩ = some (.slice none 0 0) := (blk_cell BK227.out 0).trans rfl
        have hcz42_1 : w33.cell? ⟨gb227, 1, none⟩ = some (.slice none 0 0) := (blk_cell BK227.out 1).trans rfl
        have hcz42_2 : w33.cell? ⟨gb227, 2, none⟩ = some (.slice none 0 0) := (blk_cell BK227.out 2).trans rfl
        have hfz42_0 := blk_frozen BK227.out 0
        have hfz42_1 := blk_frozen BK227.out 1
        have hfz42_2 := blk_frozen BK227.out 2
        try go_wp2
        go_roundg k2
        case measure => have := HJ2.out; have := HK2.out; omega
        case rel => exact ⟨(wrap64 ((wrap64 ((wrap64 (x5_2 + (t217.length : Int))) + (t220.length : Int))) + (t223.length : Int))), (wrap64 (x6_2 + 1)), (by first | rfl | (simp; done) | (simp [*]; done)), (by first | rfl | (simp; done) | (simp [*]; done)), H', ⟨by have := HJ2.out; have := HK2.out; omega⟩, ⟨bka BK200⟩, ⟨bka BK201⟩, ⟨bel⟩⟩
       ·rw [if_neg c24] at H
        exact absurd H (by simp)
      ·rw [if_neg c21] at H
       have c21b0 : decide (x6_2 < a0_1) = false := decide_eq_false c21
       clear c21
       have H' := Aside0.mk H
       clear H
       have hnb43 := NB200_201.out
       have hnc43 := NB201_200.out
       have hcz44_0 : wr.cell? ⟨gb200, 0, none⟩ = some (.int .i64 a0_0) := (blk_cell BK200.out 0).trans rfl
       have hcz44_1 : wr.cell? ⟨gb200, 1, none⟩ = some (.int .i64 a0_1) := (blk_cell BK200.out 1).trans rfl
       have hfz44_0 := blk_frozen BK200.out 0
       have hfz44_1 := blk_frozen BK200.out 1
       go_wp2
       go_loopg [9, 10] k2 (fun kq v9 v10 w' => ∃ (x9_3 : Int) (x10_3 : Int), v9 = .int .i64 x9_3 ∧ v10 = .int .i64 x10_3 ∧ Aside0 (newellaw19_CallViews.l1 kq x5_2 x9_3 x10_3 l1_0 l1_1 = some r) ∧ Aside0 (kq ≤ k2) ∧ Aside0 (w'.heap[gb200]? = some (.cells #[.int .i64 a0_0, .int .i64 a0_1] 23 (0, 0))) ∧ Aside0 (w'.heap[gb201]? = some (.cells #[(.slice A1_0 l1_0.length c1_0), (.slice A1_1 l1_1.length c1_1)] 27 (0, 0))) ∧ Aside0 (Below w.heap.size w w'))
       case atStart => exact ⟨(0), (0), rfl, rfl, H', ⟨Nat.le_refl _⟩, BK200, BK201, HB⟩
       case round =>
        clear H'
        try clear c1
        try clear c2
        try clear p2
        try clear c4
        try clear p6
        try clear c12
        try clear c19
        try clear c21
        try clear c21b0
        try clear c24
        try clear c24b0
        try clear c24b1
        try clear c25
        try clear c40
        try clear c41
        try clear c43
        try clear hcz26_0
        try clear hcz26_1
        try clear hcz42_0
        try clear hcz42_1
        try clear hcz42_2
        try clear hcz44_0
        try clear hcz44_1
        try clear hfz26_0
        try clear hfz26_1
        try clear hfz42_0
        try clear hfz42_1
        try clear hfz42_2
        try clear hfz44_0
        try clear hfz44_1
        obtain ⟨x9_3, x10_3, rfl, rfl, HA, HK3, BK200, BK201, HB⟩ := hrel
        cases gk with
        | zero => exact absurd HA.out (by simp [newellaw19_CallViews.l1])
        | succ k3 =>
         have H := HA.out
         clear HA
         simp only [newellaw19_CallViews.l1] at H
         by_cases c45 : x10_3 < (l1_0.length : Int)
         ·rw [if_pos c45] at H
          have c45b0 : decide (x10_3 < (l1_0.length : Int)) = true := decide_eq_true c45
          clear c45
          by_cases c46 : 0 ≤ x10_3
          ·rw [if_pos c46] at H
           have c46b0 : decide (0 ≤ x10_3) = true := decide_eq_true c46
           clear c46
           by_cases c47 : ((rd_T56 l1_0 x10_3).f2) < 0
           ·rw [if_pos c47] at H
            have c47b0 : decide (((rd_T56 l1_0 x10_3).f2) < 0) = true := decide_eq_true c47
            clear c47
            have H' := Aside0.mk H
            clear H
            have hnb48 := NB201_200.out
            have hnc48 := NB200_201.out
            have hcz49_0 : wr.cell? ⟨gb201, 0, none⟩ = some (.slice A1_0 l1_0.length c1_0) := (blk_cell BK201.out 0).trans rfl
            have hcz49_1 : wr.cell? ⟨gb201, 1, none⟩ = some (.slice A1_1 l1_1.length c1_1) := (blk_cell BK201.out 1).trans rfl
            have hfz49_0 := blk_frozen BK201.out 0
            have hfz49_1 := blk_frozen BK201.out 1
            have p228 : 0 ≤ (x10_3 : Int) := of_decide_eq_true (by assumption)
            have q228 : x10_3 < (l1_0.length : Int) := of_decide_eq_true (by assumption)
            obtain ⟨ad228, e228, hx228_0, hx228_1, hx228_2⟩ := at_T56 HR1_0.out x10_3 p228 q228
            cases e228
            replace hx228_0 := (HB.out.cell (World.block_lt_of_cell? w _ hx228_0)).trans hx228_0
            replace hx228_1 := (HB.out.cell (World.block_lt_of_cell? w _ hx228_1)).trans hx228_1
            replace hx228_2 := (HB.out.cell (World.block_lt_of_cell? w _ hx228_2)).trans hx228_2
            replace p228 := eq_true p228
            replace q228 := eq_true q228
            go_wp2
            go_roundg k3
            case measure => have := HJ2.out; have := HK2.out; have := HK3.out; omega
            case rel => exact ⟨(wrap64 (x9_3 + 1)), (wrap64 (x10_3 + 1)), rfl, rfl, H', ⟨by have := HJ2.out; have := HK2.out; have := HK3.out; omega⟩, BK200, BK201, HB⟩
           ·rw [if_neg c47] at H
            have c47b0 : decide (((rd_T56 l1_0 x10_3).f2) < 0) = false := decide_eq_false c47
            clear c47
            have H' := Aside0.mk H
            clear H
            have hnb50 := NB201_200.out
            have hnc50 := NB200_201.out
            have hcz51_0 : wr.cell? ⟨gb201, 0, none⟩ = some (.slice A1_0 l1_0.length c1_0) := (blk_cell BK201.out 0).trans rfl
            have hcz51_1 : wr.cell? ⟨gb201, 1, none⟩ = some (.slice A1_1 l1_1.length c1_1) := (blk_cell BK201.out 1).trans rfl
            have hfz51_0 := blk_frozen BK201.out 0
            have hfz51_1 := blk_frozen BK201.out 1
            have p228 : 0 ≤ (x10_3 : Int) := of_decide_eq_true (by assumption)
            have q228 : x10_3 < (l1_0.length : Int) := of_decide_eq_true (by assumption)
            obtain ⟨ad228, e228, hx228_0, hx228_1, hx228_2⟩ := at_T56 HR1_0.out x10_3 p228 q228
            cases e228
            replace hx228_0 := (HB.out.cell (World.block_lt_of_cell? w _ hx228_0)).trans hx228_0
            replace hx228_1 := (HB.out.cell (World.block_lt_of_cell? w _ hx228_1)).trans hx228_1
            replace hx228_2 := (HB.out.cell (World.block_lt_of_cell? w _ hx228_2)).trans hx228_2
            replace p228 := eq_true p228
            replace q228 := eq_true q228
            go_wp2
            go_roundg k3
            case measure => have := HJ2.out; have := HK2.out; have := HK3.out; omega
            case rel => exact ⟨(x9_3), (wrap64 (x10_3 + 1)), rfl, rfl, H', ⟨by have := HJ2.out; have := HK2.out; have := HK3.out; omega⟩, BK200, BK201, HB⟩
          ·rw [if_neg c46] at H
           exact absurd H (by simp)
         ·rw [if_neg c45] at H
          have c45b0 : decide (x10_3 < (l1_0.length : Int)) = false := decide_eq_false c45
          clear c45
          replace H := Option.bind_eq_some_iff.mp H
          obtain ⟨t229, A520, H⟩ := H
          replace H : (if t229 = true then (some ((wrap64 (x5_2 + x9_3)) == (wrap64 ((l1_0.length : Int) + (l1_1.length : Int))))) else (none)) = some r := H
          have A52 := Aside0.mk A520
          clear A520
          by_cases c53 : t229 = true
          ·subst c53
           have H1 : (some ((wrap64 (x5_2 + x9_3)) == (wrap64 ((l1_0.length : Int) + (l1_1.length : Int))))) = some r := by rw [if_pos rfl] at H; exact H
           clear H
           have H := H1
           clear H1
           obtain rfl := Option.some.inj H
           have hnb54 := NB201_200.out
           have hnc54 := NB200_201.out
           have hcz55_0 : wr.cell? ⟨gb201, 0, none⟩ = some (.slice A1_0 l1_0.length c1_0) := (blk_cell BK201.out 0).trans rfl
           have hcz55_1 : wr.cell? ⟨gb201, 1, none⟩ = some (.slice A1_1 l1_1.length c1_1) := (blk_cell BK201.out 1).trans rfl
           have hfz55_0 := blk_frozen BK201.out 0
           have hfz55_1 := blk_frozen BK201.out 1
           go_wp2_with (first | ((with_reducible refine gate_callee (f := 10) rfl ?_); refine goesL_ (some 67) rfl rfl Try.func10 (by kernel_rfl) rfl #[] rfl (by simp only [List.map_toArray, List.map_cons, List.map_nil] <;> rfl) ?_; (with_reducible refine (newellaw19_awake.calls k3  true _ A52.out).mono ?_); rintro e w56 ⟨rfl, hb⟩; refine ⟨_, rfl, ?_⟩; replace BK200 := sBk BK200 hb; replace BK201 := sBk BK201 hb; replace HB := sHb hb; (try clear hb); (try clear hb2); (try clear hk); (try clear hi); have hcz57_0 : w56.cell? ⟨gb201, 0, none⟩ = some (.slice A1_0 l1_0.length c1_0) := (blk_cell BK201.out 0).trans rfl; have hcz57_1 : w56.cell? ⟨gb201, 1, none⟩ = some (.slice A1_1 l1_1.length c1_1) := (blk_cell BK201.out 1).trans rfl; have hfz57_0 := blk_frozen BK201.out 0; have hfz57_1 := blk_frozen BK201.out 1))
           go_ret
           exact ⟨rfl, HB.out⟩
          ·replace c53 := Bool.eq_false_iff.mpr c53
           subst c53
           have H1 : (none) = some r := by rw [if_neg (show ¬ (false = true) by decide)] at H; exact H
           clear H
           have H := H1
           clear H1
           exact absurd H (by simp)
end Go.Proofs.Ytjehhhlhalkieaa.C
namespace Go.Proofs.Ytjehhhlhalkieaa.Call
open Go.RowKit Go.Proofs.YtjehhhlhalkieaaW.PrintWords Go.Proofs.YtjehhhlhalkieaaW.PrintLast Go.Proofs.YtjehhhlhalkieaaW.PrintMore Go.Proofs.Ytjehhhlhalkieaa.C
set_option linter.unusedVariables false
set_option linter.unusedSimpArgs false
theorem cnt_split {α : Type} (p q r : α → Bool) (l : List α) (h : ∀ x ∈ l, (r x = (p x || q x)) ∧ ¬ (p x = true ∧ q x = true)) : (l.filter r).length = (l.filter p).length + (l.filter q).length := by
  induction l with
  | nil => rfl
  | cons x l ih =>
    obtain ⟨h1, h2⟩ := h x (List.mem_cons_self)
    have ih := ih fun y hy => h y (List.mem_cons_of_mem _ hy)
    simp only [List.filter_cons, h1]
    cases hp : p x <;> cases hq : q x <;> simp_all <;> omega
def cntI (i : Int) (I : List Ins) : Nat := (I.filter (fun x => decide (x.f0 < i))).length
def cntH (i : Int) (H : List Hall) : Nat := (H.filter (fun x => decide (0 ≤ x.f2 ∧ x.f2 < i))).length
def neg (H : List Hall) : Nat := (H.filter (fun x => decide (x.f2 < 0))).length
theorem cntI_succ (i : Int) (I : List Ins) : cntI (i + 1) I = cntI i I + (viewI i I).length := by
  unfold cntI viewI
  rw [List.length_map]
  refine cnt_split _ _ _ I fun x _ => ⟨?_, ?_⟩
  · rw [Bool.eq_iff_iff]; simp only [decide_eq_true_eq, Bool.or_eq_true]; omega
  · simp only [decide_eq_true_eq]; omega
theorem cntH_succ (i : Int) (H : List Hall) (h0 : 0 ≤ i) : cntH (i + 1) H = cntH i H + ((viewU i H).length + (viewD i H).length) := by
  have e : ((H.filter (fun x : Hall => decide (x.f2 = i))).length) = (viewU i H).length + (viewD i H).length := by
    unfold viewU viewD
    rw [List.length_map, List.length_map]
    refine cnt_split _ _ _ H fun x _ => ⟨?_, ?_⟩
    · rw [Bool.eq_iff_iff]; simp only [decide_eq_true_eq, Bool.or_eq_true]; omega
    · simp only [decide_eq_true_eq]; omega
  rw [← e]
  unfold cntH
  refine cnt_split _ _ _ H fun x _ => ⟨?_, ?_⟩
  · rw [Bool.eq_iff_iff]; simp only [decide_eq_true_eq, Bool.or_eq_true]; omega
  · simp only [decide_eq_true_eq]; omega
theorem cnt_all {F C : Int} {H : List Hall} {I : List Ins} (h : okB F C H I = true) : cntI C I + cntH C H + neg H = H.length + I.length ∧ cntI 0 I = 0 ∧ cntH 0 H = 0 := by
  obtain ⟨hF, hC, ⟨hH, _⟩, hI, _⟩ := ok_parts.1 h
  refine ⟨?_, ?_, ?_⟩
  · have e1 : cntI C I = I.length := by
      unfold cntI
      rw [List.filter_eq_self.2]
      intro x hx
      have := (ins_car hF hC).1 (hI x hx)
      exact decide_eq_true (by omega)
    have e2 : (H.filter (fun _ => true)).length = cntH C H + neg H := by
      unfold cntH neg
      refine cnt_split _ _ _ H fun x hx => ⟨?_, ?_⟩
      · have := (hall_car hF hC).1 (hH x hx)
        rw [Bool.eq_iff_iff]; simp only [decide_eq_true_eq, Bool.or_eq_true, true_iff]; omega
      · simp only [decide_eq_true_eq]; omega
    rw [List.filter_eq_self.2 (fun _ _ => rfl)] at e2
    omega
  · unfold cntI
    rw [List.filter_eq_nil_iff.2]
    · rfl
    intro x hx
    have := (ins_car hF hC).1 (hI x hx)
    rw [decide_eq_true_eq]
    omega
  · unfold cntH
    rw [List.filter_eq_nil_iff.2]
    · rfl
    intro x hx
    rw [decide_eq_true_eq]
    omega
theorem views_l1 (H : List Hall) (I : List Ins) (n : Nat) (hH : H.length ≤ 130) (hI : I.length ≤ 520) (hn : n ≤ 650) (j : Nat) : ∀ (f i m : Nat), i + j = H.length → j + 41 < f → m ≤ i →
    newellaw19_CallViews.l1 f (n : Int) (m : Int) (i : Int) H I = some (decide (n + (m + neg (H.drop i)) = H.length + I.length)) := by
  induction j with
  | zero =>
    intro f i m hi hf hm
    obtain ⟨f, rfl⟩ : ∃ f', f = f' + 1 := ⟨f - 1, by omega⟩
    unfold newellaw19_CallViews.l1
    rw [if_neg (by omega), awake_eq f (by omega), List.drop_eq_nil_of_le (by omega)]
    have w1 : wrap64 ((n : Int) + (m : Int)) = (n : Int) + (m : Int) := by unfold wrap64; omega
    have w2 : wrap64 ((H.length : Int) + (I.length : Int)) = ((H.length + I.length : Nat) : Int) := by unfold wrap64; omega
    rw [w1, w2]
    obtain ⟨s, hs⟩ : ∃ s, H.length + I.length = s := ⟨_, rfl⟩
    rw [hs]
    simp only [Option.bind_some, if_true, neg, List.filter_nil, List.length_nil, Nat.add_zero]
    congr 1
    rw [Bool.eq_iff_iff]
    rw [beq_iff_eq]
    constructor
    · intro h
      exact decide_eq_true (by omega)
    · intro h
      have := of_decide_eq_true h
      omega
  | succ j ih =>
    intro f i m hi hf hm
    obtain ⟨f, rfl⟩ : ∃ f', f = f' + 1 := ⟨f - 1, by omega⟩
    have h1 : i < H.length := by omega
    unfold newellaw19_CallViews.l1
    rw [if_pos (by omega), if_pos (by omega), rdH_at H i h1, show wrap64 ((i : Int) + 1) = ((i + 1 : Nat) : Int) from by unfold wrap64; omega, show wrap64 ((m : Int) + 1) = ((m + 1 : Nat) : Int) from by unfold wrap64; omega, List.drop_eq_getElem_cons h1]
    by_cases hc : H[i].f2 < 0
    · rw [if_pos hc, ih f (i + 1) (m + 1) (by omega) (by omega) (by omega)]
      have e : neg (H[i] :: H.drop (i + 1)) = neg (H.drop (i + 1)) + 1 := by
        unfold neg; rw [List.filter_cons_of_pos (by exact decide_eq_true hc)]; rfl
      rw [e]
      congr 1
      rw [Bool.eq_iff_iff]
      simp only [decide_eq_true_eq]
      omega
    · rw [if_neg hc, ih f (i + 1) m (by omega) (by omega) (by omega)]
      have e : neg (H[i] :: H.drop (i + 1)) = neg (H.drop (i + 1)) := by
        unfold neg; rw [List.filter_cons_of_neg (by rw [decide_eq_true_eq]; exact hc)]
      rw [e]
theorem views_sum (n a b c m : Nat) (hm : m ≤ 650) (h : n + a + b + c = m) : wrap64 (wrap64 (wrap64 ((n : Int) + (a : Int)) + (b : Int)) + (c : Int)) = (m : Int) := by
  have a1 : wrap64 ((n : Int) + (a : Int)) = (n : Int) + (a : Int) := by unfold wrap64; omega
  have a2 : wrap64 ((n : Int) + (a : Int) + (b : Int)) = (n : Int) + (a : Int) + (b : Int) := by unfold wrap64; omega
  have a3 : wrap64 ((n : Int) + (a : Int) + (b : Int) + (c : Int)) = (n : Int) + (a : Int) + (b : Int) + (c : Int) := by unfold wrap64; omega
  rw [a1, a2, a3]
  omega
theorem views_succ (i : Nat) (h : i ≤ 8) : wrap64 ((i : Int) + 1) = ((i + 1 : Nat) : Int) := by unfold wrap64; omega
theorem views_step (f n i : Nat) (F C : Int) (H : List Hall) (I : List Ins) (v : List Int × List Int × List Int × Int) (hi : (i : Int) < C) (hH : H.length < 900000000) (hI : I.length < 900000000) (hv : call_View.f f F C H I (i : Int) = some v) (h0 : v.2.2.2 = 0) :
    newellaw19_CallViews.l0 (f + 1) (n : Int) (i : Int) F C H I = newellaw19_CallViews.l0 f (wrap64 (wrap64 (wrap64 ((n : Int) + (v.1.length : Int)) + (v.2.1.length : Int)) + (v.2.2.1.length : Int))) (wrap64 ((i : Int) + 1)) F C H I := by
  conv => lhs; unfold newellaw19_CallViews.l0
  rw [if_pos hi, own_eq H I hH hI, Option.bind_some, hv, Option.bind_some, if_pos h0]
theorem views_j0 (k : Nat) (F C : Int) (H : List Hall) (I : List Ins) (hk : 40 ≤ k) : newellaw19_CallViews.j0 (k + 1) true F C H I = some true := by
  show (if true = true then ((newellaw19_awake.f k).bind fun t210 => (some t210)) else (newellaw19_CallViews.l0 k 0 0 F C H I)) = some true
  rw [if_pos rfl, awake_eq k hk]
  rfl
theorem views_l0 (F C : Int) (H : List Hall) (I : List Ins) (hok : okB F C H I = true) (hH : H.length ≤ 130) (hI : I.length ≤ 520) (hC : i64 C) (j : Nat) : ∀ (f i : Nat), ((i + j : Nat) : Int) = C → j + H.length + I.length + 100 < f → ∀ n : Nat, n = cntI (i : Int) I + cntH (i : Int) H →
    newellaw19_CallViews.l0 f (n : Int) (i : Int) F C H I = some true := by
  obtain ⟨hall, hz⟩ := cnt_all hok
  have hle : ∀ i : Int, cntI i I + cntH i H ≤ 650 := fun i => by
    unfold cntI cntH
    have h1 := List.length_filter_le (fun x : Ins => decide (x.f0 < i)) I
    have h2 := List.length_filter_le (fun x : Hall => decide (0 ≤ x.f2 ∧ x.f2 < i)) H
    omega
  induction j with
  | zero =>
    intro f i hi hf n hn
    obtain ⟨f, rfl⟩ : ∃ f', f = f' + 1 := ⟨f - 1, by omega⟩
    unfold newellaw19_CallViews.l0
    have hl := hle (i : Int)
    rw [if_neg (by omega)]
    have := views_l1 H I n hH hI (by omega) H.length f 0 0 (by omega) (by omega) (by omega)
    rw [show ((0 : Nat) : Int) = 0 from rfl] at this
    rw [this, List.drop_zero]
    congr 1
    rw [decide_eq_true_eq, hn, show (i : Int) = C from by omega]
    omega
  | succ j ih =>
    intro f i hi hf n hn
    obtain ⟨f, rfl⟩ : ∃ f', f = f' + 1 := ⟨f - 1, by omega⟩
    have hl2 := hle ((i : Int) + 1)
    have s1 := cntI_succ (i : Int) I
    have s2 := cntH_succ (i : Int) H (by omega)
    have hv := view_eq f F C H I (i : Int) (by omega) (by omega) hC (by omega)
    rw [if_pos hok, if_pos (by omega)] at hv
    rw [views_step f n i F C H I _ (by omega) (by omega) (by omega) hv rfl, views_sum n _ _ _ (cntI ((i : Int) + 1) I + cntH ((i : Int) + 1) H) hl2 (by simp only []; omega), views_succ i (by have := (ok_parts.1 hok).2.1; omega)]
    exact ih f (i + 1) (by omega) (by omega) _ (by rw [show ((i + 1 : Nat) : Int) = (i : Int) + 1 from by omega])
theorem views_eq (F C : Int) (H : List Hall) (I : List Ins) (hC : i64 C) (K : Nat) (hK : 3000 ≤ K) : newellaw19_CallViews.f K F C H I = some true := by
  obtain ⟨k, rfl⟩ : ∃ k, K = k + 1 := ⟨K - 1, by omega⟩
  have hj := views_j0 k F C H I (by omega)
  unfold newellaw19_CallViews.f
  rcases few_eq H I with hw | ⟨hw, hH, hI⟩
  · rw [hw]
    simp only [Option.bind_some, Bool.false_eq_true, if_false]
    exact hj
  · rw [hw, own_eq H I (by omega) (by omega)]
    simp only [Option.bind_some, if_true]
    rw [check_eq k F C H I (by omega) (by omega) hC]
    cases hok : okB F C H I
    · simp only [Option.bind_some, Bool.false_eq_true, if_false]
      exact hj
    · simp only [Option.bind_some, if_true]
      obtain ⟨hF, hC1, _⟩ := ok_parts.1 hok
      show (if (0 != 0 : Bool) = true then ((newellaw19_awake.f k).bind fun t210 => (some t210)) else (newellaw19_CallViews.l0 k 0 0 F C H I)) = some true
      rw [if_neg (by decide)]
      have := views_l0 F C H I hok hH hI hC C.toNat k 0 (by omega) (by omega) 0 (by have := (cnt_all hok).2; rw [show ((0 : Nat) : Int) = 0 from rfl, this.1, this.2])
      exact this
end Go.Proofs.Ytjehhhlhalkieaa.Call
