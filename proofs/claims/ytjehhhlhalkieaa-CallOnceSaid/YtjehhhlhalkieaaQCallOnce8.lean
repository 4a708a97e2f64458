/- Texts of this claim, one behind the other: what the law's functions come to, walked (printed by a program, with the words that the print uses), and what that is, in plain Lean. No conditions of their own. -/
import Derived.Test.YtjehhhlhalkieaaQCallOnce7
namespace Go.Proofs.Ytjehhhlhalkieaa.C
open Go.RowKit Go.Proofs.YtjehhhlhalkieaaW.PrintWords Go.Proofs.YtjehhhlhalkieaaW.PrintLast Go.Proofs.YtjehhhlhalkieaaW.PrintMore
attribute [local go_sem] max2_int min2_int max_two min_two max_three min_three max_four min_four
set_option linter.unusedVariables false
set_option linter.unusedSimpArgs false
def newellaw19_CallOnce.j0 : Nat → Bool → Option (Bool)
 | 0, _ => none
 | k + 1, x6 => some x6
def newellaw19_CallOnce.f (k : Nat) (a0_0 : Int) (a0_1 : Int) (l1_0 : List (S56)) (l1_1 : List (S62)) (a2_0 : Int) (a2_1 : Int) (a2_2 : Int) : Option (Bool) := (newelref19_Few.f l1_0 l1_1).bind fun t522 => (if t522 = true then ((newellaw19_Own.f l1_0 l1_1).bind fun bt524 => ((call_Press.f k a0_0 a0_1 bt524.1 bt524.2 a2_0 a2_1 a2_2).bind fun bt530 => (if bt530.2.2 = 0 then ((call_Press.f k a0_0 a0_1 bt530.1 bt530.2.1 a2_0 a2_1 a2_2).bind fun bt539 => ((newellaw19_awake.f k).bind fun t547 => (if t547 = true then (if bt539.2.2 = 0 then ((call_Same.f k bt530.1 bt530.2.1 bt539.1 bt539.2.1).bind fun t548 => (if t548 = true then ((call_Check.f k a0_0 a0_1 bt530.1 bt530.2.1).bind fun t549 => (if t549 = 0 then (if (wrap64 ((wrap64 ((wrap64 ((bt530.1.length : Int) + (bt530.2.1.length : Int))) - (l1_0.length : Int))) - (l1_1.length : Int))) = 1 then (newellaw19_CallOnce.j0 k true) else (if (wrap64 ((wrap64 ((wrap64 ((bt530.1.length : Int) + (bt530.2.1.length : Int))) - (l1_0.length : Int))) - (l1_1.length : Int))) = 0 then ((call_Same.f k bt530.1 bt530.2.1 l1_0 l1_1).bind fun t550 => (newellaw19_CallOnce.j0 k t550)) else (none))) else (none))) else (none))) else (none)) else (none)))) else ((newellaw19_awake.f k).bind fun t538 => (some t538))))) else ((newellaw19_awake.f k).bind fun t523 => (some t523)))
theorem newellaw19_CallOnce.mono_l : ∀ k, (∀ y0, LeO (newellaw19_CallOnce.j0 k y0) (newellaw19_CallOnce.j0 (k + 1) y0))
 | 0 => fun _ r h => by simp [newellaw19_CallOnce.j0] at h
 | k + 1 => by
  have ih0 := newellaw19_CallOnce.mono_l k
  ·intro y0
   unfold newellaw19_CallOnce.j0
   repeat' first
   | (with_reducible exact ih0 _)
   | (with_reducible exact call_Check.mono _ _ _ _ _)
   | (with_reducible exact call_Press.mono _ _ _ _ _ _ _ _)
   | (with_reducible exact call_Same.mono _ _ _ _ _)
   | (with_reducible exact newellaw19_awake.mono _)
   | (with_reducible exact LeO.refl _)
   | (with_reducible exact LeO.none _)
   | (with_reducible refine LeO.ite ?_ ?_)
   | (with_reducible refine LeO.bind ?_ (fun _ => ?_))
   | exact ih0 _
   | exact call_Check.mono _ _ _ _ _
   | exact call_Press.mono _ _ _ _ _ _ _ _
   | exact call_Same.mono _ _ _ _ _
   | exact newellaw19_awake.mono _
   | exact LeO.none _
   | refine LeO.ite ?_ ?_
   | refine LeO.bind ?_ (fun _ => ?_)
theorem newellaw19_CallOnce.mono : ∀ a0 a1 a2 a3 a4 a5 a6 k, LeO (newellaw19_CallOnce.f k a0 a1 a2 a3 a4 a5 a6) (newellaw19_CallOnce.f (k + 1) a0 a1 a2 a3 a4 a5 a6) := by
 intro a0 a1 a2 a3 a4 a5 a6 k
 have ih0 := newellaw19_CallOnce.mono_l k
 unfold newellaw19_CallOnce.f
 repeat' first
   | (with_reducible exact ih0 _)
   | (with_reducible exact call_Check.mono _ _ _ _ _)
   | (with_reducible exact call_Press.mono _ _ _ _ _ _ _ _)
   | (with_reducible exact call_Same.mono _ _ _ _ _)
   | (with_reducible exact newellaw19_awake.mono _)
   | (with_reducible exact LeO.refl _)
   | (with_reducible exact LeO.none _)
   | (with_reducible refine LeO.ite ?_ ?_)
   | (with_reducible refine LeO.bind ?_ (fun _ => ?_))
   | exact ih0 _
   | exact call_Check.mono _ _ _ _ _
   | exact call_Press.mono _ _ _ _ _ _ _ _
   | exact call_Same.mono _ _ _ _ _
   | exact newellaw19_awake.mono _
   | exact LeO.none _
   | refine LeO.ite ?_ ?_
   | refine LeO.bind ?_ (fun _ => ?_)
def newellaw19_CallOnce.T3 : Bool × List (List Nat × List Nat) := (true, [([], []), ([], []), ([1], [1]), ([], []), ([0, 2, 3, 2], [0, 2, 3]), ([4], [4]), ([5], [5]), ([5], [5]), ([], []), ([8, 6, 4, 0, 1, 2, 3, 4, 5, 6, 8], [6, 8]), ([7, 9, 0, 1, 2, 3, 4, 5, 6, 7, 8, 9], [7])])
def newellaw19_CallOnce.B3 : List Nat := [0, 0, 2, 0, 15, 31, 63, 63, 0, 383, 1023]
theorem newellaw19_CallOnce.tab3 : rtab .any (opsOf Try.f6 3) = newellaw19_CallOnce.T3 := by kernel_rfl
theorem newellaw19_CallOnce.bits3 : waitsOk newellaw19_CallOnce.T3.2 newellaw19_CallOnce.B3 = true := by kernel_rfl
set_option maxHeartbeats 8000000 in
set_option maxRecDepth 100000 in
theorem newellaw19_CallOnce.calls (k : Nat) (a0_0 : Int) (a0_1 : Int) (A1_0 : Option Addr) (c1_0 : Nat) (l1_0 : List (S56)) (A1_1 : Option Addr) (c1_1 : Nat) (l1_1 : List (S62)) (a2_0 : Int) (a2_1 : Int) (a2_2 : Int) (r : Bool) (w : World) (hr1_0 : Kd.C k56 w A1_0 l1_0.length l1_0) (hc1_0 : l1_0.length ≤ c1_0) (hr1_1 : Kd.C k62 w A1_1 l1_1.length l1_1) (hc1_1 : l1_1.length ≤ c1_1) (h : newellaw19_CallOnce.f k a0_0 a0_1 l1_0 l1_1 a2_0 a2_1 a2_2 = some r) :
  Calls Try.prog 6 #[.agg #[.int .i64 a0_0, .int .i64 a0_1], .agg #[.slice A1_0 l1_0.length c1_0, .slice A1_1 l1_1.length c1_1], .agg #[.int .i64 a2_0, .int .i64 a2_1, .int .i64 a2_2]] w fun e w' => e = .returned (.bool r) ∧ Below w.heap.size w w' := by
 have hu23 := Try.underlying23
 have hu27 := Try.underlying27
 have hu29 := Try.underlying29
 have HR1_0 := Aside0.mk hr1_0
 have HC1_0 := Aside0.mk hc1_0
 clear hr1_0 hc1_0
 have HR1_1 := Aside0.mk hr1_1
 have HC1_1 := Aside0.mk hc1_1
 clear hr1_1 hc1_1
 have HB := Aside0.mk (Below.refl w.heap.size w)
 have H : ((newelref19_Few.f l1_0 l1_1).bind fun t522 => (if t522 = true then ((newellaw19_Own.f l1_0 l1_1).bind fun bt524 => ((call_Press.f k a0_0 a0_1 bt524.1 bt524.2 a2_0 a2_1 a2_2).bind fun bt530 => (if bt530.2.2 = 0 then ((call_Press.f k a0_0 a0_1 bt530.1 bt530.2.1 a2_0 a2_1 a2_2).bind fun bt539 => ((newellaw19_awake.f k).bind fun t547 => (if t547 = true then (if bt539.2.2 = 0 then ((call_Same.f k bt530.1 bt530.2.1 bt539.1 bt539.2.1).bind fun t548 => (if t548 = true then ((call_Check.f k a0_0 a0_1 bt530.1 bt530.2.1).bind fun t549 => (if t549 = 0 then (if (wrap64 ((wrap64 ((wrap64 ((bt530.1.length : Int) + (bt530.2.1.length : Int))) - (l1_0.length : Int))) - (l1_1.length : Int))) = 1 then (newellaw19_CallOnce.j0 k true) else (if (wrap64 ((wrap64 ((wrap64 ((bt530.1.length : Int) + (bt530.2.1.length : Int))) - (l1_0.length : Int))) - (l1_1.length : Int))) = 0 then ((call_Same.f k bt530.1 bt530.2.1 l1_0 l1_1).bind fun t550 => (newellaw19_CallOnce.j0 k t550)) else (none))) else (none))) else (none))) else (none)) else (none)))) else ((newellaw19_awake.f k).bind fun t538 => (some t538))))) else ((newellaw19_awake.f k).bind fun t523 => (some t523)))) = some r := h
 clear h
 replace H := Option.bind_eq_some_iff.mp H
 obtain ⟨t522, A40, H⟩ := H
 replace H : (if t522 = true then ((newellaw19_Own.f l1_0 l1_1).bind fun bt524 => ((call_Press.f k a0_0 a0_1 bt524.1 bt524.2 a2_0 a2_1 a2_2).bind fun bt530 => (if bt530.2.2 = 0 then ((call_Press.f k a0_0 a0_1 bt530.1 bt530.2.1 a2_0 a2_1 a2_2).bind fun bt539 => ((newellaw19_awake.f k).bind fun t547 => (if t547 = true then (if bt539.2.2 = 0 then ((call_Same.f k bt530.1 bt530.2.1 bt539.1 bt539.2.1).bind fun t548 => (if t548 = true then ((call_Check.f k a0_0 a0_1 bt530.1 bt530.2.1).bind fun t549 => (if t549 = 0 then (if (wrap64 ((wrap64 ((wrap64 ((bt530.1.length : Int) + (bt530.2.1.length : Int))) - (l1_0.length : Int))) - (l1_1.length : Int))) = 1 then (newellaw19_CallOnce.j0 k true) else (if (wrap64 ((wrap64 ((wrap64 ((bt530.1.length : Int) + (bt530.2.1.length : Int))) - (l1_0.length : Int))) - (l1_1.length : Int))) = 0 then ((call_Same.f k bt530.1 bt530.2.1 l1_0 l1_1).bind fun t550 => (newellaw19_CallOnce.j0 k t550)) else (none))) else (none))) else (none))) else (none)) else (none)))) else ((newellaw19_awake.f k).bind fun t538 => (some t538))))) else ((newellaw19_awake.f k).bind fun t523 => (some t523))) = some r := H
 have A4 := Aside0.mk A40
 clear A40
 by_cases c5 : t522 = true
 ·subst c5
  have H1 : ((newellaw19_Own.f l1_0 l1_1).bind fun bt524 => ((call_Press.f k a0_0 a0_1 bt524.1 bt524.2 a2_0 a2_1 a2_2).bind fun bt530 => (if bt530.2.2 = 0 then ((call_Press.f k a0_0 a0_1 bt530.1 bt530.2.1 a2_0 a2_1 a2_2).bind fun bt539 => ((newellaw19_awake.f k).bind fun t547 => (if t547 = true then (if bt539.2.2 = 0 then ((call_Same.f k bt530.1 bt530.2.1 bt539.1 bt539.2.1).bind fun t548 => (if t548 = true then ((call_Check.f k a0_0 a0_1 bt530.1 bt530.2.1).bind fun t549 => (if t549 = 0 then (if (wrap64 ((wrap64 ((wrap64 ((bt530.1.length : Int) + (bt530.2.1.length : Int))) - (l1_0.length : Int))) - (l1_1.length : Int))) = 1 then (newellaw19_CallOnce.j0 k true) else (if (wrap64 ((wrap64 ((wrap64 ((bt530.1.length : Int) + (bt530.2.1.length : Int))) - (l1_0.length : Int))) - (l1_1.length : Int))) = 0 then ((call_Same.f k bt530.1 bt530.2.1 l1_0 l1_1).bind fun t550 => (newellaw19_CallOnce.j0 k t550)) else (none))) else (none))) else (none))) else (none)) else (none)))) else ((newellaw19_awake.f k).bind fun t538 => (some t538))))) = some r := by rw [if_pos rfl] at H; exact H
  clear H
  have H := H1
  clear H1
  replace H := Option.bind_eq_some_iff.mp H
  obtain ⟨⟨t524, t527⟩, A60, H⟩ := H
  replace H : ((call_Press.f k a0_0 a0_1 t524 t527 a2_0 a2_1 a2_2).bind fun bt530 => (if bt530.2.2 = 0 then ((call_Press.f k a0_0 a0_1 bt530.1 bt530.2.1 a2_0 a2_1 a2_2).bind fun bt539 => ((newellaw19_awake.f k).bind fun t547 => (if t547 = true then (if bt539.2.2 = 0 then ((call_Same.f k bt530.1 bt530.2.1 bt539.1 bt539.2.1).bind fun t548 => (if t548 = true then ((call_Check.f k a0_0 a0_1 bt530.1 bt530.2.1).bind fun t549 => (if t549 = 0 then (if (wrap64 ((wrap64 ((wrap64 ((bt530.1.length : Int) + (bt530.2.1.length : Int))) - (l1_0.length : Int))) - (l1_1.length : Int))) = 1 then (newellaw19_CallOnce.j0 k true) else (if (wrap64 ((wrap64 ((wrap64 ((bt530.1.length : Int) + (bt530.2.1.length : Int))) - (l1_0.length : Int))) - (l1_1.length : Int))) = 0 then ((call_Same.f k bt530.1 bt530.2.1 l1_0 l1_1).bind fun t550 => (newellaw19_CallOnce.j0 k t550)) else (none))) else (none))) else (none))) else (none)) else (none)))) else ((newellaw19_awake.f k).bind fun t538 => (some t538)))) = some r := H
  have A6 := Aside0.mk A60
  clear A60
  replace H := Option.bind_eq_some_iff.mp H
  obtain ⟨⟨t530, t533, t536⟩, A70, H⟩ := H
  replace H : (if t536 = 0 then ((call_Press.f k a0_0 a0_1 t530 t533 a2_0 a2_1 a2_2).bind fun bt539 => ((newellaw19_awake.f k).bind fun t547 => (if t547 = true then (if bt539.2.2 = 0 then ((call_Same.f k t530 t533 bt539.1 bt539.2.1).bind fun t548 => (if t548 = true then ((call_Check.f k a0_0 a0_1 t530 t533).bind fun t549 => (if t549 = 0 then (if (wrap64 ((wrap64 ((wrap64 ((t530.length : Int) + (t533.length : Int))) - (l1_0.length : Int))) - (l1_1.length : Int))) = 1 then (newellaw19_CallOnce.j0 k true) else (if (wrap64 ((wrap64 ((wrap64 ((t530.length : Int) + (t533.length : Int))) - (l1_0.length : Int))) - (l1_1.length : Int))) = 0 then ((call_Same.f k t530 t533 l1_0 l1_1).bind fun t550 => (newellaw19_CallOnce.j0 k t550)) else (none))) else (none))) else (none))) else (none)) else (none)))) else ((newellaw19_awake.f k).bind fun t538 => (some t538))) = some r := H
  have A7 := Aside0.mk A70
  clear A70
  by_cases c8 : t536 = 0
  ·rw [if_pos c8] at H
   have c8b0 : (t536 == 0) = true := beq_iff_eq.mpr c8
   have c8b1 : (t536 != 0) = false := bne_eq_false_iff_eq.mpr c8
   clear c8
   replace H := Option.bind_eq_some_iff.mp H
   obtain ⟨⟨t539, t542, t545⟩, A90, H⟩ := H
   replace H : ((newellaw19_awake.f k).bind fun t547 => (if t547 = true then (if t545 = 0 then ((call_Same.f k t530 t533 t539 t542).bind fun t548 => (if t548 = true then ((call_Check.f k a0_0 a0_1 t530 t533).bind fun t549 => (if t549 = 0 then (if (wrap64 ((wrap64 ((wrap64 ((t530.length : Int) + (t533.length : Int))) - (l1_0.length : Int))) - (l1_1.length : Int))) = 1 then (newellaw19_CallOnce.j0 k true) else (if (wrap64 ((wrap64 ((wrap64 ((t530.length : Int) + (t533.length : Int))) - (l1_0.length : Int))) - (l1_1.length : Int))) = 0 then ((call_Same.f k t530 t533 l1_0 l1_1).bind fun t550 => (newellaw19_CallOnce.j0 k t550)) else (none))) else (none))) else (none))) else (none)) else (none))) = some r := H
   have A9 := Aside0.mk A90
   clear A90
   have HC10 := Aside0.mk H
   clear H
   go_enter Try.func6, Try.ntmps6
   try go_wp2_with (first | ((with_reducible refine gate_dst (N := 3) rfl ?_); refine box_event ?hg (N := 3) ?hd (cs := #[.int .i64 a0_0, .int .i64 a0_1]) (t := 23) ?hr ?_; (case hd => rfl); (case hg => rfl); (case hr => go_simp <;> rfl); intro gb519 hg w11 hbox hb; have BK519 := Aside0.mk hbox; have GW519 := sGe hg; have GE519 := sGe hg; replace HB := sHb hb; clear hb hbox hg) | ((with_reducible refine gate_dst (N := 4) rfl ?_); refine box_event ?hg (N := 4) ?hd (cs := #[.slice A1_0 l1_0.length c1_0, .slice A1_1 l1_1.length c1_1]) (t := 27) ?hr ?_; (case hd => rfl); (case hg => rfl); (case hr => go_simp <;> rfl); intro gb520 hg w12 hbox hb; have BK520 := Aside0.mk hbox; have GW520 := sGe hg; have GE520 := sGe hg; have NB519_520 := sNl BK519 hg; have NB520_519 := sNg BK519 hg; replace BK519 := sBk BK519 hb; replace HB := sHb hb; clear hb hbox hg) | ((with_reducible refine gate_dst (N := 5) rfl ?_); refine box_event ?hg (N := 5) ?hd (cs := #[.int .i64 a2_0, .int .i64 a2_1, .int .i64 a2_2]) (t := 29) ?hr ?_; (case hd => rfl); (case hg => rfl); (case hr => go_simp <;> rfl); intro gb521 hg w13 hbox hb; have BK521 := Aside0.mk hbox; have GW521 := sGe hg; have GE521 := sGe hg; have NB519_521 := sNl BK519 hg; have NB521_519 := sNg BK519 hg; have NB520_521 := sNl BK520 hg; have NB521_520 := sNg BK520 hg; replace BK519 := sBk BK519 hb; replace BK520 := sBk BK520 hb; replace HB := sHb hb; clear hb hbox hg; have hnb14 := NB520_519.out; have hnc14 := NB519_520.out; have hnb15 := NB520_521.out; have hnc15 := NB521_520.out; have hcz16_0 : w13.cell? ⟨gb520, 0, none⟩ = some (.slice A1_0 l1_0.length c1_0) := (blk_cell BK520.out 0).trans rfl; have hcz16_1 : w13.cell? ⟨gb520, 1, none⟩ = some (.slice A1_1 l1_1.length c1_1) := (blk_cell BK520.out 1).trans rfl; have hfz16_0 := blk_frozen BK520.out 0; have hfz16_1 := blk_frozen BK520.out 1) | ((with_reducible refine gate_callee (f := 9) rfl ?_); refine goesL_ (some 13) rfl rfl Try.func9 (by kernel_rfl) rfl #[.agg #[.slice A1_0 l1_0.length c1_0, .slice A1_1 l1_1.length c1_1]] rfl (by simp only [List.map_toArray, List.map_cons, List.map_nil] <;> rfl) ?_; (with_reducible refine (newelref19_Few.calls _ _ l1_0 _ _ l1_1 true _ ?side1 ?side2 ?side3 ?side4 A4.out).mono ?_); (case side1 => exact (Kd.C_below HR1_0.out HB.out)); (case side2 => exact HC1_0.out); (case side3 => exact (Kd.C_below HR1_1.out HB.out)); (case side4 => exact HC1_1.out); rintro e w17 ⟨rfl, hb⟩; refine ⟨_, rfl, ?_⟩; replace BK519 := sBk BK519 hb; replace BK520 := sBk BK520 hb; replace BK521 := sBk BK521 hb; replace HB := sHb hb; (try clear hb); (try clear hb2); (try clear hk); (try clear hi)))
   replace BK519 := Aside0.mk (blk_drew BK519.out)
   replace BK520 := Aside0.mk (blk_drew BK520.out)
   replace BK521 := Aside0.mk (blk_drew BK521.out)
   replace HB := Aside0.mk (below_drew1 HB.out)
   refine start_ (n := 11) (S := fun w' => w'.cell? ⟨gb519, 0, none⟩ = some (.int .i64 a0_0) ∧ w'.cell? ⟨gb519, 1, none⟩ = some (.int .i64 a0_1) ∧ w'.cell? ⟨gb520, 0, none⟩ = some (.slice A1_0 l1_0.length c1_0) ∧ w'.cell? ⟨gb520, 1, none⟩ = some (.slice A1_1 l1_1.length c1_1) ∧ w'.cell? ⟨gb521, 0, none⟩ = some (.int .i64 a2_0) ∧ w'.cell? ⟨gb521, 1, none⟩ = some (.int .i64 a2_1) ∧ w'.cell? ⟨gb521, 2, none⟩ = some (.int .i64 a2_2)) (ds := []) #[false, false, false, false, false, false, false, false, false, false, false] (by kernel_rfl) rfl rfl ⟨(blk_cell BK519.out 0).trans rfl, (blk_cell BK519.out 1).trans rfl, (blk_cell BK520.out 0).trans rfl, (blk_cell BK520.out 1).trans rfl, (blk_cell BK521.out 0).trans rfl, (blk_cell BK521.out 1).trans rfl, (blk_cell BK521.out 2).trans rfl⟩ (fun hHeld => ?_); refine with_tabW newellaw19_CallOnce.tab3 newellaw19_CallOnce.bits3 (fun HT_ HW_ => ?_)
   generalize w17.drew = w18 at BK519 BK520 BK521 HB hHeld ⊢
   refine take_ (i := 0) (N := some 17) (v := ?_) (a' := ?_) (bN 11 1) rfl rfl (take_ofW HT_.out HW_.out (by kernel_rfl)) (fun _ _ _ h => h) (Or.inl ⟨by rfl, ?_⟩) hHeld ?_ ?_
   rotate_left
   ·rintro w' ⟨s0, s1, s2, s3, s4, s5, s6⟩
    go_simp
    with_reducible rfl
   rotate_left
   ·simp only [Act.put, List.setIfInBounds_toArray, List.set_cons_zero, List.set_cons_succ, i64_w, i32_w]
    rfl
   refine take_ (i := 1) (N := some 18) (v := ?_) (a' := ?_) (bN 11 3) rfl rfl (take_ofW HT_.out HW_.out (by kernel_rfl)) (fun _ _ _ h => h) (Or.inl ⟨by rfl, ?_⟩) hHeld ?_ ?_
   rotate_left
   ·rintro w' ⟨s0, s1, s2, s3, s4, s5, s6⟩
    go_simp
    with_reducible rfl
   rotate_left
   ·simp only [Act.put, List.setIfInBounds_toArray, List.set_cons_zero, List.set_cons_succ, i64_w, i32_w]
    rfl
   refine take_ (i := 3) (N := some 20) (v := ?_) (a' := ?_) (bN 11 11) rfl rfl (take_ofW HT_.out HW_.out (by kernel_rfl)) (fun _ _ _ h => h) (Or.inl ⟨by rfl, ?_⟩) hHeld ?_ ?_
   rotate_left
   ·rintro w' ⟨s0, s1, s2, s3, s4, s5, s6⟩
    go_simp
    with_reducible rfl
   rotate_left
   ·simp only [Act.put, List.setIfInBounds_toArray, List.set_cons_zero, List.set_cons_succ, i64_w, i32_w]
    rfl
   refine join_ (σ := Value × Value × Value × Value × Nat) 2 (bN 11 511) (fun s_ => [(19, .agg #[s_.1, s_.2.1]), (21, .tuple #[.agg #[s_.2.2.1, s_.2.2.2.1], .int .i64 t536]), (7, .pointer (some ⟨s_.2.2.2.2, 0, none⟩)), (16, .tuple #[.agg #[s_.2.2.1, s_.2.2.2.1], .int .i64 t536]), (22, .agg #[s_.2.2.1, s_.2.2.2.1]), (23, .int .i64 t536)]) (fun s_ w' => (w'.cell? ⟨gb519, 0, none⟩ = some (.int .i64 a0_0) ∧ w'.cell? ⟨gb519, 1, none⟩ = some (.int .i64 a0_1) ∧ w'.cell? ⟨gb520, 0, none⟩ = some (.slice A1_0 l1_0.length c1_0) ∧ w'.cell? ⟨gb520, 1, none⟩ = some (.slice A1_1 l1_1.length c1_1) ∧ w'.cell? ⟨gb521, 0, none⟩ = some (.int .i64 a2_0) ∧ w'.cell? ⟨gb521, 1, none⟩ = some (.int .i64 a2_1) ∧ w'.cell? ⟨gb521, 2, none⟩ = some (.int .i64 a2_2)) ∧ (Kd.R k56 56 w' w.heap.size (fun k_ => some k_ ≠ (s_.2.2.1 : Value).ownBlock) s_.1 t524) ∧ (Kd.R k62 62 w' w.heap.size (fun k_ => some k_ ≠ (s_.2.2.2.1 : Value).ownBlock) s_.2.1 t527) ∧ (Kd.R k56 56 w' w.heap.size (fun k_ => some k_ ≠ (s_.1 : Value).ownBlock) s_.2.2.1 t530) ∧ (Kd.R k62 62 w' w.heap.size (fun k_ => some k_ ≠ (s_.2.1 : Value).ownBlock) s_.2.2.2.1 t533) ∧ (w'.heap[gb519]? = some (.cells #[.int .i64 a0_0, .int .i64 a0_1] 23 (0, 0))) ∧ (w'.heap[gb520]? = some (.cells #[.slice A1_0 l1_0.length c1_0, .slice A1_1 l1_1.length c1_1] 27 (0, 0))) ∧ (w'.heap[gb521]? = some (.cells #[.int .i64 a2_0, .int .i64 a2_1, .int .i64 a2_2] 29 (0, 0))) ∧ (w'.heap[s_.2.2.2.2]? = some (.cells #[.slice none 0 0, .slice none 0 0] 27 (0, 0))) ∧ (w.heap.size ≤ s_.2.2.2.2) ∧ (w.heap.size ≤ s_.2.2.2.2) ∧ (gb519 ≠ s_.2.2.2.2) ∧ (s_.2.2.2.2 ≠ gb519) ∧ (gb520 ≠ s_.2.2.2.2) ∧ (s_.2.2.2.2 ≠ gb520) ∧ (gb521 ≠ s_.2.2.2.2) ∧ (s_.2.2.2.2 ≠ gb521) ∧ (Below w.heap.size w w')) ?_ ?_
   rotate_left
   ·intro hCont
    refine two_ (i := 2) (j := 8) (Ni := some 19) (Nj := some 7) (bN 11 15) (bN 11 267) rfl rfl rfl rfl (two_of HT_.out (by kernel_rfl)) (by decide) (by decide) (fun K hK => ?_) (fun K hK => ?_)
    ·skip
     refine goes_ Try.func12 (by kernel_rfl) rfl #[.agg #[.slice A1_0 l1_0.length c1_0, .slice A1_1 l1_1.length c1_1]] (by rfl) rfl rfl (by simp only [List.map_toArray, List.map_cons, List.map_nil] <;> rfl) ?_
     with_reducible refine (newellaw19_Own.calls _ _ l1_0 _ _ l1_1 t524 t527 _ ?side1 ?side2 ?side3 ?side4 A6.out).mono ?_
     (case side1 => exact (Kd.C_below HR1_0.out HB.out))
     (case side2 => exact HC1_0.out)
     (case side3 => exact (Kd.C_below HR1_1.out HB.out))
     (case side4 => exact HC1_1.out)
     rintro e w19 ⟨v525, v528, rfl, ho0, ho1, hb⟩
     refine ⟨_, rfl, ?_⟩
     have HO526 := Aside0.mk (Kd.R_lower ho0 (below_size HB.out))
     have HO529 := Aside0.mk (Kd.R_lower ho1 (below_size HB.out))
     replace BK519 := sBk BK519 hb
     replace BK520 := sBk BK520 hb
     replace BK521 := sBk BK521 hb
     replace HB := sHb hb
     (try clear hb)
     (try clear hb2)
     (try clear hk)
     (try clear hi)
     (try clear ho0)
     (try clear ho1)
     obtain ⟨Ao20, co20, eo20⟩ := Kd.R_slice HO526.out
     (first | subst eo20 | (injection eo20 with f1_ f2_ f3_; have f4_ := f1_.symm; have f5_ := f3_.symm; clear f1_ f2_ f3_; subst f4_; subst f5_))
     obtain ⟨Ao21, co21, eo21⟩ := Kd.R_slice HO529.out
     (first | subst eo21 | (injection eo21 with f1_ f2_ f3_; have f4_ := f1_.symm; have f5_ := f3_.symm; clear f1_ f2_ f3_; subst f4_; subst f5_))
     refine hK.out _ _ ⟨(blk_cell BK519.out 0).trans rfl, (blk_cell BK519.out 1).trans rfl, (blk_cell BK520.out 0).trans rfl, (blk_cell BK520.out 1).trans rfl, (blk_cell BK521.out 0).trans rfl, (blk_cell BK521.out 1).trans rfl, (blk_cell BK521.out 2).trans rfl⟩ (fun hHeld => ?_)
     clear hK K
     refine norm_ (a' := ?_) ?_ ?_
     rotate_left
     ·show Act.put _ (some 19) _ = _
      simp only [Act.put, List.setIfInBounds_toArray, List.set_cons_zero, List.set_cons_succ, i64_w, i32_w]
      rfl
     refine two_ (i := 4) (j := 8) (Ni := some 21) (Nj := some 7) (bN 11 31) (bN 11 271) rfl rfl rfl rfl (two_of HT_.out (by kernel_rfl)) (by decide) (by decide) (fun K hK => ?_) (fun K hK => ?_)
     ·skip
      refine goes_ Try.func11 (by kernel_rfl) rfl #[.agg #[.int .i64 a0_0, .int .i64 a0_1], .agg #[.slice Ao20 t524.length co20, .slice Ao21 t527.length co21], .agg #[.int .i64 a2_0, .int .i64 a2_1, .int .i64 a2_2]] (by rfl) rfl rfl (by simp only [List.map_toArray, List.map_cons, List.map_nil] <;> rfl) ?_
      with_reducible refine (call_Press.calls k a0_0 a0_1 _ _ t524 _ _ t527 a2_0 a2_1 a2_2 t530 t533 t536 _ ?side1 ?side2 ?side3 ?side4 A7.out).mono ?_
      (case side1 => exact (Kd.R_reads' HO526.out).2.2)
      (case side2 => exact (Kd.R_reads' HO526.out).2.1)
      (case side3 => exact (Kd.R_reads' HO529.out).2.2)
      (case side4 => exact (Kd.R_reads' HO529.out).2.1)
      rintro e w22 ⟨v531, v534, rfl, ho0, ho1, hb⟩
      refine ⟨_, rfl, ?_⟩
      have HO532 := Aside0.mk (Kd.R_lower (Kd.R_new' ho0 (Kd.R_lt HO526.out)) (below_size HB.out))
      have HO535 := Aside0.mk (Kd.R_lower (Kd.R_new' ho1 (Kd.R_lt HO529.out)) (below_size HB.out))
      replace HO526 := Aside0.mk (Kd.R_elder' HO526.out (Kd.R_base ho0) hb)
      replace HO529 := Aside0.mk (Kd.R_elder' HO529.out (Kd.R_base ho1) hb)
      replace BK519 := sBk BK519 hb
      replace BK520 := sBk BK520 hb
      replace BK521 := sBk BK521 hb
      replace HB := sHb hb
      (try clear hb)
      (try clear hb2)
      (try clear hk)
      (try clear hi)
      (try clear ho0)
      (try clear ho1)
      refine hK.out _ _ ⟨(blk_cell BK519.out 0).trans rfl, (blk_cell BK519.out 1).trans rfl, (blk_cell BK520.out 0).trans rfl, (blk_cell BK520.out 1).trans rfl, (blk_cell BK521.out 0).trans rfl, (blk_cell BK521.out 1).trans rfl, (blk_cell BK521.out 2).trans rfl⟩ (fun hHeld => ?_)
      clear hK K
      refine norm_ (a' := ?_) ?_ ?_
      rotate_left
      ·show Act.put _ (some 21) _ = _
       simp only [Act.put, List.setIfInBounds_toArray, List.set_cons_zero, List.set_cons_succ, i64_w, i32_w]
       rfl
      refine pure_ (i := 5) (N := some 16) (v := ?_) (a' := ?_) (bN 11 63) rfl rfl (any_of HT_.out (by kernel_rfl)) (fun _ _ _ h => h) (Or.inl ⟨by rfl, ?_⟩) ?_ ?_
      rotate_left
      ·intro w'
       go_simp
       with_reducible rfl
      rotate_left
      ·simp only [Act.put, List.setIfInBounds_toArray, List.set_cons_zero, List.set_cons_succ, i64_w, i32_w]
       rfl
      refine pure_ (i := 6) (N := some 22) (v := ?_) (a' := ?_) (bN 11 127) rfl rfl (any_of HT_.out (by kernel_rfl)) (fun _ _ _ h => h) (Or.inl ⟨by rfl, ?_⟩) ?_ ?_
      rotate_left
      ·intro w'
       go_simp
       with_reducible rfl
      rotate_left
      ·simp only [Act.put, List.setIfInBounds_toArray, List.set_cons_zero, List.set_cons_succ, i64_w, i32_w]
       rfl
      refine pure_ (i := 7) (N := some 23) (v := ?_) (a' := ?_) (bN 11 255) rfl rfl (any_of HT_.out (by kernel_rfl)) (fun _ _ _ h => h) (Or.inl ⟨by rfl, ?_⟩) ?_ ?_
      rotate_left
      ·intro w'
       go_simp
       with_reducible rfl
      rotate_left
      ·simp only [Act.put, List.setIfInBounds_toArray, List.set_cons_zero, List.set_cons_succ, i64_w, i32_w]
       rfl
      refine one_ (i := 8) (N := some 7) (bN 11 511) rfl rfl (one_of HT_.out (by kernel_rfl)) (by decide) (fun K hK => ?_)
      refine box_step ?hg (N := 7) ?hd (cs := #[.slice none 0 0, .slice none 0 0]) (t := 27) ?hr ?_; (case hd => rfl); (case hg => rfl); (case hr => go_simp <;> rfl)
      intro gb537 hg w23 hbox hb
      have BK537 := Aside0.mk hbox
      have GW537 := sGe hg
      have GE537 := sGe hg
      have NB519_537 := sNl BK519 hg
      have NB537_519 := sNg BK519 hg
      have NB520_537 := sNl BK520 hg
      have NB537_520 := sNg BK520 hg
      have NB521_537 := sNl BK521 hg
      have NB537_521 := sNg BK521 hg
      replace HO526 := sRb HO526 hb
      replace HO529 := sRb HO529 hb
      replace HO532 := sRb HO532 hb
      replace HO535 := sRb HO535 hb
      replace BK519 := sBk BK519 hb
      replace BK520 := sBk BK520 hb
      replace BK521 := sBk BK521 hb
      replace HB := sHb hb
      clear hb hbox hg
      refine hK.out _ _ ⟨(blk_cell BK519.out 0).trans rfl, (blk_cell BK519.out 1).trans rfl, (blk_cell BK520.out 0).trans rfl, (blk_cell BK520.out 1).trans rfl, (blk_cell BK521.out 0).trans rfl, (blk_cell BK521.out 1).trans rfl, (blk_cell BK521.out 2).trans rfl⟩ (fun hHeld => ?_)
      clear hK K
      refine norm_ (a' := ?_) ?_ ?_
      rotate_left
      ·show Act.put _ (some 7) _ = _
       simp only [Act.put, List.setIfInBounds_toArray, List.set_cons_zero, List.set_cons_succ, i64_w, i32_w]
       rfl
      exact norm_ (by simp only [putAll, Act.put, List.setIfInBounds_toArray, List.set_cons_zero, List.set_cons_succ]) (hCont (.slice Ao20 t524.length co20, .slice Ao21 t527.length co21, v531, v534, gb537) _ ⟨hHeld, (by (with_reducible repeat (first | apply Kd.R_alloc | apply Kd.R_drewN | apply Kd.R_drew)); exact Kd.R_mono HO526.out (fun _ hk => hk.2)), (by (with_reducible repeat (first | apply Kd.R_alloc | apply Kd.R_drewN | apply Kd.R_drew)); exact Kd.R_mono HO529.out (fun _ hk => hk.2)), (by (with_reducible repeat (first | apply Kd.R_alloc | apply Kd.R_drewN | apply Kd.R_drew)); exact Kd.R_mono HO532.out (fun _ hk => hk.2)), (by (with_reducible repeat (first | apply Kd.R_alloc | apply Kd.R_drewN | apply Kd.R_drew)); exact Kd.R_mono HO535.out (fun _ hk => hk.2)), BK519.out, BK520.out, BK521.out, BK537.out, GW537.out, GE537.out, NB519_537.out, NB537_519.out, NB520_537.out, NB537_520.out, NB521_537.out, NB537_521.out, HB.out⟩)
     ·skip
      refine box_step ?hg (N := 7) ?hd (cs := #[.slice none 0 0, .slice none 0 0]) (t := 27) ?hr ?_; (case hd => rfl); (case hg => rfl); (case hr => go_simp <;> rfl)
      intro gb537 hg w20 hbox hb
      have BK537 := Aside0.mk hbox
      have GW537 := sGe hg
      have GE537 := sGe hg
      have NB519_537 := sNl BK519 hg
      have NB537_519 := sNg BK519 hg
      have NB520_537 := sNl BK520 hg
      have NB537_520 := sNg BK520 hg
      have NB521_537 := sNl BK521 hg
      have NB537_521 := sNg BK521 hg
      replace HO526 := sRb HO526 hb
      replace HO529 := sRb HO529 hb
      replace BK519 := sBk BK519 hb
      replace BK520 := sBk BK520 hb
      replace BK521 := sBk BK521 hb
      replace HB := sHb hb
      clear hb hbox hg
      obtain ⟨Ao21, co21, eo21⟩ := Kd.R_slice HO526.out
      (first | subst eo21 | (injection eo21 with f1_ f2_ f3_; have f4_ := f1_.symm; have f5_ := f3_.symm; clear f1_ f2_ f3_; subst f4_; subst f5_))
      obtain ⟨Ao22, co22, eo22⟩ := Kd.R_slice HO529.out
      (first | subst eo22 | (injection eo22 with f1_ f2_ f3_; have f4_ := f1_.symm; have f5_ := f3_.symm; clear f1_ f2_ f3_; subst f4_; subst f5_))
      refine hK.out _ _ ⟨(blk_cell BK519.out 0).trans rfl, (blk_cell BK519.out 1).trans rfl, (blk_cell BK520.out 0).trans rfl, (blk_cell BK520.out 1).trans rfl, (blk_cell BK521.out 0).trans rfl, (blk_cell BK521.out 1).trans rfl, (blk_cell BK521.out 2).trans rfl⟩ (fun hHeld => ?_)
      clear hK K
      refine norm_ (a' := ?_) ?_ ?_
      rotate_left
      ·show Act.put _ (some 7) _ = _
       simp only [Act.put, List.setIfInBounds_toArray, List.set_cons_zero, List.set_cons_succ, i64_w, i32_w]
       rfl
      refine one_ (i := 4) (N := some 21) (bN 11 287) rfl rfl (one_of HT_.out (by kernel_rfl)) (by decide) (fun K hK => ?_)
      refine goes_ Try.func11 (by kernel_rfl) rfl #[.agg #[.int .i64 a0_0, .int .i64 a0_1], .agg #[.slice Ao21 t524.length co21, .slice Ao22 t527.length co22], .agg #[.int .i64 a2_0, .int .i64 a2_1, .int .i64 a2_2]] (by rfl) rfl rfl (by simp only [List.map_toArray, List.map_cons, List.map_nil] <;> rfl) ?_
      with_reducible refine (call_Press.calls k a0_0 a0_1 _ _ t524 _ _ t527 a2_0 a2_1 a2_2 t530 t533 t536 _ ?side1 ?side2 ?side3 ?side4 A7.out).mono ?_
      (case side1 => exact (Kd.R_reads' HO526.out).2.2)
      (case side2 => exact (Kd.R_reads' HO526.out).2.1)
      (case side3 => exact (Kd.R_reads' HO529.out).2.2)
      (case side4 => exact (Kd.R_reads' HO529.out).2.1)
      rintro e w23 ⟨v531, v534, rfl, ho0, ho1, hb⟩
      refine ⟨_, rfl, ?_⟩
      have HO532 := Aside0.mk (Kd.R_lower (Kd.R_new' ho0 (Kd.R_lt HO526.out)) (below_size HB.out))
      have HO535 := Aside0.mk (Kd.R_lower (Kd.R_new' ho1 (Kd.R_lt HO529.out)) (below_size HB.out))
      replace HO526 := Aside0.mk (Kd.R_elder' HO526.out (Kd.R_base ho0) hb)
      replace HO529 := Aside0.mk (Kd.R_elder' HO529.out (Kd.R_base ho1) hb)
      replace BK519 := sBk BK519 hb
      replace BK520 := sBk BK520 hb
      replace BK521 := sBk BK521 hb
      replace BK537 := sBk BK537 hb
      replace HB := sHb hb
      (try clear hb)
      (try clear hb2)
      (try clear hk)
      (try clear hi)
      (try clear ho0)
      (try clear ho1)
      refine hK.out _ _ ⟨(blk_cell BK519.out 0).trans rfl, (blk_cell BK519.out 1).trans rfl, (blk_cell BK520.out 0).trans rfl, (blk_cell BK520.out 1).trans rfl, (blk_cell BK521.out 0).trans rfl, (blk_cell BK521.out 1).trans rfl, (blk_cell BK521.out 2).trans rfl⟩ (fun hHeld => ?_)
      clear hK K
      refine norm_ (a' := ?_) ?_ ?_
      rotate_left
      ·show Act.put _ (some 21) _ = _
       simp only [Act.put, List.setIfInBounds_toArray, List.set_cons_zero, List.set_cons_succ, i64_w, i32_w]
       rfl
      refine pure_ (i := 5) (N := some 16) (v := ?_) (a' := ?_) (bN 11 319) rfl rfl (any_of HT_.out (by kernel_rfl)) (fun _ _ _ h => h) (Or.inl ⟨by rfl, ?_⟩) ?_ ?_
      rotate_left
      ·intro w'
       go_simp
       with_reducible rfl
      rotate_left
      ·simp only [Act.put, List.setIfInBounds_toArray, List.set_cons_zero, List.set_cons_succ, i64_w, i32_w]
       rfl
      refine pure_ (i := 6) (N := some 22) (v := ?_) (a' := ?_) (bN 11 383) rfl rfl (any_of HT_.out (by kernel_rfl)) (fun _ _ _ h => h) (Or.inl ⟨by rfl, ?_⟩) ?_ ?_
      rotate_left
      ·intro w'
       go_simp
       with_reducible rfl
      rotate_left
      ·simp only [Act.put, List.setIfInBounds_toArray, List.set_cons_zero, List.set_cons_succ, i64_w, i32_w]
       rfl
      refine pure_ (i := 7) (N := some 23) (v := ?_) (a' := ?_) (bN 11 511) rfl rfl (any_of HT_.out (by kernel_rfl)) (fun _ _ _ h => h) (Or.inl ⟨by rfl, ?_⟩) ?_ ?_
      rotate_left
      ·intro w'
       go_simp
       with_reducible rfl
      rotate_left
      ·simp only [Act.put, List.setIfInBounds_toArray, List.set_cons_zero, List.set_cons_succ, i64_w, i32_w]
       rfl
      exact norm_ (by simp only [putAll, Act.put, List.setIfInBounds_toArray, List.set_cons_zero, List.set_cons_succ]) (hCont (.slice Ao21 t524.length co21, .slice Ao22 t527.length co22, v531, v534, gb537) _ ⟨hHeld, (by (with_reducible repeat (first | apply Kd.R_alloc | apply Kd.R_drewN | apply Kd.R_drew)); exact Kd.R_mono HO526.out (fun _ hk => hk.2)), (by (with_reducible repeat (first | apply Kd.R_alloc | apply Kd.R_drewN | apply Kd.R_drew)); exact Kd.R_mono HO529.out (fun _ hk => hk.2)), (by (with_reducible repeat (first | apply Kd.R_alloc | apply Kd.R_drewN | apply Kd.R_drew)); exact Kd.R_mono HO532.out (fun _ hk => hk.2)), (by (with_reducible repeat (first | apply Kd.R_alloc | apply Kd.R_drewN | apply Kd.R_drew)); exact Kd.R_mono HO535.out (fun _ hk => hk.2)), BK519.out, BK520.out, BK521.out, BK537.out, GW537.out, GE537.out, NB519_537.out, NB537_519.out, NB520_537.out, NB537_520.out, NB521_537.out, NB537_521.out, HB.out⟩)
    ·skip
     refine box_step ?hg (N := 7) ?hd (cs := #[.slice none 0 0, .slice none 0 0]) (t := 27) ?hr ?_; (case hd => rfl); (case hg => rfl); (case hr => go_simp <;> rfl)
     intro gb537 hg w19 hbox hb
     have BK537 := Aside0.mk hbox
     have GW537 := sGe hg
     have GE537 := sGe hg
     have NB519_537 := sNl BK519 hg
     have NB537_519 := sNg BK519 hg
     have NB520_537 := sNl BK520 hg
     have NB537_520 := sNg BK520 hg
     have NB521_537 := sNl BK521 hg
     have NB537_521 := sNg BK521 hg
     replace BK519 := sBk BK519 hb
     replace BK520 := sBk BK520 hb
     replace BK521 := sBk BK521 hb
     replace HB := sHb hb
     clear hb hbox hg
     refine hK.out _ _ ⟨(blk_cell BK519.out 0).trans rfl, (blk_cell BK519.out 1).trans rfl, (blk_cell BK520.out 0).trans rfl, (blk_cell BK520.out 1).trans rfl, (blk_cell BK521.out 0).trans rfl, (blk_cell BK521.out 1).trans rfl, (blk_cell BK521.out 2).trans rfl⟩ (fun hHeld => ?_)
     clear hK K
     refine norm_ (a' := ?_) ?_ ?_
     rotate_left
     ·show Act.put _ (some 7) _ = _
      simp only [Act.put, List.setIfInBounds_toArray, List.set_cons_zero, List.set_cons_succ, i64_w, i32_w]
      rfl
     refine one_ (i := 2) (N := some 19) (bN 11 271) rfl rfl (one_of HT_.out (by kernel_rfl)) (by decide) (fun K hK => ?_)
     refine goes_ Try.func12 (by kernel_rfl) rfl #[.agg #[.slice A1_0 l1_0.length c1_0, .slice A1_1 l1_1.length c1_1]] (by rfl) rfl rfl (by simp only [List.map_toArray, List.map_cons, List.map_nil] <;> rfl) ?_
     with_reducible refine (newellaw19_Own.calls _ _ l1_0 _ _ l1_1 t524 t527 _ ?side1 ?side2 ?side3 ?side4 A6.out).mono ?_
     (case side1 => exact (Kd.C_below HR1_0.out HB.out))
     (case side2 => exact HC1_0.out)
     (case side3 => exact (Kd.C_below HR1_1.out HB.out))
     (case side4 => exact HC1_1.out)
     rintro e w20 ⟨v525, v528, rfl, ho0, ho1, hb⟩
     refine ⟨_, rfl, ?_⟩
     have HO526 := Aside0.mk (Kd.R_lower ho0 (below_size HB.out))
     have HO529 := Aside0.mk (Kd.R_lower ho1 (below_size HB.out))
     replace BK519 := sBk BK519 hb
     replace BK520 := sBk BK520 hb
     replace BK521 := sBk BK521 hb
     replace BK537 := sBk BK537 hb
     replace HB := sHb hb
     (try clear hb)
     (try clear hb2)
     (try clear hk)
     (try clear hi)
     (try clear ho0)
     (try clear ho1)
     obtain ⟨Ao21, co21, eo21⟩ := Kd.R_slice HO526.out
     (first | subst eo21 | (injection eo21 with f1_ f2_ f3_; have f4_ := f1_.symm; have f5_ := f3_.symm; clear f1_ f2_ f3_; subst f4_; subst f5_))
     obtain ⟨Ao22, co22, eo22⟩ := Kd.R_slice HO529.out
     (first | subst eo22 | (injection eo22 with f1_ f2_ f3_; have f4_ := f1_.symm; have f5_ := f3_.symm; clear f1_ f2_ f3_; subst f4_; subst f5_))
     refine hK.out _ _ ⟨(blk_cell BK519.out 0).trans rfl, (blk_cell BK519.out 1).trans rfl, (blk_cell BK520.out 0).trans rfl, (blk_cell BK520.out 1).trans rfl, (blk_cell BK521.out 0).trans rfl, (blk_cell BK521.out 1).trans rfl, (blk_cell BK521.out 2).trans rfl⟩ (fun hHeld => ?_)
     clear hK K
     refine norm_ (a' := ?_) ?_ ?_
     rotate_left
     ·show Act.put _ (some 19) _ = _
      simp only [Act.put, List.setIfInBounds_toArray, List.set_cons_zero, List.set_cons_succ, i64_w, i32_w]
      rfl
     refine one_ (i := 4) (N := some 21) (bN 11 287) rfl rfl (one_of HT_.out (by kernel_rfl)) (by decide) (fun K hK => ?_)
     refine goes_ Try.func11 (by kernel_rfl) rfl #[.agg #[.int .i64 a0_0, .int .i64 a0_1], .agg #[.slice Ao21 t524.length co21, .slice Ao22 t527.length co22], .agg #[.int .i64 a2_0, .int .i64 a2_1, .int .i64 a2_2]] (by rfl) rfl rfl (by simp only [List.map_toArray, List.map_cons, List.map_nil] <;> rfl) ?_
     with_reducible refine (call_Press.calls k a0_0 a0_1 _ _ t524 _ _ t527 a2_0 a2_1 a2_2 t530 t533 t536 _ ?side1 ?side2 ?side3 ?side4 A7.out).mono ?_
     (case side1 => exact (Kd.R_reads' HO526.out).2.2)
     (case side2 => exact (Kd.R_reads' HO526.out).2.1)
     (case side3 => exact (Kd.R_reads' HO529.out).2.2)
     (case side4 => exact (Kd.R_reads' HO529.out).2.1)
     rintro e w23 ⟨v531, v534, rfl, ho0, ho1, hb⟩
     refine ⟨_, rfl, ?_⟩
     have HO532 := Aside0.mk (Kd.R_lower (Kd.R_new' ho0 (Kd.R_lt HO526.out)) (below_size HB.out))
     have HO535 := Aside0.mk (Kd.R_lower (Kd.R_new' ho1 (Kd.R_lt HO529.out)) (below_size HB.out))
     replace HO526 := Aside0.mk (Kd.R_elder' HO526.out (Kd.R_base ho0) hb)
     replace HO529 := Aside0.mk (Kd.R_elder' HO529.out (Kd.R_base ho1) hb)
     replace BK519 := sBk BK519 hb
     replace BK520 := sBk BK520 hb
     replace BK521 := sBk BK521 hb
     replace BK537 := sBk BK537 hb
     replace HB := sHb hb
     (try clear hb)
     (try clear hb2)
     (try clear hk)
     (try clear hi)
     (try clear ho0)
     (try clear ho1)
     refine hK.out _ _ ⟨(blk_cell BK519.out 0).trans rfl, (blk_cell BK519.out 1).trans rfl, (blk_cell BK520.out 0).trans rfl, (blk_cell BK520.out 1).trans rfl, (blk_cell BK521.out 0).trans rfl, (blk_cell BK521.out 1).trans rfl, (blk_cell BK521.out 2).trans rfl⟩ (fun hHeld => ?_)
     clear hK K
     refine norm_ (a' := ?_) ?_ ?_
     rotate_left
     ·show Act.put _ (some 21) _ = _
      simp only [Act.put, List.setIfInBounds_toArray, List.set_cons_zero, List.set_cons_succ, i64_w, i32_w]
      rfl
     refine pure_ (i := 5) (N := some 16) (v := ?_) (a' := ?_) (bN 11 319) rfl rfl (any_of HT_.out (by kernel_rfl)) (fun _ _ _ h => h) (Or.inl ⟨by rfl, ?_⟩) ?_ ?_
     rotate_left
     ·intro w'
      go_simp
      with_reducible rfl
     rotate_left
     ·simp only [Act.put, List.setIfInBounds_toArray, List.set_cons_zero, List.set_cons_succ, i64_w, i32_w]
      rfl
     refine pure_ (i := 6) (N := some 22) (v := ?_) (a' := ?_) (bN 11 383) rfl rfl (any_of HT_.out (by kernel_rfl)) (fun _ _ _ h => h) (Or.inl ⟨by rfl, ?_⟩) ?_ ?_
     rotate_left
     ·intro w'
      go_simp
      with_reducible rfl
     rotate_left
     ·simp only [Act.put, List.setIfInBounds_toArray, List.set_cons_zero, List.set_cons_succ, i64_w, i32_w]
      rfl
     refine pure_ (i := 7) (N := some 23) (v := ?_) (a' := ?_) (bN 11 511) rfl rfl (any_of HT_.out (by kernel_rfl)) (fun _ _ _ h => h) (Or.inl ⟨by rfl, ?_⟩) ?_ ?_
     rotate_left
     ·intro w'
      go_simp
      with_reducible rfl
     rotate_left
     ·simp only [Act.put, List.setIfInBounds_toArray, List.set_cons_zero, List.set_cons_succ, i64_w, i32_w]
      rfl
     exact norm_ (by simp only [putAll, Act.put, List.setIfInBounds_toArray, List.set_cons_zero, List.set_cons_succ]) (hCont (.slice Ao21 t524.length co21, .slice Ao22 t527.length co22, v531, v534, gb537) _ ⟨hHeld, (by (with_reducible repeat (first | apply Kd.R_alloc | apply Kd.R_drewN | apply Kd.R_drew)); exact Kd.R_mono HO526.out (fun _ hk => hk.2)), (by (with_reducible repeat (first | apply Kd.R_alloc | apply Kd.R_drewN | apply Kd.R_drew)); exact Kd.R_mono HO529.out (fun _ hk => hk.2)), (by (with_reducible repeat (first | apply Kd.R_alloc | apply Kd.R_drewN | apply Kd.R_drew)); exact Kd.R_mono HO532.out (fun _ hk => hk.2)), (by (with_reducible repeat (first | apply Kd.R_alloc | apply Kd.R_drewN | apply Kd.R_drew)); exact Kd.R_mono HO535.out (fun _ hk => hk.2)), BK519.out, BK520.out, BK521.out, BK537.out, GW537.out, GE537.out, NB519_537.out, NB537_519.out, NB520_537.out, NB537_520.out, NB521_537.out, NB537_521.out, HB.out⟩)
   rintro ⟨v525, v528, v531, v534, gb537⟩ w24 ⟨hS_, h0_, h1_, h2_, h3_, h4_, h5_, h6_, h7_, h8_, h9_, h10_, h11_, h12_, h13_, h14_, h15_, h16_⟩
   have n0_ : Aside0 (Kd.R k56 56 w24 w.heap.size (fun k_ => some k_ ≠ (v531 : Value).ownBlock) v525 t524) := ⟨h0_⟩
   have n1_ : Aside0 (Kd.R k62 62 w24 w.heap.size (fun k_ => some k_ ≠ (v534 : Value).ownBlock) v528 t527) := ⟨h1_⟩
   have n2_ : Aside0 (Kd.R k56 56 w24 w.heap.size (fun k_ => some k_ ≠ (v525 : Value).ownBlock) v531 t530) := ⟨h2_⟩
   have n3_ : Aside0 (Kd.R k62 62 w24 w.heap.size (fun k_ => some k_ ≠ (v528 : Value).ownBlock) v534 t533) := ⟨h3_⟩
   have n4_ : Aside0 (w24.heap[gb519]? = some (.cells #[.int .i64 a0_0, .int .i64 a0_1] 23 (0, 0))) := ⟨h4_⟩
   have n5_ : Aside0 (w24.heap[gb520]? = some (.cells #[.slice A1_0 l1_0.length c1_0, .slice A1_1 l1_1.length c1_1] 27 (0, 0))) := ⟨h5_⟩
   have n6_ : Aside0 (w24.heap[gb521]? = some (.cells #[.int .i64 a2_0, .int .i64 a2_1, .int .i64 a2_2] 29 (0, 0))) := ⟨h6_⟩
   have n7_ : Aside0 (w24.heap[gb537]? = some (.cells #[.slice none 0 0, .slice none 0 0] 27 (0, 0))) := ⟨h7_⟩
   have n8_ : Aside0 (w.heap.size ≤ gb537) := ⟨h8_⟩
   have n9_ : Aside0 (w.heap.size ≤ gb537) := ⟨h9_⟩
   have n10_ : Aside0 (gb519 ≠ gb537) := ⟨h10_⟩
   have n11_ : Aside0 (gb537 ≠ gb519) := ⟨h11_⟩
   have n12_ : Aside0 (gb520 ≠ gb537) := ⟨h12_⟩
   have n13_ : Aside0 (gb537 ≠ gb520) := ⟨h13_⟩
   have n14_ : Aside0 (gb521 ≠ gb537) := ⟨h14_⟩
   have n15_ : Aside0 (gb537 ≠ gb521) := ⟨h15_⟩
   have n16_ : Aside0 (Below w.heap.size w w24) := ⟨h16_⟩
   clear BK519
   clear BK520
   clear BK521
   clear HB
   clear h0_ h1_ h2_ h3_ h4_ h5_ h6_ h7_ h8_ h9_ h10_ h11_ h12_ h13_ h14_ h15_ h16_
   have HO526 := n0_
   have HO529 := n1_
   have HO532 := n2_
   have HO535 := n3_
   have BK519 := n4_
   have BK520 := n5_
   have BK521 := n6_
   have BK537 := n7_
   have GW537 := n8_
   have GE537 := n9_
   have NB519_537 := n10_
   have NB537_519 := n11_
   have NB520_537 := n12_
   have NB537_520 := n13_
   have NB521_537 := n14_
   have NB537_521 := n15_
   have HB := n16_
   clear n0_ n1_ n2_ n3_ n4_ n5_ n6_ n7_ n8_ n9_ n10_ n11_ n12_ n13_ n14_ n15_ n16_
   have hHeld : w24.cell? ⟨gb519, 0, none⟩ = some (.int .i64 a0_0) ∧ w24.cell? ⟨gb519, 1, none⟩ = some (.int .i64 a0_1) ∧ w24.cell? ⟨gb520, 0, none⟩ = some (.slice A1_0 l1_0.length c1_0) ∧ w24.cell? ⟨gb520, 1, none⟩ = some (.slice A1_1 l1_1.length c1_1) ∧ w24.cell? ⟨gb521, 0, none⟩ = some (.int .i64 a2_0) ∧ w24.cell? ⟨gb521, 1, none⟩ = some (.int .i64 a2_1) ∧ w24.cell? ⟨gb521, 2, none⟩ = some (.int .i64 a2_2) := hS_
   obtain ⟨Ao25, co25, eo25⟩ := Kd.R_slice HO532.out
   (first | subst eo25 | (injection eo25 with f1_ f2_ f3_; have f4_ := f1_.symm; have f5_ := f3_.symm; clear f1_ f2_ f3_; subst f4_; subst f5_))
   obtain ⟨Ao27, co27, eo27⟩ := Kd.R_slice HO535.out
   (first | subst eo27 | (injection eo27 with f1_ f2_ f3_; have f4_ := f1_.symm; have f5_ := f3_.symm; clear f1_ f2_ f3_; subst f4_; subst f5_))
   refine norm_ (a' := ?_) ?_ ?_
   rotate_left
   ·simp only [putAll, Act.put, List.setIfInBounds_toArray, List.set_cons_zero, List.set_cons_succ]
    rfl
   refine one_ (i := 9) (N := none) (bN 11 1023) rfl rfl (one_of HT_.out (by kernel_rfl)) (by decide) (fun K hK => ?_)
   have hs26 : w24.cell? ⟨gb537, 0, none⟩ = some (.slice none 0 0) := (blk_cell BK537.out 0).trans rfl
   have hfs26 := blk_frozen BK537.out 0
   have hns26_0 := NB519_537.out
   have hns26_1 := NB520_537.out
   have hns26_2 := NB521_537.out
   have hms26_0 := NB537_519.out
   have hms26_1 := NB537_520.out
   have hms26_2 := NB537_521.out
   have hs28 : w24.cell? ⟨gb537, 1, none⟩ = some (.slice none 0 0) := (blk_cell BK537.out 1).trans rfl
   have hfs28 := blk_frozen BK537.out 1
   have hns28_0 := NB519_537.out
   have hns28_1 := NB520_537.out
   have hns28_2 := NB521_537.out
   have hms28_0 := NB537_519.out
   have hms28_1 := NB537_520.out
   have hms28_2 := NB537_521.out
   refine skip_ (w1 := ?_) (by rfl) rfl ?_ ?_
   rotate_left
   ·go_simp
    rfl
   refine hK.out _ _ ⟨((cell_far (p := ⟨gb537, _, none⟩) NB519_537.out _).trans (((cell_far (p := ⟨gb537, _, none⟩) NB519_537.out _).trans (hHeld.1)))), ((cell_far (p := ⟨gb537, _, none⟩) NB519_537.out _).trans (((cell_far (p := ⟨gb537, _, none⟩) NB519_537.out _).trans (hHeld.2.1)))), ((cell_far (p := ⟨gb537, _, none⟩) NB520_537.out _).trans (((cell_far (p := ⟨gb537, _, none⟩) NB520_537.out _).trans (hHeld.2.2.1)))), ((cell_far (p := ⟨gb537, _, none⟩) NB520_537.out _).trans (((cell_far (p := ⟨gb537, _, none⟩) NB520_537.out _).trans (hHeld.2.2.2.1)))), ((cell_far (p := ⟨gb537, _, none⟩) NB521_537.out _).trans (((cell_far (p := ⟨gb537, _, none⟩) NB521_537.out _).trans (hHeld.2.2.2.2.1)))), ((cell_far (p := ⟨gb537, _, none⟩) NB521_537.out _).trans (((cell_far (p := ⟨gb537, _, none⟩) NB521_537.out _).trans (hHeld.2.2.2.2.2.1)))), ((cell_far (p := ⟨gb537, _, none⟩) NB521_537.out _).trans (((cell_far (p := ⟨gb537, _, none⟩) NB521_537.out _).trans (hHeld.2.2.2.2.2.2))))⟩ (fun hHeld => ?_)
   clear hK K
   refine pure_ (i := 10) (N := some 8) (v := ?_) (a' := ?_) (bN 11 2047) rfl rfl (any_of HT_.out (by kernel_rfl)) (fun _ _ _ h => h) (Or.inl ⟨by rfl, ?_⟩) ?_ ?_
   rotate_left
   ·intro w'
    go_simp
    with_reducible rfl
   rotate_left
   ·simp only [Act.put, List.setIfInBounds_toArray, List.set_cons_zero, List.set_cons_succ, i64_w, i32_w]
    rfl
   refine done_ (done_of HT_.out (by kernel_rfl)) ?_
   have hnb29 := NB519_521.out
   have hnc29 := NB521_519.out
   have hnb30 := NB519_537.out
   have hnc30 := NB537_519.out
   have hcz31_0 : w24.cell? ⟨gb519, 0, none⟩ = some (.int .i64 a0_0) := (blk_cell BK519.out 0).trans rfl
   have hcz31_1 : w24.cell? ⟨gb519, 1, none⟩ = some (.int .i64 a0_1) := (blk_cell BK519.out 1).trans rfl
   have hfz31_0 := blk_frozen BK519.out 0
   have hfz31_1 := blk_frozen BK519.out 1
   have hnb32 := NB537_520.out
   have hnc32 := NB520_537.out
   have hnb33 := NB537_521.out
   have hnc33 := NB521_537.out
   have hcz34_0 : w24.cell? ⟨gb537, 0, none⟩ = some (.slice none 0 0) := (blk_cell BK537.out 0).trans rfl
   have hcz34_1 : w24.cell? ⟨gb537, 1, none⟩ = some (.slice none 0 0) := (blk_cell BK537.out 1).trans rfl
   have hfz34_0 := blk_frozen BK537.out 0
   have hfz34_1 := blk_frozen BK537.out 1
   have hcz35_0 : w24.cell? ⟨gb521, 0, none⟩ = some (.int .i64 a2_0) := (blk_cell BK521.out 0).trans rfl
   have hcz35_1 : w24.cell? ⟨gb521, 1, none⟩ = some (.int .i64 a2_1) := (blk_cell BK521.out 1).trans rfl
   have hcz35_2 : w24.cell? ⟨gb521, 2, none⟩ = some (.int .i64 a2_2) := (blk_cell BK521.out 2).trans rfl
   have hfz35_0 := blk_frozen BK521.out 0
   have hfz35_1 := blk_frozen BK521.out 1
   have hfz35_2 := blk_frozen BK521.out 2
   go_upto_region 8 with (first | ((with_reducible refine gate_callee (f := 11) rfl ?_); refine goesL_ (some 31) rfl rfl Try.func11 (by kernel_rfl) rfl #[.agg #[.int .i64 a0_0, .int .i64 a0_1], .agg #[.slice Ao25 t530.length co25, .slice Ao27 t533.length co27], .agg #[.int .i64 a2_0, .int .i64 a2_1, .int .i64 a2_2]] rfl (by simp only [List.map_toArray, List.map_cons, List.map_nil] <;> rfl) ?_; (with_reducible refine (call_Press.calls k a0_0 a0_1 _ _ t530 _ _ t533 a2_0 a2_1 a2_2 t539 t542 t545 _ ?side1 ?side2 ?side3 ?side4 A9.out).mono ?_); (case side1 => refine (Kd.R_reads' (e := 56) (base := w.heap.size) (ok := fun k_ => some k_ ≠ (v525 : Value).ownBlock) (n := t530.length) (c := co25) ?_).2.2; exact (by (with_reducible repeat (first | apply Kd.R_alloc | apply Kd.R_drewN | apply Kd.R_drew)); exact (Kd.R_mono (Kd.R_far (Kd.R_far (Kd.R_types HO532.out BK537.out (by decide)) (fun _ hk => hk.2) _) (fun _ hk => hk.2) _) (fun _ h_ => h_.1)))); (case side2 => exact (Kd.R_reads' HO532.out).2.1); (case side3 => refine (Kd.R_reads' (e := 62) (base := w.heap.size) (ok := fun k_ => some k_ ≠ (v528 : Value).ownBlock) (n := t533.length) (c := co27) ?_).2.2; exact (by (with_reducible repeat (first | apply Kd.R_alloc | apply Kd.R_drewN | apply Kd.R_drew)); exact (Kd.R_mono (Kd.R_far (Kd.R_far (Kd.R_types HO535.out BK537.out (by decide)) (fun _ hk => hk.2) _) (fun _ hk => hk.2) _) (fun _ h_ => h_.1)))); (case side4 => exact (Kd.R_reads' HO535.out).2.1); rintro e w36 ⟨v540, v543, rfl, ho0, ho1, hb⟩; refine ⟨_, rfl, ?_⟩; have HO541 := Aside0.mk (Kd.R_lower (Kd.R_new' (Kd.R_new' ho0 (Kd.R_lt (by (with_reducible repeat (first | apply Kd.R_alloc | apply Kd.R_drewN | apply Kd.R_drew)); exact (Kd.R_mono (Kd.R_far (Kd.R_far (Kd.R_types HO526.out BK537.out (by decide)) (fun _ hk => hk.2) _) (fun _ hk => hk.2) _) (fun _ h_ => h_.1))))) (Kd.R_lt (by (with_reducible repeat (first | apply Kd.R_alloc | apply Kd.R_drewN | apply Kd.R_drew)); exact (Kd.R_mono (Kd.R_far (Kd.R_far (Kd.R_types HO532.out BK537.out (by decide)) (fun _ hk => hk.2) _) (fun _ hk => hk.2) _) (fun _ h_ => h_.1))))) (below_size bel)); have HO544 := Aside0.mk (Kd.R_lower (Kd.R_new' (Kd.R_new' ho1 (Kd.R_lt (by (with_reducible repeat (first | apply Kd.R_alloc | apply Kd.R_drewN | apply Kd.R_drew)); exact (Kd.R_mono (Kd.R_far (Kd.R_far (Kd.R_types HO529.out BK537.out (by decide)) (fun _ hk => hk.2) _) (fun _ hk => hk.2) _) (fun _ h_ => h_.1))))) (Kd.R_lt (by (with_reducible repeat (first | apply Kd.R_alloc | apply Kd.R_drewN | apply Kd.R_drew)); exact (Kd.R_mono (Kd.R_far (Kd.R_far (Kd.R_types HO535.out BK537.out (by decide)) (fun _ hk => hk.2) _) (fun _ hk => hk.2) _) (fun _ h_ => h_.1))))) (below_size bel)); replace HO526 := Aside0.mk (Kd.R_elder' (by (with_reducible repeat (first | apply Kd.R_alloc | apply Kd.R_drewN | apply Kd.R_drew)); exact (Kd.R_mono (Kd.R_far (Kd.R_far (Kd.R_types HO526.out BK537.out (by decide)) (fun _ hk => hk.2) _) (fun _ hk => hk.2) _) (fun _ h_ => h_.1))) (Kd.R_base ho0) hb); replace HO529 := Aside0.mk (Kd.R_elder' (by (with_reducible repeat (first | apply Kd.R_alloc | apply Kd.R_drewN | apply Kd.R_drew)); exact (Kd.R_mono (Kd.R_far (Kd.R_far (Kd.R_types HO529.out BK537.out (by decide)) (fun _ hk => hk.2) _) (fun _ hk => hk.2) _) (fun _ h_ => h_.1))) (Kd.R_base ho1) hb); replace HO532 := Aside0.mk (Kd.R_elder' (by (with_reducible repeat (first | apply Kd.R_alloc | apply Kd.R_drewN | apply Kd.R_drew)); exact (Kd.R_mono (Kd.R_far (Kd.R_far (Kd.R_types HO532.out BK537.out (by decide)) (fun _ hk => hk.2) _) (fun _ hk => hk.2) _) (fun _ h_ => h_.1))) (Kd.R_base ho0) hb); replace HO535 := Aside0.mk (Kd.R_elder' (by (with_reducible repeat (first | apply Kd.R_alloc | apply Kd.R_drewN | apply Kd.R_drew)); exact (Kd.R_mono (Kd.R_far (Kd.R_far (Kd.R_types HO535.out BK537.out (by decide)) (fun _ hk => hk.2) _) (fun _ hk => hk.2) _) (fun _ h_ => h_.1))) (Kd.R_base ho1) hb); replace BK519 := sBk BK519 hb; replace BK520 := sBk BK520 hb; replace BK521 := sBk BK521 hb; replace BK537 := Aside0.mk (blk_below (g := gb537) (o := .cells #[.slice Ao25 t530.length co25, .slice Ao27 t533.length co27] 27 (0, 0)) (by (with_reducible repeat (first | refine blk_drewN ?_ _ | refine blk_drew ?_ | refine blk_alloc ?_ _)); refine blk_put (cs := #[.slice Ao25 t530.length co25, .slice none 0 0]) ?_ 1 _ rfl; (with_reducible repeat (first | refine blk_drewN ?_ _ | refine blk_drew ?_ | refine blk_alloc ?_ _)); refine blk_put (cs := #[.slice none 0 0, .slice none 0 0]) ?_ 0 _ rfl; (with_reducible repeat (first | refine blk_drewN ?_ _ | refine blk_drew ?_ | refine blk_alloc ?_ _)); exact BK537.out) hb); replace HB := sHb hb; (try clear hb); (try clear hb2); (try clear hk); (try clear hi); (try clear ho0); (try clear ho1)) | ((with_reducible refine gate_dst (N := 9) rfl ?_); refine box_event ?hg (N := 9) ?hd (cs := #[.slice none 0 0, .slice none 0 0]) (t := 27) ?hr ?_; (case hd => rfl); (case hg => rfl); (case hr => go_simp <;> rfl); intro gb546 hg w37 hbox hb; have BK546 := Aside0.mk hbox; have GW546 := sGe hg; have GE546 := sGe hg; have NB519_546 := sNl BK519 hg; have NB546_519 := sNg BK519 hg; have NB520_546 := sNl BK520 hg; have NB546_520 := sNg BK520 hg; have NB521_546 := sNl BK521 hg; have NB546_521 := sNg BK521 hg; have NB537_546 := sNl BK537 hg; have NB546_537 := sNg BK537 hg; replace HO526 := sRb HO526 hb; replace HO529 := sRb HO529 hb; replace HO532 := sRb HO532 hb; replace HO535 := sRb HO535 hb; replace HO541 := sRb HO541 hb; replace HO544 := sRb HO544 hb; replace BK519 := sBk BK519 hb; replace BK520 := sBk BK520 hb; replace BK521 := sBk BK521 hb; replace BK537 := sBk BK537 hb; replace HB := sHb hb; clear hb hbox hg; obtain ⟨Ao38, co38, eo38⟩ := Kd.R_slice HO541.out; subst eo38; have hnb39 := NB546_519.out; have hnc39 := NB519_546.out; have hnb40 := NB546_520.out; have hnc40 := NB520_546.out; have hnb41 := NB546_521.out; have hnc41 := NB521_546.out; have hnb42 := NB546_537.out; have hnc42 := NB537_546.out; have hcz43_0 : w37.cell? ⟨gb546, 0, none⟩ = some (.slice none 0 0) := (blk_cell BK546.out 0).trans rfl; have hcz43_1 : w37.cell? ⟨gb546, 1, none⟩ = some (.slice none 0 0) := (blk_cell BK546.out 1).trans rfl; have hfz43_0 := blk_frozen BK546.out 0; have hfz43_1 := blk_frozen BK546.out 1; obtain ⟨Ao44, co44, eo44⟩ := Kd.R_slice HO544.out; subst eo44; have hcz45_0 : w37.cell? ⟨gb537, 0, none⟩ = some (.slice Ao25 t530.length co25) := (blk_cell BK537.out 0).trans rfl; have hcz45_1 : w37.cell? ⟨gb537, 1, none⟩ = some (.slice Ao27 t533.length co27) := (blk_cell BK537.out 1).trans rfl; have hfz45_0 := blk_frozen BK537.out 0; have hfz45_1 := blk_frozen BK537.out 1; have hcz46_0 : w37.cell? ⟨gb520, 0, none⟩ = some (.slice A1_0 l1_0.length c1_0) := (blk_cell BK520.out 0).trans rfl; have hcz46_1 : w37.cell? ⟨gb520, 1, none⟩ = some (.slice A1_1 l1_1.length c1_1) := (blk_cell BK520.out 1).trans rfl; have hfz46_0 := blk_frozen BK520.out 0; have hfz46_1 := blk_frozen BK520.out 1))
   (try simp only [Act.put, List.setIfInBounds_toArray, List.set_cons_zero, List.set_cons_succ])
   go_cut [6] (fun v6 wc => ∃ (kq : Nat) (x6_9 : Bool), v6 = .bool x6_9 ∧ Aside0 (newellaw19_CallOnce.j0 kq x6_9 = some r) ∧ Aside0 (kq ≤ k) ∧ Aside0 (Kd.R k56 56 wc w.heap.size (fun k_ => some k_ ≠ ((.slice Ao38 t539.length co38) : Value).ownBlock) (.slice Ao25 t530.length co25) t530) ∧ Aside0 (Kd.R k62 62 wc w.heap.size (fun k_ => some k_ ≠ ((.slice Ao44 t542.length co44) : Value).ownBlock) (.slice Ao27 t533.length co27) t533) ∧ Aside0 (Kd.R k56 56 wc w.heap.size (fun k_ => some k_ ≠ ((.slice Ao25 t530.length co25) : Value).ownBlock) (.slice Ao38 t539.length co38) t539) ∧ Aside0 (Kd.R k62 62 wc w.heap.size (fun k_ => some k_ ≠ ((.slice Ao27 t533.length co27) : Value).ownBlock) (.slice Ao44 t542.length co44) t542) ∧ Aside0 (wc.heap[gb519]? = some (.cells #[.int .i64 a0_0, .int .i64 a0_1] 23 (0, 0))) ∧ Aside0 (wc.heap[gb520]? = some (.cells #[(.slice A1_0 l1_0.length c1_0), (.slice A1_1 l1_1.length c1_1)] 27 (0, 0))) ∧ Aside0 (wc.heap[gb521]? = some (.cells #[.int .i64 a2_0, .int .i64 a2_1, .int .i64 a2_2] 29 (0, 0))) ∧ Aside0 (wc.heap[gb537]? = some (.cells #[(.slice Ao25 t530.length co25), (.slice Ao27 t533.length co27)] 27 (0, 0))) ∧ Aside0 (wc.heap[gb546]? = some (.cells #[(.slice Ao38 t539.length co38), (.slice Ao44 t542.length co44)] 27 (0, 0))) ∧ Aside0 (Below w.heap.size w wc))
   case first =>
    have H := HC10.out
    clear HC10
    replace H := Option.bind_eq_some_iff.mp H
    obtain ⟨t547, A470, H⟩ := H
    replace H : (if t547 = true then (if t545 = 0 then ((call_Same.f k t530 t533 t539 t542).bind fun t548 => (if t548 = true then ((call_Check.f k a0_0 a0_1 t530 t533).bind fun t549 => (if t549 = 0 then (if (wrap64 ((wrap64 ((wrap64 ((t530.length : Int) + (t533.length : Int))) - (l1_0.length : Int))) - (l1_1.length : Int))) = 1 then (newellaw19_CallOnce.j0 k true) else (if (wrap64 ((wrap64 ((wrap64 ((t530.length : Int) + (t533.length : Int))) - (l1_0.length : Int))) - (l1_1.length : Int))) = 0 then ((call_Same.f k t530 t533 l1_0 l1_1).bind fun t550 => (newellaw19_CallOnce.j0 k t550)) else (none))) else (none))) else (none))) else (none)) else (none)) = some r := H
    have A47 := Aside0.mk A470
    clear A470
    by_cases c48 : t547 = true
    ·subst c48
     have H1 : (if t545 = 0 then ((call_Same.f k t530 t533 t539 t542).bind fun t548 => (if t548 = true then ((call_Check.f k a0_0 a0_1 t530 t533).bind fun t549 => (if t549 = 0 then (if (wrap64 ((wrap64 ((wrap64 ((t530.length : Int) + (t533.length : Int))) - (l1_0.length : Int))) - (l1_1.length : Int))) = 1 then (newellaw19_CallOnce.j0 k true) else (if (wrap64 ((wrap64 ((wrap64 ((t530.length : Int) + (t533.length : Int))) - (l1_0.length : Int))) - (l1_1.length : Int))) = 0 then ((call_Same.f k t530 t533 l1_0 l1_1).bind fun t550 => (newellaw19_CallOnce.j0 k t550)) else (none))) else (none))) else (none))) else (none)) = some r := by rw [if_pos rfl] at H; exact H
     clear H
     have H := H1
     clear H1
     by_cases c49 : t545 = 0
     ·rw [if_pos c49] at H
      have c49b0 : (t545 == 0) = true := beq_iff_eq.mpr c49
      have c49b1 : (t545 != 0) = false := bne_eq_false_iff_eq.mpr c49
      clear c49
      (first | rw [c49b0] | (simp only [i64_w, i32_w]; rw [c49b0]) | skip)
      replace H := Option.bind_eq_some_iff.mp H
      obtain ⟨t548, A500, H⟩ := H
      replace H : (if t548 = true then ((call_Check.f k a0_0 a0_1 t530 t533).bind fun t549 => (if t549 = 0 then (if (wrap64 ((wrap64 ((wrap64 ((t530.length : Int) + (t533.length : Int))) - (l1_0.length : Int))) - (l1_1.length : Int))) = 1 then (newellaw19_CallOnce.j0 k true) else (if (wrap64 ((wrap64 ((wrap64 ((t530.length : Int) + (t533.length : Int))) - (l1_0.length : Int))) - (l1_1.length : Int))) = 0 then ((call_Same.f k t530 t533 l1_0 l1_1).bind fun t550 => (newellaw19_CallOnce.j0 k t550)) else (none))) else (none))) else (none)) = some r := H
      have A50 := Aside0.mk A500
      clear A500
      by_cases c51 : t548 = true
      ·subst c51
       have H1 : ((call_Check.f k a0_0 a0_1 t530 t533).bind fun t549 => (if t549 = 0 then (if (wrap64 ((wrap64 ((wrap64 ((t530.length : Int) + (t533.length : Int))) - (l1_0.length : Int))) - (l1_1.length : Int))) = 1 then (newellaw19_CallOnce.j0 k true) else (if (wrap64 ((wrap64 ((wrap64 ((t530.length : Int) + (t533.length : Int))) - (l1_0.length : Int))) - (l1_1.length : Int))) = 0 then ((call_Same.f k t530 t533 l1_0 l1_1).bind fun t550 => (newellaw19_CallOnce.j0 k t550)) else (none))) else (none))) = some r := by rw [if_pos rfl] at H; exact H
       clear H
       have H := H1
       clear H1
       replace H := Option.bind_eq_some_iff.mp H
       obtain ⟨t549, A520, H⟩ := H
       replace H : (if t549 = 0 then (if (wrap64 ((wrap64 ((wrap64 ((t530.length : Int) + (t533.length : Int))) - (l1_0.length : Int))) - (l1_1.length : Int))) = 1 then (newellaw19_CallOnce.j0 k true) else (if (wrap64 ((wrap64 ((wrap64 ((t530.length : Int) + (t533.length : Int))) - (l1_0.length : Int))) - (l1_1.length : Int))) = 0 then ((call_Same.f k t530 t533 l1_0 l1_1).bind fun t550 => (newellaw19_CallOnce.j0 k t550)) else (none))) else (none)) = some r := H
       have A52 := Aside0.mk A520
       clear A520
       by_cases c53 : t549 = 0
       ·rw [if_pos c53] at H
        have c53b0 : (t549 == 0) = true := beq_iff_eq.mpr c53
        have c53b1 : (t549 != 0) = false := bne_eq_false_iff_eq.mpr c53
        clear c53
        by_cases c54 : (wrap64 ((wrap64 ((wrap64 ((t530.length : Int) + (t533.length : Int))) - (l1_0.length : Int))) - (l1_1.length : Int))) = 1
        ·rw [if_pos c54] at H
         have c54b0 : ((wrap64 ((wrap64 ((wrap64 ((t530.length : Int) + (t533.length : Int))) - (l1_0.length : Int))) - (l1_1.length : Int))) == 1) = true := beq_iff_eq.mpr c54
         have c54b1 : ((wrap64 ((wrap64 ((wrap64 ((t530.length : Int) + (t533.length : Int))) - (l1_0.length : Int))) - (l1_1.length : Int))) != 1) = false := bne_eq_false_iff_eq.mpr c54
         clear c54
         have H' := Aside0.mk H
         clear H
         go_wp2_with (first | ((with_reducible refine gate_callee (f := 10) rfl ?_); refine goesL_ (some 49) rfl rfl Try.func10 (by kernel_rfl) rfl #[] rfl (by simp only [List.map_toArray, List.map_cons, List.map_nil] <;> rfl) ?_; (with_reducible refine (newellaw19_awake.calls k  true _ A47.out).mono ?_); rintro e w55 ⟨rfl, hb⟩; refine ⟨_, rfl, ?_⟩; replace HO526 := Aside0.mk (Kd.R_below (by (with_reducible repeat (first | apply Kd.R_alloc | apply Kd.R_drewN | apply Kd.R_drew)); exact (Kd.R_mono (Kd.R_far (Kd.R_far (Kd.R_types HO526.out BK546.out (by decide)) (fun _ hk => hk.2) _) (fun _ hk => hk.2) _) (fun _ h_ => h_.1))) hb); replace HO529 := Aside0.mk (Kd.R_below (by (with_reducible repeat (first | apply Kd.R_alloc | apply Kd.R_drewN | apply Kd.R_drew)); exact (Kd.R_mono (Kd.R_far (Kd.R_far (Kd.R_types HO529.out BK546.out (by decide)) (fun _ hk => hk.2) _) (fun _ hk => hk.2) _) (fun _ h_ => h_.1))) hb); replace HO532 := Aside0.mk (Kd.R_below (by (with_reducible repeat (first | apply Kd.R_alloc | apply Kd.R_drewN | apply Kd.R_drew)); exact (Kd.R_mono (Kd.R_far (Kd.R_far (Kd.R_types HO532.out BK546.out (by decide)) (fun _ hk => hk.2) _) (fun _ hk => hk.2) _) (fun _ h_ => h_.1))) hb); replace HO535 := Aside0.mk (Kd.R_below (by (with_reducible repeat (first | apply Kd.R_alloc | apply Kd.R_drewN | apply Kd.R_drew)); exact (Kd.R_mono (Kd.R_far (Kd.R_far (Kd.R_types HO535.out BK546.out (by decide)) (fun _ hk => hk.2) _) (fun _ hk => hk.2) _) (fun _ h_ => h_.1))) hb); replace HO541 := Aside0.mk (Kd.R_below (by (with_reducible repeat (first | apply Kd.R_alloc | apply Kd.R_drewN | apply Kd.R_drew)); exact (Kd.R_mono (Kd.R_far (Kd.R_far (Kd.R_types HO541.out BK546.out (by decide)) (fun _ hk => hk.2) _) (fun _ hk => hk.2) _) (fun _ h_ => h_.1))) hb); replace HO544 := Aside0.mk (Kd.R_below (by (with_reducible repeat (first | apply Kd.R_alloc | apply Kd.R_drewN | apply Kd.R_drew)); exact (Kd.R_mono (Kd.R_far (Kd.R_far (Kd.R_types HO544.out BK546.out (by decide)) (fun _ hk => hk.2) _) (fun _ hk => hk.2) _) (fun _ h_ => h_.1))) hb); replace BK519 := sBk BK519 hb; replace BK520 := sBk BK520 hb; replace BK521 := sBk BK521 hb; replace BK537 := sBk BK537 hb; replace BK546 := Aside0.mk (blk_below (g := gb546) (o := .cells #[.slice Ao38 t539.length co38, .slice Ao44 t542.length co44] 27 (0, 0)) (by refine blk_put (cs := #[.slice Ao38 t539.length co38, .slice none 0 0]) ?_ 1 _ rfl; refine blk_put (cs := #[.slice none 0 0, .slice none 0 0]) ?_ 0 _ rfl; exact BK546.out) hb); replace HB := sHb hb; (try clear hb); (try clear hb2); (try clear hk); (try clear hi); have hnb56 := NB537_519.out; have hnc56 := NB519_537.out; have hnb57 := NB537_520.out; have hnc57 := NB520_537.out; have hnb58 := NB537_521.out; have hnc58 := NB521_537.out; have hnb59 := NB537_546.out; have hnc59 := NB546_537.out; have hcz60_0 : w55.cell? ⟨gb537, 0, none⟩ = some (.slice Ao25 t530.length co25) := (blk_cell BK537.out 0).trans rfl; have hcz60_1 : w55.cell? ⟨gb537, 1, none⟩ = some (.slice Ao27 t533.length co27) := (blk_cell BK537.out 1).trans rfl; have hfz60_0 := blk_frozen BK537.out 0; have hfz60_1 := blk_frozen BK537.out 1; have hnb61 := NB546_519.out; have hnc61 := NB519_546.out; have hnb62 := NB546_520.out; have hnc62 := NB520_546.out; have hnb63 := NB546_521.out; have hnc63 := NB521_546.out; have hcz64_0 : w55.cell? ⟨gb546, 0, none⟩ = some (.slice Ao38 t539.length co38) := (blk_cell BK546.out 0).trans rfl; have hcz64_1 : w55.cell? ⟨gb546, 1, none⟩ = some (.slice Ao44 t542.length co44) := (blk_cell BK546.out 1).trans rfl; have hfz64_0 := blk_frozen BK546.out 0; have hfz64_1 := blk_frozen BK546.out 1) | (go_at_call 27; (with_reducible refine (call_Same.calls k _ _ t530 _ _ t533 _ _ t539 _ _ t542 true _ ?side1 ?side2 ?side3 ?side4 ?side5 ?side6 ?side7 ?side8 A50.out).mono ?_); (case side1 => exact (Kd.R_reads' HO532.out).2.2); (case side2 => exact (Kd.R_reads' HO532.out).2.1); (case side3 => exact (Kd.R_reads' HO535.out).2.2); (case side4 => exact (Kd.R_reads' HO535.out).2.1); (case side5 => exact (Kd.R_reads' HO541.out).2.2); (case side6 => exact (Kd.R_reads' HO541.out).2.1); (case side7 => exact (Kd.R_reads' HO544.out).2.2); (case side8 => exact (Kd.R_reads' HO544.out).2.1); rintro e w65 ⟨rfl, hb⟩; have n0_ := Aside0.mk (Kd.R_below HO526.out hb); have n1_ := Aside0.mk (Kd.R_below HO529.out hb); have n2_ := Aside0.mk (Kd.R_below HO532.out hb); have n3_ := Aside0.mk (Kd.R_below HO535.out hb); have n4_ := Aside0.mk (Kd.R_below HO541.out hb); have n5_ := Aside0.mk (Kd.R_below HO544.out hb); have n6_ := Aside0.mk (blk_below (g := gb519) (o := .cells #[.int .i64 a0_0, .int .i64 a0_1] 23 (0, 0)) BK519.out hb); have n7_ := Aside0.mk (blk_below (g := gb520) (o := .cells #[.slice A1_0 l1_0.length c1_0, .slice A1_1 l1_1.length c1_1] 27 (0, 0)) BK520.out hb); have n8_ := Aside0.mk (blk_below (g := gb521) (o := .cells #[.int .i64 a2_0, .int .i64 a2_1, .int .i64 a2_2] 29 (0, 0)) BK521.out hb); have n9_ := Aside0.mk (blk_below (g := gb537) (o := .cells #[.slice Ao25 t530.length co25, .slice Ao27 t533.length co27] 27 (0, 0)) BK537.out hb); have n10_ := Aside0.mk (blk_below (g := gb546) (o := .cells #[.slice Ao38 t539.length co38, .slice Ao44 t542.length co44] 27 (0, 0)) BK546.out hb); have n11_ := Aside0.mk (below_step HB.out hb); clear HO526; clear HO529; clear HO532; clear HO535; clear HO541; clear HO544; clear BK519; clear BK520; clear BK521; clear BK537; clear BK546; clear HB; have HO526 := n0_; have HO529 := n1_; have HO532 := n2_; have HO535 := n3_; have HO541 := n4_; have HO544 := n5_; have BK519 := n6_; have BK520 := n7_; have BK521 := n8_; have BK537 := n9_; have BK546 := n10_; have HB := n11_; clear n0_ n1_ n2_ n3_ n4_ n5_ n6_ n7_ n8_ n9_ n10_ n11_; (try clear hb); (try clear hb2); (try clear hk); (try clear hi); have hnb66 := NB519_520.out; have hnc66 := NB520_519.out; have hnb67 := NB519_521.out; have hnc67 := NB521_519.out; have hcz68_0 : w65.cell? ⟨gb519, 0, none⟩ = some (.int .i64 a0_0) := (blk_cell BK519.out 0).trans rfl; have hcz68_1 : w65.cell? ⟨gb519, 1, none⟩ = some (.int .i64 a0_1) := (blk_cell BK519.out 1).trans rfl; have hfz68_0 := blk_frozen BK519.out 0; have hfz68_1 := blk_frozen BK519.out 1; have hcz69_0 : w65.cell? ⟨gb537, 0, none⟩ = some (.slice Ao25 t530.length co25) := (blk_cell BK537.out 0).trans rfl; have hcz69_1 : w65.cell? ⟨gb537, 1, none⟩ = some (.slice Ao27 t533.length co27) := (blk_cell BK537.out 1).trans rfl; have hfz69_0 := blk_frozen BK537.out 0; have hfz69_1 := blk_frozen BK537.out 1) | (go_at_call 14; (with_reducible refine (call_Check.calls k a0_0 a0_1 _ _ t530 _ _ t533 t549 _ ?side1 ?side2 ?side3 ?side4 A52.out).mono ?_); (case side1 => exact (Kd.R_reads' HO532.out).2.2); (case side2 => exact (Kd.R_reads' HO532.out).2.1); (case side3 => exact (Kd.R_reads' HO535.out).2.2); (case side4 => exact (Kd.R_reads' HO535.out).2.1); rintro e w70 ⟨rfl, hb⟩; have n0_ := Aside0.mk (Kd.R_below HO526.out hb); have n1_ := Aside0.mk (Kd.R_below HO529.out hb); have n2_ := Aside0.mk (Kd.R_below HO532.out hb); have n3_ := Aside0.mk (Kd.R_below HO535.out hb); have n4_ := Aside0.mk (Kd.R_below HO541.out hb); have n5_ := Aside0.mk (Kd.R_below HO544.out hb); have n6_ := Aside0.mk (blk_below (g := gb519) (o := .cells #[.int .i64 a0_0, .int .i64 a0_1] 23 (0, 0)) BK519.out hb); have n7_ := Aside0.mk (blk_below (g := gb520) (o := .cells #[.slice A1_0 l1_0.length c1_0, .slice A1_1 l1_1.length c1_1] 27 (0, 0)) BK520.out hb); have n8_ := Aside0.mk (blk_below (g := gb521) (o := .cells #[.int .i64 a2_0, .int .i64 a2_1, .int .i64 a2_2] 29 (0, 0)) BK521.out hb); have n9_ := Aside0.mk (blk_below (g := gb537) (o := .cells #[.slice Ao25 t530.length co25, .slice Ao27 t533.length co27] 27 (0, 0)) BK537.out hb); have n10_ := Aside0.mk (blk_below (g := gb546) (o := .cells #[.slice Ao38 t539.length co38, .slice Ao44 t542.length co44] 27 (0, 0)) BK546.out hb); have n11_ := Aside0.mk (below_step HB.out hb); clear HO526; clear HO529; clear HO532; clear HO535; clear HO541; clear HO544; clear BK519; clear BK520; clear BK521; clear BK537; clear BK546; clear HB; have HO526 := n0_; have HO529 := n1_; have HO532 := n2_; have HO535 := n3_; have HO541 := n4_; have HO544 := n5_; have BK519 := n6_; have BK520 := n7_; have BK521 := n8_; have BK537 := n9_; have BK546 := n10_; have HB := n11_; clear n0_ n1_ n2_ n3_ n4_ n5_ n6_ n7_ n8_ n9_ n10_ n11_; (try clear hb); (try clear hb2); (try clear hk); (try clear hi)))
         go_meet
         case rel => exact ⟨_, (true), rfl, H', ⟨by first | omega | exact Nat.le_refl _⟩, ⟨by (with_reducible repeat (first | apply Kd.R_alloc | apply Kd.R_drewN | apply Kd.R_drew)); exact Kd.R_mono HO532.out (fun _ hk => hk.2)⟩, ⟨by (with_reducible repeat (first | apply Kd.R_alloc | apply Kd.R_drewN | apply Kd.R_drew)); exact Kd.R_mono HO535.out (fun _ hk => hk.2)⟩, ⟨by (with_reducible repeat (first | apply Kd.R_alloc | apply Kd.R_drewN | apply Kd.R_drew)); exact Kd.R_mono HO541.out (fun _ hk => hk.2)⟩, ⟨by (with_reducible repeat (first | apply Kd.R_alloc | apply Kd.R_drewN | apply Kd.R_drew)); exact Kd.R_mono HO544.out (fun _ hk => hk.2)⟩, BK519, BK520, BK521, BK537, BK546, HB⟩
        ·rw [if_neg c54] at H
         have c54b0 : ((wrap64 ((wrap64 ((wrap64 ((t530.length : Int) + (t533.length : Int))) - (l1_0.length : Int))) - (l1_1.length : Int))) == 1) = false := beq_eq_false_iff_ne.mpr c54
         have c54b1 : ((wrap64 ((wrap64 ((wrap64 ((t530.length : Int) + (t533.length : Int))) - (l1_0.length : Int))) - (l1_1.length : Int))) != 1) = true := bne_iff_ne.mpr c54
         by_cases c71 : (wrap64 ((wrap64 ((wrap64 ((t530.length : Int) + (t533.length : Int))) - (l1_0.length : Int))) - (l1_1.length : Int))) = 0
         ·rw [if_pos c71] at H
          have c71b0 : ((wrap64 ((wrap64 ((wrap64 ((t530.length : Int) + (t533.length : Int))) - (l1_0.length : Int))) - (l1_1.length : Int))) == 0) = true := beq_iff_eq.mpr c71
          have c71b1 : ((wrap64 ((wrap64 ((wrap64 ((t530.length : Int) + (t533.length : Int))) - (l1_0.length : Int))) - (l1_1.length : Int))) != 0) = false := bne_eq_false_iff_eq.mpr c71
          clear c71
          replace H := Option.bind_eq_some_iff.mp H
          obtain ⟨t550, A720, H⟩ := H
          replace H : (newellaw19_CallOnce.j0 k t550) = some r := H
          have A72 := Aside0.mk A720
          clear A720
          have H' := Aside0.mk H
          clear H
          go_wp2_with (first | ((with_reducible refine gate_callee (f := 10) rfl ?_); refine goesL_ (some 49) rfl rfl Try.func10 (by kernel_rfl) rfl #[] rfl (by simp only [List.map_toArray, List.map_cons, List.map_nil] <;> rfl) ?_; (with_reducible refine (newellaw19_awake.calls k  true _ A47.out).mono ?_); rintro e w73 ⟨rfl, hb⟩; refine ⟨_, rfl, ?_⟩; replace HO526 := Aside0.mk (Kd.R_below (by (with_reducible repeat (first | apply Kd.R_alloc | apply Kd.R_drewN | apply Kd.R_drew)); exact (Kd.R_mono (Kd.R_far (Kd.R_far (Kd.R_types HO526.out BK546.out (by decide)) (fun _ hk => hk.2) _) (fun _ hk => hk.2) _) (fun _ h_ => h_.1))) hb); replace HO529 := Aside0.mk (Kd.R_below (by (with_reducible repeat (first | apply Kd.R_alloc | apply Kd.R_drewN | apply Kd.R_drew)); exact (Kd.R_mono (Kd.R_far (Kd.R_far (Kd.R_types HO529.out BK546.out (by decide)) (fun _ hk => hk.2) _) (fun _ hk => hk.2) _) (fun _ h_ => h_.1))) hb); replace HO532 := Aside0.mk (Kd.R_below (by (with_reducible repeat (first | apply Kd.R_alloc | apply Kd.R_drewN | apply Kd.R_drew)); exact (Kd.R_mono (Kd.R_far (Kd.R_far (Kd.R_types HO532.out BK546.out (by decide)) (fun _ hk => hk.2) _) (fun _ hk => hk.2) _) (fun _ h_ => h_.1))) hb); replace HO535 := Aside0.mk (Kd.R_below (by (with_reducible repeat (first | apply Kd.R_alloc | apply Kd.R_drewN | apply Kd.R_drew)); exact (Kd.R_mono (Kd.R_far (Kd.R_far (Kd.R_types HO535.out BK546.out (by decide)) (fun _ hk => hk.2) _) (fun _ hk => hk.2) _) (fun _ h_ => h_.1))) hb); replace HO541 := Aside0.mk (Kd.R_below (by (with_reducible repeat (first | apply Kd.R_alloc | apply Kd.R_drewN | apply Kd.R_drew)); exact (Kd.R_mono (Kd.R_far (Kd.R_far (Kd.R_types HO541.out BK546.out (by decide)) (fun _ hk => hk.2) _) (fun _ hk => hk.2) _) (fun _ h_ => h_.1))) hb); replace HO544 := Aside0.mk (Kd.R_below (by (with_reducible repeat (first | apply Kd.R_alloc | apply Kd.R_drewN | apply Kd.R_drew)); exact (Kd.R_mono (Kd.R_far (Kd.R_far (Kd.R_types HO544.out BK546.out (by decide)) (fun _ hk => hk.2) _) (fun _ hk => hk.2) _) (fun _ h_ => h_.1))) hb); replace BK519 := sBk BK519 hb; replace BK520 := sBk BK520 hb; replace BK521 := sBk BK521 hb; replace BK537 := sBk BK537 hb; replace BK546 := Aside0.mk (blk_below (g := gb546) (o := .cells #[.slice Ao38 t539.length co38, .slice Ao44 t542.length co44] 27 (0, 0)) (by refine blk_put (cs := #[.slice Ao38 t539.length co38, .slice none 0 0]) ?_ 1 _ rfl; refine blk_put (cs := #[.slice none 0 0, .slice none 0 0]) ?_ 0 _ rfl; exact BK546.out) hb); replace HB := sHb hb; (try clear hb); (try clear hb2); (try clear hk); (try clear hi); have hnb74 := NB537_519.out; have hnc74 := NB519_537.out; have hnb75 := NB537_520.out; have hnc75 := NB520_537.out; have hnb76 := NB537_521.out; have hnc76 := NB521_537.out; have hnb77 := NB537_546.out; have hnc77 := NB546_537.out; have hcz78_0 : w73.cell? ⟨gb537, 0, none⟩ = some (.slice Ao25 t530.length co25) := (blk_cell BK537.out 0).trans rfl; have hcz78_1 : w73.cell? ⟨gb537, 1, none⟩ = some (.slice Ao27 t533.length co27) := (blk_cell BK537.out 1).trans rfl; have hfz78_0 := blk_frozen BK537.out 0; have hfz78_1 := blk_frozen BK537.out 1; have hnb79 := NB546_519.out; have hnc79 := NB519_546.out; have hnb80 := NB546_520.out; have hnc80 := NB520_546.out; have hnb81 := NB546_521.out; have hnc81 := NB521_546.out; have hcz82_0 : w73.cell? ⟨gb546, 0, none⟩ = some (.slice Ao38 t539.length co38) := (blk_cell BK546.out 0).trans rfl; have hcz82_1 : w73.cell? ⟨gb546, 1, none⟩ = some (.slice Ao44 t542.length co44) := (blk_cell BK546.out 1).trans rfl; have hfz82_0 := blk_frozen BK546.out 0; have hfz82_1 := blk_frozen BK546.out 1) | (go_at_call 27; (with_reducible refine (call_Same.calls k _ _ t530 _ _ t533 _ _ t539 _ _ t542 true _ ?side1 ?side2 ?side3 ?side4 ?side5 ?side6 ?side7 ?side8 A50.out).mono ?_); (case side1 => exact (Kd.R_reads' HO532.out).2.2); (case side2 => exact (Kd.R_reads' HO532.out).2.1); (case side3 => exact (Kd.R_reads' HO535.out).2.2); (case side4 => exact (Kd.R_reads' HO535.out).2.1); (case side5 => exact (Kd.R_reads' HO541.out).2.2); (case side6 => exact (Kd.R_reads' HO541.out).2.1); (case side7 => exact (Kd.R_reads' HO544.out).2.2); (case side8 => exact (Kd.R_reads' HO544.out).2.1); rintro e w83 ⟨rfl, hb⟩; have n0_ := Aside0.mk (Kd.R_below HO526.out hb); have n1_ := Aside0.mk (Kd.R_below HO529.out hb); have n2_ := Aside0.mk (Kd.R_below HO532.out hb); have n3_ := Aside0.mk (Kd.R_below HO535.out hb); have n4_ := Aside0.mk (Kd.R_below HO541.out hb); have n5_ := Aside0.mk (Kd.R_below HO544.out hb); have n6_ := Aside0.mk (blk_below (g := gb519) (o := .cells #[.int .i64 a0_0, .int .i64 a0_1] 23 (0, 0)) BK519.out hb); have n7_ := Aside0.mk (blk_below (g := gb520) (o := .cells #[.slice A1_0 l1_0.length c1_0, .slice A1_1 l1_1.length c1_1] 27 (0, 0)) BK520.out hb); have n8_ := Aside0.mk (blk_below (g := gb521) (o := .cells #[.int .i64 a2_0, .int .i64 a2_1, .int .i64 a2_2] 29 (0, 0)) BK521.out hb); have n9_ := Aside0.mk (blk_below (g := gb537) (o := .cells #[.slice Ao25 t530.length co25, .slice Ao27 t533.length co27] 27 (0, 0)) BK537.out hb); have n10_ := Aside0.mk (blk_below (g := gb546) (o := .cells #[.slice Ao38 t539.length co38, .slice Ao44 t542.length co44] 27 (0, 0)) BK546.out hb); have n11_ := Aside0.mk (below_step HB.out hb); clear HO526; clear HO529; clear HO532; clear HO535; clear HO541; clear HO544; clear BK519; clear BK520; clear BK521; clear BK537; clear BK546; clear HB; have HO526 := n0_; have HO529 := n1_; have HO532 := n2_; have HO535 := n3_; have HO541 := n4_; have HO544 := n5_; have BK519 := n6_; have BK520 := n7_; have BK521 := n8_; have BK537 := n9_; have BK546 := n10_; have HB := n11_; clear n0_ n1_ n2_ n3_ n4_ n5_ n6_ n7_ n8_ n9_ n10_ n11_; (try clear hb); (try clear hb2); (try clear hk); (try clear hi); have hnb84 := NB519_520.out; have hnc84 := NB520_519.out; have hnb85 := NB519_521.out; have hnc85 := NB521_519.out; have hcz86_0 : w83.cell? ⟨gb519, 0, none⟩ = some (.int .i64 a0_0) := (blk_cell BK519.out 0).trans rfl; have hcz86_1 : w83.cell? ⟨gb519, 1, none⟩ = some (.int .i64 a0_1) := (blk_cell BK519.out 1).trans rfl; have hfz86_0 := blk_frozen BK519.out 0; have hfz86_1 := blk_frozen BK519.out 1; have hcz87_0 : w83.cell? ⟨gb537, 0, none⟩ = some (.slice Ao25 t530.length co25) := (blk_cell BK537.out 0).trans rfl; have hcz87_1 : w83.cell? ⟨gb537, 1, none⟩ = some (.slice Ao27 t533.length co27) := (blk_cell BK537.out 1).trans rfl; have hfz87_0 := blk_frozen BK537.out 0; have hfz87_1 := blk_frozen BK537.out 1) | (go_at_call 14; (with_reducible refine (call_Check.calls k a0_0 a0_1 _ _ t530 _ _ t533 t549 _ ?side1 ?side2 ?side3 ?side4 A52.out).mono ?_); (case side1 => exact (Kd.R_reads' HO532.out).2.2); (case side2 => exact (Kd.R_reads' HO532.out).2.1); (case side3 => exact (Kd.R_reads' HO535.out).2.2); (case side4 => exact (Kd.R_reads' HO535.out).2.1); rintro e w88 ⟨rfl, hb⟩; have n0_ := Aside0.mk (Kd.R_below HO526.out hb); have n1_ := Aside0.mk (Kd.R_below HO529.out hb); have n2_ := Aside0.mk (Kd.R_below HO532.out hb); have n3_ := Aside0.mk (Kd.R_below HO535.out hb); have n4_ := Aside0.mk (Kd.R_below HO541.out hb); have n5_ := Aside0.mk (Kd.R_below HO544.out hb); have n6_ := Aside0.mk (blk_below (g := gb519) (o := .cells #[.int .i64 a0_0, .int .i64 a0_1] 23 (0, 0)) BK519.out hb); have n7_ := Aside0.mk (blk_below (g := gb520) (o := .cells #[.slice A1_0 l1_0.length c1_0, .slice A1_1 l1_1.length c1_1] 27 (0, 0)) BK520.out hb); have n8_ := Aside0.mk (blk_below (g := gb521) (o := .cells #[.int .i64 a2_0, .int .i64 a2_1, .int .i64 a2_2] 29 (0, 0)) BK521.out hb); have n9_ := Aside0.mk (blk_below (g := gb537) (o := .cells #[.slice Ao25 t530.length co25, .slice Ao27 t533.length co27] 27 (0, 0)) BK537.out hb); have n10_ := Aside0.mk (blk_below (g := gb546) (o := .cells #[.slice Ao38 t539.length co38, .slice Ao44 t542.length co44] 27 (0, 0)) BK546.out hb); have n11_ := Aside0.mk (below_step HB.out hb); clear HO526; clear HO529; clear HO532; clear HO535; clear HO541; clear HO544; clear BK519; clear BK520; clear BK521; clear BK537; clear BK546; clear HB; have HO526 := n0_; have HO529 := n1_; have HO532 := n2_; have HO535 := n3_; have HO541 := n4_; have HO544 := n5_; have BK519 := n6_; have BK520 := n7_; have BK521 := n8_; have BK537 := n9_; have BK546 := n10_; have HB := n11_; clear n0_ n1_ n2_ n3_ n4_ n5_ n6_ n7_ n8_ n9_ n10_ n11_; (try clear hb); (try clear hb2); (try clear hk); (try clear hi); have hcz89_0 : w88.cell? ⟨gb537, 0, none⟩ = some (.slice Ao25 t530.length co25) := (blk_cell BK537.out 0).trans rfl; have hcz89_1 : w88.cell? ⟨gb537, 1, none⟩ = some (.slice Ao27 t533.length co27) := (blk_cell BK537.out 1).trans rfl; have hfz89_0 := blk_frozen BK537.out 0; have hfz89_1 := blk_frozen BK537.out 1; have hnb90 := NB520_521.out; have hnc90 := NB521_520.out; have hcz91_0 : w88.cell? ⟨gb520, 0, none⟩ = some (.slice A1_0 l1_0.length c1_0) := (blk_cell BK520.out 0).trans rfl; have hcz91_1 : w88.cell? ⟨gb520, 1, none⟩ = some (.slice A1_1 l1_1.length c1_1) := (blk_cell BK520.out 1).trans rfl; have hfz91_0 := blk_frozen BK520.out 0; have hfz91_1 := blk_frozen BK520.out 1) | (go_at_call 27; (with_reducible refine (call_Same.calls k _ _ t530 _ _ t533 _ _ l1_0 _ _ l1_1 t550 _ ?side1 ?side2 ?side3 ?side4 ?side5 ?side6 ?side7 ?side8 A72.out).mono ?_); (case side1 => exact (Kd.R_reads' HO532.out).2.2); (case side2 => exact (Kd.R_reads' HO532.out).2.1); (case side3 => exact (Kd.R_reads' HO535.out).2.2); (case side4 => exact (Kd.R_reads' HO535.out).2.1); (case side5 => exact (Kd.C_below HR1_0.out HB.out)); (case side6 => exact HC1_0.out); (case side7 => exact (Kd.C_below HR1_1.out HB.out)); (case side8 => exact HC1_1.out); rintro e w92 ⟨rfl, hb⟩; have n0_ := Aside0.mk (Kd.R_below HO526.out hb); have n1_ := Aside0.mk (Kd.R_below HO529.out hb); have n2_ := Aside0.mk (Kd.R_below HO532.out hb); have n3_ := Aside0.mk (Kd.R_below HO535.out hb); have n4_ := Aside0.mk (Kd.R_below HO541.out hb); have n5_ := Aside0.mk (Kd.R_below HO544.out hb); have n6_ := Aside0.mk (blk_below (g := gb519) (o := .cells #[.int .i64 a0_0, .int .i64 a0_1] 23 (0, 0)) BK519.out hb); have n7_ := Aside0.mk (blk_below (g := gb520) (o := .cells #[.slice A1_0 l1_0.length c1_0, .slice A1_1 l1_1.length c1_1] 27 (0, 0)) BK520.out hb); have n8_ := Aside0.mk (blk_below (g := gb521) (o := .cells #[.int .i64 a2_0, .int .i64 a2_1, .int .i64 a2_2] 29 (0, 0)) BK521.out hb); have n9_ := Aside0.mk (blk_below (g := gb537) (o := .cells #[.slice Ao25 t530.length co25, .slice Ao27 t533.length co27] 27 (0, 0)) BK537.out hb); have n10_ := Aside0.mk (blk_below (g := gb546) (o := .cells #[.slice Ao38 t539.length co38, .slice Ao44 t542.length co44] 27 (0, 0)) BK546.out hb); have n11_ := Aside0.mk (below_step HB.out hb); clear HO526; clear HO529; clear HO532; clear HO535; clear HO541; clear HO544; clear BK519; clear BK520; clear BK521; clear BK537; clear BK546; clear HB; have HO526 := n0_; have HO529 := n1_; have HO532 := n2_; have HO535 := n3_; have HO541 := n4_; have HO544 := n5_; have BK519 := n6_; have BK520 := n7_; have BK521 := n8_; have BK537 := n9_; have BK546 := n10_; have HB := n11_; clear n0_ n1_ n2_ n3_ n4_ n5_ n6_ n7_ n8_ n9_ n10_ n11_; (try clear hb); (try clear hb2); (try clear hk); (try clear hi)))
          go_meet
          case rel => exact ⟨_, (t550), rfl, H', ⟨by first | omega | exact Nat.le_refl _⟩, ⟨by (with_reducible repeat (first | apply Kd.R_alloc | apply Kd.R_drewN | apply Kd.R_drew)); exact Kd.R_mono HO532.out (fun _ hk => hk.2)⟩, ⟨by (with_reducible repeat (first | apply Kd.R_alloc | apply Kd.R_drewN | apply Kd.R_drew)); exact Kd.R_mono HO535.out (fun _ hk => hk.2)⟩, ⟨by (with_reducible repeat (first | apply Kd.R_alloc | apply Kd.R_drewN | apply Kd.R_drew)); exact Kd.R_mono HO541.out (fun _ hk => hk.2)⟩, ⟨by (with_reducible repeat (first | apply Kd.R_alloc | apply Kd.R_drewN | apply Kd.R_drew)); exact Kd.R_mono HO544.out (fun _ hk => hk.2)⟩, BK519, BK520, BK521, BK537, BK546, HB⟩
         ·rw [if_neg c71] at H
          exact absurd H (by simp)
       ·rw [if_neg c53] at H
        exact absurd H (by simp)
      ·replace c51 := Bool.eq_false_iff.mpr c51
       subst c51
       have H1 : (none) = some r := by rw [if_neg (show ¬ (false = true) by decide)] at H; exact H
       clear H
       have H := H1
       clear H1
       exact absurd H (by simp)
     ·rw [if_neg c49] at H
      exact absurd H (by simp)
    ·replace c48 := Bool.eq_false_iff.mpr c48
     subst c48
     have H1 : (none) = some r := by rw [if_neg (show ¬ (false = true) by decide)] at H; exact H
     clear H
     have H := H1
     clear H1
     exact absurd H (by simp)
   case rest =>
    clear HC10
    try clear c1
    try clear c2
    try clear p2
    try clear c3
    try clear c4
    try clear c5
    try clear c6
    try clear p6
    try clear c7
    try clear c8
    try clear c9
    try clear c10
    try clear c11
    try clear c12
    try clear c29
    try clear c30
    try clear c32
    try clear c33
    try clear c39
    try clear c40
    try clear c41
    try clear c42
    try clear c48
    try clear c49
    try clear c49b0
    try clear c49b1
    try clear c51
    try clear c53
    try clear c53b0
    try clear c53b1
    try clear c54
    try clear c54b0
    try clear c54b1
    try clear c56
    try clear c57
    try clear c58
    try clear c59
    try clear c61
    try clear c62
    try clear c63
    try clear p64
    try clear c66
    try clear c67
    try clear c71
    try clear c71b0
    try clear c71b1
    try clear c74
    try clear c75
    try clear c76
    try clear c77
    try clear c79
    try clear c80
    try clear c81
    try clear c84
    try clear c85
    try clear c90
    try clear hcz31_0
    try clear hcz31_1
    try clear hcz34_0
    try clear hcz34_1
    try clear hcz35_0
    try clear hcz35_1
    try clear hcz35_2
    try clear hcz43_0
    try clear hcz43_1
    try clear hcz45_0
    try clear hcz45_1
    try clear hcz46_0
    try clear hcz46_1
    try clear hcz60_0
    try clear hcz60_1
    try clear hcz64_0
    try clear hcz64_1
    try clear hcz68_0
    try clear hcz68_1
    try clear hcz69_0
    try clear hcz69_1
    try clear hcz78_0
    try clear hcz78_1
    try clear hcz82_0
    try clear hcz82_1
    try clear hcz86_0
    try clear hcz86_1
    try clear hcz87_0
    try clear hcz87_1
    try clear hcz89_0
    try clear hcz89_1
    try clear hcz91_0
    try clear hcz91_1
    try clear hfz31_0
    try clear hfz31_1
    try clear hfz34_0
    try clear hfz34_1
    try clear hfz35_0
    try clear hfz35_1
    try clear hfz35_2
    try clear hfz43_0
    try clear hfz43_1
    try clear hfz45_0
    try clear hfz45_1
    try clear hfz46_0
    try clear hfz46_1
    try clear hfz60_0
    try clear hfz60_1
    try clear hfz64_0
    try clear hfz64_1
    try clear hfz68_0
    try clear hfz68_1
    try clear hfz69_0
    try clear hfz69_1
    try clear hfz78_0
    try clear hfz78_1
    try clear hfz82_0
    try clear hfz82_1
    try clear hfz86_0
    try clear hfz86_1
    try clear hfz87_0
    try clear hfz87_1
    try clear hfz89_0
    try clear hfz89_1
    try clear hfz91_0
    try clear hfz91_1
    obtain ⟨kq, x6_9, rfl, HA, HJ9, HO_538000, HO_538001, HO_547000, HO_547001, BK519, BK520, BK521, BK537, BK546, HB⟩ := hcut
    cases kq with
    | zero => exact absurd HA.out (by simp [newellaw19_CallOnce.j0])
    | succ kj9 =>
     have H := HA.out
     clear HA
     simp only [newellaw19_CallOnce.j0] at H
     obtain rfl := Option.some.inj H
     go_wp2
     go_ret
     exact ⟨rfl, HB.out⟩
  ·rw [if_neg c8] at H
   have c8b0 : (t536 == 0) = false := beq_eq_false_iff_ne.mpr c8
   have c8b1 : (t536 != 0) = true := bne_iff_ne.mpr c8
   replace H := Option.bind_eq_some_iff.mp H
   obtain ⟨t538, A930, H⟩ := H
   replace H : (some t538) = some r := H
   have A93 := Aside0.mk A930
   clear A930
   obtain rfl := Option.some.inj H
   go_enter Try.func6, Try.ntmps6
   try go_wp2_with (first | ((with_reducible refine gate_dst (N := 3) rfl ?_); refine box_event ?hg (N := 3) ?hd (cs := #[.int .i64 a0_0, .int .i64 a0_1]) (t := 23) ?hr ?_; (case hd => rfl); (case hg => rfl); (case hr => go_simp <;> rfl); intro gb519 hg w94 hbox hb; have BK519 := Aside0.mk hbox; have GW519 := sGe hg; have GE519 := sGe hg; replace HB := sHb hb; clear hb hbox hg) | ((with_reducible refine gate_dst (N := 4) rfl ?_); refine box_event ?hg (N := 4) ?hd (cs := #[.slice A1_0 l1_0.length c1_0, .slice A1_1 l1_1.length c1_1]) (t := 27) ?hr ?_; (case hd => rfl); (case hg => rfl); (case hr => go_simp <;> rfl); intro gb520 hg w95 hbox hb; have BK520 := Aside0.mk hbox; have GW520 := sGe hg; have GE520 := sGe hg; have NB519_520 := sNl BK519 hg; have NB520_519 := sNg BK519 hg; replace BK519 := sBk BK519 hb; replace HB := sHb hb; clear hb hbox hg) | ((with_reducible refine gate_dst (N := 5) rfl ?_); refine box_event ?hg (N := 5) ?hd (cs := #[.int .i64 a2_0, .int .i64 a2_1, .int .i64 a2_2]) (t := 29) ?hr ?_; (case hd => rfl); (case hg => rfl); (case hr => go_simp <;> rfl); intro gb521 hg w96 hbox hb; have BK521 := Aside0.mk hbox; have GW521 := sGe hg; have GE521 := sGe hg; have NB519_521 := sNl BK519 hg; have NB521_519 := sNg BK519 hg; have NB520_521 := sNl BK520 hg; have NB521_520 := sNg BK520 hg; replace BK519 := sBk BK519 hb; replace BK520 := sBk BK520 hb; replace HB := sHb hb; clear hb hbox hg; have hnb97 := NB520_519.out; have hnc97 := NB519_520.out; have hnb98 := NB520_521.out; have hnc98 := NB521_520.out; have hcz99_0 : w96.cell? ⟨gb520, 0, none⟩ = some (.slice A1_0 l1_0.length c1_0) := (blk_cell BK520.out 0).trans rfl; have hcz99_1 : w96.cell? ⟨gb520, 1, none⟩ = some (.slice A1_1 l1_1.length c1_1) := (blk_cell BK520.out 1).trans rfl; have hfz99_0 := blk_frozen BK520.out 0; have hfz99_1 := blk_frozen BK520.out 1) | ((with_reducible refine gate_callee (f := 9) rfl ?_); refine goesL_ (some 13) rfl rfl Try.func9 (by kernel_rfl) rfl #[.agg #[.slice A1_0 l1_0.length c1_0, .slice A1_1 l1_1.length c1_1]] rfl (by simp only [List.map_toArray, List.map_cons, List.map_nil] <;> rfl) ?_; (with_reducible refine (newelref19_Few.calls _ _ l1_0 _ _ l1_1 true _ ?side1 ?side2 ?side3 ?side4 A4.out).mono ?_); (case side1 => exact (Kd.C_below HR1_0.out HB.out)); (case side2 => exact HC1_0.out); (case side3 => exact (Kd.C_below HR1_1.out HB.out)); (case side4 => exact HC1_1.out); rintro e w100 ⟨rfl, hb⟩; refine ⟨_, rfl, ?_⟩; replace BK519 := sBk BK519 hb; replace BK520 := sBk BK520 hb; replace BK521 := sBk BK521 hb; replace HB := sHb hb; (try clear hb); (try clear hb2); (try clear hk); (try clear hi)))
   replace BK519 := Aside0.mk (blk_drew BK519.out)
   replace BK520 := Aside0.mk (blk_drew BK520.out)
   replace BK521 := Aside0.mk (blk_drew BK521.out)
   replace HB := Aside0.mk (below_drew1 HB.out)
   refine start_ (n := 11) (S := fun w' => w'.cell? ⟨gb519, 0, none⟩ = some (.int .i64 a0_0) ∧ w'.cell? ⟨gb519, 1, none⟩ = some (.int .i64 a0_1) ∧ w'.cell? ⟨gb520, 0, none⟩ = some (.slice A1_0 l1_0.length c1_0) ∧ w'.cell? ⟨gb520, 1, none⟩ = some (.slice A1_1 l1_1.length c1_1) ∧ w'.cell? ⟨gb521, 0, none⟩ = some (.int .i64 a2_0) ∧ w'.cell? ⟨gb521, 1, none⟩ = some (.int .i64 a2_1) ∧ w'.cell? ⟨gb521, 2, none⟩ = some (.int .i64 a2_2)) (ds := []) #[false, false, false, false, false, false, false, false, false, false, false] (by kernel_rfl) rfl rfl ⟨(blk_cell BK519.out 0).trans rfl, (blk_cell BK519.out 1).trans rfl, (blk_cell BK520.out 0).trans rfl, (blk_cell BK520.out 1).trans rfl, (blk_cell BK521.out 0).trans rfl, (blk_cell BK521.out 1).trans rfl, (blk_cell BK521.out 2).trans rfl⟩ (fun hHeld => ?_); refine with_tabW newellaw19_CallOnce.tab3 newellaw19_CallOnce.bits3 (fun HT_ HW_ => ?_)
   generalize w100.drew = w101 at BK519 BK520 BK521 HB hHeld ⊢
   refine take_ (i := 0) (N := some 17) (v := ?_) (a' := ?_) (bN 11 1) rfl rfl (take_ofW HT_.out HW_.out (by kernel_rfl)) (fun _ _ _ h => h) (Or.inl ⟨by rfl, ?_⟩) hHeld ?_ ?_
   rotate_left
   ·rintro w' ⟨s0, s1, s2, s3, s4, s5, s6⟩
    go_simp
    with_reducible rfl
   rotate_left
   ·simp only [Act.put, List.setIfInBounds_toArray, List.set_cons_zero, List.set_cons_succ, i64_w, i32_w]
    rfl
   refine take_ (i := 1) (N := some 18) (v := ?_) (a' := ?_) (bN 11 3) rfl rfl (take_ofW HT_.out HW_.out (by kernel_rfl)) (fun _ _ _ h => h) (Or.inl ⟨by rfl, ?_⟩) hHeld ?_ ?_
   rotate_left
   ·rintro w' ⟨s0, s1, s2, s3, s4, s5, s6⟩
    go_simp
    with_reducible rfl
   rotate_left
   ·simp only [Act.put, List.setIfInBounds_toArray, List.set_cons_zero, List.set_cons_succ, i64_w, i32_w]
    rfl
   refine take_ (i := 3) (N := some 20) (v := ?_) (a' := ?_) (bN 11 11) rfl rfl (take_ofW HT_.out HW_.out (by kernel_rfl)) (fun _ _ _ h => h) (Or.inl ⟨by rfl, ?_⟩) hHeld ?_ ?_
   rotate_left
   ·rintro w' ⟨s0, s1, s2, s3, s4, s5, s6⟩
    go_simp
    with_reducible rfl
   rotate_left
   ·simp only [Act.put, List.setIfInBounds_toArray, List.set_cons_zero, List.set_cons_succ, i64_w, i32_w]
    rfl
   refine join_ (σ := Value × Value × Value × Value × Nat) 2 (bN 11 511) (fun s_ => [(19, .agg #[s_.1, s_.2.1]), (21, .tuple #[.agg #[s_.2.2.1, s_.2.2.2.1], .int .i64 t536]), (7, .pointer (some ⟨s_.2.2.2.2, 0, none⟩)), (16, .tuple #[.agg #[s_.2.2.1, s_.2.2.2.1], .int .i64 t536]), (22, .agg #[s_.2.2.1, s_.2.2.2.1]), (23, .int .i64 t536)]) (fun s_ w' => (w'.cell? ⟨gb519, 0, none⟩ = some (.int .i64 a0_0) ∧ w'.cell? ⟨gb519, 1, none⟩ = some (.int .i64 a0_1) ∧ w'.cell? ⟨gb520, 0, none⟩ = some (.slice A1_0 l1_0.length c1_0) ∧ w'.cell? ⟨gb520, 1, none⟩ = some (.slice A1_1 l1_1.length c1_1) ∧ w'.cell? ⟨gb521, 0, none⟩ = some (.int .i64 a2_0) ∧ w'.cell? ⟨gb521, 1, none⟩ = some (.int .i64 a2_1) ∧ w'.cell? ⟨gb521, 2, none⟩ = some (.int .i64 a2_2)) ∧ (Kd.R k56 56 w' w.heap.size (fun k_ => some k_ ≠ (s_.2.2.1 : Value).ownBlock) s_.1 t524) ∧ (Kd.R k62 62 w' w.heap.size (fun k_ => some k_ ≠ (s_.2.2.2.1 : Value).ownBlock) s_.2.1 t527) ∧ (Kd.R k56 56 w' w.heap.size (fun k_ => some k_ ≠ (s_.1 : Value).ownBlock) s_.2.2.1 t530) ∧ (Kd.R k62 62 w' w.heap.size (fun k_ => some k_ ≠ (s_.2.1 : Value).ownBlock) s_.2.2.2.1 t533) ∧ (w'.heap[gb519]? = some (.cells #[.int .i64 a0_0, .int .i64 a0_1] 23 (0, 0))) ∧ (w'.heap[gb520]? = some (.cells #[.slice A1_0 l1_0.length c1_0, .slice A1_1 l1_1.length c1_1] 27 (0, 0))) ∧ (w'.heap[gb521]? = some (.cells #[.int .i64 a2_0, .int .i64 a2_1, .int .i64 a2_2] 29 (0, 0))) ∧ (w'.heap[s_.2.2.2.2]? = some (.cells #[.slice none 0 0, .slice none 0 0] 27 (0, 0))) ∧ (w.heap.size ≤ s_.2.2.2.2) ∧ (w.heap.size ≤ s_.2.2.2.2) ∧ (gb519 ≠ s_.2.2.2.2) ∧ (s_.2.2.2.2 ≠ gb519) ∧ (gb520 ≠ s_.2.2.2.2) ∧ (s_.2.2.2.2 ≠ gb520) ∧ (gb521 ≠ s_.2.2.2.2) ∧ (s_.2.2.2.2 ≠ gb521) ∧ (Below w.heap.size w w')) ?_ ?_
   rotate_left
   ·intro hCont
    refine two_ (i := 2) (j := 8) (Ni := some 19) (Nj := some 7) (bN 11 15) (bN 11 267) rfl rfl rfl rfl (two_of HT_.out (by kernel_rfl)) (by decide) (by decide) (fun K hK => ?_) (fun K hK => ?_)
    ·skip
     refine goes_ Try.func12 (by kernel_rfl) rfl #[.agg #[.slice A1_0 l1_0.length c1_0, .slice A1_1 l1_1.length c1_1]] (by rfl) rfl rfl (by simp only [List.map_toArray, List.map_cons, List.map_nil] <;> rfl) ?_
     with_reducible refine (newellaw19_Own.calls _ _ l1_0 _ _ l1_1 t524 t527 _ ?side1 ?side2 ?side3 ?side4 A6.out).mono ?_
     (case side1 => exact (Kd.C_below HR1_0.out HB.out))
     (case side2 => exact HC1_0.out)
     (case side3 => exact (Kd.C_below HR1_1.out HB.out))
     (case side4 => exact HC1_1.out)
     rintro e w102 ⟨v525, v528, rfl, ho0, ho1, hb⟩
     refine ⟨_, rfl, ?_⟩
     have HO526 := Aside0.mk (Kd.R_lower ho0 (below_size HB.out))
     have HO529 := Aside0.mk (Kd.R_lower ho1 (below_size HB.out))
     replace BK519 := sBk BK519 hb
     replace BK520 := sBk BK520 hb
     replace BK521 := sBk BK521 hb
     replace HB := sHb hb
     (try clear hb)
     (try clear hb2)
     (try clear hk)
     (try clear hi)
     (try clear ho0)
     (try clear ho1)
     obtain ⟨Ao103, co103, eo103⟩ := Kd.R_slice HO526.out
     (first | subst eo103 | (injection eo103 with f1_ f2_ f3_; have f4_ := f1_.symm; have f5_ := f3_.symm; clear f1_ f2_ f3_; subst f4_; subst f5_))
     obtain ⟨Ao104, co104, eo104⟩ := Kd.R_slice HO529.out
     (first | subst eo104 | (injection eo104 with f1_ f2_ f3_; have f4_ := f1_.symm; have f5_ := f3_.symm; clear f1_ f2_ f3_; subst f4_; subst f5_))
     refine hK.out _ _ ⟨(blk_cell BK519.out 0).trans rfl, (blk_cell BK519.out 1).trans rfl, (blk_cell BK520.out 0).trans rfl, (blk_cell BK520.out 1).trans rfl, (blk_cell BK521.out 0).trans rfl, (blk_cell BK521.out 1).trans rfl, (blk_cell BK521.out 2).trans rfl⟩ (fun hHeld => ?_)
     clear hK K
     refine norm_ (a' := ?_) ?_ ?_
     rotate_left
     ·show Act.put _ (some 19) _ = _
      simp only [Act.put, List.setIfInBounds_toArray, List.set_cons_zero, List.set_cons_succ, i64_w, i32_w]
      rfl
     refine two_ (i := 4) (j := 8) (Ni := some 21) (Nj := some 7) (bN 11 31) (bN 11 271) rfl rfl rfl rfl (two_of HT_.out (by kernel_rfl)) (by decide) (by decide) (fun K hK => ?_) (fun K hK => ?_)
     ·skip
      refine goes_ Try.func11 (by kernel_rfl) rfl #[.agg #[.int .i64 a0_0, .int .i64 a0_1], .agg #[.slice Ao103 t524.length co103, .slice Ao104 t527.length co104], .agg #[.int .i64 a2_0, .int .i64 a2_1, .int .i64 a2_2]] (by rfl) rfl rfl (by simp only [List.map_toArray, List.map_cons, List.map_nil] <;> rfl) ?_
      with_reducible refine (call_Press.calls k a0_0 a0_1 _ _ t524 _ _ t527 a2_0 a2_1 a2_2 t530 t533 t536 _ ?side1 ?side2 ?side3 ?side4 A7.out).mono ?_
      (case side1 => exact (Kd.R_reads' HO526.out).2.2)
      (case side2 => exact (Kd.R_reads' HO526.out).2.1)
      (case side3 => exact (Kd.R_reads' HO529.out).2.2)
      (case side4 => exact (Kd.R_reads' HO529.out).2.1)
      rintro e w105 ⟨v531, v534, rfl, ho0, ho1, hb⟩
      refine ⟨_, rfl, ?_⟩
      have HO532 := Aside0.mk (Kd.R_lower (Kd.R_new' ho0 (Kd.R_lt HO526.out)) (below_size HB.out))
      have HO535 := Aside0.mk (Kd.R_lower (Kd.R_new' ho1 (Kd.R_lt HO529.out)) (below_size HB.out))
      replace HO526 := Aside0.mk (Kd.R_elder' HO526.out (Kd.R_base ho0) hb)
      replace HO529 := Aside0.mk (Kd.R_elder' HO529.out (Kd.R_base ho1) hb)
      replace BK519 := sBk BK519 hb
      replace BK520 := sBk BK520 hb
      replace BK521 := sBk BK521 hb
      replace HB := sHb hb
      (try clear hb)
      (try clear hb2)
      (try clear hk)
      (try clear hi)
      (try clear ho0)
      (try clear ho1)
      refine hK.out _ _ ⟨(blk_cell BK519.out 0).trans rfl, (blk_cell BK519.out 1).trans rfl, (blk_cell BK520.out 0).trans rfl, (blk_cell BK520.out 1).trans rfl, (blk_cell BK521.out 0).trans rfl, (blk_cell BK521.out 1).trans rfl, (blk_cell BK521.out 2).trans rfl⟩ (fun hHeld => ?_)
      clear hK K
      refine norm_ (a' := ?_) ?_ ?_
      rotate_left
      ·show Act.put _ (some 21) _ = _
       simp only [Act.put, List.setIfInBounds_toArray, List.set_cons_zero, List.set_cons_succ, i64_w, i32_w]
       rfl
      refine pure_ (i := 5) (N := some 16) (v := ?_) (a' := ?_) (bN 11 63) rfl rfl (any_of HT_.out (by kernel_rfl)) (fun _ _ _ h => h) (Or.inl ⟨by rfl, ?_⟩) ?_ ?_
      rotate_left
      ·intro w'
       go_simp
       with_reducible rfl
      rotate_left
      ·simp only [Act.put, List.setIfInBounds_toArray, List.set_cons_zero, List.set_cons_succ, i64_w, i32_w]
       rfl
      refine pure_ (i := 6) (N := some 22) (v := ?_) (a' := ?_) (bN 11 127) rfl rfl (any_of HT_.out (by kernel_rfl)) (fun _ _ _ h => h) (Or.inl ⟨by rfl, ?_⟩) ?_ ?_
      rotate_left
      ·intro w'
       go_simp
       with_reducible rfl
      rotate_left
      ·simp only [Act.put, List.setIfInBounds_toArray, List.set_cons_zero, List.set_cons_succ, i64_w, i32_w]
       rfl
      refine pure_ (i := 7) (N := some 23) (v := ?_) (a' := ?_) (bN 11 255) rfl rfl (any_of HT_.out (by kernel_rfl)) (fun _ _ _ h => h) (Or.inl ⟨by rfl, ?_⟩) ?_ ?_
      rotate_left
      ·intro w'
       go_simp
       with_reducible rfl
      rotate_left
      ·simp only [Act.put, List.setIfInBounds_toArray, List.set_cons_zero, List.set_cons_succ, i64_w, i32_w]
       rfl
      refine one_ (i := 8) (N := some 7) (bN 11 511) rfl rfl (one_of HT_.out (by kernel_rfl)) (by decide) (fun K hK => ?_)
      refine box_step ?hg (N := 7) ?hd (cs := #[.slice none 0 0, .slice none 0 0]) (t := 27) ?hr ?_; (case hd => rfl); (case hg => rfl); (case hr => go_simp <;> rfl)
      intro gb537 hg w106 hbox hb
      have BK537 := Aside0.mk hbox
      have GW537 := sGe hg
      have GE537 := sGe hg
      have NB519_537 := sNl BK519 hg
      have NB537_519 := sNg BK519 hg
      have NB520_537 := sNl BK520 hg
      have NB537_520 := sNg BK520 hg
      have NB521_537 := sNl BK521 hg
      have NB537_521 := sNg BK521 hg
      replace HO526 := sRb HO526 hb
      replace HO529 := sRb HO529 hb
      replace HO532 := sRb HO532 hb
      replace HO535 := sRb HO535 hb
      replace BK519 := sBk BK519 hb
      replace BK520 := sBk BK520 hb
      replace BK521 := sBk BK521 hb
      replace HB := sHb hb
      clear hb hbox hg
      refine hK.out _ _ ⟨(blk_cell BK519.out 0).trans rfl, (blk_cell BK519.out 1).trans rfl, (blk_cell BK520.out 0).trans rfl, (blk_cell BK520.out 1).trans rfl, (blk_cell BK521.out 0).trans rfl, (blk_cell BK521.out 1).trans rfl, (blk_cell BK521.out 2).trans rfl⟩ (fun hHeld => ?_)
      clear hK K
      refine norm_ (a' := ?_) ?_ ?_
      rotate_left
      ·show Act.put _ (some 7) _ = _
       simp only [Act.put, List.setIfInBounds_toArray, List.set_cons_zero, List.set_cons_succ, i64_w, i32_w]
       rfl
      exact norm_ (by simp only [putAll, Act.put, List.setIfInBounds_toArray, List.set_cons_zero, List.set_cons_succ]) (hCont (.slice Ao103 t524.length co103, .slice Ao104 t527.length co104, v531, v534, gb537) _ ⟨hHeld, (by (with_reducible repeat (first | apply Kd.R_alloc | apply Kd.R_drewN | apply Kd.R_drew)); exact Kd.R_mono HO526.out (fun _ hk => hk.2)), (by (with_reducible repeat (first | apply Kd.R_alloc | apply Kd.R_drewN | apply Kd.R_drew)); exact Kd.R_mono HO529.out (fun _ hk => hk.2)), (by (with_reducible repeat (first | apply Kd.R_alloc | apply Kd.R_drewN | apply Kd.R_drew)); exact Kd.R_mono HO532.out (fun _ hk => hk.2)), (by (with_reducible repeat (first | apply Kd.R_alloc | apply Kd.R_drewN | apply Kd.R_drew)); exact Kd.R_mono HO535.out (fun _ hk => hk.2)), BK519.out, BK520.out, BK521.out, BK537.out, GW537.out, GE537.out, NB519_537.out, NB537_519.out, NB520_537.out, NB537_520.out, NB521_537.out, NB537_521.out, HB.out⟩)
     ·skip
      refine box_step ?hg (N := 7) ?hd (cs := #[.slice none 0 0, .slice none 0 0]) (t := 27) ?hr ?_; (case hd => rfl); (case hg => rfl); (case hr => go_simp <;> rfl)
      intro gb537 hg w103 hbox hb
      have BK537 := Aside0.mk hbox
      have GW537 := sGe hg
      have GE537 := sGe hg
      have NB519_537 := sNl BK519 hg
      have NB537_519 := sNg BK519 hg
      have NB520_537 := sNl BK520 hg
      have NB537_520 := sNg BK520 hg
      have NB521_537 := sNl BK521 hg
      have NB537_521 := sNg BK521 hg
      replace HO526 := sRb HO526 hb
      replace HO529 := sRb HO529 hb
      replace BK519 := sBk BK519 hb
      replace BK520 := sBk BK520 hb
      replace BK521 := sBk BK521 hb
      replace HB := sHb hb
      clear hb hbox hg
      obtain ⟨Ao104, co104, eo104⟩ := Kd.R_slice HO526.out
      (first | subst eo104 | (injection eo104 with f1_ f2_ f3_; have f4_ := f1_.symm; have f5_ := f3_.symm; clear f1_ f2_ f3_; subst f4_; subst f5_))
      obtain ⟨Ao105, co105, eo105⟩ := Kd.R_slice HO529.out
      (first | subst eo105 | (injection eo105 with f1_ f2_ f3_; have f4_ := f1_.symm; have f5_ := f3_.symm; clear f1_ f2_ f3_; subst f4_; subst f5_))
      refine hK.out _ _ ⟨(blk_cell BK519.out 0).trans rfl, (blk_cell BK519.out 1).trans rfl, (blk_cell BK520.out 0).trans rfl, (blk_cell BK520.out 1).trans rfl, (blk_cell BK521.out 0).trans rfl, (blk_cell BK521.out 1).trans rfl, (blk_cell BK521.out 2).trans rfl⟩ (fun hHeld => ?_)
      clear hK K
      refine norm_ (a' := ?_) ?_ ?_
      rotate_left
      ·show Act.put _ (some 7) _ = _
       simp only [Act.put, List.setIfInBounds_toArray, List.set_cons_zero, List.set_cons_succ, i64_w, i32_w]
       rfl
      refine one_ (i := 4) (N := some 21) (bN 11 287) rfl rfl (one_of HT_.out (by kernel_rfl)) (by decide) (fun K hK => ?_)
      refine goes_ Try.func11 (by kernel_rfl) rfl #[.agg #[.int .i64 a0_0, .int .i64 a0_1], .agg #[.slice Ao104 t524.length co104, .slice Ao105 t527.length co105], .agg #[.int .i64 a2_0, .int .i64 a2_1, .int .i64 a2_2]] (by rfl) rfl rfl (by simp only [List.map_toArray, List.map_cons, List.map_nil] <;> rfl) ?_
      with_reducible refine (call_Press.calls k a0_0 a0_1 _ _ t524 _ _ t527 a2_0 a2_1 a2_2 t530 t533 t536 _ ?side1 ?side2 ?side3 ?side4 A7.out).mono ?_
      (case side1 => exact (Kd.R_reads' HO526.out).2.2)
      (case side2 => exact (Kd.R_reads' HO526.out).2.1)
      (case side3 => exact (Kd.R_reads' HO529.out).2.2)
      (case side4 => exact (Kd.R_reads' HO529.out).2.1)
      rintro e w106 ⟨v531, v534, rfl, ho0, ho1, hb⟩
      refine ⟨_, rfl, ?_⟩
      have HO532 := Aside0.mk (Kd.R_lower (Kd.R_new' ho0 (Kd.R_lt HO526.out)) (below_size HB.out))
      have HO535 := Aside0.mk (Kd.R_lower (Kd.R_new' ho1 (Kd.R_lt HO529.out)) (below_size HB.out))
      replace HO526 := Aside0.mk (Kd.R_elder' HO526.out (Kd.R_base ho0) hb)
      replace HO529 := Aside0.mk (Kd.R_elder' HO529.out (Kd.R_base ho1) hb)
      replace BK519 := sBk BK519 hb
      replace BK520 := sBk BK520 hb
      replace BK521 := sBk BK521 hb
      replace BK537 := sBk BK537 hb
      replace HB := sHb hb
      (try clear hb)
      (try clear hb2)
      (try clear hk)
      (try clear hi)
      (try clear ho0)
      (try clear ho1)
      refine hK.out _ _ ⟨(blk_cell BK519.out 0).trans rfl, (blk_cell BK519.out 1).trans rfl, (blk_cell BK520.out 0).trans rfl, (blk_cell BK520.out 1).trans rfl, (blk_cell BK521.out 0).trans rfl, (blk_cell BK521.out 1).trans rfl, (blk_cell BK521.out 2).trans rfl⟩ (fun hHeld => ?_)
      clear hK K
      refine norm_ (a' := ?_) ?_ ?_
      rotate_left
      ·show Act.put _ (some 21) _ = _
       simp only [Act.put, List.setIfInBounds_toArray, List.set_cons_zero, List.set_cons_succ, i64_w, i32_w]
       rfl
      refine pure_ (i := 5) (N := some 16) (v := ?_) (a' := ?_) (bN 11 319) rfl rfl (any_of HT_.out (by kernel_rfl)) (fun _ _ _ h => h) (Or.inl ⟨by rfl, ?_⟩) ?_ ?_
      rotate_left
      ·intro w'
       go_simp
       with_reducible rfl
      rotate_left
      ·simp only [Act.put, List.setIfInBounds_toArray, List.set_cons_zero, List.set_cons_succ, i64_w, i32_w]
       rfl
      refine pure_ (i := 6) (N := some 22) (v := ?_) (a' := ?_) (bN 11 383) rfl rfl (any_of HT_.out (by kernel_rfl)) (fun _ _ _ h => h) (Or.inl ⟨by rfl, ?_⟩) ?_ ?_
      rotate_left
      ·intro w'
       go_simp
       with_reducible rfl
      rotate_left
      ·simp only [Act.put, List.setIfInBounds_toArray, List.set_cons_zero, List.set_cons_succ, i64_w, i32_w]
       rfl
      refine pure_ (i := 7) (N := some 23) (v := ?_) (a' := ?_) (bN 11 511) rfl rfl (any_of HT_.out (by kernel_rfl)) (fun _ _ _ h => h) (Or.inl ⟨by rfl, ?_⟩) ?_ ?_
      rotate_left
      ·intro w'
       go_simp
       with_reducible rfl
      rotate_left
      ·simp only [Act.put, List.setIfInBounds_toArray, List.set_cons_zero, List.set_cons_succ, i64_w, i32_w]
       rfl
      exact norm_ (by simp only [putAll, Act.put, List.setIfInBounds_toArray, List.set_cons_zero, List.set_cons_succ]) (hCont (.slice Ao104 t524.length co104, .slice Ao105 t527.length co105, v531, v534, gb537) _ ⟨hHeld, (by (with_reducible repeat (first | apply Kd.R_alloc | apply Kd.R_drewN | apply Kd.R_drew)); exact Kd.R_mono HO526.out (fun _ hk => hk.2)), (by (with_reducible repeat (first | apply Kd.R_alloc | apply Kd.R_drewN | apply Kd.R_drew)); exact Kd.R_mono HO529.out (fun _ hk => hk.2)), (by (with_reducible repeat (first | apply Kd.R_alloc | apply Kd.R_drewN | apply Kd.R_drew)); exact Kd.R_mono HO532.out (fun _ hk => hk.2)), (by (with_reducible repeat (first | apply Kd.R_alloc | apply Kd.R_drewN | apply Kd.R_drew)); exact Kd.R_mono HO535.out (fun _ hk => hk.2)), BK519.out, BK520.out, BK521.out, BK537.out, GW537.out, GE537.out, NB519_537.out, NB537_519.out, NB520_537.out, NB537_520.out, NB521_537.out, NB537_521.out, HB.out⟩)
    ·skip
     refine box_step ?hg (N := 7) ?hd (cs := #[.slice none 0 0, .slice none 0 0]) (t := 27) ?hr ?_; (case hd => rfl); (case hg => rfl); (case hr => go_simp <;> rfl)
     intro gb537 hg w102 hbox hb
     have BK537 := Aside0.mk hbox
     have GW537 := sGe hg
     have GE537 := sGe hg
     have NB519_537 := sNl BK519 hg
     have NB537_519 := sNg BK519 hg
     have NB520_537 := sNl BK520 hg
     have NB537_520 := sNg BK520 hg
     have NB521_537 := sNl BK521 hg
     have NB537_521 := sNg BK521 hg
     replace BK519 := sBk BK519 hb
     replace BK520 := sBk BK520 hb
     replace BK521 := sBk BK521 hb
     replace HB := sHb hb
     clear hb hbox hg
     refine hK.out _ _ ⟨(blk_cell BK519.out 0).trans rfl, (blk_cell BK519.out 1).trans rfl, (blk_cell BK520.out 0).trans rfl, (blk_cell BK520.out 1).trans rfl, (blk_cell BK521.out 0).trans rfl, (blk_cell BK521.out 1).trans rfl, (blk_cell BK521.out 2).trans rfl⟩ (fun hHeld => ?_)
     clear hK K
     refine norm_ (a' := ?_) ?_ ?_
     rotate_left
     ·show Act.put _ (some 7) _ = _
      simp only [Act.put, List.setIfInBounds_toArray, List.set_cons_zero, List.set_cons_succ, i64_w, i32_w]
      rfl
     refine one_ (i := 2) (N := some 19) (bN 11 271) rfl rfl (one_of HT_.out (by kernel_rfl)) (by decide) (fun K hK => ?_)
     refine goes_ Try.func12 (by kernel_rfl) rfl #[.agg #[.slice A1_0 l1_0.length c1_0, .slice A1_1 l1_1.length c1_1]] (by rfl) rfl rfl (by simp only [List.map_toArray, List.map_cons, List.map_nil] <;> rfl) ?_
     with_reducible refine (newellaw19_Own.calls _ _ l1_0 _ _ l1_1 t524 t527 _ ?side1 ?side2 ?side3 ?side4 A6.out).mono ?_
     (case side1 => exact (Kd.C_below HR1_0.out HB.out))
     (case side2 => exact HC1_0.out)
     (case side3 => exact (Kd.C_below HR1_1.out HB.out))
     (case side4 => exact HC1_1.out)
     rintro e w103 ⟨v525, v528, rfl, ho0, ho1, hb⟩
     refine ⟨_, rfl, ?_⟩
     have HO526 := Aside0.mk (Kd.R_lower ho0 (below_size HB.out))
     have HO529 := Aside0.mk (Kd.R_lower ho1 (below_size HB.out))
     replace BK519 := sBk BK519 hb
     replace BK520 := sBk BK520 hb
     replace BK521 := sBk BK521 hb
     replace BK537 := sBk BK537 hb
     replace HB := sHb hb
     (try clear hb)
     (try clear hb2)
     (try clear hk)
     (try clear hi)
     (try clear ho0)
     (try clear ho1)
     obtain ⟨Ao104, co104, eo104⟩ := Kd.R_slice HO526.out
     (first | subst eo104 | (injection eo104 with f1_ f2_ f3_; have f4_ := f1_.symm; have f5_ := f3_.symm; clear f1_ f2_ f3_; subst f4_; subst f5_))
     obtain ⟨Ao105, co105, eo105⟩ := Kd.R_slice HO529.out
     (first | subst eo105 | (injection eo105 with f1_ f2_ f3_; have f4_ := f1_.symm; have f5_ := f3_.symm; clear f1_ f2_ f3_; subst f4_; subst f5_))
     refine hK.out _ _ ⟨(blk_cell BK519.out 0).trans rfl, (blk_cell BK519.out 1).trans rfl, (blk_cell BK520.out 0).trans rfl, (blk_cell BK520.out 1).trans rfl, (blk_cell BK521.out 0).trans rfl, (blk_cell BK521.out 1).trans rfl, (blk_cell BK521.out 2).trans rfl⟩ (fun hHeld => ?_)
     clear hK K
     refine norm_ (a' := ?_) ?_ ?_
     rotate_left
     ·show Act.put _ (some 19) _ = _
      simp only [Act.put, List.setIfInBounds_toArray, List.set_cons_zero, List.set_cons_succ, i64_w, i32_w]
      rfl
     refine one_ (i := 4) (N := some 21) (bN 11 287) rfl rfl (one_of HT_.out (by kernel_rfl)) (by decide) (fun K hK => ?_)
     refine goes_ Try.func11 (by kernel_rfl) rfl #[.agg #[.int .i64 a0_0, .int .i64 a0_1], .agg #[.slice Ao104 t524.length co104, .slice Ao105 t527.length co105], .agg #[.int .i64 a2_0, .int .i64 a2_1, .int .i64 a2_2]] (by rfl) rfl rfl (by simp only [List.map_toArray, List.map_cons, List.map_nil] <;> rfl) ?_
     with_reducible refine (call_Press.calls k a0_0 a0_1 _ _ t524 _ _ t527 a2_0 a2_1 a2_2 t530 t533 t536 _ ?side1 ?side2 ?side3 ?side4 A7.out).mono ?_
     (case side1 => exact (Kd.R_reads' HO526.out).2.2)
     (case side2 => exact (Kd.R_reads' HO526.out).2.1)
     (case side3 => exact (Kd.R_reads' HO529.out).2.2)
     (case side4 => exact (Kd.R_reads' HO529.out).2.1)
     rintro e w106 ⟨v531, v534, rfl, ho0, ho1, hb⟩
     refine ⟨_, rfl, ?_⟩
     have HO532 := Aside0.mk (Kd.R_lower (Kd.R_new' ho0 (Kd.R_lt HO526.out)) (below_size HB.out))
     have HO535 := Aside0.mk (Kd.R_lower (Kd.R_new' ho1 (Kd.R_lt HO529.out)) (below_size HB.out))
     replace HO526 := Aside0.mk (Kd.R_elder' HO526.out (Kd.R_base ho0) hb)
     replace HO529 := Aside0.mk (Kd.R_elder' HO529.out (Kd.R_base ho1) hb)
     replace BK519 := sBk BK519 hb
     replace BK520 := sBk BK520 hb
     replace BK521 := sBk BK521 hb
     replace BK537 := sBk BK537 hb
     replace HB := sHb hb
     (try clear hb)
     (try clear hb2)
     (try clear hk)
     (try clear hi)
     (try clear ho0)
     (try clear ho1)
     refine hK.out _ _ ⟨(blk_cell BK519.out 0).trans rfl, (blk_cell BK519.out 1).trans rfl, (blk_cell BK520.out 0).trans rfl, (blk_cell BK520.out 1).trans rfl, (blk_cell BK521.out 0).trans rfl, (blk_cell BK521.out 1).trans rfl, (blk_cell BK521.out 2).trans rfl⟩ (fun hHeld => ?_)
     clear hK K
     refine norm_ (a' := ?_) ?_ ?_
     rotate_left
     ·show Act.put _ (some 21) _ = _
      simp only [Act.put, List.setIfInBounds_toArray, List.set_cons_zero, List.set_cons_succ, i64_w, i32_w]
      rfl
     refine pure_ (i := 5) (N := some 16) (v := ?_) (a' := ?_) (bN 11 319) rfl rfl (any_of HT_.out (by kernel_rfl)) (fun _ _ _ h => h) (Or.inl ⟨by rfl, ?_⟩) ?_ ?_
     rotate_left
     ·intro w'
      go_simp
      with_reducible rfl
     rotate_left
     ·simp only [Act.put, List.setIfInBounds_toArray, List.set_cons_zero, List.set_cons_succ, i64_w, i32_w]
      rfl
     refine pure_ (i := 6) (N := some 22) (v := ?_) (a' := ?_) (bN 11 383) rfl rfl (any_of HT_.out (by kernel_rfl)) (fun _ _ _ h => h) (Or.inl ⟨by rfl, ?_⟩) ?_ ?_
     rotate_left
     ·intro w'
      go_simp
      with_reducible rfl
     rotate_left
     ·simp only [Act.put, List.setIfInBounds_toArray, List.set_cons_zero, List.set_cons_succ, i64_w, i32_w]
      rfl
     refine pure_ (i := 7) (N := some 23) (v := ?_) (a' := ?_) (bN 11 511) rfl rfl (any_of HT_.out (by kernel_rfl)) (fun _ _ _ h => h) (Or.inl ⟨by rfl, ?_⟩) ?_ ?_
     rotate_left
     ·intro w'
      go_simp
      with_reducible rfl
     rotate_left
     ·simp only [Act.put, List.setIfInBounds_toArray, List.set_cons_zero, List.set_cons_succ, i64_w, i32_w]
      rfl
     exact norm_ (by simp only [putAll, Act.put, List.setIfInBounds_toArray, List.set_cons_zero, List.set_cons_succ]) (hCont (.slice Ao104 t524.length co104, .slice Ao105 t527.length co105, v531, v534, gb537) _ ⟨hHeld, (by (with_reducible repeat (first | apply Kd.R_alloc | apply Kd.R_drewN | apply Kd.R_drew)); exact Kd.R_mono HO526.out (fun _ hk => hk.2)), (by (with_reducible repeat (first | apply Kd.R_alloc | apply Kd.R_drewN | apply Kd.R_drew)); exact Kd.R_mono HO529.out (fun _ hk => hk.2)), (by (with_reducible repeat (first | apply Kd.R_alloc | apply Kd.R_drewN | apply Kd.R_drew)); exact Kd.R_mono HO532.out (fun _ hk => hk.2)), (by (with_reducible repeat (first | apply Kd.R_alloc | apply Kd.R_drewN | apply Kd.R_drew)); exact Kd.R_mono HO535.out (fun _ hk => hk.2)), BK519.out, BK520.out, BK521.out, BK537.out, GW537.out, GE537.out, NB519_537.out, NB537_519.out, NB520_537.out, NB537_520.out, NB521_537.out, NB537_521.out, HB.out⟩)
   rintro ⟨v525, v528, v531, v534, gb537⟩ w107 ⟨hS_, h0_, h1_, h2_, h3_, h4_, h5_, h6_, h7_, h8_, h9_, h10_, h11_, h12_, h13_, h14_, h15_, h16_⟩
   have n0_ : Aside0 (Kd.R k56 56 w107 w.heap.size (fun k_ => some k_ ≠ (v531 : Value).ownBlock) v525 t524) := ⟨h0_⟩
   have n1_ : Aside0 (Kd.R k62 62 w107 w.heap.size (fun k_ => some k_ ≠ (v534 : Value).ownBlock) v528 t527) := ⟨h1_⟩
   have n2_ : Aside0 (Kd.R k56 56 w107 w.heap.size (fun k_ => some k_ ≠ (v525 : Value).ownBlock) v531 t530) := ⟨h2_⟩
   have n3_ : Aside0 (Kd.R k62 62 w107 w.heap.size (fun k_ => some k_ ≠ (v528 : Value).ownBlock) v534 t533) := ⟨h3_⟩
   have n4_ : Aside0 (w107.heap[gb519]? = some (.cells #[.int .i64 a0_0, .int .i64 a0_1] 23 (0, 0))) := ⟨h4_⟩
   have n5_ : Aside0 (w107.heap[gb520]? = some (.cells #[.slice A1_0 l1_0.length c1_0, .slice A1_1 l1_1.length c1_1] 27 (0, 0))) := ⟨h5_⟩
   have n6_ : Aside0 (w107.heap[gb521]? = some (.cells #[.int .i64 a2_0, .int .i64 a2_1, .int .i64 a2_2] 29 (0, 0))) := ⟨h6_⟩
   have n7_ : Aside0 (w107.heap[gb537]? = some (.cells #[.slice none 0 0, .slice none 0 0] 27 (0, 0))) := ⟨h7_⟩
   have n8_ : Aside0 (w.heap.size ≤ gb537) := ⟨h8_⟩
   have n9_ : Aside0 (w.heap.size ≤ gb537) := ⟨h9_⟩
   have n10_ : Aside0 (gb519 ≠ gb537) := ⟨h10_⟩
   have n11_ : Aside0 (gb537 ≠ gb519) := ⟨h11_⟩
   have n12_ : Aside0 (gb520 ≠ gb537) := ⟨h12_⟩
   have n13_ : Aside0 (gb537 ≠ gb520) := ⟨h13_⟩
   have n14_ : Aside0 (gb521 ≠ gb537) := ⟨h14_⟩
   have n15_ : Aside0 (gb537 ≠ gb521) := ⟨h15_⟩
   have n16_ : Aside0 (Below w.heap.size w w107) := ⟨h16_⟩
   clear BK519
   clear BK520
   clear BK521
   clear HB
   clear h0_ h1_ h2_ h3_ h4_ h5_ h6_ h7_ h8_ h9_ h10_ h11_ h12_ h13_ h14_ h15_ h16_
   have HO526 := n0_
   have HO529 := n1_
   have HO532 := n2_
   have HO535 := n3_
   have BK519 := n4_
   have BK520 := n5_
   have BK521 := n6_
   have BK537 := n7_
   have GW537 := n8_
   have GE537 := n9_
   have NB519_537 := n10_
   have NB537_519 := n11_
   have NB520_537 := n12_
   have NB537_520 := n13_
   have NB521_537 := n14_
   have NB537_521 := n15_
   have HB := n16_
   clear n0_ n1_ n2_ n3_ n4_ n5_ n6_ n7_ n8_ n9_ n10_ n11_ n12_ n13_ n14_ n15_ n16_
   have hHeld : w107.cell? ⟨gb519, 0, none⟩ = some (.int .i64 a0_0) ∧ w107.cell? ⟨gb519, 1, none⟩ = some (.int .i64 a0_1) ∧ w107.cell? ⟨gb520, 0, none⟩ = some (.slice A1_0 l1_0.length c1_0) ∧ w107.cell? ⟨gb520, 1, none⟩ = some (.slice A1_1 l1_1.length c1_1) ∧ w107.cell? ⟨gb521, 0, none⟩ = some (.int .i64 a2_0) ∧ w107.cell? ⟨gb521, 1, none⟩ = some (.int .i64 a2_1) ∧ w107.cell? ⟨gb521, 2, none⟩ = some (.int .i64 a2_2) := hS_
   obtain ⟨Ao108, co108, eo108⟩ := Kd.R_slice HO532.out
   (first | subst eo108 | (injection eo108 with f1_ f2_ f3_; have f4_ := f1_.symm; have f5_ := f3_.symm; clear f1_ f2_ f3_; subst f4_; subst f5_))
   obtain ⟨Ao110, co110, eo110⟩ := Kd.R_slice HO535.out
   (first | subst eo110 | (injection eo110 with f1_ f2_ f3_; have f4_ := f1_.symm; have f5_ := f3_.symm; clear f1_ f2_ f3_; subst f4_; subst f5_))
   refine norm_ (a' := ?_) ?_ ?_
   rotate_left
   ·simp only [putAll, Act.put, List.setIfInBounds_toArray, List.set_cons_zero, List.set_cons_succ]
    rfl
   refine one_ (i := 9) (N := none) (bN 11 1023) rfl rfl (one_of HT_.out (by kernel_rfl)) (by decide) (fun K hK => ?_)
   have hs109 : w107.cell? ⟨gb537, 0, none⟩ = some (.slice none 0 0) := (blk_cell BK537.out 0).trans rfl
   have hfs109 := blk_frozen BK537.out 0
   have hns109_0 := NB519_537.out
   have hns109_1 := NB520_537.out
   have hns109_2 := NB521_537.out
   have hms109_0 := NB537_519.out
   have hms109_1 := NB537_520.out
   have hms109_2 := NB537_521.out
   have hs111 : w107.cell? ⟨gb537, 1, none⟩ = some (.slice none 0 0) := (blk_cell BK537.out 1).trans rfl
   have hfs111 := blk_frozen BK537.out 1
   have hns111_0 := NB519_537.out
   have hns111_1 := NB520_537.out
   have hns111_2 := NB521_537.out
   have hms111_0 := NB537_519.out
   have hms111_1 := NB537_520.out
   have hms111_2 := NB537_521.out
   refine skip_ (w1 := ?_) (by rfl) rfl ?_ ?_
   rotate_left
   ·go_simp
    rfl
   refine hK.out _ _ ⟨((cell_far (p := ⟨gb537, _, none⟩) NB519_537.out _).trans (((cell_far (p := ⟨gb537, _, none⟩) NB519_537.out _).trans (hHeld.1)))), ((cell_far (p := ⟨gb537, _, none⟩) NB519_537.out _).trans (((cell_far (p := ⟨gb537, _, none⟩) NB519_537.out _).trans (hHeld.2.1)))), ((cell_far (p := ⟨gb537, _, none⟩) NB520_537.out _).trans (((cell_far (p := ⟨gb537, _, none⟩) NB520_537.out _).trans (hHeld.2.2.1)))), ((cell_far (p := ⟨gb537, _, none⟩) NB520_537.out _).trans (((cell_far (p := ⟨gb537, _, none⟩) NB520_537.out _).trans (hHeld.2.2.2.1)))), ((cell_far (p := ⟨gb537, _, none⟩) NB521_537.out _).trans (((cell_far (p := ⟨gb537, _, none⟩) NB521_537.out _).trans (hHeld.2.2.2.2.1)))), ((cell_far (p := ⟨gb537, _, none⟩) NB521_537.out _).trans (((cell_far (p := ⟨gb537, _, none⟩) NB521_537.out _).trans (hHeld.2.2.2.2.2.1)))), ((cell_far (p := ⟨gb537, _, none⟩) NB521_537.out _).trans (((cell_far (p := ⟨gb537, _, none⟩) NB521_537.out _).trans (hHeld.2.2.2.2.2.2))))⟩ (fun hHeld => ?_)
   clear hK K
   refine pure_ (i := 10) (N := some 8) (v := ?_) (a' := ?_) (bN 11 2047) rfl rfl (any_of HT_.out (by kernel_rfl)) (fun _ _ _ h => h) (Or.inl ⟨by rfl, ?_⟩) ?_ ?_
   rotate_left
   ·intro w'
    go_simp
    with_reducible rfl
   rotate_left
   ·simp only [Act.put, List.setIfInBounds_toArray, List.set_cons_zero, List.set_cons_succ, i64_w, i32_w]
    rfl
   refine done_ (done_of HT_.out (by kernel_rfl)) ?_
   try go_wp2_with (first | ((with_reducible refine gate_callee (f := 10) rfl ?_); refine goesL_ (some 26) rfl rfl Try.func10 (by kernel_rfl) rfl #[] rfl (by simp only [List.map_toArray, List.map_cons, List.map_nil] <;> rfl) ?_; (with_reducible refine (newellaw19_awake.calls k  t538 _ A93.out).mono ?_); rintro e w112 ⟨rfl, hb⟩; refine ⟨_, rfl, ?_⟩; replace HO526 := Aside0.mk (Kd.R_below (by (with_reducible repeat (first | apply Kd.R_alloc | apply Kd.R_drewN | apply Kd.R_drew)); exact (Kd.R_mono (Kd.R_far (Kd.R_far (Kd.R_types HO526.out BK537.out (by decide)) (fun _ hk => hk.2) _) (fun _ hk => hk.2) _) (fun _ h_ => h_.1))) hb); replace HO529 := Aside0.mk (Kd.R_below (by (with_reducible repeat (first | apply Kd.R_alloc | apply Kd.R_drewN | apply Kd.R_drew)); exact (Kd.R_mono (Kd.R_far (Kd.R_far (Kd.R_types HO529.out BK537.out (by decide)) (fun _ hk => hk.2) _) (fun _ hk => hk.2) _) (fun _ h_ => h_.1))) hb); replace HO532 := Aside0.mk (Kd.R_below (by (with_reducible repeat (first | apply Kd.R_alloc | apply Kd.R_drewN | apply Kd.R_drew)); exact (Kd.R_mono (Kd.R_far (Kd.R_far (Kd.R_types HO532.out BK537.out (by decide)) (fun _ hk => hk.2) _) (fun _ hk => hk.2) _) (fun _ h_ => h_.1))) hb); replace HO535 := Aside0.mk (Kd.R_below (by (with_reducible repeat (first | apply Kd.R_alloc | apply Kd.R_drewN | apply Kd.R_drew)); exact (Kd.R_mono (Kd.R_far (Kd.R_far (Kd.R_types HO535.out BK537.out (by decide)) (fun _ hk => hk.2) _) (fun _ hk => hk.2) _) (fun _ h_ => h_.1))) hb); replace BK519 := sBk BK519 hb; replace BK520 := sBk BK520 hb; replace BK521 := sBk BK521 hb; replace BK537 := Aside0.mk (blk_below (g := gb537) (o := .cells #[.slice Ao108 t530.length co108, .slice Ao110 t533.length co110] 27 (0, 0)) (by refine blk_put (cs := #[.slice Ao108 t530.length co108, .slice none 0 0]) ?_ 1 _ rfl; refine blk_put (cs := #[.slice none 0 0, .slice none 0 0]) ?_ 0 _ rfl; exact BK537.out) hb); replace HB := sHb hb; (try clear hb); (try clear hb2); (try clear hk); (try clear hi)))
   go_ret
   exact ⟨rfl, HB.out⟩
 ·replace c5 := Bool.eq_false_iff.mpr c5
  subst c5
  have H1 : ((newellaw19_awake.f k).bind fun t523 => (some t523)) = some r := by rw [if_neg (show ¬ (false = true) by decide)] at H; exact H
  clear H
  have H := H1
  clear H1
  replace H := Option.bind_eq_some_iff.mp H
  obtain ⟨t523, A1130, H⟩ := H
  replace H : (some t523) = some r := H
  have A113 := Aside0.mk A1130
  clear A1130
  obtain rfl := Option.some.inj H
  go_enter Try.func6, Try.ntmps6
  go_wp2_with (first | ((with_reducible refine gate_dst (N := 3) rfl ?_); refine box_event ?hg (N := 3) ?hd (cs := #[.int .i64 a0_0, .int .i64 a0_1]) (t := 23) ?hr ?_; (case hd => rfl); (case hg => rfl); (case hr => go_simp <;> rfl); intro gb519 hg w114 hbox hb; have BK519 := Aside0.mk hbox; have GW519 := sGe hg; have GE519 := sGe hg; replace HB := sHb hb; clear hb hbox hg) | ((with_reducible refine gate_dst (N := 4) rfl ?_); refine box_event ?hg (N := 4) ?hd (cs := #[.slice A1_0 l1_0.length c1_0, .slice A1_1 l1_1.length c1_1]) (t := 27) ?hr ?_; (case hd => rfl); (case hg => rfl); (case hr => go_simp <;> rfl); intro gb520 hg w115 hbox hb; have BK520 := Aside0.mk hbox; have GW520 := sGe hg; have GE520 := sGe hg; have NB519_520 := sNl BK519 hg; have NB520_519 := sNg BK519 hg; replace BK519 := sBk BK519 hb; replace HB := sHb hb; clear hb hbox hg) | ((with_reducible refine gate_dst (N := 5) rfl ?_); refine box_event ?hg (N := 5) ?hd (cs := #[.int .i64 a2_0, .int .i64 a2_1, .int .i64 a2_2]) (t := 29) ?hr ?_; (case hd => rfl); (case hg => rfl); (case hr => go_simp <;> rfl); intro gb521 hg w116 hbox hb; have BK521 := Aside0.mk hbox; have GW521 := sGe hg; have GE521 := sGe hg; have NB519_521 := sNl BK519 hg; have NB521_519 := sNg BK519 hg; have NB520_521 := sNl BK520 hg; have NB521_520 := sNg BK520 hg; replace BK519 := sBk BK519 hb; replace BK520 := sBk BK520 hb; replace HB := sHb hb; clear hb hbox hg; have hnb117 := NB520_519.out; have hnc117 := NB519_520.out; have hnb118 := NB520_521.out; have hnc118 := NB521_520.out; have hcz119_0 : w116.cell? ⟨gb520, 0, none⟩ = some (.slice A1_0 l1_0.length c1_0) := (blk_cell BK520.out 0).trans rfl; have hcz119_1 : w116.cell? ⟨gb520, 1, none⟩ = some (.slice A1_1 l1_1.length c1_1) := (blk_cell BK520.out 1).trans rfl; have hfz119_0 := blk_frozen BK520.out 0; have hfz119_1 := blk_frozen BK520.out 1) | ((with_reducible refine gate_callee (f := 9) rfl ?_); refine goesL_ (some 13) rfl rfl Try.func9 (by kernel_rfl) rfl #[.agg #[.slice A1_0 l1_0.length c1_0, .slice A1_1 l1_1.length c1_1]] rfl (by simp only [List.map_toArray, List.map_cons, List.map_nil] <;> rfl) ?_; (with_reducible refine (newelref19_Few.calls _ _ l1_0 _ _ l1_1 false _ ?side1 ?side2 ?side3 ?side4 A4.out).mono ?_); (case side1 => exact (Kd.C_below HR1_0.out HB.out)); (case side2 => exact HC1_0.out); (case side3 => exact (Kd.C_below HR1_1.out HB.out)); (case side4 => exact HC1_1.out); rintro e w120 ⟨rfl, hb⟩; refine ⟨_, rfl, ?_⟩; replace BK519 := sBk BK519 hb; replace BK520 := sBk BK520 hb; replace BK521 := sBk BK521 hb; replace HB := sHb hb; (try clear hb); (try clear hb2); (try clear hk); (try clear hi)) | ((with_reducible refine gate_callee (f := 10) rfl ?_); refine goesL_ (some 15) rfl rfl Try.func10 (by kernel_rfl) rfl #[] rfl (by simp only [List.map_toArray, List.map_cons, List.map_nil] <;> rfl) ?_; (with_reducible refine (newellaw19_awake.calls k  t523 _ A113.out).mono ?_); rintro e w121 ⟨rfl, hb⟩; refine ⟨_, rfl, ?_⟩; replace BK519 := sBk BK519 hb; replace BK520 := sBk BK520 hb; replace BK521 := sBk BK521 hb; replace HB := sHb hb; (try clear hb); (try clear hb2); (try clear hk); (try clear hi)))
  go_ret
  exact ⟨rfl, HB.out⟩
end Go.Proofs.Ytjehhhlhalkieaa.C
namespace Go.Proofs.Ytjehhhlhalkieaa.Call
open Go.RowKit Go.Proofs.YtjehhhlhalkieaaW.PrintWords Go.Proofs.YtjehhhlhalkieaaW.PrintLast Go.Proofs.YtjehhhlhalkieaaW.PrintMore Go.Proofs.Ytjehhhlhalkieaa.C
set_option linter.unusedVariables false
set_option linter.unusedSimpArgs false
theorem withH_any (x : Hall) (l : List Hall) : (withH x l).any (fun y => cmp2 y.f0 y.f1 x.f0 x.f1 == 0) = true := by
  unfold withH
  split
  · assumption
  · rw [List.any_append, List.any_append]
    have : cmp2 x.f0 x.f1 x.f0 x.f1 = 0 := by rw [cmp2_eq]; exact ⟨rfl, rfl⟩
    simp [this]
theorem withI_any (x : Ins) (l : List Ins) : (withI x l).any (fun y => cmp2 y.f0 y.f1 x.f0 x.f1 == 0) = true := by
  unfold withI
  split
  · assumption
  · rw [List.any_append, List.any_append]
    have : cmp2 x.f0 x.f1 x.f0 x.f1 = 0 := by rw [cmp2_eq]; exact ⟨rfl, rfl⟩
    simp [this]
theorem withH_id (x : Hall) (l : List Hall) (h : l.any (fun y => cmp2 y.f0 y.f1 x.f0 x.f1 == 0) = true) : withH x l = l := by
  unfold withH
  rw [if_pos h]
theorem withH_again (x : Hall) (l : List Hall) : withH x (withH x l) = withH x l := withH_id x _ (withH_any x l)
theorem withI_id (x : Ins) (l : List Ins) (h : l.any (fun y => cmp2 y.f0 y.f1 x.f0 x.f1 == 0) = true) : withI x l = l := by
  unfold withI
  rw [if_pos h]
theorem withI_again (x : Ins) (l : List Ins) : withI x (withI x l) = withI x l := withI_id x _ (withI_any x l)
theorem withH_mem (x : Hall) (l : List Hall) : ∀ y ∈ withH x l, y = x ∨ y ∈ l := by
  intro y hy
  unfold withH at hy
  split at hy
  · exact .inr hy
  · simp only [List.mem_append, List.mem_filter, List.mem_singleton] at hy
    rcases hy with (⟨h, _⟩ | h) | ⟨h, _⟩
    · exact .inr h
    · exact .inl h
    · exact .inr h
theorem withI_mem (x : Ins) (l : List Ins) : ∀ y ∈ withI x l, y = x ∨ y ∈ l := by
  intro y hy
  unfold withI at hy
  split at hy
  · exact .inr hy
  · simp only [List.mem_append, List.mem_filter, List.mem_singleton] at hy
    rcases hy with (⟨h, _⟩ | h) | ⟨h, _⟩
    · exact .inr h
    · exact .inl h
    · exact .inr h
theorem filter_len {α : Type} (q : α → Bool) (l : List α) : (l.filter q).length + (l.filter (fun y => !q y)).length = l.length := by
  induction l with
  | nil => rfl
  | cons x l ih => cases h : q x <;> simp [h] <;> omega
theorem withH_len (x : Hall) (l : List Hall) : withH x l = l ∨ (withH x l).length = l.length + 1 := by
  unfold withH
  split
  · exact .inl rfl
  · right
    rw [List.length_append, List.length_append]
    show _ + 1 + _ = _
    rw [Nat.add_right_comm]
    exact congrArg (· + 1) (filter_len _ l)
theorem withI_len (x : Ins) (l : List Ins) : withI x l = l ∨ (withI x l).length = l.length + 1 := by
  unfold withI
  split
  · exact .inl rfl
  · right
    rw [List.length_append, List.length_append]
    show _ + 1 + _ = _
    rw [Nat.add_right_comm]
    exact congrArg (· + 1) (filter_len _ l)
theorem withH_sorted (x : Hall) (l : List Hall) (hs : l.Pairwise (fun x y => ltH x y = true)) : (withH x l).Pairwise (fun x y => ltH x y = true) := by
  unfold withH
  split
  · exact hs
  · rename_i hn
    rw [Bool.not_eq_true, List.any_eq_false] at hn
    have hlt : ∀ y ∈ l.filter (fun y => decide (cmp2 y.f0 y.f1 x.f0 x.f1 < 0)), ltH y x = true := by
      intro y hy
      simp only [List.mem_filter, decide_eq_true_eq] at hy
      rw [ltH_iff]
      exact (cmp2_lt _ _ _ _).1 hy.2
    have hgt : ∀ y ∈ l.filter (fun y => !decide (cmp2 y.f0 y.f1 x.f0 x.f1 < 0)), ltH x y = true := by
      intro y hy
      simp only [List.mem_filter, Bool.not_eq_true', decide_eq_false_iff_not] at hy
      have h0 := hn y hy.1
      simp only [beq_iff_eq] at h0
      rw [cmp2_eq] at h0
      rw [cmp2_lt] at hy
      rw [ltH_iff]
      omega
    rw [List.pairwise_append, List.pairwise_append]
    refine ⟨⟨hs.filter _, List.pairwise_singleton _ _, fun a ha b hb => ?_⟩, hs.filter _, fun a ha b hb => ?_⟩
    · rw [List.mem_singleton] at hb
      subst hb
      exact hlt a ha
    · rw [List.mem_append, List.mem_singleton] at ha
      rcases ha with ha | rfl
      · exact ltH_trans (hlt a ha) (hgt b hb)
      · exact hgt b hb
theorem withI_sorted (x : Ins) (l : List Ins) (hs : l.Pairwise (fun x y => ltI x y = true)) : (withI x l).Pairwise (fun x y => ltI x y = true) := by
  unfold withI
  split
  · exact hs
  · rename_i hn
    rw [Bool.not_eq_true, List.any_eq_false] at hn
    have hlt : ∀ y ∈ l.filter (fun y => decide (cmp2 y.f0 y.f1 x.f0 x.f1 < 0)), ltI y x = true := by
      intro y hy
      simp only [List.mem_filter, decide_eq_true_eq] at hy
      rw [ltI_iff]
      exact (cmp2_lt _ _ _ _).1 hy.2
    have hgt : ∀ y ∈ l.filter (fun y => !decide (cmp2 y.f0 y.f1 x.f0 x.f1 < 0)), ltI x y = true := by
      intro y hy
      simp only [List.mem_filter, Bool.not_eq_true', decide_eq_false_iff_not] at hy
      have h0 := hn y hy.1
      simp only [beq_iff_eq] at h0
      rw [cmp2_eq] at h0
      rw [cmp2_lt] at hy
      rw [ltI_iff]
      omega
    rw [List.pairwise_append, List.pairwise_append]
    refine ⟨⟨hs.filter _, List.pairwise_singleton _ _, fun a ha b hb => ?_⟩, hs.filter _, fun a ha b hb => ?_⟩
    · rw [List.mem_singleton] at hb
      subst hb
      exact hlt a ha
    · rw [List.mem_append, List.mem_singleton] at ha
      rcases ha with ha | rfl
      · exact ltI_trans (hlt a ha) (hgt b hb)
      · exact hgt b hb
theorem press_twice {F C : Int} {H : List Hall} {I : List Ins} {kind fl car : Int} {a : List Hall} {b : List Ins} (h : pressS F C H I kind fl car = (a, b, 0)) :
    okB F C a b = true ∧ pressS F C a b kind fl car = (a, b, 0) ∧ ((a = H ∧ b = I) ∨ a.length + b.length = H.length + I.length + 1) := by
  unfold pressS at h
  cases hok : okB F C H I
  · rw [hok, if_neg (by decide)] at h
    injection h with _ h; injection h with _ h; cases h
  · rw [hok, if_pos rfl] at h
    obtain ⟨hF, hC, ⟨hH, hHs⟩, hI, hIs⟩ := ok_parts.1 hok
    by_cases hk : kind = 2
    · rw [if_pos hk] at h
      split at h
      · rename_i hb
        injection h with h1 h; injection h with h2 h
        subst h1 h2
        have ok2 : okB F C H (withI ⟨car, fl⟩ I) = true := ok_parts.2 ⟨hF, hC, ⟨hH, hHs⟩, fun y hy => by
          rcases withI_mem _ _ y hy with rfl | hy
          · exact hb
          · exact hI y hy, withI_sorted _ _ hIs⟩
        refine ⟨ok2, ?_, ?_⟩
        · unfold pressS
          rw [ok2, if_pos rfl, if_pos hk, if_pos hb, withI_again]
        · rcases withI_len ⟨car, fl⟩ I with h | h
          · exact .inl ⟨rfl, h⟩
          · exact .inr (by omega)
      · injection h with _ h; injection h with _ h; cases h
    · rw [if_neg hk] at h
      split at h
      · rename_i hb
        injection h with h1 h; injection h with h2 h
        subst h1 h2
        have ok2 : okB F C (withH ⟨fl, dirOf kind, -1⟩ H) I = true := ok_parts.2 ⟨hF, hC, ⟨fun y hy => by
          rcases withH_mem _ _ y hy with rfl | hy
          · exact hb
          · exact hH y hy, withH_sorted _ _ hHs⟩, hI, hIs⟩
        refine ⟨ok2, ?_, ?_⟩
        · unfold pressS
          rw [ok2, if_pos rfl, if_neg hk, if_pos hb, withH_again]
        · rcases withH_len ⟨fl, dirOf kind, -1⟩ H with h | h
          · exact .inl ⟨h, rfl⟩
          · exact .inr (by omega)
      · injection h with _ h; injection h with _ h; cases h
theorem once_wrap (a b H I : Nat) (ha : a + b ≤ H + I + 1) (hH : H ≤ 130) (hI : I ≤ 520) : wrap64 (wrap64 (wrap64 ((a : Int) + (b : Int)) - (H : Int)) - (I : Int)) = (a : Int) + (b : Int) - (H : Int) - (I : Int) := by
  have w1 : wrap64 ((a : Int) + (b : Int)) = (a : Int) + (b : Int) := by unfold wrap64; omega
  have w2 : wrap64 ((a : Int) + (b : Int) - (H : Int)) = (a : Int) + (b : Int) - (H : Int) := by unfold wrap64; omega
  have w3 : wrap64 ((a : Int) + (b : Int) - (H : Int) - (I : Int)) = (a : Int) + (b : Int) - (H : Int) - (I : Int) := by unfold wrap64; omega
  rw [w1, w2, w3]
theorem once_eq (F C : Int) (H : List Hall) (I : List Ins) (kind fl car : Int) (hC : i64 C) (hf : i64 fl) (K : Nat) (hK : 3000 ≤ K) : newellaw19_CallOnce.f K F C H I kind fl car = some true := by
  have hj : ∀ b, newellaw19_CallOnce.j0 K b = some b := fun b => by
    obtain ⟨k, rfl⟩ : ∃ k, K = k + 1 := ⟨K - 1, by omega⟩
    rfl
  have haw := awake_eq K (by omega)
  have hpr : ∀ H I, H.length < 900000000 → I.length < 900000000 → call_Press.f K F C H I kind fl car = some (pressS F C H I kind fl car) := fun H I h1 h2 => by
    obtain ⟨k, rfl⟩ : ∃ k, K = k + 2 := ⟨K - 2, by omega⟩
    exact press_eq k F C H I kind fl car h1 h2 hC hf
  have hch : ∀ H I, H.length < 900000000 → I.length < 900000000 → okB F C H I = true → call_Check.f K F C H I = some 0 := fun H I h1 h2 h3 => by
    obtain ⟨k, rfl⟩ : ∃ k, K = k + 1 := ⟨K - 1, by omega⟩
    rw [check_eq k F C H I h1 h2 hC, if_pos h3]
  unfold newellaw19_CallOnce.f
  rcases few_eq H I with hw | ⟨hw, hH, hI⟩
  · rw [hw, haw]
    rfl
  · rw [hw, own_eq H I (by omega) (by omega)]
    simp only [Option.bind_some, if_true]
    rw [hpr H I (by omega) (by omega)]
    simp only [Option.bind_some, haw, if_true]
    obtain ⟨r, hp⟩ : ∃ r, pressS F C H I kind fl car = r := ⟨_, rfl⟩
    rw [hp]
    obtain ⟨a, b, e⟩ := r
    simp only []
    by_cases he : e = 0
    · rw [he] at hp ⊢
      obtain ⟨ok2, hp2, hl⟩ := press_twice hp
      have hlen : a.length + b.length ≤ H.length + I.length + 1 := by
        rcases hl with ⟨h1, h2⟩ | h
        · rw [h1, h2]; omega
        · omega
      rw [hpr a b (by omega) (by omega), hp2]
      simp only [Option.bind_some, if_true]
      obtain ⟨D, hD⟩ : ∃ D, (a.length : Int) + (b.length : Int) - (H.length : Int) - (I.length : Int) = D := ⟨_, rfl⟩
      rw [once_wrap _ _ _ _ hlen hH hI, hD]
      rw [same_refl K a b (by omega), hch a b (by omega) (by omega) ok2]
      simp only [Option.bind_some, if_true]
      rcases hl with ⟨h1, h2⟩ | h
      · rw [h1, h2] at hD ⊢
        rw [if_neg (by omega), if_pos (by omega), same_refl K H I (by omega)]
        simp only [Option.bind_some, hj]
      · rw [if_pos (by omega), hj]
    · rw [if_neg he]
end Go.Proofs.Ytjehhhlhalkieaa.Call
