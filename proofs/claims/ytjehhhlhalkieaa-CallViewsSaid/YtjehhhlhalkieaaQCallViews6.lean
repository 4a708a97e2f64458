/- Texts of this claim, one behind the other: what the law's functions come to, walked (printed by a program, with the words that the print uses), and what that is, in plain Lean. No conditions of their own. -/
import Derived.Test.YtjehhhlhalkieaaQCallViews5
namespace Go.Proofs.Ytjehhhlhalkieaa.C
open Go.RowKit Go.Proofs.YtjehhhlhalkieaaW.PrintWords Go.Proofs.YtjehhhlhalkieaaW.PrintLast Go.Proofs.YtjehhhlhalkieaaW.PrintMore
attribute [local go_sem] max2_int min2_int max_two min_two max_three min_three max_four min_four
set_option linter.unusedVariables false
set_option linter.unusedSimpArgs false
def call_Give.f (k : Nat) (a0_0 : Int) (a0_1 : Int) (l1_0 : List (S56)) (l1_1 : List (S62)) (a2_0 : Int) (a2_1 : Int) (a2_2 : Int) : Option ((List (S56)) × (List (S62)) × Int) := (hallP.f a2_0 a2_1 a2_2 a0_0 a0_1).bind fun t109 => ((call_change.f (setP_H.f a2_0 a2_1 a2_2 l1_0) (woP_I.f (-2) 0 l1_1) k a0_0 a0_1 l1_0 l1_1 t109 0 a2_0 a2_1 a2_2 0 (-2) 0).bind fun bt110 => (some (bt110.1, bt110.2.1, bt110.2.2)))
theorem call_Give.mono : ∀ a0 a1 a2 a3 a4 a5 a6 k, LeO (call_Give.f k a0 a1 a2 a3 a4 a5 a6) (call_Give.f (k + 1) a0 a1 a2 a3 a4 a5 a6) := by
 intro a0 a1 a2 a3 a4 a5 a6 k
 unfold call_Give.f
 repeat' first
   | (with_reducible exact call_change.mono _ _ _ _ _ _ _ _ _ _ _ _ _ _ _)
   | (with_reducible exact LeO.refl _)
   | (with_reducible exact LeO.none _)
   | (with_reducible refine LeO.ite ?_ ?_)
   | (with_reducible refine LeO.bind ?_ (fun _ => ?_))
   | exact call_change.mono _ _ _ _ _ _ _ _ _ _ _ _ _ _ _
   | exact LeO.none _
   | refine LeO.ite ?_ ?_
   | refine LeO.bind ?_ (fun _ => ?_)
def call_Give.T1 : Bool × List (List Nat × List Nat) := (true, [([], []), ([], []), ([], []), ([2], [2]), ([], []), ([3, 4, 3], [3, 4]), ([], []), ([6, 5], [6]), ([7], [7]), ([], []), ([], []), ([10, 7], [10]), ([11], [11]), ([], []), ([0, 1, 5, 8, 9, 12, 13, 11], [0, 1, 5, 8, 9, 12, 13]), ([14], [14]), ([14], [14]), ([15, 14, 0, 1, 2, 3, 4, 5, 6, 7, 8, 9, 10, 11, 12, 13, 14, 15, 16], [15]), ([16, 17, 0, 1, 2, 3, 4, 5, 6, 7, 8, 9, 10, 11, 12, 13, 14, 15, 16, 17], [16])])
def call_Give.B1 : List Nat := [0, 0, 0, 4, 0, 28, 0, 124, 252, 0, 0, 1276, 3324, 0, 16383, 32767, 32767, 131071, 262143]
theorem call_Give.tab1 : rtab .any (opsOf Try.f24 1) = call_Give.T1 := by kernel_rfl
theorem call_Give.bits1 : waitsOk call_Give.T1.2 call_Give.B1 = true := by kernel_rfl
set_option maxHeartbeats 8000000 in
set_option maxRecDepth 100000 in
theorem call_Give.calls (k : Nat) (a0_0 : Int) (a0_1 : Int) (A1_0 : Option Addr) (c1_0 : Nat) (l1_0 : List (S56)) (A1_1 : Option Addr) (c1_1 : Nat) (l1_1 : List (S62)) (a2_0 : Int) (a2_1 : Int) (a2_2 : Int) (r1 : List (S56)) (r2 : List (S62)) (r3 : Int) (w : World) (hr1_0 : Kd.C k56 w A1_0 l1_0.length l1_0) (hc1_0 : l1_0.length ≤ c1_0) (hr1_1 : Kd.C k62 w A1_1 l1_1.length l1_1) (hc1_1 : l1_1.length ≤ c1_1) (h : call_Give.f k a0_0 a0_1 l1_0 l1_1 a2_0 a2_1 a2_2 = some (r1, r2, r3)) :
  Calls Try.prog 24 #[.agg #[.int .i64 a0_0, .int .i64 a0_1], .agg #[.slice A1_0 l1_0.length c1_0, .slice A1_1 l1_1.length c1_1], .agg #[.int .i64 a2_0, .int .i64 a2_1, .int .i64 a2_2]] w fun e w' => ∃ v0_ v1_ : Value, e = .returned (.tuple #[.agg #[v0_, v1_], .int .i64 r3]) ∧ Kd.R k56 56 w' w.heap.size (fun _ => True) v0_ r1 ∧ Kd.R k62 62 w' w.heap.size (fun _ => True) v1_ r2 ∧ Below w.heap.size w w' := by
 have hu23 := Try.underlying23
 have hu27 := Try.underlying27
 have hu56 := Try.underlying56
 have hu62 := Try.underlying62
 have HR1_0 := Aside0.mk hr1_0
 have HC1_0 := Aside0.mk hc1_0
 clear hr1_0 hc1_0
 have HR1_1 := Aside0.mk hr1_1
 have HC1_1 := Aside0.mk hc1_1
 clear hr1_1 hc1_1
 have HB := Aside0.mk (Below.refl w.heap.size w)
 have H : ((hallP.f a2_0 a2_1 a2_2 a0_0 a0_1).bind fun t109 => ((call_change.f (setP_H.f a2_0 a2_1 a2_2 l1_0) (woP_I.f (-2) 0 l1_1) k a0_0 a0_1 l1_0 l1_1 t109 0 a2_0 a2_1 a2_2 0 (-2) 0).bind fun bt110 => (some (bt110.1, bt110.2.1, bt110.2.2)))) = some (r1, r2, r3) := h
 clear h
 replace H := Option.bind_eq_some_iff.mp H
 obtain ⟨t109, A40, H⟩ := H
 replace H : ((call_change.f (setP_H.f a2_0 a2_1 a2_2 l1_0) (woP_I.f (-2) 0 l1_1) k a0_0 a0_1 l1_0 l1_1 t109 0 a2_0 a2_1 a2_2 0 (-2) 0).bind fun bt110 => (some (bt110.1, bt110.2.1, bt110.2.2))) = some (r1, r2, r3) := H
 have A4 := Aside0.mk A40
 clear A40
 replace H := Option.bind_eq_some_iff.mp H
 obtain ⟨⟨t110, t113, t116⟩, A50, H⟩ := H
 replace H : (some (t110, t113, t116)) = some (r1, r2, r3) := H
 have A5 := Aside0.mk A50
 clear A50
 simp only [Option.some.injEq, Prod.mk.injEq] at H
 obtain ⟨rfl, rfl, rfl⟩ := H
 go_enter Try.func24, Try.ntmps24
 try go_wp2_with (first | ((with_reducible refine gate_dst (N := 3) rfl ?_); refine box_event ?hg (N := 3) ?hd (cs := #[.int .i64 a0_0, .int .i64 a0_1]) (t := 23) ?hr ?_; (case hd => rfl); (case hg => rfl); (case hr => go_simp <;> rfl); intro gb105 hg w6 hbox hb; have BK105 := Aside0.mk hbox; have GW105 := sGe hg; have GE105 := sGe hg; replace HB := sHb hb; clear hb hbox hg) | ((with_reducible refine gate_dst (N := 4) rfl ?_); refine box_event ?hg (N := 4) ?hd (cs := #[.slice A1_0 l1_0.length c1_0, .slice A1_1 l1_1.length c1_1]) (t := 27) ?hr ?_; (case hd => rfl); (case hg => rfl); (case hr => go_simp <;> rfl); intro gb106 hg w7 hbox hb; have BK106 := Aside0.mk hbox; have GW106 := sGe hg; have GE106 := sGe hg; have NB105_106 := sNl BK105 hg; have NB106_105 := sNg BK105 hg; replace BK105 := sBk BK105 hb; replace HB := sHb hb; clear hb hbox hg) | ((with_reducible refine gate_dst (N := 5) rfl ?_); refine box_event ?hg (N := 5) ?hd (cs := #[.int .i64 a2_0, .int .i64 a2_1, .int .i64 a2_2]) (t := 56) ?hr ?_; (case hd => rfl); (case hg => rfl); (case hr => go_simp <;> rfl); intro gb107 hg w8 hbox hb; have BK107 := Aside0.mk hbox; have GW107 := sGe hg; have GE107 := sGe hg; have NB105_107 := sNl BK105 hg; have NB107_105 := sNg BK105 hg; have NB106_107 := sNl BK106 hg; have NB107_106 := sNg BK106 hg; replace BK105 := sBk BK105 hb; replace BK106 := sBk BK106 hb; replace HB := sHb hb; clear hb hbox hg) | ((with_reducible refine gate_dst (N := 6) rfl ?_); refine box_event ?hg (N := 6) ?hd (cs := #[.slice none 0 0, .slice none 0 0]) (t := 27) ?hr ?_; (case hd => rfl); (case hg => rfl); (case hr => go_simp <;> rfl); intro gb108 hg w9 hbox hb; have BK108 := Aside0.mk hbox; have GW108 := sGe hg; have GE108 := sGe hg; have NB105_108 := sNl BK105 hg; have NB108_105 := sNg BK105 hg; have NB106_108 := sNl BK106 hg; have NB108_106 := sNg BK106 hg; have NB107_108 := sNl BK107 hg; have NB108_107 := sNg BK107 hg; replace BK105 := sBk BK105 hb; replace BK106 := sBk BK106 hb; replace BK107 := sBk BK107 hb; replace HB := sHb hb; clear hb hbox hg))
 replace BK105 := Aside0.mk (blk_drew BK105.out)
 replace BK106 := Aside0.mk (blk_drew BK106.out)
 replace BK107 := Aside0.mk (blk_drew BK107.out)
 replace BK108 := Aside0.mk (blk_drew BK108.out)
 replace HB := Aside0.mk (below_drew1 HB.out)
 refine start_ (n := 19) (S := fun w' => w'.cell? ⟨gb105, 0, none⟩ = some (.int .i64 a0_0) ∧ w'.cell? ⟨gb105, 1, none⟩ = some (.int .i64 a0_1) ∧ w'.cell? ⟨gb106, 0, none⟩ = some (.slice A1_0 l1_0.length c1_0) ∧ w'.cell? ⟨gb106, 1, none⟩ = some (.slice A1_1 l1_1.length c1_1) ∧ w'.cell? ⟨gb107, 0, none⟩ = some (.int .i64 a2_0) ∧ w'.cell? ⟨gb107, 1, none⟩ = some (.int .i64 a2_1) ∧ w'.cell? ⟨gb107, 2, none⟩ = some (.int .i64 a2_2)) (ds := []) #[false, false, false, false, false, false, false, false, false, false, false, false, false, false, false, false, false, false, false] (by kernel_rfl) rfl rfl ⟨(blk_cell BK105.out 0).trans rfl, (blk_cell BK105.out 1).trans rfl, (blk_cell BK106.out 0).trans rfl, (blk_cell BK106.out 1).trans rfl, (blk_cell BK107.out 0).trans rfl, (blk_cell BK107.out 1).trans rfl, (blk_cell BK107.out 2).trans rfl⟩ (fun hHeld => ?_); refine with_tabW call_Give.tab1 call_Give.bits1 (fun HT_ HW_ => ?_)
 generalize w9.drew = w10 at BK105 BK106 BK107 BK108 HB hHeld ⊢
 refine pure_ (i := 13) (N := some 21) (v := ?_) (a' := ?_) (bN 19 8192) rfl rfl (any_of HT_.out (by kernel_rfl)) (fun _ _ _ h => h) (Or.inl ⟨by rfl, ?_⟩) ?_ ?_
 rotate_left
 ·intro w'
  go_simp
  with_reducible rfl
 rotate_left
 ·simp only [Act.put, List.setIfInBounds_toArray, List.set_cons_zero, List.set_cons_succ, i64_w, i32_w]
  rfl
 refine take_ (i := 0) (N := some 8) (v := ?_) (a' := ?_) (bN 19 8193) rfl rfl (take_ofW HT_.out HW_.out (by kernel_rfl)) (fun _ _ _ h => h) (Or.inl ⟨by rfl, ?_⟩) hHeld ?_ ?_
 rotate_left
 ·rintro w' ⟨s0, s1, s2, s3, s4, s5, s6⟩
  go_simp
  with_reducible rfl
 rotate_left
 ·simp only [Act.put, List.setIfInBounds_toArray, List.set_cons_zero, List.set_cons_succ, i64_w, i32_w]
  rfl
 refine take_ (i := 1) (N := some 9) (v := ?_) (a' := ?_) (bN 19 8195) rfl rfl (take_ofW HT_.out HW_.out (by kernel_rfl)) (fun _ _ _ h => h) (Or.inl ⟨by rfl, ?_⟩) hHeld ?_ ?_
 rotate_left
 ·rintro w' ⟨s0, s1, s2, s3, s4, s5, s6⟩
  go_simp
  with_reducible rfl
 rotate_left
 ·simp only [Act.put, List.setIfInBounds_toArray, List.set_cons_zero, List.set_cons_succ, i64_w, i32_w]
  rfl
 refine take_ (i := 2) (N := some 10) (v := ?_) (a' := ?_) (bN 19 8199) rfl rfl (take_ofW HT_.out HW_.out (by kernel_rfl)) (fun _ _ _ h => h) (Or.inl ⟨by rfl, ?_⟩) hHeld ?_ ?_
 rotate_left
 ·rintro w' ⟨s0, s1, s2, s3, s4, s5, s6⟩
  go_simp
  with_reducible rfl
 rotate_left
 ·simp only [Act.put, List.setIfInBounds_toArray, List.set_cons_zero, List.set_cons_succ, i64_w, i32_w]
  rfl
 refine take_ (i := 4) (N := some 12) (v := ?_) (a' := ?_) (bN 19 8215) rfl rfl (take_ofW HT_.out HW_.out (by kernel_rfl)) (fun _ _ _ h => h) (Or.inl ⟨by rfl, ?_⟩) hHeld ?_ ?_
 rotate_left
 ·rintro w' ⟨s0, s1, s2, s3, s4, s5, s6⟩
  go_simp
  with_reducible rfl
 rotate_left
 ·simp only [Act.put, List.setIfInBounds_toArray, List.set_cons_zero, List.set_cons_succ, i64_w, i32_w]
  rfl
 refine take_ (i := 6) (N := some 14) (v := ?_) (a' := ?_) (bN 19 8279) rfl rfl (take_ofW HT_.out HW_.out (by kernel_rfl)) (fun _ _ _ h => h) (Or.inl ⟨by rfl, ?_⟩) hHeld ?_ ?_
 rotate_left
 ·rintro w' ⟨s0, s1, s2, s3, s4, s5, s6⟩
  go_simp
  with_reducible rfl
 rotate_left
 ·simp only [Act.put, List.setIfInBounds_toArray, List.set_cons_zero, List.set_cons_succ, i64_w, i32_w]
  rfl
 refine take_ (i := 9) (N := some 17) (v := ?_) (a' := ?_) (bN 19 8791) rfl rfl (take_ofW HT_.out HW_.out (by kernel_rfl)) (fun _ _ _ h => h) (Or.inl ⟨by rfl, ?_⟩) hHeld ?_ ?_
 rotate_left
 ·rintro w' ⟨s0, s1, s2, s3, s4, s5, s6⟩
  go_simp
  with_reducible rfl
 rotate_left
 ·simp only [Act.put, List.setIfInBounds_toArray, List.set_cons_zero, List.set_cons_succ, i64_w, i32_w]
  rfl
 refine take_ (i := 10) (N := some 18) (v := ?_) (a' := ?_) (bN 19 9815) rfl rfl (take_ofW HT_.out HW_.out (by kernel_rfl)) (fun _ _ _ h => h) (Or.inl ⟨by rfl, ?_⟩) hHeld ?_ ?_
 rotate_left
 ·rintro w' ⟨s0, s1, s2, s3, s4, s5, s6⟩
  go_simp
  with_reducible rfl
 rotate_left
 ·simp only [Act.put, List.setIfInBounds_toArray, List.set_cons_zero, List.set_cons_succ, i64_w, i32_w]
  rfl
 refine one_ (i := 3) (N := some 11) (bN 19 9823) rfl rfl (one_of HT_.out (by kernel_rfl)) (by decide) (fun K hK => ?_)
 refine goes_ Try.func34 (by kernel_rfl) rfl #[.agg #[.int .i64 a0_0, .int .i64 a0_1]] (by rfl) rfl rfl (by (try simp only [List.map_toArray, List.map_cons, List.map_nil]); first | done | rfl) ?_
 refine (predH_calls a0_0 a0_1 _).mono ?_
 rintro e w901 ⟨gp901, rfl, hgp, hgw, hb⟩
 have BKP901 := Aside0.mk hgp
 clear hgp hgw
 refine ⟨_, rfl, ?_⟩
 replace BK105 := sBk BK105 hb
 replace BK106 := sBk BK106 hb
 replace BK107 := sBk BK107 hb
 replace BK108 := sBk BK108 hb
 replace HB := sHb hb
 (try clear hb)
 (try clear hb2)
 (try clear hk)
 (try clear hi)
 refine hK.out _ _ ⟨(blk_cell BK105.out 0).trans rfl, (blk_cell BK105.out 1).trans rfl, (blk_cell BK106.out 0).trans rfl, (blk_cell BK106.out 1).trans rfl, (blk_cell BK107.out 0).trans rfl, (blk_cell BK107.out 1).trans rfl, (blk_cell BK107.out 2).trans rfl⟩ (fun hHeld => ?_)
 clear hK K
 refine norm_ (a' := ?_) ?_ ?_
 rotate_left
 ·show Act.put _ (some 11) _ = _
  simp only [Act.put, List.setIfInBounds_toArray, List.set_cons_zero, List.set_cons_succ, i64_w, i32_w]
  rfl
 refine one_ (i := 5) (N := some 13) (bN 19 9855) rfl rfl (one_of HT_.out (by kernel_rfl)) (by decide) (fun K hK => ?_)
 refine goesV_ Try.func61 (by kernel_rfl) rfl #[] #[.pointer (some ⟨gp901, 0, none⟩)] #[.agg #[.int .i64 a2_0, .int .i64 a2_1, .int .i64 a2_2]] #[.agg #[.int .i64 a2_0, .int .i64 a2_1, .int .i64 a2_2], .pointer (some ⟨gp901, 0, none⟩)] rfl (by rfl) rfl rfl rfl (by simp only [List.map_toArray, List.map_cons, List.map_nil] <;> rfl) ?_
 refine (hall_calls a0_0 a0_1 a2_0 a2_1 a2_2 t109 _ (Option.some.inj A4.out) gp901 BKP901.out).mono ?_
 rintro e w11 ⟨rfl, hb⟩
 refine ⟨_, rfl, ?_⟩
 replace BK105 := sBk BK105 hb
 replace BK106 := sBk BK106 hb
 replace BK107 := sBk BK107 hb
 replace BK108 := sBk BK108 hb
 replace HB := sHb hb
 (try clear hb)
 (try clear hb2)
 (try clear hk)
 (try clear hi)
 refine hK.out _ _ ⟨(blk_cell BK105.out 0).trans rfl, (blk_cell BK105.out 1).trans rfl, (blk_cell BK106.out 0).trans rfl, (blk_cell BK106.out 1).trans rfl, (blk_cell BK107.out 0).trans rfl, (blk_cell BK107.out 1).trans rfl, (blk_cell BK107.out 2).trans rfl⟩ (fun hHeld => ?_)
 clear hK K
 refine norm_ (a' := ?_) ?_ ?_
 rotate_left
 ·show Act.put _ (some 13) _ = _
  simp only [Act.put, List.setIfInBounds_toArray, List.set_cons_zero, List.set_cons_succ, i64_w, i32_w]
  rfl
 refine one_ (i := 7) (N := some 15) (bN 19 9983) rfl rfl (one_of HT_.out (by kernel_rfl)) (by decide) (fun K hK => ?_)
 refine goes_ Try.func30 (by kernel_rfl) rfl #[.agg #[.slice A1_0 l1_0.length c1_0, .slice A1_1 l1_1.length c1_1]] (by rfl) rfl rfl (by (try simp only [List.map_toArray, List.map_cons, List.map_nil]); first | done | rfl) ?_
 refine (rowH_calls A1_0 A1_1 l1_0.length l1_1.length c1_0 c1_1 _).mono ?_
 rintro e w902 ⟨rfl, hb⟩
 refine ⟨_, rfl, ?_⟩
 replace BK105 := sBk BK105 hb
 replace BK106 := sBk BK106 hb
 replace BK107 := sBk BK107 hb
 replace BK108 := sBk BK108 hb
 replace HB := sHb hb
 (try clear hb)
 (try clear hb2)
 (try clear hk)
 (try clear hi)
 refine hK.out _ _ ⟨(blk_cell BK105.out 0).trans rfl, (blk_cell BK105.out 1).trans rfl, (blk_cell BK106.out 0).trans rfl, (blk_cell BK106.out 1).trans rfl, (blk_cell BK107.out 0).trans rfl, (blk_cell BK107.out 1).trans rfl, (blk_cell BK107.out 2).trans rfl⟩ (fun hHeld => ?_)
 clear hK K
 refine norm_ (a' := ?_) ?_ ?_
 rotate_left
 ·show Act.put _ (some 15) _ = _
  simp only [Act.put, List.setIfInBounds_toArray, List.set_cons_zero, List.set_cons_succ, i64_w, i32_w]
  rfl
 refine pure_ (i := 8) (N := some 16) (v := ?_) (a' := ?_) (bN 19 10239) rfl rfl (any_of HT_.out (by kernel_rfl)) (fun _ _ _ h => h) (Or.inl ⟨by rfl, ?_⟩) ?_ ?_
 rotate_left
 ·intro w'
  go_simp
  with_reducible rfl
 rotate_left
 ·simp only [Act.put, List.setIfInBounds_toArray, List.set_cons_zero, List.set_cons_succ, i64_w, i32_w]
  rfl
 refine one_ (i := 11) (N := some 19) (bN 19 12287) rfl rfl (one_of HT_.out (by kernel_rfl)) (by decide) (fun K hK => ?_)
 refine goes_ Try.func32 (by kernel_rfl) rfl #[.agg #[.slice A1_0 l1_0.length c1_0, .slice A1_1 l1_1.length c1_1]] (by rfl) rfl rfl (by (try simp only [List.map_toArray, List.map_cons, List.map_nil]); first | done | rfl) ?_
 refine (rowI_calls A1_0 A1_1 l1_0.length l1_1.length c1_0 c1_1 _).mono ?_
 rintro e w903 ⟨rfl, hb⟩
 refine ⟨_, rfl, ?_⟩
 replace BK105 := sBk BK105 hb
 replace BK106 := sBk BK106 hb
 replace BK107 := sBk BK107 hb
 replace BK108 := sBk BK108 hb
 replace HB := sHb hb
 (try clear hb)
 (try clear hb2)
 (try clear hk)
 (try clear hi)
 refine hK.out _ _ ⟨(blk_cell BK105.out 0).trans rfl, (blk_cell BK105.out 1).trans rfl, (blk_cell BK106.out 0).trans rfl, (blk_cell BK106.out 1).trans rfl, (blk_cell BK107.out 0).trans rfl, (blk_cell BK107.out 1).trans rfl, (blk_cell BK107.out 2).trans rfl⟩ (fun hHeld => ?_)
 clear hK K
 refine norm_ (a' := ?_) ?_ ?_
 rotate_left
 ·show Act.put _ (some 19) _ = _
  simp only [Act.put, List.setIfInBounds_toArray, List.set_cons_zero, List.set_cons_succ, i64_w, i32_w]
  rfl
 refine pure_ (i := 12) (N := some 20) (v := ?_) (a' := ?_) (bN 19 16383) rfl rfl (any_of HT_.out (by kernel_rfl)) (fun _ _ _ h => h) (Or.inl ⟨by rfl, ?_⟩) ?_ ?_
 rotate_left
 ·intro w'
  go_simp
  with_reducible rfl
 rotate_left
 ·simp only [Act.put, List.setIfInBounds_toArray, List.set_cons_zero, List.set_cons_succ, i64_w, i32_w]
  rfl
 refine one_ (i := 14) (N := some 22) (bN 19 32767) rfl rfl (one_of HT_.out (by kernel_rfl)) (by decide) (fun K hK => ?_)
 refine goes_ Try.func28 (by kernel_rfl) rfl #[.agg #[.int .i64 a0_0, .int .i64 a0_1], .agg #[.slice A1_0 l1_0.length c1_0, .slice A1_1 l1_1.length c1_1], .bool t109, .func (.func 47) #[.agg #[.slice A1_0 l1_0.length c1_0, .func (.func 51) #[] #[]]] #[], .agg #[.int .i64 a2_0, .int .i64 a2_1, .int .i64 a2_2], .func (.func 36) #[.agg #[.slice A1_1 l1_1.length c1_1, .func (.func 57) #[] #[]]] #[], .agg #[.int .i64 (-2), .int .i64 0]] (by rfl) rfl rfl (by simp only [List.map_toArray, List.map_cons, List.map_nil] <;> rfl) ?_
 refine (call_change.calls _ _ k a0_0 a0_1 A1_0 c1_0 l1_0 A1_1 c1_1 l1_1 t109 0 a2_0 a2_1 a2_2 0 (-2) 0 t110 t113 t116 _ ?side1 ?side2 ?side3 ?side4 A5.out 47 Try.f47 (.agg #[.slice A1_0 l1_0.length c1_0, .func (.func 51) #[] #[]]) Try.func47 (by kernel_rfl) rfl (fun W t ht hb => setP_H_calls A1_0 c1_0 l1_0 _ _ _ t W (Kd.C_below (Kd.C_below HR1_0.out (by repeat (first | (with_reducible first | exact HB.out | apply below_alloc | apply pw_below_drewN | apply below_drew1) | exact HB.out | (refine below_set ?_ (Aside0.out (by assumption)))))) hb) HC1_0.out ht) 36 Try.f36 (.agg #[.slice A1_1 l1_1.length c1_1, .func (.func 57) #[] #[]]) Try.func36 (by kernel_rfl) rfl (fun W t ht hb => woP_I_calls A1_1 c1_1 l1_1 _ _ t W (Kd.C_below (Kd.C_below HR1_1.out (by repeat (first | (with_reducible first | exact HB.out | apply below_alloc | apply pw_below_drewN | apply below_drew1) | exact HB.out | (refine below_set ?_ (Aside0.out (by assumption)))))) hb) HC1_1.out ht)).mono ?_
 (case side1 => exact (Kd.C_below HR1_0.out HB.out))
 (case side2 => exact HC1_0.out)
 (case side3 => exact (Kd.C_below HR1_1.out HB.out))
 (case side4 => exact HC1_1.out)
 rintro e w12 ⟨v111, v114, rfl, ho0, ho1, hb⟩
 refine ⟨_, rfl, ?_⟩
 have HO112 := Aside0.mk (Kd.R_lower (Kd.R_newB ho0 (g := gb107) (o := .cells #[.int .i64 a2_0, .int .i64 a2_1, .int .i64 a2_2] 56 (0, 0)) BK107.out) (below_size HB.out))
 have HO115 := Aside0.mk (Kd.R_lower ho1 (below_size HB.out))
 replace BK105 := sBk BK105 hb
 replace BK106 := sBk BK106 hb
 replace BK107 := sBk BK107 hb
 replace BK108 := sBk BK108 hb
 replace HB := sHb hb
 (try clear hb)
 (try clear hb2)
 (try clear hk)
 (try clear hi)
 (try clear ho0)
 (try clear ho1)
 obtain ⟨Ao13, co13, eo13⟩ := Kd.R_slice HO112.out
 (first | subst eo13 | (injection eo13 with f1_ f2_ f3_; have f4_ := f1_.symm; have f5_ := f3_.symm; clear f1_ f2_ f3_; subst f4_; subst f5_))
 obtain ⟨Ao15, co15, eo15⟩ := Kd.R_slice HO115.out
 (first | subst eo15 | (injection eo15 with f1_ f2_ f3_; have f4_ := f1_.symm; have f5_ := f3_.symm; clear f1_ f2_ f3_; subst f4_; subst f5_))
 refine hK.out _ _ ⟨(blk_cell BK105.out 0).trans rfl, (blk_cell BK105.out 1).trans rfl, (blk_cell BK106.out 0).trans rfl, (blk_cell BK106.out 1).trans rfl, (blk_cell BK107.out 0).trans rfl, (blk_cell BK107.out 1).trans rfl, (blk_cell BK107.out 2).trans rfl⟩ (fun hHeld => ?_)
 clear hK K
 refine norm_ (a' := ?_) ?_ ?_
 rotate_left
 ·show Act.put _ (some 22) _ = _
  simp only [Act.put, List.setIfInBounds_toArray, List.set_cons_zero, List.set_cons_succ, i64_w, i32_w]
  rfl
 refine pure_ (i := 15) (N := some 23) (v := ?_) (a' := ?_) (bN 19 65535) rfl rfl (any_of HT_.out (by kernel_rfl)) (fun _ _ _ h => h) (Or.inl ⟨by rfl, ?_⟩) ?_ ?_
 rotate_left
 ·intro w'
  go_simp
  with_reducible rfl
 rotate_left
 ·simp only [Act.put, List.setIfInBounds_toArray, List.set_cons_zero, List.set_cons_succ, i64_w, i32_w]
  rfl
 refine pure_ (i := 16) (N := some 24) (v := ?_) (a' := ?_) (bN 19 131071) rfl rfl (any_of HT_.out (by kernel_rfl)) (fun _ _ _ h => h) (Or.inl ⟨by rfl, ?_⟩) ?_ ?_
 rotate_left
 ·intro w'
  go_simp
  with_reducible rfl
 rotate_left
 ·simp only [Act.put, List.setIfInBounds_toArray, List.set_cons_zero, List.set_cons_succ, i64_w, i32_w]
  rfl
 refine one_ (i := 17) (N := none) (bN 19 262143) rfl rfl (one_of HT_.out (by kernel_rfl)) (by decide) (fun K hK => ?_)
 have hs14 : w12.cell? ⟨gb108, 0, none⟩ = some (.slice none 0 0) := (blk_cell BK108.out 0).trans rfl
 have hfs14 := blk_frozen BK108.out 0
 have hns14_0 := NB105_108.out
 have hns14_1 := NB106_108.out
 have hns14_2 := NB107_108.out
 have hms14_0 := NB108_105.out
 have hms14_1 := NB108_106.out
 have hms14_2 := NB108_107.out
 have hs16 : w12.cell? ⟨gb108, 1, none⟩ = some (.slice none 0 0) := (blk_cell BK108.out 1).trans rfl
 have hfs16 := blk_frozen BK108.out 1
 have hns16_0 := NB105_108.out
 have hns16_1 := NB106_108.out
 have hns16_2 := NB107_108.out
 have hms16_0 := NB108_105.out
 have hms16_1 := NB108_106.out
 have hms16_2 := NB108_107.out
 refine skip_ (w1 := ?_) (by rfl) rfl ?_ ?_
 rotate_left
 ·go_simp
  rfl
 refine hK.out _ _ ⟨((cell_far (p := ⟨gb108, _, none⟩) NB105_108.out _).trans (((cell_far (p := ⟨gb108, _, none⟩) NB105_108.out _).trans (hHeld.1)))), ((cell_far (p := ⟨gb108, _, none⟩) NB105_108.out _).trans (((cell_far (p := ⟨gb108, _, none⟩) NB105_108.out _).trans (hHeld.2.1)))), ((cell_far (p := ⟨gb108, _, none⟩) NB106_108.out _).trans (((cell_far (p := ⟨gb108, _, none⟩) NB106_108.out _).trans (hHeld.2.2.1)))), ((cell_far (p := ⟨gb108, _, none⟩) NB106_108.out _).trans (((cell_far (p := ⟨gb108, _, none⟩) NB106_108.out _).trans (hHeld.2.2.2.1)))), ((cell_far (p := ⟨gb108, _, none⟩) NB107_108.out _).trans (((cell_far (p := ⟨gb108, _, none⟩) NB107_108.out _).trans (hHeld.2.2.2.2.1)))), ((cell_far (p := ⟨gb108, _, none⟩) NB107_108.out _).trans (((cell_far (p := ⟨gb108, _, none⟩) NB107_108.out _).trans (hHeld.2.2.2.2.2.1)))), ((cell_far (p := ⟨gb108, _, none⟩) NB107_108.out _).trans (((cell_far (p := ⟨gb108, _, none⟩) NB107_108.out _).trans (hHeld.2.2.2.2.2.2))))⟩ (fun hHeld => ?_)
 clear hK K
 refine pure_ (i := 18) (N := some 7) (v := ?_) (a' := ?_) (bN 19 524287) rfl rfl (any_of HT_.out (by kernel_rfl)) (fun _ _ _ h => h) (Or.inl ⟨by rfl, ?_⟩) ?_ ?_
 rotate_left
 ·intro w'
  go_simp
  with_reducible rfl
 rotate_left
 ·simp only [Act.put, List.setIfInBounds_toArray, List.set_cons_zero, List.set_cons_succ, i64_w, i32_w]
  rfl
 refine done_ (done_of HT_.out (by kernel_rfl)) ?_
 try go_wp2
 refine bodyPost_ret (results_ct rfl _ _ gb108 27 #[.slice Ao13 t110.length co13, .slice Ao15 t113.length co15] (0, 0) _ rfl (by refine blk_put (cs := #[.slice Ao13 t110.length co13, .slice none 0 0]) ?_ 1 _ rfl; refine blk_put (cs := #[.slice none 0 0, .slice none 0 0]) ?_ 0 _ rfl; exact BK108.out) Try.underlying27 rfl (by kernel_rfl)) rfl ?_
 exact ⟨_, _, by first | rfl | (simp [errW_none, errW_some] <;> rfl) | (simp [*, errW_none, errW_some] <;> rfl), by (with_reducible repeat (first | apply Kd.R_alloc | apply Kd.R_drewN | apply Kd.R_drew)); exact Kd.R_mono (Kd.R_far (Kd.R_far (Kd.R_types HO112.out BK108.out (by decide)) (fun _ hk => hk.2) _) (fun _ hk => hk.2) _) (fun _ hk => trivial), by (with_reducible repeat (first | apply Kd.R_alloc | apply Kd.R_drewN | apply Kd.R_drew)); exact Kd.R_mono (Kd.R_far (Kd.R_far (Kd.R_types HO115.out BK108.out (by decide)) (fun _ hk => hk.2) _) (fun _ hk => hk.2) _) (fun _ hk => trivial), bel⟩
end Go.Proofs.Ytjehhhlhalkieaa.C
