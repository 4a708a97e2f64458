/- Texts of this claim, one behind the other: what the law's functions come to, walked (printed by a program, with the words that the print uses), and what that is, in plain Lean. No conditions of their own. -/
import Derived.Test.YtjehhhlhalkieaaQCallViews2
namespace Go.Proofs.Ytjehhhlhalkieaa.C
open Go.RowKit Go.Proofs.YtjehhhlhalkieaaW.PrintWords Go.Proofs.YtjehhhlhalkieaaW.PrintLast Go.Proofs.YtjehhhlhalkieaaW.PrintMore
attribute [local go_sem] max2_int min2_int max_two min_two max_three min_three max_four min_four
set_option linter.unusedVariables false
set_option linter.unusedSimpArgs false
mutual
def api_Hall_right.l0 : Nat → Int → List (S56) → Int → Int → List (S56) → Int → Option (Bool)
 | 0, _, _, _, _, _, _ => none
 | k + 1, x1, x8, x9, x10, x105000, x105001 => if x10 < x9 then (if 0 ≤ x10 then (if x10 < (x8.length : Int) then ((call_hall_1.f ((rd_T56 x8 x10).f0) ((rd_T56 x8 x10).f1) ((rd_T56 x8 x10).f2) x1).bind fun t107 => (if t107 = true then (if x10 > 0 then (if 0 ≤ (wrap64 (x10 - 1)) then (if (wrap64 (x10 - 1)) < (x105000.length : Int) then ((call_halls_1.f ((rd_T56 x105000 (wrap64 (x10 - 1))).f0) ((rd_T56 x105000 (wrap64 (x10 - 1))).f1) ((rd_T56 x105000 (wrap64 (x10 - 1))).f2) ((rd_T56 x8 x10).f0) ((rd_T56 x8 x10).f1) ((rd_T56 x8 x10).f2)).bind fun t109 => (api_Hall_right.j1 k x1 x8 x9 x10 (decide (t109 ≥ 0)) x105000 x105001)) else (none)) else (none)) else (api_Hall_right.j1 k x1 x8 x9 x10 false x105000 x105001)) else (api_Hall_right.j1 k x1 x8 x9 x10 true x105000 x105001))) else (none)) else (none)) else (some true)
def api_Hall_right.j1 : Nat → Int → List (S56) → Int → Int → Bool → List (S56) → Int → Option (Bool)
 | 0, _, _, _, _, _, _, _ => none
 | k + 1, x1, x8, x9, x10, x35, x105000, x105001 => if x35 = true then (some false) else (api_Hall_right.l0 k x1 x8 x9 (wrap64 (x10 + 1)) x105000 x105001)
end
def api_Hall_right.f (k : Nat) (l0_0 : List (S56)) (a0_1 : Int) (a1 : Int) : Option (Bool) := api_Hall_right.l0 k a1 l0_0 (l0_0.length : Int) 0 l0_0 a0_1
theorem api_Hall_right.mono_l : ∀ k, (∀ y0 y1 y2 y3 y4 y5, LeO (api_Hall_right.l0 k y0 y1 y2 y3 y4 y5) (api_Hall_right.l0 (k + 1) y0 y1 y2 y3 y4 y5)) ∧ (∀ y0 y1 y2 y3 y4 y5 y6, LeO (api_Hall_right.j1 k y0 y1 y2 y3 y4 y5 y6) (api_Hall_right.j1 (k + 1) y0 y1 y2 y3 y4 y5 y6))
 | 0 => ⟨fun _ _ _ _ _ _ r h => by simp [api_Hall_right.l0] at h, fun _ _ _ _ _ _ _ r h => by simp [api_Hall_right.j1] at h⟩
 | k + 1 => by
  obtain ⟨ih0, ih1⟩ := api_Hall_right.mono_l k
  refine ⟨?_, ?_⟩
  ·intro y0 y1 y2 y3 y4 y5
   unfold api_Hall_right.l0
   repeat' first
   | (with_reducible exact ih0 _ _ _ _ _ _)
   | (with_reducible exact ih1 _ _ _ _ _ _ _)
   | (with_reducible exact LeO.refl _)
   | (with_reducible exact LeO.none _)
   | (with_reducible refine LeO.ite ?_ ?_)
   | (with_reducible refine LeO.bind ?_ (fun _ => ?_))
   | exact ih0 _ _ _ _ _ _
   | exact ih1 _ _ _ _ _ _ _
   | exact LeO.none _
   | refine LeO.ite ?_ ?_
   | refine LeO.bind ?_ (fun _ => ?_)
  ·intro y0 y1 y2 y3 y4 y5 y6
   unfold api_Hall_right.j1
   repeat' first
   | (with_reducible exact ih0 _ _ _ _ _ _)
   | (with_reducible exact ih1 _ _ _ _ _ _ _)
   | (with_reducible exact LeO.refl _)
   | (with_reducible exact LeO.none _)
   | (with_reducible refine LeO.ite ?_ ?_)
   | (with_reducible refine LeO.bind ?_ (fun _ => ?_))
   | exact ih0 _ _ _ _ _ _
   | exact ih1 _ _ _ _ _ _ _
   | exact LeO.none _
   | refine LeO.ite ?_ ?_
   | refine LeO.bind ?_ (fun _ => ?_)
theorem api_Hall_right.mono : ∀ a0 a1 a2 k, LeO (api_Hall_right.f k a0 a1 a2) (api_Hall_right.f (k + 1) a0 a1 a2) := by
 intro a0 a1 a2 k
 obtain ⟨ih0, ih1⟩ := api_Hall_right.mono_l k
 unfold api_Hall_right.f
 repeat' first
   | (with_reducible exact ih0 _ _ _ _ _ _)
   | (with_reducible exact ih1 _ _ _ _ _ _ _)
   | (with_reducible exact LeO.refl _)
   | (with_reducible exact LeO.none _)
   | (with_reducible refine LeO.ite ?_ ?_)
   | (with_reducible refine LeO.bind ?_ (fun _ => ?_))
   | exact ih0 _ _ _ _ _ _
   | exact ih1 _ _ _ _ _ _ _
   | exact LeO.none _
   | refine LeO.ite ?_ ?_
   | refine LeO.bind ?_ (fun _ => ?_)
def api_Hall_right.T4 : Bool × List (List Nat × List Nat) := (true, [([], []), ([], []), ([0, 1], [0, 1]), ([2], [2]), ([3, 2], [3]), ([4], [4]), ([5, 4], [4, 5]), ([6, 4, 4], [4, 6]), ([7], [7]), ([8, 7], [7, 8]), ([7], [7]), ([10, 7], [7, 10]), ([7], [7]), ([12, 7], [7, 12]), ([11, 13, 7], [7, 11, 13]), ([14, 7], [7, 14]), ([7], [7]), ([9, 15, 16, 7, 7], [7, 9, 15, 16]), ([17, 7], [7, 17]), ([7, 18, 4], [4, 7, 18]), ([4, 19], [4, 19])])
def api_Hall_right.B4 : List Nat := [0, 0, 3, 7, 15, 31, 63, 127, 255, 511, 255, 1279, 255, 4351, 15615, 31999, 255, 131071, 262143, 524287, 1048575]
theorem api_Hall_right.tab4 : rtab .any (opsOf Try.f42 4) = api_Hall_right.T4 := by kernel_rfl
theorem api_Hall_right.bits4 : waitsOk api_Hall_right.T4.2 api_Hall_right.B4 = true := by kernel_rfl
set_option maxHeartbeats 8000000 in
set_option maxRecDepth 100000 in
theorem api_Hall_right.calls (k : Nat) (A0_0 : Option Addr) (c0_0 : Nat) (l0_0 : List (S56)) (a0_1 : Int) (a1 : Int) (r : Bool) (w : World) (hr0_0 : Kd.C k56 w A0_0 l0_0.length l0_0) (hc0_0 : l0_0.length ≤ c0_0) (h : api_Hall_right.f k l0_0 a0_1 a1 = some r) (gh_ : Nat) (hgh_ : w.heap[gh_]? = some (.cells #[.int .i64 (tok1 a1), .int .i64 (tok2 a1)] 23 (0, 0))) :
  Calls Try.prog 42 #[.agg #[.slice A0_0 l0_0.length c0_0, .func (.func 51) #[] #[]], .func (.func 61) #[] #[.pointer (some ⟨gh_, 0, none⟩)]] w fun e w' => e = .returned (.bool r) ∧ Below w.heap.size w w' := by
 have HCH := Aside0.mk hgh_
 clear hgh_
 have hu69 := Try.underlying69
 have hu56 := Try.underlying56
 have HR0_0 := Aside0.mk hr0_0
 have HC0_0 := Aside0.mk hc0_0
 clear hr0_0 hc0_0
 have HB := Aside0.mk (Below.refl w.heap.size w)
 have H : (api_Hall_right.l0 k a1 l0_0 (l0_0.length : Int) 0 l0_0 a0_1) = some r := h
 clear h
 have H' := Aside0.mk H
 clear H
 go_enter Try.func42, Try.ntmps42
 go_wp2_with (first | ((with_reducible refine gate_dst (N := 2) rfl ?_); refine box_event ?hg (N := 2) ?hd (cs := #[.slice A0_0 l0_0.length c0_0, .func (.func 51) #[] #[]]) (t := 69) ?hr ?_; (case hd => rfl); (case hg => rfl); (case hr => go_simp <;> rfl); intro gb104 hg w3 hbox hb; have BK104 := Aside0.mk hbox; have GW104 := sGe hg; have GE104 := sGe hg; replace HB := sHb hb; clear hb hbox hg; have hcz4_0 : w3.cell? ⟨gb104, 0, none⟩ = some (.slice A0_0 l0_0.length c0_0) := (blk_cell BK104.out 0).trans rfl; have hcz4_1 : w3.cell? ⟨gb104, 1, none⟩ = some (.func (.func 51) #[] #[]) := (blk_cell BK104.out 1).trans rfl; have hfz4_0 := blk_frozen BK104.out 0; have hfz4_1 := blk_frozen BK104.out 1))
 go_loopg [10] k (fun kq v10 w' => ∃ (x10_1 : Int), v10 = .int .i64 x10_1 ∧ Aside0 (api_Hall_right.l0 kq a1 l0_0 (l0_0.length : Int) x10_1 l0_0 a0_1 = some r) ∧ Aside0 (kq ≤ k) ∧ Aside0 (w'.heap[gb104]? = some (.cells #[(.slice A0_0 l0_0.length c0_0), .func (.func 51) #[] #[]] 69 (0, 0))) ∧ Aside0 (Below w.heap.size w w'))
 case atStart => exact ⟨(0), rfl, H', ⟨Nat.le_refl _⟩, BK104, HB⟩
 case round =>
  clear H'
  try clear p2
  try clear c4
  try clear hcz4_0
  try clear hcz4_1
  try clear hfz4_0
  try clear hfz4_1
  obtain ⟨x10_1, rfl, HA, HK1, BK104, HB⟩ := hrel
  cases gk with
  | zero => exact absurd HA.out (by simp [api_Hall_right.l0])
  | succ k1 =>
   have H := HA.out
   clear HA
   simp only [api_Hall_right.l0] at H
   by_cases c5 : x10_1 < (l0_0.length : Int)
   ·rw [if_pos c5] at H
    have c5b0 : decide (x10_1 < (l0_0.length : Int)) = true := decide_eq_true c5
    clear c5
    by_cases c6 : 0 ≤ x10_1
    ·rw [if_pos c6] at H
     have c6b0 : decide (0 ≤ x10_1) = true := decide_eq_true c6
     clear c6
     by_cases c7 : x10_1 < (l0_0.length : Int)
     ·rw [if_pos c7] at H
      have c7b0 : decide (x10_1 < (l0_0.length : Int)) = true := decide_eq_true c7
      clear c7
      have HC8 := Aside0.mk H
      clear H
      have p105 : 0 ≤ (x10_1 : Int) := of_decide_eq_true (by assumption)
      have q105 : x10_1 < (l0_0.length : Int) := of_decide_eq_true (by assumption)
      obtain ⟨ad105, e105, hx105_0, hx105_1, hx105_2⟩ := at_T56 HR0_0.out x10_1 p105 q105
      cases e105
      replace hx105_0 := (HB.out.cell (World.block_lt_of_cell? w _ hx105_0)).trans hx105_0
      replace hx105_1 := (HB.out.cell (World.block_lt_of_cell? w _ hx105_1)).trans hx105_1
      replace hx105_2 := (HB.out.cell (World.block_lt_of_cell? w _ hx105_2)).trans hx105_2
      replace p105 := eq_true p105
      replace q105 := eq_true q105
      go_upto_region 4 with (first | ((with_reducible refine gate_dst (N := 6) rfl ?_); refine box_event ?hg (N := 6) ?hd (cs := #[.int .i64 0, .int .i64 0, .int .i64 0]) (t := 56) ?hr ?_; (case hd => rfl); (case hg => rfl); (case hr => go_simp <;> rfl); intro gb106 hg w9 hbox hb; have BK106 := Aside0.mk hbox; have GW106 := sGe hg; have GE106 := sGe hg; have NB104_106 := sNl BK104 hg; have NB106_104 := sNg BK104 hg; replace BK104 := sBk BK104 hb; replace HB := sHb hb; clear hb hbox hg; have hnb10 := NB106_104.out; have hnc10 := NB104_106.out; have hcz11_0 : w9.cell? ⟨gb106, 0, none⟩ = some (.int .i64 0) := (blk_cell BK106.out 0).trans rfl; have hcz11_1 : w9.cell? ⟨gb106, 1, none⟩ = some (.int .i64 0) := (blk_cell BK106.out 1).trans rfl; have hcz11_2 : w9.cell? ⟨gb106, 2, none⟩ = some (.int .i64 0) := (blk_cell BK106.out 2).trans rfl; have hfz11_0 := blk_frozen BK106.out 0; have hfz11_1 := blk_frozen BK106.out 1; have hfz11_2 := blk_frozen BK106.out 2))
      (try simp only [Act.put, List.setIfInBounds_toArray, List.set_cons_zero, List.set_cons_succ])
      go_cut [35] (fun v35 wc => ∃ (kq : Nat) (x35_7 : Bool), v35 = .bool x35_7 ∧ Aside0 (api_Hall_right.j1 kq a1 l0_0 (l0_0.length : Int) x10_1 x35_7 l0_0 a0_1 = some r) ∧ Aside0 (kq ≤ k1) ∧ Aside0 (wc.heap[gb104]? = some (.cells #[(.slice (some ad105) l0_0.length c0_0), .func (.func 51) #[] #[]] 69 (0, 0))) ∧ Aside0 (wc.heap[gb106]? = some (.cells #[.int .i64 ((rd_T56 l0_0 x10_1).f0), .int .i64 ((rd_T56 l0_0 x10_1).f1), .int .i64 ((rd_T56 l0_0 x10_1).f2)] 56 (0, 0))) ∧ Aside0 (Below w.heap.size w wc))
      case first =>
       have H := HC8.out
       clear HC8
       replace H := Option.bind_eq_some_iff.mp H
       obtain ⟨t107, A120, H⟩ := H
       replace H : (if t107 = true then (if x10_1 > 0 then (if 0 ≤ (wrap64 (x10_1 - 1)) then (if (wrap64 (x10_1 - 1)) < (l0_0.length : Int) then ((call_halls_1.f ((rd_T56 l0_0 (wrap64 (x10_1 - 1))).f0) ((rd_T56 l0_0 (wrap64 (x10_1 - 1))).f1) ((rd_T56 l0_0 (wrap64 (x10_1 - 1))).f2) ((rd_T56 l0_0 x10_1).f0) ((rd_T56 l0_0 x10_1).f1) ((rd_T56 l0_0 x10_1).f2)).bind fun t109 => (api_Hall_right.j1 k1 a1 l0_0 (l0_0.length : Int) x10_1 (decide (t109 ≥ 0)) l0_0 a0_1)) else (none)) else (none)) else (api_Hall_right.j1 k1 a1 l0_0 (l0_0.length : Int) x10_1 false l0_0 a0_1)) else (api_Hall_right.j1 k1 a1 l0_0 (l0_0.length : Int) x10_1 true l0_0 a0_1)) = some r := H
       have A12 := Aside0.mk A120
       clear A120
       by_cases c13 : t107 = true
       ·subst c13
        have H1 : (if x10_1 > 0 then (if 0 ≤ (wrap64 (x10_1 - 1)) then (if (wrap64 (x10_1 - 1)) < (l0_0.length : Int) then ((call_halls_1.f ((rd_T56 l0_0 (wrap64 (x10_1 - 1))).f0) ((rd_T56 l0_0 (wrap64 (x10_1 - 1))).f1) ((rd_T56 l0_0 (wrap64 (x10_1 - 1))).f2) ((rd_T56 l0_0 x10_1).f0) ((rd_T56 l0_0 x10_1).f1) ((rd_T56 l0_0 x10_1).f2)).bind fun t109 => (api_Hall_right.j1 k1 a1 l0_0 (l0_0.length : Int) x10_1 (decide (t109 ≥ 0)) l0_0 a0_1)) else (none)) else (none)) else (api_Hall_right.j1 k1 a1 l0_0 (l0_0.length : Int) x10_1 false l0_0 a0_1)) = some r := by rw [if_pos rfl] at H; exact H
        clear H
        have H := H1
        clear H1
        by_cases c14 : x10_1 > 0
        ·rw [if_pos c14] at H
         have c14b0 : decide (0 < x10_1) = true := decide_eq_true c14
         clear c14
         (first | rw [c14b0] | (simp only [i64_w, i32_w]; rw [c14b0]) | skip)
         obtain ⟨ji15, hji15⟩ : ∃ j_ : Int, (wrap64 (x10_1 - 1)) = j_ := ⟨_, rfl⟩
         replace H : (if 0 ≤ (ji15) then (if (ji15) < (l0_0.length : Int) then ((call_halls_1.f ((rd_T56 l0_0 (ji15)).f0) ((rd_T56 l0_0 (ji15)).f1) ((rd_T56 l0_0 (ji15)).f2) ((rd_T56 l0_0 x10_1).f0) ((rd_T56 l0_0 x10_1).f1) ((rd_T56 l0_0 x10_1).f2)).bind fun t109 => (api_Hall_right.j1 k1 a1 l0_0 (l0_0.length : Int) x10_1 (decide (t109 ≥ 0)) l0_0 a0_1)) else (none)) else (none)) = some r := by first | (rw [hji15] at H; exact H) | (simp only [hji15] at H ⊢; exact H)
         (try rw [hji15] at A12)
         have hji15w : (IntKind.i64.wrap (x10_1 - 1)) = ji15 := (i64_w _).trans hji15
         by_cases c16 : 0 ≤ (ji15)
         ·rw [if_pos c16] at H
          have c16b0 : decide (0 ≤ (ji15)) = true := decide_eq_true c16
          clear c16
          by_cases c17 : (ji15) < (l0_0.length : Int)
          ·rw [if_pos c17] at H
           have c17b0 : decide ((ji15) < (l0_0.length : Int)) = true := decide_eq_true c17
           clear c17
           replace H := Option.bind_eq_some_iff.mp H
           obtain ⟨t109, A180, H⟩ := H
           replace H : (api_Hall_right.j1 k1 a1 l0_0 (l0_0.length : Int) x10_1 (decide (t109 ≥ 0)) l0_0 a0_1) = some r := H
           have A18 := Aside0.mk A180
           clear A180
           have H' := Aside0.mk H
           clear H
           try go_wp2
           have n0_ : Aside0 ((((w9.setCell ⟨gb106, 0, none⟩ (.int .i64 ((rd_T56 l0_0 x10_1).f0))).setCell ⟨gb106, 1, none⟩ (.int .i64 ((rd_T56 l0_0 x10_1).f1))).setCell ⟨gb106, 2, none⟩ (.int .i64 ((rd_T56 l0_0 x10_1).f2))).heap[gb104]? = some (.cells #[.slice (some ad105) l0_0.length c0_0, .func (.func 51) #[] #[]] 69 (0, 0))) := ⟨bka BK104⟩
           have n1_ : Aside0 ((((w9.setCell ⟨gb106, 0, none⟩ (.int .i64 ((rd_T56 l0_0 x10_1).f0))).setCell ⟨gb106, 1, none⟩ (.int .i64 ((rd_T56 l0_0 x10_1).f1))).setCell ⟨gb106, 2, none⟩ (.int .i64 ((rd_T56 l0_0 x10_1).f2))).heap[gb106]? = some (.cells #[.int .i64 ((rd_T56 l0_0 x10_1).f0), .int .i64 ((rd_T56 l0_0 x10_1).f1), .int .i64 ((rd_T56 l0_0 x10_1).f2)] 56 (0, 0))) := ⟨by refine blk_put (cs := #[.int .i64 ((rd_T56 l0_0 x10_1).f0), .int .i64 ((rd_T56 l0_0 x10_1).f1), .int .i64 0]) ?_ 2 _ rfl; refine blk_put (cs := #[.int .i64 ((rd_T56 l0_0 x10_1).f0), .int .i64 0, .int .i64 0]) ?_ 1 _ rfl; refine blk_put (cs := #[.int .i64 0, .int .i64 0, .int .i64 0]) ?_ 0 _ rfl; exact BK106.out⟩
           have n2_ : Aside0 (Below w.heap.size w (((w9.setCell ⟨gb106, 0, none⟩ (.int .i64 ((rd_T56 l0_0 x10_1).f0))).setCell ⟨gb106, 1, none⟩ (.int .i64 ((rd_T56 l0_0 x10_1).f1))).setCell ⟨gb106, 2, none⟩ (.int .i64 ((rd_T56 l0_0 x10_1).f2)))) := ⟨bel⟩
           (try clear BK104)
           (try clear BK106)
           (try clear HB)
           generalize (((w9.setCell ⟨gb106, 0, none⟩ (.int .i64 ((rd_T56 l0_0 x10_1).f0))).setCell ⟨gb106, 1, none⟩ (.int .i64 ((rd_T56 l0_0 x10_1).f1))).setCell ⟨gb106, 2, none⟩ (.int .i64 ((rd_T56 l0_0 x10_1).f2))) = w19 at n0_ n1_ n2_ ⊢
           have BK104 := n0_
           have BK106 := n1_
           have HB := n2_
           clear n0_ n1_ n2_
           replace BK104 := Aside0.mk (blk_drew BK104.out)
           replace BK106 := Aside0.mk (blk_drew BK106.out)
           replace HB := Aside0.mk (below_drew1 HB.out)
           have p108 : 0 ≤ ((ji15) : Int) := of_decide_eq_true (by assumption)
           have q108 : (ji15) < (l0_0.length : Int) := of_decide_eq_true (by assumption)
           obtain ⟨ad108, e108, hx108_0, hx108_1, hx108_2⟩ := at_T56 HR0_0.out (ji15) p108 q108
           have hw108_2 := hx108_2
           have hw108_1 := hx108_1
           have hw108_0 := hx108_0
           obtain rfl : ad105 = ad108 := (by injection e108)
           replace hx108_0 := (HB.out.cell (World.block_lt_of_cell? w _ hx108_0)).trans hx108_0
           replace hx108_1 := (HB.out.cell (World.block_lt_of_cell? w _ hx108_1)).trans hx108_1
           replace hx108_2 := (HB.out.cell (World.block_lt_of_cell? w _ hx108_2)).trans hx108_2
           replace p108 := eq_true p108
           replace q108 := eq_true q108
           refine start_ (n := 21) (S := fun w' => w'.cell? ⟨gb106, 0, none⟩ = some (.int .i64 ((rd_T56 l0_0 x10_1).f0)) ∧ w'.cell? ⟨gb106, 1, none⟩ = some (.int .i64 ((rd_T56 l0_0 x10_1).f1)) ∧ w'.cell? ⟨gb106, 2, none⟩ = some (.int .i64 ((rd_T56 l0_0 x10_1).f2)) ∧ w'.cell? ⟨gb104, 0, none⟩ = some (.slice (some ad105) l0_0.length c0_0) ∧ w'.cell? ⟨gb104, 1, none⟩ = some (.func (.func 51) #[] #[]) ∧ w'.cell? (ad105.add (((ji15)).toNat * 3)) = some (.int .i64 ((rd_T56 l0_0 (ji15)).f0)) ∧ w'.cell? ⟨(ad105.add (((ji15)).toNat * 3)).block, (ad105.add (((ji15)).toNat * 3)).off + 1, none⟩ = some (.int .i64 ((rd_T56 l0_0 (ji15)).f1)) ∧ w'.cell? ⟨(ad105.add (((ji15)).toNat * 3)).block, (ad105.add (((ji15)).toNat * 3)).off + 2, none⟩ = some (.int .i64 ((rd_T56 l0_0 (ji15)).f2))) (ds := []) #[false, false, false, false, false, false, false, false, false, false, false, false, false, false, false, false, false, false, false, false, false] (by kernel_rfl) rfl rfl ⟨(blk_cell BK106.out 0).trans rfl, (blk_cell BK106.out 1).trans rfl, (blk_cell BK106.out 2).trans rfl, (blk_cell BK104.out 0).trans rfl, (blk_cell BK104.out 1).trans rfl, ((HB.out.cell (World.block_lt_of_cell? w _ hw108_0)).trans hw108_0), ((HB.out.cell (World.block_lt_of_cell? w _ hw108_1)).trans hw108_1), ((HB.out.cell (World.block_lt_of_cell? w _ hw108_2)).trans hw108_2)⟩ (fun hHeld => ?_); refine with_tabW api_Hall_right.tab4 api_Hall_right.bits4 (fun HT_ HW_ => ?_)
           generalize w19.drew = w20 at BK104 BK106 HB hx108_0 hx108_1 hx108_2 hHeld ⊢
           refine pure_ (i := 0) (N := some 15) (v := ?_) (a' := ?_) (bN 21 1) rfl rfl (any_of HT_.out (by kernel_rfl)) (fun _ _ _ h => h) (Or.inl ⟨by rfl, ?_⟩) ?_ ?_
           rotate_left
           ·intro w'
            go_simp
            with_reducible rfl
           rotate_left
           ·simp only [Act.put, List.setIfInBounds_toArray, List.set_cons_zero, List.set_cons_succ, i64_w, i32_w]
            rfl
           refine take_ (i := 1) (N := some 16) (v := ?_) (a' := ?_) (bN 21 3) rfl rfl (take_ofW HT_.out HW_.out (by kernel_rfl)) (fun _ _ _ h => h) (Or.inl ⟨by rfl, ?_⟩) hHeld ?_ ?_
           rotate_left
           ·rintro w' ⟨s0, s1, s2, s3, s4, s5, s6, s7⟩
            go_simp
            with_reducible rfl
           rotate_left
           ·simp only [Act.put, List.setIfInBounds_toArray, List.set_cons_zero, List.set_cons_succ, i64_w, i32_w]
            rfl
           refine one_ (i := 2) (N := some 17) (bN 21 7) rfl rfl (one_of HT_.out (by kernel_rfl)) (by decide) (fun K hK => ?_)
           refine goesV_ Try.func61 (by kernel_rfl) rfl #[] #[.pointer (some ⟨gh_, 0, none⟩)] #[.agg #[.int .i64 ((rd_T56 l0_0 x10_1).f0), .int .i64 ((rd_T56 l0_0 x10_1).f1), .int .i64 ((rd_T56 l0_0 x10_1).f2)]] #[.agg #[.int .i64 ((rd_T56 l0_0 x10_1).f0), .int .i64 ((rd_T56 l0_0 x10_1).f1), .int .i64 ((rd_T56 l0_0 x10_1).f2)], .pointer (some ⟨gh_, 0, none⟩)] rfl (by rfl) rfl rfl rfl (by simp only [List.map_toArray, List.map_cons, List.map_nil] <;> rfl) ?_
           with_reducible refine (call_hall_1.calls ((rd_T56 l0_0 x10_1).f0) ((rd_T56 l0_0 x10_1).f1) ((rd_T56 l0_0 x10_1).f2) a1 true _ A12.out gh_ (blk_still HCH.out (by repeat (first | (with_reducible first | exact HB.out | apply below_alloc | apply pw_below_drewN | apply below_drew1) | exact HB.out | (refine below_set ?_ (Aside0.out (by assumption))))))).mono ?_
           rintro e w21 ⟨rfl, hb⟩
           refine ⟨_, rfl, ?_⟩
           replace BK104 := sBk BK104 hb
           replace BK106 := sBk BK106 hb
           replace HB := sHb hb
           (try clear hb)
           (try clear hb2)
           (try clear hk)
           (try clear hi)
           refine hK.out _ _ ⟨(blk_cell BK106.out 0).trans rfl, (blk_cell BK106.out 1).trans rfl, (blk_cell BK106.out 2).trans rfl, (blk_cell BK104.out 0).trans rfl, (blk_cell BK104.out 1).trans rfl, ((HB.out.cell (World.block_lt_of_cell? w _ hw108_0)).trans hw108_0), ((HB.out.cell (World.block_lt_of_cell? w _ hw108_1)).trans hw108_1), ((HB.out.cell (World.block_lt_of_cell? w _ hw108_2)).trans hw108_2)⟩ (fun hHeld => ?_)
           clear hK K
           refine norm_ (a' := ?_) ?_ ?_
           rotate_left
           ·show Act.put _ (some 17) _ = _
            simp only [Act.put, List.setIfInBounds_toArray, List.set_cons_zero, List.set_cons_succ, i64_w, i32_w]
            rfl
           refine pure_ (i := 3) (N := some 18) (v := ?_) (a' := ?_) (bN 21 15) rfl rfl (any_of HT_.out (by kernel_rfl)) (fun _ _ _ h => h) (Or.inl ⟨by rfl, ?_⟩) ?_ ?_
           rotate_left
           ·intro w'
            go_simp
            with_reducible rfl
           rotate_left
           ·simp only [Act.put, List.setIfInBounds_toArray, List.set_cons_zero, List.set_cons_succ, i64_w, i32_w]
            rfl
           refine pure_ (i := 4) (N := some 19) (v := ?_) (a' := ?_) (bN 21 31) rfl rfl (any_of HT_.out (by kernel_rfl)) (fun _ _ _ h => h) (Or.inl ⟨by rfl, ?_⟩) ?_ ?_
           rotate_left
           ·intro w'
            go_simp
            with_reducible rfl
           rotate_left
           ·simp only [Act.put, List.setIfInBounds_toArray, List.set_cons_zero, List.set_cons_succ, i64_w, i32_w]
            rfl
           refine pure_ (i := 5) (N := some 20) (v := ?_) (a' := ?_) (bN 21 63) rfl rfl (any_of HT_.out (by kernel_rfl)) (fun _ _ _ h => h) (Or.inl ⟨by rfl, ?_⟩) ?_ ?_
           rotate_left
           ·intro w'
            go_simp
            with_reducible rfl
           rotate_left
           ·simp only [Act.put, List.setIfInBounds_toArray, List.set_cons_zero, List.set_cons_succ, i64_w, i32_w]
            rfl
           refine pure_ (i := 6) (N := some 21) (v := ?_) (a' := ?_) (bN 21 127) rfl rfl (any_of HT_.out (by kernel_rfl)) (fun _ _ _ h => h) (Or.inl ⟨by rfl, ?_⟩) ?_ ?_
           rotate_left
           ·intro w'
            go_simp
            with_reducible rfl
           rotate_left
           ·simp only [Act.put, List.setIfInBounds_toArray, List.set_cons_zero, List.set_cons_succ, i64_w, i32_w]
            rfl
           refine pure_ (i := 7) (N := some 22) (v := ?_) (a' := ?_) (bN 21 255) rfl rfl (any_of HT_.out (by kernel_rfl)) (fun _ _ _ h => h) (Or.inl ⟨by rfl, ?_⟩) ?_ ?_
           rotate_left
           ·intro w'
            go_simp
            with_reducible rfl
           rotate_left
           ·simp only [Act.put, List.setIfInBounds_toArray, List.set_cons_zero, List.set_cons_succ, i64_w, i32_w]
            rfl
           refine pure_ (i := 8) (N := some 23) (v := ?_) (a' := ?_) (bN 21 511) rfl rfl (any_of HT_.out (by kernel_rfl)) (fun _ _ _ h => h) (Or.inl ⟨by rfl, ?_⟩) ?_ ?_
           rotate_left
           ·intro w'
            go_simp
            with_reducible rfl
           rotate_left
           ·simp only [Act.put, List.setIfInBounds_toArray, List.set_cons_zero, List.set_cons_succ, i64_w, i32_w]
            rfl
           refine pure_ (i := 10) (N := some 25) (v := ?_) (a' := ?_) (bN 21 1535) rfl rfl (any_of HT_.out (by kernel_rfl)) (fun _ _ _ h => h) (Or.inl ⟨by rfl, ?_⟩) ?_ ?_
           rotate_left
           ·intro w'
            go_simp
            with_reducible rfl
           rotate_left
           ·simp only [Act.put, List.setIfInBounds_toArray, List.set_cons_zero, List.set_cons_succ, i64_w, i32_w]
            rfl
           refine pure_ (i := 12) (N := some 27) (v := ?_) (a' := ?_) (bN 21 5631) rfl rfl (any_of HT_.out (by kernel_rfl)) (fun _ _ _ h => h) (Or.inl ⟨by rfl, ?_⟩) ?_ ?_
           rotate_left
           ·intro w'
            go_simp
            with_reducible rfl
           rotate_left
           ·simp only [Act.put, List.setIfInBounds_toArray, List.set_cons_zero, List.set_cons_succ, i64_w, i32_w]
            rfl
           refine pure_ (i := 13) (N := some 28) (v := ?_) (a' := ?_) (bN 21 13823) rfl rfl (any_of HT_.out (by kernel_rfl)) (fun _ _ _ h => h) (Or.inl ⟨by rfl, ?_⟩) ?_ ?_
           rotate_left
           ·intro w'
            go_simp
            with_reducible rfl
           rotate_left
           ·simp only [Act.put, List.setIfInBounds_toArray, List.set_cons_zero, List.set_cons_succ, i64_w, i32_w]
            rfl
           refine take_ (i := 9) (N := some 24) (v := ?_) (a' := ?_) (bN 21 14335) rfl rfl (take_ofW HT_.out HW_.out (by kernel_rfl)) (fun _ _ _ h => h) (Or.inl ⟨by rfl, ?_⟩) hHeld ?_ ?_
           rotate_left
           ·rintro w' ⟨s0, s1, s2, s3, s4, s5, s6, s7⟩
            go_simp
            with_reducible rfl
           rotate_left
           ·simp only [Act.put, List.setIfInBounds_toArray, List.set_cons_zero, List.set_cons_succ, i64_w, i32_w]
            rfl
           refine take_ (i := 11) (N := some 26) (v := ?_) (a' := ?_) (bN 21 16383) rfl rfl (take_ofW HT_.out HW_.out (by kernel_rfl)) (fun _ _ _ h => h) (Or.inl ⟨by rfl, ?_⟩) hHeld ?_ ?_
           rotate_left
           ·rintro w' ⟨s0, s1, s2, s3, s4, s5, s6, s7⟩
            go_simp
            with_reducible rfl
           rotate_left
           ·simp only [Act.put, List.setIfInBounds_toArray, List.set_cons_zero, List.set_cons_succ, i64_w, i32_w]
            rfl
           refine pure_ (i := 14) (N := some 29) (v := ?_) (a' := ?_) (bN 21 32767) rfl rfl (any_of HT_.out (by kernel_rfl)) (fun _ _ _ h => h) (Or.inl ⟨by rfl, ?_⟩) ?_ ?_
           rotate_left
           ·intro w'
            go_simp
            with_reducible rfl
           rotate_left
           ·simp only [Act.put, List.setIfInBounds_toArray, List.set_cons_zero, List.set_cons_succ, i64_w, i32_w]
            rfl
           refine take_ (i := 15) (N := some 30) (v := ?_) (a' := ?_) (bN 21 65535) rfl rfl (take_ofW HT_.out HW_.out (by kernel_rfl)) (fun _ _ _ h => h) (Or.inl ⟨by rfl, ?_⟩) hHeld ?_ ?_
           rotate_left
           ·rintro w' ⟨s0, s1, s2, s3, s4, s5, s6, s7⟩
            go_simp
            with_reducible rfl
           rotate_left
           ·simp only [Act.put, List.setIfInBounds_toArray, List.set_cons_zero, List.set_cons_succ, i64_w, i32_w]
            rfl
           refine take_ (i := 16) (N := some 31) (v := ?_) (a' := ?_) (bN 21 131071) rfl rfl (take_ofW HT_.out HW_.out (by kernel_rfl)) (fun _ _ _ h => h) (Or.inl ⟨by rfl, ?_⟩) hHeld ?_ ?_
           rotate_left
           ·rintro w' ⟨s0, s1, s2, s3, s4, s5, s6, s7⟩
            go_simp
            with_reducible rfl
           rotate_left
           ·simp only [Act.put, List.setIfInBounds_toArray, List.set_cons_zero, List.set_cons_succ, i64_w, i32_w]
            rfl
           refine one_ (i := 17) (N := some 32) (bN 21 262143) rfl rfl (one_of HT_.out (by kernel_rfl)) (by decide) (fun K hK => ?_)
           refine goesV_ Try.func51 (by kernel_rfl) rfl #[] #[] #[.agg #[.int .i64 ((rd_T56 l0_0 (ji15)).f0), .int .i64 ((rd_T56 l0_0 (ji15)).f1), .int .i64 ((rd_T56 l0_0 (ji15)).f2)], .agg #[.int .i64 ((rd_T56 l0_0 x10_1).f0), .int .i64 ((rd_T56 l0_0 x10_1).f1), .int .i64 ((rd_T56 l0_0 x10_1).f2)]] #[.agg #[.int .i64 ((rd_T56 l0_0 (ji15)).f0), .int .i64 ((rd_T56 l0_0 (ji15)).f1), .int .i64 ((rd_T56 l0_0 (ji15)).f2)], .agg #[.int .i64 ((rd_T56 l0_0 x10_1).f0), .int .i64 ((rd_T56 l0_0 x10_1).f1), .int .i64 ((rd_T56 l0_0 x10_1).f2)]] rfl (by rfl) rfl rfl rfl (by (try simp only [List.map_toArray, List.map_cons, List.map_nil]); first | done | (simp only [hji15]; rfl) | rfl | (simp only [List.length_drop, List.length_take]; rfl)) ?_
           with_reducible refine (call_halls_1.calls ((rd_T56 l0_0 (ji15)).f0) ((rd_T56 l0_0 (ji15)).f1) ((rd_T56 l0_0 (ji15)).f2) ((rd_T56 l0_0 x10_1).f0) ((rd_T56 l0_0 x10_1).f1) ((rd_T56 l0_0 x10_1).f2) t109 _ A18.out).mono ?_
           rintro e w22 ⟨rfl, hb⟩
           refine ⟨_, rfl, ?_⟩
           replace BK104 := sBk BK104 hb
           replace BK106 := sBk BK106 hb
           replace HB := sHb hb
           (try clear hb)
           (try clear hb2)
           (try clear hk)
           (try clear hi)
           refine hK.out _ _ ⟨(blk_cell BK106.out 0).trans rfl, (blk_cell BK106.out 1).trans rfl, (blk_cell BK106.out 2).trans rfl, (blk_cell BK104.out 0).trans rfl, (blk_cell BK104.out 1).trans rfl, ((HB.out.cell (World.block_lt_of_cell? w _ hw108_0)).trans hw108_0), ((HB.out.cell (World.block_lt_of_cell? w _ hw108_1)).trans hw108_1), ((HB.out.cell (World.block_lt_of_cell? w _ hw108_2)).trans hw108_2)⟩ (fun hHeld => ?_)
           clear hK K
           refine norm_ (a' := ?_) ?_ ?_
           rotate_left
           ·show Act.put _ (some 32) _ = _
            simp only [Act.put, List.setIfInBounds_toArray, List.set_cons_zero, List.set_cons_succ, i64_w, i32_w]
            rfl
           refine pure_ (i := 18) (N := some 33) (v := ?_) (a' := ?_) (bN 21 524287) rfl rfl (any_of HT_.out (by kernel_rfl)) (fun _ _ _ h => h) (Or.inl ⟨by rfl, ?_⟩) ?_ ?_
           rotate_left
           ·intro w'
            go_simp
            with_reducible rfl
           rotate_left
           ·simp only [Act.put, List.setIfInBounds_toArray, List.set_cons_zero, List.set_cons_succ, i64_w, i32_w]
            rfl
           refine pure_ (i := 19) (N := some 34) (v := ?_) (a' := ?_) (bN 21 1048575) rfl rfl (any_of HT_.out (by kernel_rfl)) (fun _ _ _ h => h) (Or.inl ⟨by rfl, ?_⟩) ?_ ?_
           rotate_left
           ·intro w'
            go_simp
            with_reducible rfl
           rotate_left
           ·simp only [Act.put, List.setIfInBounds_toArray, List.set_cons_zero, List.set_cons_succ, i64_w, i32_w]
            rfl
           refine pure_ (i := 20) (N := some 35) (v := ?_) (a' := ?_) (bN 21 2097151) rfl rfl (any_of HT_.out (by kernel_rfl)) (fun _ _ _ h => h) (Or.inl ⟨by rfl, ?_⟩) ?_ ?_
           rotate_left
           ·intro w'
            go_simp
            with_reducible rfl
           rotate_left
           ·simp only [Act.put, List.setIfInBounds_toArray, List.set_cons_zero, List.set_cons_succ, i64_w, i32_w]
            rfl
           refine done_ (done_of HT_.out (by kernel_rfl)) ?_
           try go_wp2
           go_meet
           case rel => exact ⟨_, (decide (t109 ≥ 0)), rfl, H', ⟨by have := HK1.out; omega⟩, BK104, BK106, HB⟩
          ·rw [if_neg c17] at H
           exact absurd H (by simp)
         ·rw [if_neg c16] at H
          exact absurd H (by simp)
        ·rw [if_neg c14] at H
         have c14b0 : decide (0 < x10_1) = false := decide_eq_false c14
         clear c14
         (first | rw [c14b0] | (simp only [i64_w, i32_w]; rw [c14b0]) | skip)
         have H' := Aside0.mk H
         clear H
         try go_wp2
         have n0_ : Aside0 ((((w9.setCell ⟨gb106, 0, none⟩ (.int .i64 ((rd_T56 l0_0 x10_1).f0))).setCell ⟨gb106, 1, none⟩ (.int .i64 ((rd_T56 l0_0 x10_1).f1))).setCell ⟨gb106, 2, none⟩ (.int .i64 ((rd_T56 l0_0 x10_1).f2))).heap[gb104]? = some (.cells #[.slice (some ad105) l0_0.length c0_0, .func (.func 51) #[] #[]] 69 (0, 0))) := ⟨bka BK104⟩
         have n1_ : Aside0 ((((w9.setCell ⟨gb106, 0, none⟩ (.int .i64 ((rd_T56 l0_0 x10_1).f0))).setCell ⟨gb106, 1, none⟩ (.int .i64 ((rd_T56 l0_0 x10_1).f1))).setCell ⟨gb106, 2, none⟩ (.int .i64 ((rd_T56 l0_0 x10_1).f2))).heap[gb106]? = some (.cells #[.int .i64 ((rd_T56 l0_0 x10_1).f0), .int .i64 ((rd_T56 l0_0 x10_1).f1), .int .i64 ((rd_T56 l0_0 x10_1).f2)] 56 (0, 0))) := ⟨by refine blk_put (cs := #[.int .i64 ((rd_T56 l0_0 x10_1).f0), .int .i64 ((rd_T56 l0_0 x10_1).f1), .int .i64 0]) ?_ 2 _ rfl; refine blk_put (cs := #[.int .i64 ((rd_T56 l0_0 x10_1).f0), .int .i64 0, .int .i64 0]) ?_ 1 _ rfl; refine blk_put (cs := #[.int .i64 0, .int .i64 0, .int .i64 0]) ?_ 0 _ rfl; exact BK106.out⟩
         have n2_ : Aside0 (Below w.heap.size w (((w9.setCell ⟨gb106, 0, none⟩ (.int .i64 ((rd_T56 l0_0 x10_1).f0))).setCell ⟨gb106, 1, none⟩ (.int .i64 ((rd_T56 l0_0 x10_1).f1))).setCell ⟨gb106, 2, none⟩ (.int .i64 ((rd_T56 l0_0 x10_1).f2)))) := ⟨bel⟩
         (try clear BK104)
         (try clear BK106)
         (try clear HB)
         generalize (((w9.setCell ⟨gb106, 0, none⟩ (.int .i64 ((rd_T56 l0_0 x10_1).f0))).setCell ⟨gb106, 1, none⟩ (.int .i64 ((rd_T56 l0_0 x10_1).f1))).setCell ⟨gb106, 2, none⟩ (.int .i64 ((rd_T56 l0_0 x10_1).f2))) = w23 at n0_ n1_ n2_ ⊢
         have BK104 := n0_
         have BK106 := n1_
         have HB := n2_
         clear n0_ n1_ n2_
         replace BK104 := Aside0.mk (blk_drew BK104.out)
         replace BK106 := Aside0.mk (blk_drew BK106.out)
         replace HB := Aside0.mk (below_drew1 HB.out)
         refine start_ (n := 21) (S := fun w' => w'.cell? ⟨gb106, 0, none⟩ = some (.int .i64 ((rd_T56 l0_0 x10_1).f0)) ∧ w'.cell? ⟨gb106, 1, none⟩ = some (.int .i64 ((rd_T56 l0_0 x10_1).f1)) ∧ w'.cell? ⟨gb106, 2, none⟩ = some (.int .i64 ((rd_T56 l0_0 x10_1).f2))) (ds := []) #[false, false, false, false, false, false, false, false, false, false, false, false, false, false, false, false, false, false, false, false, false] (by kernel_rfl) rfl rfl ⟨(blk_cell BK106.out 0).trans rfl, (blk_cell BK106.out 1).trans rfl, (blk_cell BK106.out 2).trans rfl⟩ (fun hHeld => ?_); refine with_tabW api_Hall_right.tab4 api_Hall_right.bits4 (fun HT_ HW_ => ?_)
         generalize w23.drew = w24 at BK104 BK106 HB hHeld ⊢
         refine pure_ (i := 0) (N := some 15) (v := ?_) (a' := ?_) (bN 21 1) rfl rfl (any_of HT_.out (by kernel_rfl)) (fun _ _ _ h => h) (Or.inl ⟨by rfl, ?_⟩) ?_ ?_
         rotate_left
         ·intro w'
          go_simp
          with_reducible rfl
         rotate_left
         ·simp only [Act.put, List.setIfInBounds_toArray, List.set_cons_zero, List.set_cons_succ, i64_w, i32_w]
          rfl
         refine take_ (i := 1) (N := some 16) (v := ?_) (a' := ?_) (bN 21 3) rfl rfl (take_ofW HT_.out HW_.out (by kernel_rfl)) (fun _ _ _ h => h) (Or.inl ⟨by rfl, ?_⟩) hHeld ?_ ?_
         rotate_left
         ·rintro w' ⟨s0, s1, s2⟩
          go_simp
          with_reducible rfl
         rotate_left
         ·simp only [Act.put, List.setIfInBounds_toArray, List.set_cons_zero, List.set_cons_succ, i64_w, i32_w]
          rfl
         refine one_ (i := 2) (N := some 17) (bN 21 7) rfl rfl (one_of HT_.out (by kernel_rfl)) (by decide) (fun K hK => ?_)
         refine goesV_ Try.func61 (by kernel_rfl) rfl #[] #[.pointer (some ⟨gh_, 0, none⟩)] #[.agg #[.int .i64 ((rd_T56 l0_0 x10_1).f0), .int .i64 ((rd_T56 l0_0 x10_1).f1), .int .i64 ((rd_T56 l0_0 x10_1).f2)]] #[.agg #[.int .i64 ((rd_T56 l0_0 x10_1).f0), .int .i64 ((rd_T56 l0_0 x10_1).f1), .int .i64 ((rd_T56 l0_0 x10_1).f2)], .pointer (some ⟨gh_, 0, none⟩)] rfl (by rfl) rfl rfl rfl (by simp only [List.map_toArray, List.map_cons, List.map_nil] <;> rfl) ?_
         with_reducible refine (call_hall_1.calls ((rd_T56 l0_0 x10_1).f0) ((rd_T56 l0_0 x10_1).f1) ((rd_T56 l0_0 x10_1).f2) a1 true _ A12.out gh_ (blk_still HCH.out (by repeat (first | (with_reducible first | exact HB.out | apply below_alloc | apply pw_below_drewN | apply below_drew1) | exact HB.out | (refine below_set ?_ (Aside0.out (by assumption))))))).mono ?_
         rintro e w25 ⟨rfl, hb⟩
         refine ⟨_, rfl, ?_⟩
         replace BK104 := sBk BK104 hb
         replace BK106 := sBk BK106 hb
         replace HB := sHb hb
         (try clear hb)
         (try clear hb2)
         (try clear hk)
         (try clear hi)
         refine hK.out _ _ ⟨(blk_cell BK106.out 0).trans rfl, (blk_cell BK106.out 1).trans rfl, (blk_cell BK106.out 2).trans rfl⟩ (fun hHeld => ?_)
         clear hK K
         refine norm_ (a' := ?_) ?_ ?_
         rotate_left
         ·show Act.put _ (some 17) _ = _
          simp only [Act.put, List.setIfInBounds_toArray, List.set_cons_zero, List.set_cons_succ, i64_w, i32_w]
          rfl
         refine pure_ (i := 3) (N := some 18) (v := ?_) (a' := ?_) (bN 21 15) rfl rfl (any_of HT_.out (by kernel_rfl)) (fun _ _ _ h => h) (Or.inl ⟨by rfl, ?_⟩) ?_ ?_
         rotate_left
         ·intro w'
          go_simp
          with_reducible rfl
         rotate_left
         ·simp only [Act.put, List.setIfInBounds_toArray, List.set_cons_zero, List.set_cons_succ, i64_w, i32_w]
          rfl
         refine pure_ (i := 4) (N := some 19) (v := ?_) (a' := ?_) (bN 21 31) rfl rfl (any_of HT_.out (by kernel_rfl)) (fun _ _ _ h => h) (Or.inl ⟨by rfl, ?_⟩) ?_ ?_
         rotate_left
         ·intro w'
          go_simp
          with_reducible rfl
         rotate_left
         ·simp only [Act.put, List.setIfInBounds_toArray, List.set_cons_zero, List.set_cons_succ, i64_w, i32_w]
          rfl
         refine pure_ (i := 5) (N := some 20) (v := ?_) (a' := ?_) (bN 21 63) rfl rfl (any_of HT_.out (by kernel_rfl)) (fun _ _ _ h => h) (Or.inl ⟨by rfl, ?_⟩) ?_ ?_
         rotate_left
         ·intro w'
          go_simp
          with_reducible rfl
         rotate_left
         ·simp only [Act.put, List.setIfInBounds_toArray, List.set_cons_zero, List.set_cons_succ, i64_w, i32_w]
          rfl
         refine pure_ (i := 6) (N := some 21) (v := ?_) (a' := ?_) (bN 21 127) rfl rfl (any_of HT_.out (by kernel_rfl)) (fun _ _ _ h => h) (Or.inl ⟨by rfl, ?_⟩) ?_ ?_
         rotate_left
         ·intro w'
          go_simp
          with_reducible rfl
         rotate_left
         ·simp only [Act.put, List.setIfInBounds_toArray, List.set_cons_zero, List.set_cons_succ, i64_w, i32_w]
          rfl
         refine pure_ (i := 7) (N := some 22) (v := ?_) (a' := ?_) (bN 21 255) rfl rfl (any_of HT_.out (by kernel_rfl)) (fun _ _ _ h => h) (Or.inl ⟨by rfl, ?_⟩) ?_ ?_
         rotate_left
         ·intro w'
          go_simp
          with_reducible rfl
         rotate_left
         ·simp only [Act.put, List.setIfInBounds_toArray, List.set_cons_zero, List.set_cons_succ, i64_w, i32_w]
          rfl
         refine pure_ (i := 8) (N := some 23) (v := undef) (a' := ?_) (bN 21 511) rfl rfl (any_of HT_.out (by kernel_rfl)) (fun _ _ _ h => h) (Or.inr ⟨by rfl, rfl⟩) ?_ ?_
         rotate_left
         ·simp only [Act.put, List.setIfInBounds_toArray, List.set_cons_zero, List.set_cons_succ, i64_w, i32_w]
          rfl
         refine pure_ (i := 9) (N := some 24) (v := undef) (a' := ?_) (bN 21 1023) rfl rfl (any_of HT_.out (by kernel_rfl)) (fun _ _ _ h => h) (Or.inr ⟨by rfl, rfl⟩) ?_ ?_
         rotate_left
         ·simp only [Act.put, List.setIfInBounds_toArray, List.set_cons_zero, List.set_cons_succ, i64_w, i32_w]
          rfl
         refine pure_ (i := 10) (N := some 25) (v := undef) (a' := ?_) (bN 21 2047) rfl rfl (any_of HT_.out (by kernel_rfl)) (fun _ _ _ h => h) (Or.inr ⟨by rfl, rfl⟩) ?_ ?_
         rotate_left
         ·simp only [Act.put, List.setIfInBounds_toArray, List.set_cons_zero, List.set_cons_succ, i64_w, i32_w]
          rfl
         refine pure_ (i := 11) (N := some 26) (v := undef) (a' := ?_) (bN 21 4095) rfl rfl (any_of HT_.out (by kernel_rfl)) (fun _ _ _ h => h) (Or.inr ⟨by rfl, rfl⟩) ?_ ?_
         rotate_left
         ·simp only [Act.put, List.setIfInBounds_toArray, List.set_cons_zero, List.set_cons_succ, i64_w, i32_w]
          rfl
         refine pure_ (i := 12) (N := some 27) (v := undef) (a' := ?_) (bN 21 8191) rfl rfl (any_of HT_.out (by kernel_rfl)) (fun _ _ _ h => h) (Or.inr ⟨by rfl, rfl⟩) ?_ ?_
         rotate_left
         ·simp only [Act.put, List.setIfInBounds_toArray, List.set_cons_zero, List.set_cons_succ, i64_w, i32_w]
          rfl
         refine pure_ (i := 13) (N := some 28) (v := undef) (a' := ?_) (bN 21 16383) rfl rfl (any_of HT_.out (by kernel_rfl)) (fun _ _ _ h => h) (Or.inr ⟨by rfl, rfl⟩) ?_ ?_
         rotate_left
         ·simp only [Act.put, List.setIfInBounds_toArray, List.set_cons_zero, List.set_cons_succ, i64_w, i32_w]
          rfl
         refine pure_ (i := 14) (N := some 29) (v := undef) (a' := ?_) (bN 21 32767) rfl rfl (any_of HT_.out (by kernel_rfl)) (fun _ _ _ h => h) (Or.inr ⟨by rfl, rfl⟩) ?_ ?_
         rotate_left
         ·simp only [Act.put, List.setIfInBounds_toArray, List.set_cons_zero, List.set_cons_succ, i64_w, i32_w]
          rfl
         refine pure_ (i := 15) (N := some 30) (v := undef) (a' := ?_) (bN 21 65535) rfl rfl (any_of HT_.out (by kernel_rfl)) (fun _ _ _ h => h) (Or.inr ⟨by rfl, rfl⟩) ?_ ?_
         rotate_left
         ·simp only [Act.put, List.setIfInBounds_toArray, List.set_cons_zero, List.set_cons_succ, i64_w, i32_w]
          rfl
         refine pure_ (i := 16) (N := some 31) (v := undef) (a' := ?_) (bN 21 131071) rfl rfl (any_of HT_.out (by kernel_rfl)) (fun _ _ _ h => h) (Or.inr ⟨by rfl, rfl⟩) ?_ ?_
         rotate_left
         ·simp only [Act.put, List.setIfInBounds_toArray, List.set_cons_zero, List.set_cons_succ, i64_w, i32_w]
          rfl
         refine pure_ (i := 17) (N := some 32) (v := undef) (a' := ?_) (bN 21 262143) rfl rfl (any_of HT_.out (by kernel_rfl)) (fun _ _ _ h => h) (Or.inr ⟨by rfl, rfl⟩) ?_ ?_
         rotate_left
         ·simp only [Act.put, List.setIfInBounds_toArray, List.set_cons_zero, List.set_cons_succ, i64_w, i32_w]
          rfl
         refine pure_ (i := 18) (N := some 33) (v := undef) (a' := ?_) (bN 21 524287) rfl rfl (any_of HT_.out (by kernel_rfl)) (fun _ _ _ h => h) (Or.inr ⟨by rfl, rfl⟩) ?_ ?_
         rotate_left
         ·simp only [Act.put, List.setIfInBounds_toArray, List.set_cons_zero, List.set_cons_succ, i64_w, i32_w]
          rfl
         refine pure_ (i := 19) (N := some 34) (v := ?_) (a' := ?_) (bN 21 1048575) rfl rfl (any_of HT_.out (by kernel_rfl)) (fun _ _ _ h => h) (Or.inl ⟨by rfl, ?_⟩) ?_ ?_
         rotate_left
         ·intro w'
          go_simp
          with_reducible rfl
         rotate_left
         ·simp only [Act.put, List.setIfInBounds_toArray, List.set_cons_zero, List.set_cons_succ, i64_w, i32_w]
          rfl
         refine pure_ (i := 20) (N := some 35) (v := ?_) (a' := ?_) (bN 21 2097151) rfl rfl (any_of HT_.out (by kernel_rfl)) (fun _ _ _ h => h) (Or.inl ⟨by rfl, ?_⟩) ?_ ?_
         rotate_left
         ·intro w'
          go_simp
          with_reducible rfl
         rotate_left
         ·simp only [Act.put, List.setIfInBounds_toArray, List.set_cons_zero, List.set_cons_succ, i64_w, i32_w]
          rfl
         refine done_ (done_of HT_.out (by kernel_rfl)) ?_
         try go_wp2
         go_meet
         case rel => exact ⟨_, (false), rfl, H', ⟨by have := HK1.out; omega⟩, BK104, BK106, HB⟩
       ·replace c13 := Bool.eq_false_iff.mpr c13
        subst c13
        have H1 : (api_Hall_right.j1 k1 a1 l0_0 (l0_0.length : Int) x10_1 true l0_0 a0_1) = some r := by rw [if_neg (show ¬ (false = true) by decide)] at H; exact H
        clear H
        have H := H1
        clear H1
        have H' := Aside0.mk H
        clear H
        try go_wp2
        have n0_ : Aside0 ((((w9.setCell ⟨gb106, 0, none⟩ (.int .i64 ((rd_T56 l0_0 x10_1).f0))).setCell ⟨gb106, 1, none⟩ (.int .i64 ((rd_T56 l0_0 x10_1).f1))).setCell ⟨gb106, 2, none⟩ (.int .i64 ((rd_T56 l0_0 x10_1).f2))).heap[gb104]? = some (.cells #[.slice (some ad105) l0_0.length c0_0, .func (.func 51) #[] #[]] 69 (0, 0))) := ⟨bka BK104⟩
        have n1_ : Aside0 ((((w9.setCell ⟨gb106, 0, none⟩ (.int .i64 ((rd_T56 l0_0 x10_1).f0))).setCell ⟨gb106, 1, none⟩ (.int .i64 ((rd_T56 l0_0 x10_1).f1))).setCell ⟨gb106, 2, none⟩ (.int .i64 ((rd_T56 l0_0 x10_1).f2))).heap[gb106]? = some (.cells #[.int .i64 ((rd_T56 l0_0 x10_1).f0), .int .i64 ((rd_T56 l0_0 x10_1).f1), .int .i64 ((rd_T56 l0_0 x10_1).f2)] 56 (0, 0))) := ⟨by refine blk_put (cs := #[.int .i64 ((rd_T56 l0_0 x10_1).f0), .int .i64 ((rd_T56 l0_0 x10_1).f1), .int .i64 0]) ?_ 2 _ rfl; refine blk_put (cs := #[.int .i64 ((rd_T56 l0_0 x10_1).f0), .int .i64 0, .int .i64 0]) ?_ 1 _ rfl; refine blk_put (cs := #[.int .i64 0, .int .i64 0, .int .i64 0]) ?_ 0 _ rfl; exact BK106.out⟩
        have n2_ : Aside0 (Below w.heap.size w (((w9.setCell ⟨gb106, 0, none⟩ (.int .i64 ((rd_T56 l0_0 x10_1).f0))).setCell ⟨gb106, 1, none⟩ (.int .i64 ((rd_T56 l0_0 x10_1).f1))).setCell ⟨gb106, 2, none⟩ (.int .i64 ((rd_T56 l0_0 x10_1).f2)))) := ⟨bel⟩
        (try clear BK104)
        (try clear BK106)
        (try clear HB)
        generalize (((w9.setCell ⟨gb106, 0, none⟩ (.int .i64 ((rd_T56 l0_0 x10_1).f0))).setCell ⟨gb106, 1, none⟩ (.int .i64 ((rd_T56 l0_0 x10_1).f1))).setCell ⟨gb106, 2, none⟩ (.int .i64 ((rd_T56 l0_0 x10_1).f2))) = w26 at n0_ n1_ n2_ ⊢
        have BK104 := n0_
        have BK106 := n1_
        have HB := n2_
        clear n0_ n1_ n2_
        replace BK104 := Aside0.mk (blk_drew BK104.out)
        replace BK106 := Aside0.mk (blk_drew BK106.out)
        replace HB := Aside0.mk (below_drew1 HB.out)
        refine start_ (n := 21) (S := fun w' => w'.cell? ⟨gb106, 0, none⟩ = some (.int .i64 ((rd_T56 l0_0 x10_1).f0)) ∧ w'.cell? ⟨gb106, 1, none⟩ = some (.int .i64 ((rd_T56 l0_0 x10_1).f1)) ∧ w'.cell? ⟨gb106, 2, none⟩ = some (.int .i64 ((rd_T56 l0_0 x10_1).f2))) (ds := []) #[false, false, false, false, false, false, false, false, false, false, false, false, false, false, false, false, false, false, false, false, false] (by kernel_rfl) rfl rfl ⟨(blk_cell BK106.out 0).trans rfl, (blk_cell BK106.out 1).trans rfl, (blk_cell BK106.out 2).trans rfl⟩ (fun hHeld => ?_); refine with_tabW api_Hall_right.tab4 api_Hall_right.bits4 (fun HT_ HW_ => ?_)
        generalize w26.drew = w27 at BK104 BK106 HB hHeld ⊢
        refine pure_ (i := 0) (N := some 15) (v := ?_) (a' := ?_) (bN 21 1) rfl rfl (any_of HT_.out (by kernel_rfl)) (fun _ _ _ h => h) (Or.inl ⟨by rfl, ?_⟩) ?_ ?_
        rotate_left
        ·intro w'
         go_simp
         with_reducible rfl
        rotate_left
        ·simp only [Act.put, List.setIfInBounds_toArray, List.set_cons_zero, List.set_cons_succ, i64_w, i32_w]
         rfl
        refine take_ (i := 1) (N := some 16) (v := ?_) (a' := ?_) (bN 21 3) rfl rfl (take_ofW HT_.out HW_.out (by kernel_rfl)) (fun _ _ _ h => h) (Or.inl ⟨by rfl, ?_⟩) hHeld ?_ ?_
        rotate_left
        ·rintro w' ⟨s0, s1, s2⟩
         go_simp
         with_reducible rfl
        rotate_left
        ·simp only [Act.put, List.setIfInBounds_toArray, List.set_cons_zero, List.set_cons_succ, i64_w, i32_w]
         rfl
        refine one_ (i := 2) (N := some 17) (bN 21 7) rfl rfl (one_of HT_.out (by kernel_rfl)) (by decide) (fun K hK => ?_)
        refine goesV_ Try.func61 (by kernel_rfl) rfl #[] #[.pointer (some ⟨gh_, 0, none⟩)] #[.agg #[.int .i64 ((rd_T56 l0_0 x10_1).f0), .int .i64 ((rd_T56 l0_0 x10_1).f1), .int .i64 ((rd_T56 l0_0 x10_1).f2)]] #[.agg #[.int .i64 ((rd_T56 l0_0 x10_1).f0), .int .i64 ((rd_T56 l0_0 x10_1).f1), .int .i64 ((rd_T56 l0_0 x10_1).f2)], .pointer (some ⟨gh_, 0, none⟩)] rfl (by rfl) rfl rfl rfl (by simp only [List.map_toArray, List.map_cons, List.map_nil] <;> rfl) ?_
        with_reducible refine (call_hall_1.calls ((rd_T56 l0_0 x10_1).f0) ((rd_T56 l0_0 x10_1).f1) ((rd_T56 l0_0 x10_1).f2) a1 false _ A12.out gh_ (blk_still HCH.out (by repeat (first | (with_reducible first | exact HB.out | apply below_alloc | apply pw_below_drewN | apply below_drew1) | exact HB.out | (refine below_set ?_ (Aside0.out (by assumption))))))).mono ?_
        rintro e w28 ⟨rfl, hb⟩
        refine ⟨_, rfl, ?_⟩
        replace BK104 := sBk BK104 hb
        replace BK106 := sBk BK106 hb
        replace HB := sHb hb
        (try clear hb)
        (try clear hb2)
        (try clear hk)
        (try clear hi)
        refine hK.out _ _ ⟨(blk_cell BK106.out 0).trans rfl, (blk_cell BK106.out 1).trans rfl, (blk_cell BK106.out 2).trans rfl⟩ (fun hHeld => ?_)
        clear hK K
        refine norm_ (a' := ?_) ?_ ?_
        rotate_left
        ·show Act.put _ (some 17) _ = _
         simp only [Act.put, List.setIfInBounds_toArray, List.set_cons_zero, List.set_cons_succ, i64_w, i32_w]
         rfl
        refine pure_ (i := 3) (N := some 18) (v := ?_) (a' := ?_) (bN 21 15) rfl rfl (any_of HT_.out (by kernel_rfl)) (fun _ _ _ h => h) (Or.inl ⟨by rfl, ?_⟩) ?_ ?_
        rotate_left
        ·intro w'
         go_simp
         with_reducible rfl
        rotate_left
        ·simp only [Act.put, List.setIfInBounds_toArray, List.set_cons_zero, List.set_cons_succ, i64_w, i32_w]
         rfl
        refine pure_ (i := 4) (N := some 19) (v := ?_) (a' := ?_) (bN 21 31) rfl rfl (any_of HT_.out (by kernel_rfl)) (fun _ _ _ h => h) (Or.inl ⟨by rfl, ?_⟩) ?_ ?_
        rotate_left
        ·intro w'
         go_simp
         with_reducible rfl
        rotate_left
        ·simp only [Act.put, List.setIfInBounds_toArray, List.set_cons_zero, List.set_cons_succ, i64_w, i32_w]
         rfl
        refine pure_ (i := 5) (N := some 20) (v := undef) (a' := ?_) (bN 21 63) rfl rfl (any_of HT_.out (by kernel_rfl)) (fun _ _ _ h => h) (Or.inr ⟨by rfl, rfl⟩) ?_ ?_
        rotate_left
        ·simp only [Act.put, List.setIfInBounds_toArray, List.set_cons_zero, List.set_cons_succ, i64_w, i32_w]
         rfl
        refine pure_ (i := 6) (N := some 21) (v := undef) (a' := ?_) (bN 21 127) rfl rfl (any_of HT_.out (by kernel_rfl)) (fun _ _ _ h => h) (Or.inr ⟨by rfl, rfl⟩) ?_ ?_
        rotate_left
        ·simp only [Act.put, List.setIfInBounds_toArray, List.set_cons_zero, List.set_cons_succ, i64_w, i32_w]
         rfl
        refine pure_ (i := 7) (N := some 22) (v := undef) (a' := ?_) (bN 21 255) rfl rfl (any_of HT_.out (by kernel_rfl)) (fun _ _ _ h => h) (Or.inr ⟨by rfl, rfl⟩) ?_ ?_
        rotate_left
        ·simp only [Act.put, List.setIfInBounds_toArray, List.set_cons_zero, List.set_cons_succ, i64_w, i32_w]
         rfl
        refine pure_ (i := 8) (N := some 23) (v := undef) (a' := ?_) (bN 21 511) rfl rfl (any_of HT_.out (by kernel_rfl)) (fun _ _ _ h => h) (Or.inr ⟨by rfl, rfl⟩) ?_ ?_
        rotate_left
        ·simp only [Act.put, List.setIfInBounds_toArray, List.set_cons_zero, List.set_cons_succ, i64_w, i32_w]
         rfl
        refine pure_ (i := 9) (N := some 24) (v := undef) (a' := ?_) (bN 21 1023) rfl rfl (any_of HT_.out (by kernel_rfl)) (fun _ _ _ h => h) (Or.inr ⟨by rfl, rfl⟩) ?_ ?_
        rotate_left
        ·simp only [Act.put, List.setIfInBounds_toArray, List.set_cons_zero, List.set_cons_succ, i64_w, i32_w]
         rfl
        refine pure_ (i := 10) (N := some 25) (v := undef) (a' := ?_) (bN 21 2047) rfl rfl (any_of HT_.out (by kernel_rfl)) (fun _ _ _ h => h) (Or.inr ⟨by rfl, rfl⟩) ?_ ?_
        rotate_left
        ·simp only [Act.put, List.setIfInBounds_toArray, List.set_cons_zero, List.set_cons_succ, i64_w, i32_w]
         rfl
        refine pure_ (i := 11) (N := some 26) (v := undef) (a' := ?_) (bN 21 4095) rfl rfl (any_of HT_.out (by kernel_rfl)) (fun _ _ _ h => h) (Or.inr ⟨by rfl, rfl⟩) ?_ ?_
        rotate_left
        ·simp only [Act.put, List.setIfInBounds_toArray, List.set_cons_zero, List.set_cons_succ, i64_w, i32_w]
         rfl
        refine pure_ (i := 12) (N := some 27) (v := undef) (a' := ?_) (bN 21 8191) rfl rfl (any_of HT_.out (by kernel_rfl)) (fun _ _ _ h => h) (Or.inr ⟨by rfl, rfl⟩) ?_ ?_
        rotate_left
        ·simp only [Act.put, List.setIfInBounds_toArray, List.set_cons_zero, List.set_cons_succ, i64_w, i32_w]
         rfl
        refine pure_ (i := 13) (N := some 28) (v := undef) (a' := ?_) (bN 21 16383) rfl rfl (any_of HT_.out (by kernel_rfl)) (fun _ _ _ h => h) (Or.inr ⟨by rfl, rfl⟩) ?_ ?_
        rotate_left
        ·simp only [Act.put, List.setIfInBounds_toArray, List.set_cons_zero, List.set_cons_succ, i64_w, i32_w]
         rfl
        refine pure_ (i := 14) (N := some 29) (v := undef) (a' := ?_) (bN 21 32767) rfl rfl (any_of HT_.out (by kernel_rfl)) (fun _ _ _ h => h) (Or.inr ⟨by rfl, rfl⟩) ?_ ?_
        rotate_left
        ·simp only [Act.put, List.setIfInBounds_toArray, List.set_cons_zero, List.set_cons_succ, i64_w, i32_w]
         rfl
        refine pure_ (i := 15) (N := some 30) (v := undef) (a' := ?_) (bN 21 65535) rfl rfl (any_of HT_.out (by kernel_rfl)) (fun _ _ _ h => h) (Or.inr ⟨by rfl, rfl⟩) ?_ ?_
        rotate_left
        ·simp only [Act.put, List.setIfInBounds_toArray, List.set_cons_zero, List.set_cons_succ, i64_w, i32_w]
         rfl
        refine pure_ (i := 16) (N := some 31) (v := undef) (a' := ?_) (bN 21 131071) rfl rfl (any_of HT_.out (by kernel_rfl)) (fun _ _ _ h => h) (Or.inr ⟨by rfl, rfl⟩) ?_ ?_
        rotate_left
        ·simp only [Act.put, List.setIfInBounds_toArray, List.set_cons_zero, List.set_cons_succ, i64_w, i32_w]
         rfl
        refine pure_ (i := 17) (N := some 32) (v := undef) (a' := ?_) (bN 21 262143) rfl rfl (any_of HT_.out (by kernel_rfl)) (fun _ _ _ h => h) (Or.inr ⟨by rfl, rfl⟩) ?_ ?_
        rotate_left
        ·simp only [Act.put, List.setIfInBounds_toArray, List.set_cons_zero, List.set_cons_succ, i64_w, i32_w]
         rfl
        refine pure_ (i := 18) (N := some 33) (v := undef) (a' := ?_) (bN 21 524287) rfl rfl (any_of HT_.out (by kernel_rfl)) (fun _ _ _ h => h) (Or.inr ⟨by rfl, rfl⟩) ?_ ?_
        rotate_left
        ·simp only [Act.put, List.setIfInBounds_toArray, List.set_cons_zero, List.set_cons_succ, i64_w, i32_w]
         rfl
        refine pure_ (i := 19) (N := some 34) (v := undef) (a' := ?_) (bN 21 1048575) rfl rfl (any_of HT_.out (by kernel_rfl)) (fun _ _ _ h => h) (Or.inr ⟨by rfl, rfl⟩) ?_ ?_
        rotate_left
        ·simp only [Act.put, List.setIfInBounds_toArray, List.set_cons_zero, List.set_cons_succ, i64_w, i32_w]
         rfl
        refine pure_ (i := 20) (N := some 35) (v := ?_) (a' := ?_) (bN 21 2097151) rfl rfl (any_of HT_.out (by kernel_rfl)) (fun _ _ _ h => h) (Or.inl ⟨by rfl, ?_⟩) ?_ ?_
        rotate_left
        ·intro w'
         go_simp
         with_reducible rfl
        rotate_left
        ·simp only [Act.put, List.setIfInBounds_toArray, List.set_cons_zero, List.set_cons_succ, i64_w, i32_w]
         rfl
        refine done_ (done_of HT_.out (by kernel_rfl)) ?_
        try go_wp2
        go_meet
        case rel => exact ⟨_, (true), rfl, H', ⟨by have := HK1.out; omega⟩, BK104, BK106, HB⟩
      case rest =>
       clear HC8
       try clear c1
       try clear p1
       try clear q1
       try clear hx1
       try clear p2
       try clear c5
       try clear c6
       try clear p10
       try clear q10
       try clear hx10
       try clear c13
       try clear c14
       try clear c14b0
       try clear c16
       try clear c17
       try clear c17b0
       try clear hx108_0
       try clear hx108_1
       try clear hx108_2
       try clear p108
       try clear q108
       obtain ⟨kq, x35_7, rfl, HA, HJ7, BK104, BK106, HB⟩ := hcut
       cases kq with
       | zero => exact absurd HA.out (by simp [api_Hall_right.j1])
       | succ kj7 =>
        have H := HA.out
        clear HA
        simp only [api_Hall_right.j1] at H
        by_cases c29 : x35_7 = true
        ·subst c29
         have H1 : (some false) = some r := by rw [if_pos rfl] at H; exact H
         clear H
         have H := H1
         clear H1
         obtain rfl := Option.some.inj H
         go_wp2
         go_ret
         exact ⟨rfl, HB.out⟩
        ·replace c29 := Bool.eq_false_iff.mpr c29
         subst c29
         have H1 : (api_Hall_right.l0 kj7 a1 l0_0 (l0_0.length : Int) (wrap64 (x10_1 + 1)) l0_0 a0_1) = some r := by rw [if_neg (show ¬ (false = true) by decide)] at H; exact H
         clear H
         have H := H1
         clear H1
         have H' := Aside0.mk H
         clear H
         go_wp2
         go_roundg kj7
         case measure => have := HK1.out; have := HJ7.out; omega
         case rel => exact ⟨(wrap64 (x10_1 + 1)), rfl, H', ⟨by have := HK1.out; have := HJ7.out; omega⟩, BK104, HB⟩
     ·rw [if_neg c7] at H
      exact absurd H (by simp)
    ·rw [if_neg c6] at H
     exact absurd H (by simp)
   ·rw [if_neg c5] at H
    have c5b0 : decide (x10_1 < (l0_0.length : Int)) = false := decide_eq_false c5
    clear c5
    obtain rfl := Option.some.inj H
    go_wp2
    go_ret
    exact ⟨rfl, HB.out⟩
end Go.Proofs.Ytjehhhlhalkieaa.C
namespace Go.Proofs.Ytjehhhlhalkieaa.C
open Go.RowKit Go.Proofs.YtjehhhlhalkieaaW.PrintWords Go.Proofs.YtjehhhlhalkieaaW.PrintLast Go.Proofs.YtjehhhlhalkieaaW.PrintMore
attribute [local go_sem] max2_int min2_int max_two min_two max_three min_three max_four min_four
set_option linter.unusedVariables false
set_option linter.unusedSimpArgs false
mutual
def api_Inside_right.l0 : Nat → Int → List (S62) → Int → Int → List (S62) → Int → Option (Bool)
 | 0, _, _, _, _, _, _ => none
 | k + 1, x1, x8, x9, x10, x111000, x111001 => if x10 < x9 then (if 0 ≤ x10 then (if x10 < (x8.length : Int) then ((call_inside_1.f ((rd_T62 x8 x10).f0) ((rd_T62 x8 x10).f1) x1).bind fun t113 => (if t113 = true then (if x10 > 0 then (if 0 ≤ (wrap64 (x10 - 1)) then (if (wrap64 (x10 - 1)) < (x111000.length : Int) then ((call_ins_1.f ((rd_T62 x111000 (wrap64 (x10 - 1))).f0) ((rd_T62 x111000 (wrap64 (x10 - 1))).f1) ((rd_T62 x8 x10).f0) ((rd_T62 x8 x10).f1)).bind fun t115 => (api_Inside_right.j1 k x1 x8 x9 x10 (decide (t115 ≥ 0)) x111000 x111001)) else (none)) else (none)) else (api_Inside_right.j1 k x1 x8 x9 x10 false x111000 x111001)) else (api_Inside_right.j1 k x1 x8 x9 x10 true x111000 x111001))) else (none)) else (none)) else (some true)
def api_Inside_right.j1 : Nat → Int → List (S62) → Int → Int → Bool → List (S62) → Int → Option (Bool)
 | 0, _, _, _, _, _, _, _ => none
 | k + 1, x1, x8, x9, x10, x35, x111000, x111001 => if x35 = true then (some false) else (api_Inside_right.l0 k x1 x8 x9 (wrap64 (x10 + 1)) x111000 x111001)
end
def api_Inside_right.f (k : Nat) (l0_0 : List (S62)) (a0_1 : Int) (a1 : Int) : Option (Bool) := api_Inside_right.l0 k a1 l0_0 (l0_0.length : Int) 0 l0_0 a0_1
theorem api_Inside_right.mono_l : ∀ k, (∀ y0 y1 y2 y3 y4 y5, LeO (api_Inside_right.l0 k y0 y1 y2 y3 y4 y5) (api_Inside_right.l0 (k + 1) y0 y1 y2 y3 y4 y5)) ∧ (∀ y0 y1 y2 y3 y4 y5 y6, LeO (api_Inside_right.j1 k y0 y1 y2 y3 y4 y5 y6) (api_Inside_right.j1 (k + 1) y0 y1 y2 y3 y4 y5 y6))
 | 0 => ⟨fun _ _ _ _ _ _ r h => by simp [api_Inside_right.l0] at h, fun _ _ _ _ _ _ _ r h => by simp [api_Inside_right.j1] at h⟩
 | k + 1 => by
  obtain ⟨ih0, ih1⟩ := api_Inside_right.mono_l k
  refine ⟨?_, ?_⟩
  ·intro y0 y1 y2 y3 y4 y5
   unfold api_Inside_right.l0
   repeat' first
   | (with_reducible exact ih0 _ _ _ _ _ _)
   | (with_reducible exact ih1 _ _ _ _ _ _ _)
   | (with_reducible exact LeO.refl _)
   | (with_reducible exact LeO.none _)
   | (with_reducible refine LeO.ite ?_ ?_)
   | (with_reducible refine LeO.bind ?_ (fun _ => ?_))
   | exact ih0 _ _ _ _ _ _
   | exact ih1 _ _ _ _ _ _ _
   | exact LeO.none _
   | refine LeO.ite ?_ ?_
   | refine LeO.bind ?_ (fun _ => ?_)
  ·intro y0 y1 y2 y3 y4 y5 y6
   unfold api_Inside_right.j1
   repeat' first
   | (with_reducible exact ih0 _ _ _ _ _ _)
   | (with_reducible exact ih1 _ _ _ _ _ _ _)
   | (with_reducible exact LeO.refl _)
   | (with_reducible exact LeO.none _)
   | (with_reducible refine LeO.ite ?_ ?_)
   | (with_reducible refine LeO.bind ?_ (fun _ => ?_))
   | exact ih0 _ _ _ _ _ _
   | exact ih1 _ _ _ _ _ _ _
   | exact LeO.none _
   | refine LeO.ite ?_ ?_
   | refine LeO.bind ?_ (fun _ => ?_)
theorem api_Inside_right.mono : ∀ a0 a1 a2 k, LeO (api_Inside_right.f k a0 a1 a2) (api_Inside_right.f (k + 1) a0 a1 a2) := by
 intro a0 a1 a2 k
 obtain ⟨ih0, ih1⟩ := api_Inside_right.mono_l k
 unfold api_Inside_right.f
 repeat' first
   | (with_reducible exact ih0 _ _ _ _ _ _)
   | (with_reducible exact ih1 _ _ _ _ _ _ _)
   | (with_reducible exact LeO.refl _)
   | (with_reducible exact LeO.none _)
   | (with_reducible refine LeO.ite ?_ ?_)
   | (with_reducible refine LeO.bind ?_ (fun _ => ?_))
   | exact ih0 _ _ _ _ _ _
   | exact ih1 _ _ _ _ _ _ _
   | exact LeO.none _
   | refine LeO.ite ?_ ?_
   | refine LeO.bind ?_ (fun _ => ?_)
def api_Inside_right.T4 : Bool × List (List Nat × List Nat) := (true, [([], []), ([], []), ([0, 1], [0, 1]), ([2], [2]), ([3, 2], [3]), ([4], [4]), ([5, 4], [4, 5]), ([6, 4, 4], [4, 6]), ([7], [7]), ([8, 7], [7, 8]), ([7], [7]), ([10, 7], [7, 10]), ([7], [7]), ([12, 7], [7, 12]), ([11, 13, 7], [7, 11, 13]), ([14, 7], [7, 14]), ([7], [7]), ([9, 15, 16, 7, 7], [7, 9, 15, 16]), ([17, 7], [7, 17]), ([7, 18, 4], [4, 7, 18]), ([4, 19], [4, 19])])
def api_Inside_right.B4 : List Nat := [0, 0, 3, 7, 15, 31, 63, 127, 255, 511, 255, 1279, 255, 4351, 15615, 31999, 255, 131071, 262143, 524287, 1048575]
theorem api_Inside_right.tab4 : rtab .any (opsOf Try.f43 4) = api_Inside_right.T4 := by kernel_rfl
theorem api_Inside_right.bits4 : waitsOk api_Inside_right.T4.2 api_Inside_right.B4 = true := by kernel_rfl
set_option maxHeartbeats 8000000 in
set_option maxRecDepth 100000 in
theorem api_Inside_right.calls (k : Nat) (A0_0 : Option Addr) (c0_0 : Nat) (l0_0 : List (S62)) (a0_1 : Int) (a1 : Int) (r : Bool) (w : World) (hr0_0 : Kd.C k62 w A0_0 l0_0.length l0_0) (hc0_0 : l0_0.length ≤ c0_0) (h : api_Inside_right.f k l0_0 a0_1 a1 = some r) (gh_ : Nat) (hgh_ : w.heap[gh_]? = some (.cells #[.int .i64 (tok1 a1), .int .i64 (tok2 a1)] 23 (0, 0))) :
  Calls Try.prog 43 #[.agg #[.slice A0_0 l0_0.length c0_0, .func (.func 57) #[] #[]], .func (.func 50) #[] #[.pointer (some ⟨gh_, 0, none⟩)]] w fun e w' => e = .returned (.bool r) ∧ Below w.heap.size w w' := by
 have HCH := Aside0.mk hgh_
 clear hgh_
 have hu74 := Try.underlying74
 have hu62 := Try.underlying62
 have HR0_0 := Aside0.mk hr0_0
 have HC0_0 := Aside0.mk hc0_0
 clear hr0_0 hc0_0
 have HB := Aside0.mk (Below.refl w.heap.size w)
 have H : (api_Inside_right.l0 k a1 l0_0 (l0_0.length : Int) 0 l0_0 a0_1) = some r := h
 clear h
 have H' := Aside0.mk H
 clear H
 go_enter Try.func43, Try.ntmps43
 go_wp2_with (first | ((with_reducible refine gate_dst (N := 2) rfl ?_); refine box_event ?hg (N := 2) ?hd (cs := #[.slice A0_0 l0_0.length c0_0, .func (.func 57) #[] #[]]) (t := 74) ?hr ?_; (case hd => rfl); (case hg => rfl); (case hr => go_simp <;> rfl); intro gb110 hg w3 hbox hb; have BK110 := Aside0.mk hbox; have GW110 := sGe hg; have GE110 := sGe hg; replace HB := sHb hb; clear hb hbox hg; have hcz4_0 : w3.cell? ⟨gb110, 0, none⟩ = some (.slice A0_0 l0_0.length c0_0) := (blk_cell BK110.out 0).trans rfl; have hcz4_1 : w3.cell? ⟨gb110, 1, none⟩ = some (.func (.func 57) #[] #[]) := (blk_cell BK110.out 1).trans rfl; have hfz4_0 := blk_frozen BK110.out 0; have hfz4_1 := blk_frozen BK110.out 1))
 go_loopg [10] k (fun kq v10 w' => ∃ (x10_1 : Int), v10 = .int .i64 x10_1 ∧ Aside0 (api_Inside_right.l0 kq a1 l0_0 (l0_0.length : Int) x10_1 l0_0 a0_1 = some r) ∧ Aside0 (kq ≤ k) ∧ Aside0 (w'.heap[gb110]? = some (.cells #[(.slice A0_0 l0_0.length c0_0), .func (.func 57) #[] #[]] 74 (0, 0))) ∧ Aside0 (Below w.heap.size w w'))
 case atStart => exact ⟨(0), rfl, H', ⟨Nat.le_refl _⟩, BK110, HB⟩
 case round =>
  clear H'
  try clear p2
  try clear c4
  try clear hcz4_0
  try clear hcz4_1
  try clear hfz4_0
  try clear hfz4_1
  obtain ⟨x10_1, rfl, HA, HK1, BK110, HB⟩ := hrel
  cases gk with
  | zero => exact absurd HA.out (by simp [api_Inside_right.l0])
  | succ k1 =>
   have H := HA.out
   clear HA
   simp only [api_Inside_right.l0] at H
   by_cases c5 : x10_1 < (l0_0.length : Int)
   ·rw [if_pos c5] at H
    have c5b0 : decide (x10_1 < (l0_0.length : Int)) = true := decide_eq_true c5
    clear c5
    by_cases c6 : 0 ≤ x10_1
    ·rw [if_pos c6] at H
     have c6b0 : decide (0 ≤ x10_1) = true := decide_eq_true c6
     clear c6
     by_cases c7 : x10_1 < (l0_0.length : Int)
     ·rw [if_pos c7] at H
      have c7b0 : decide (x10_1 < (l0_0.length : Int)) = true := decide_eq_true c7
      clear c7
      have HC8 := Aside0.mk H
      clear H
      have p111 : 0 ≤ (x10_1 : Int) := of_decide_eq_true (by assumption)
      have q111 : x10_1 < (l0_0.length : Int) := of_decide_eq_true (by assumption)
      obtain ⟨ad111, e111, hx111_0, hx111_1⟩ := at_T62 HR0_0.out x10_1 p111 q111
      cases e111
      replace hx111_0 := (HB.out.cell (World.block_lt_of_cell? w _ hx111_0)).trans hx111_0
      replace hx111_1 := (HB.out.cell (World.block_lt_of_cell? w _ hx111_1)).trans hx111_1
      replace p111 := eq_true p111
      replace q111 := eq_true q111
      go_upto_region 4 with (first | ((with_reducible refine gate_dst (N := 6) rfl ?_); refine box_event ?hg (N := 6) ?hd (cs := #[.int .i64 0, .int .i64 0]) (t := 62) ?hr ?_; (case hd => rfl); (case hg => rfl); (case hr => go_simp <;> rfl); intro gb112 hg w9 hbox hb; have BK112 := Aside0.mk hbox; have GW112 := sGe hg; have GE112 := sGe hg; have NB110_112 := sNl BK110 hg; have NB112_110 := sNg BK110 hg; replace BK110 := sBk BK110 hb; replace HB := sHb hb; clear hb hbox hg; have hnb10 := NB112_110.out; have hnc10 := NB110_112.out; have hcz11_0 : w9.cell? ⟨gb112, 0, none⟩ = some (.int .i64 0) := (blk_cell BK112.out 0).trans rfl; have hcz11_1 : w9.cell? ⟨gb112, 1, none⟩ = some (.int .i64 0) := (blk_cell BK112.out 1).trans rfl; have hfz11_0 := blk_frozen BK112.out 0; have hfz11_1 := blk_frozen BK112.out 1))
      (try simp only [Act.put, List.setIfInBounds_toArray, List.set_cons_zero, List.set_cons_succ])
      go_cut [35] (fun v35 wc => ∃ (kq : Nat) (x35_7 : Bool), v35 = .bool x35_7 ∧ Aside0 (api_Inside_right.j1 kq a1 l0_0 (l0_0.length : Int) x10_1 x35_7 l0_0 a0_1 = some r) ∧ Aside0 (kq ≤ k1) ∧ Aside0 (wc.heap[gb110]? = some (.cells #[(.slice (some ad111) l0_0.length c0_0), .func (.func 57) #[] #[]] 74 (0, 0))) ∧ Aside0 (wc.heap[gb112]? = some (.cells #[.int .i64 ((rd_T62 l0_0 x10_1).f0), .int .i64 ((rd_T62 l0_0 x10_1).f1)] 62 (0, 0))) ∧ Aside0 (Below w.heap.size w wc))
      case first =>
       have H := HC8.out
       clear HC8
       replace H := Option.bind_eq_some_iff.mp H
       obtain ⟨t113, A120, H⟩ := H
       replace H : (if t113 = true then (if x10_1 > 0 then (if 0 ≤ (wrap64 (x10_1 - 1)) then (if (wrap64 (x10_1 - 1)) < (l0_0.length : Int) then ((call_ins_1.f ((rd_T62 l0_0 (wrap64 (x10_1 - 1))).f0) ((rd_T62 l0_0 (wrap64 (x10_1 - 1))).f1) ((rd_T62 l0_0 x10_1).f0) ((rd_T62 l0_0 x10_1).f1)).bind fun t115 => (api_Inside_right.j1 k1 a1 l0_0 (l0_0.length : Int) x10_1 (decide (t115 ≥ 0)) l0_0 a0_1)) else (none)) else (none)) else (api_Inside_right.j1 k1 a1 l0_0 (l0_0.length : Int) x10_1 false l0_0 a0_1)) else (api_Inside_right.j1 k1 a1 l0_0 (l0_0.length : Int) x10_1 true l0_0 a0_1)) = some r := H
       have A12 := Aside0.mk A120
       clear A120
       by_cases c13 : t113 = true
       ·subst c13
        have H1 : (if x10_1 > 0 then (if 0 ≤ (wrap64 (x10_1 - 1)) then (if (wrap64 (x10_1 - 1)) < (l0_0.length : Int) then ((call_ins_1.f ((rd_T62 l0_0 (wrap64 (x10_1 - 1))).f0) ((rd_T62 l0_0 (wrap64 (x10_1 - 1))).f1) ((rd_T62 l0_0 x10_1).f0) ((rd_T62 l0_0 x10_1).f1)).bind fun t115 => (api_Inside_right.j1 k1 a1 l0_0 (l0_0.length : Int) x10_1 (decide (t115 ≥ 0)) l0_0 a0_1)) else (none)) else (none)) else (api_Inside_right.j1 k1 a1 l0_0 (l0_0.length : Int) x10_1 false l0_0 a0_1)) = some r := by rw [if_pos rfl] at H; exact H
        clear H
        have H := H1
        clear H1
        by_cases c14 : x10_1 > 0
        ·rw [if_pos c14] at H
         have c14b0 : decide (0 < x10_1) = true := decide_eq_true c14
         clear c14
         (first | rw [c14b0] | (simp only [i64_w, i32_w]; rw [c14b0]) | skip)
         obtain ⟨ji15, hji15⟩ : ∃ j_ : Int, (wrap64 (x10_1 - 1)) = j_ := ⟨_, rfl⟩
         replace H : (if 0 ≤ (ji15) then (if (ji15) < (l0_0.length : Int) then ((call_ins_1.f ((rd_T62 l0_0 (ji15)).f0) ((rd_T62 l0_0 (ji15)).f1) ((rd_T62 l0_0 x10_1).f0) ((rd_T62 l0_0 x10_1).f1)).bind fun t115 => (api_Inside_right.j1 k1 a1 l0_0 (l0_0.length : Int) x10_1 (decide (t115 ≥ 0)) l0_0 a0_1)) else (none)) else (none)) = some r := by first | (rw [hji15] at H; exact H) | (simp only [hji15] at H ⊢; exact H)
         (try rw [hji15] at A12)
         have hji15w : (IntKind.i64.wrap (x10_1 - 1)) = ji15 := (i64_w _).trans hji15
         by_cases c16 : 0 ≤ (ji15)
         ·rw [if_pos c16] at H
          have c16b0 : decide (0 ≤ (ji15)) = true := decide_eq_true c16
          clear c16
          by_cases c17 : (ji15) < (l0_0.length : Int)
          ·rw [if_pos c17] at H
           have c17b0 : decide ((ji15) < (l0_0.length : Int)) = true := decide_eq_true c17
           clear c17
           replace H := Option.bind_eq_some_iff.mp H
           obtain ⟨t115, A180, H⟩ := H
           replace H : (api_Inside_right.j1 k1 a1 l0_0 (l0_0.length : Int) x10_1 (decide (t115 ≥ 0)) l0_0 a0_1) = some r := H
           have A18 := Aside0.mk A180
           clear A180
           have H' := Aside0.mk H
           clear H
           try go_wp2
           have n0_ : Aside0 (((w9.setCell ⟨gb112, 0, none⟩ (.int .i64 ((rd_T62 l0_0 x10_1).f0))).setCell ⟨gb112, 1, none⟩ (.int .i64 ((rd_T62 l0_0 x10_1).f1))).heap[gb110]? = some (.cells #[.slice (some ad111) l0_0.length c0_0, .func (.func 57) #[] #[]] 74 (0, 0))) := ⟨bka BK110⟩
           have n1_ : Aside0 (((w9.setCell ⟨gb112, 0, none⟩ (.int .i64 ((rd_T62 l0_0 x10_1).f0))).setCell ⟨gb112, 1, none⟩ (.int .i64 ((rd_T62 l0_0 x10_1).f1))).heap[gb112]? = some (.cells #[.int .i64 ((rd_T62 l0_0 x10_1).f0), .int .i64 ((rd_T62 l0_0 x10_1).f1)] 62 (0, 0))) := ⟨by refine blk_put (cs := #[.int .i64 ((rd_T62 l0_0 x10_1).f0), .int .i64 0]) ?_ 1 _ rfl; refine blk_put (cs := #[.int .i64 0, .int .i64 0]) ?_ 0 _ rfl; exact BK112.out⟩
           have n2_ : Aside0 (Below w.heap.size w ((w9.setCell ⟨gb112, 0, none⟩ (.int .i64 ((rd_T62 l0_0 x10_1).f0))).setCell ⟨gb112, 1, none⟩ (.int .i64 ((rd_T62 l0_0 x10_1).f1)))) := ⟨bel⟩
           (try clear BK110)
           (try clear BK112)
           (try clear HB)
           generalize ((w9.setCell ⟨gb112, 0, none⟩ (.int .i64 ((rd_T62 l0_0 x10_1).f0))).setCell ⟨gb112, 1, none⟩ (.int .i64 ((rd_T62 l0_0 x10_1).f1))) = w19 at n0_ n1_ n2_ ⊢
           have BK110 := n0_
           have BK112 := n1_
           have HB := n2_
           clear n0_ n1_ n2_
           replace BK110 := Aside0.mk (blk_drew BK110.out)
           replace BK112 := Aside0.mk (blk_drew BK112.out)
           replace HB := Aside0.mk (below_drew1 HB.out)
           have p114 : 0 ≤ ((ji15) : Int) := of_decide_eq_true (by assumption)
           have q114 : (ji15) < (l0_0.length : Int) := of_decide_eq_true (by assumption)
           obtain ⟨ad114, e114, hx114_0, hx114_1⟩ := at_T62 HR0_0.out (ji15) p114 q114
           have hw114_1 := hx114_1
           have hw114_0 := hx114_0
           obtain rfl : ad111 = ad114 := (by injection e114)
           replace hx114_0 := (HB.out.cell (World.block_lt_of_cell? w _ hx114_0)).trans hx114_0
           replace hx114_1 := (HB.out.cell (World.block_lt_of_cell? w _ hx114_1)).trans hx114_1
           replace p114 := eq_true p114
           replace q114 := eq_true q114
           refine start_ (n := 21) (S := fun w' => w'.cell? ⟨gb112, 0, none⟩ = some (.int .i64 ((rd_T62 l0_0 x10_1).f0)) ∧ w'.cell? ⟨gb112, 1, none⟩ = some (.int .i64 ((rd_T62 l0_0 x10_1).f1)) ∧ w'.cell? ⟨gb110, 0, none⟩ = some (.slice (some ad111) l0_0.length c0_0) ∧ w'.cell? ⟨gb110, 1, none⟩ = some (.func (.func 57) #[] #[]) ∧ w'.cell? (ad111.add (((ji15)).toNat * 2)) = some (.int .i64 ((rd_T62 l0_0 (ji15)).f0)) ∧ w'.cell? ⟨(ad111.add (((ji15)).toNat * 2)).block, (ad111.add (((ji15)).toNat * 2)).off + 1, none⟩ = some (.int .i64 ((rd_T62 l0_0 (ji15)).f1))) (ds := []) #[false, false, false, false, false, false, false, false, false, false, false, false, false, false, false, false, false, false, false, false, false] (by kernel_rfl) rfl rfl ⟨(blk_cell BK112.out 0).trans rfl, (blk_cell BK112.out 1).trans rfl, (blk_cell BK110.out 0).trans rfl, (blk_cell BK110.out 1).trans rfl, ((HB.out.cell (World.block_lt_of_cell? w _ hw114_0)).trans hw114_0), ((HB.out.cell (World.block_lt_of_cell? w _ hw114_1)).trans hw114_1)⟩ (fun hHeld => ?_); refine with_tabW api_Inside_right.tab4 api_Inside_right.bits4 (fun HT_ HW_ => ?_)
           generalize w19.drew = w20 at BK110 BK112 HB hx114_0 hx114_1 hHeld ⊢
           refine pure_ (i := 0) (N := some 15) (v := ?_) (a' := ?_) (bN 21 1) rfl rfl (any_of HT_.out (by kernel_rfl)) (fun _ _ _ h => h) (Or.inl ⟨by rfl, ?_⟩) ?_ ?_
           rotate_left
           ·intro w'
            go_simp
            with_reducible rfl
           rotate_left
           ·simp only [Act.put, List.setIfInBounds_toArray, List.set_cons_zero, List.set_cons_succ, i64_w, i32_w]
            rfl
           refine take_ (i := 1) (N := some 16) (v := ?_) (a' := ?_) (bN 21 3) rfl rfl (take_ofW HT_.out HW_.out (by kernel_rfl)) (fun _ _ _ h => h) (Or.inl ⟨by rfl, ?_⟩) hHeld ?_ ?_
           rotate_left
           ·rintro w' ⟨s0, s1, s2, s3, s4, s5⟩
            go_simp
            with_reducible rfl
           rotate_left
           ·simp only [Act.put, List.setIfInBounds_toArray, List.set_cons_zero, List.set_cons_succ, i64_w, i32_w]
            rfl
           refine one_ (i := 2) (N := some 17) (bN 21 7) rfl rfl (one_of HT_.out (by kernel_rfl)) (by decide) (fun K hK => ?_)
           refine goesV_ Try.func50 (by kernel_rfl) rfl #[] #[.pointer (some ⟨gh_, 0, none⟩)] #[.agg #[.int .i64 ((rd_T62 l0_0 x10_1).f0), .int .i64 ((rd_T62 l0_0 x10_1).f1)]] #[.agg #[.int .i64 ((rd_T62 l0_0 x10_1).f0), .int .i64 ((rd_T62 l0_0 x10_1).f1)], .pointer (some ⟨gh_, 0, none⟩)] rfl (by rfl) rfl rfl rfl (by simp only [List.map_toArray, List.map_cons, List.map_nil] <;> rfl) ?_
           with_reducible refine (call_inside_1.calls ((rd_T62 l0_0 x10_1).f0) ((rd_T62 l0_0 x10_1).f1) a1 true _ A12.out gh_ (blk_still HCH.out (by repeat (first | (with_reducible first | exact HB.out | apply below_alloc | apply pw_below_drewN | apply below_drew1) | exact HB.out | (refine below_set ?_ (Aside0.out (by assumption))))))).mono ?_
           rintro e w21 ⟨rfl, hb⟩
           refine ⟨_, rfl, ?_⟩
           replace BK110 := sBk BK110 hb
           replace BK112 := sBk BK112 hb
           replace HB := sHb hb
           (try clear hb)
           (try clear hb2)
           (try clear hk)
           (try clear hi)
           refine hK.out _ _ ⟨(blk_cell BK112.out 0).trans rfl, (blk_cell BK112.out 1).trans rfl, (blk_cell BK110.out 0).trans rfl, (blk_cell BK110.out 1).trans rfl, ((HB.out.cell (World.block_lt_of_cell? w _ hw114_0)).trans hw114_0), ((HB.out.cell (World.block_lt_of_cell? w _ hw114_1)).trans hw114_1)⟩ (fun hHeld => ?_)
           clear hK K
           refine norm_ (a' := ?_) ?_ ?_
           rotate_left
           ·show Act.put _ (some 17) _ = _
            simp only [Act.put, List.setIfInBounds_toArray, List.set_cons_zero, List.set_cons_succ, i64_w, i32_w]
            rfl
           refine pure_ (i := 3) (N := some 18) (v := ?_) (a' := ?_) (bN 21 15) rfl rfl (any_of HT_.out (by kernel_rfl)) (fun _ _ _ h => h) (Or.inl ⟨by rfl, ?_⟩) ?_ ?_
           rotate_left
           ·intro w'
            go_simp
            with_reducible rfl
           rotate_left
           ·simp only [Act.put, List.setIfInBounds_toArray, List.set_cons_zero, List.set_cons_succ, i64_w, i32_w]
            rfl
           refine pure_ (i := 4) (N := some 19) (v := ?_) (a' := ?_) (bN 21 31) rfl rfl (any_of HT_.out (by kernel_rfl)) (fun _ _ _ h => h) (Or.inl ⟨by rfl, ?_⟩) ?_ ?_
           rotate_left
           ·intro w'
            go_simp
            with_reducible rfl
           rotate_left
           ·simp only [Act.put, List.setIfInBounds_toArray, List.set_cons_zero, List.set_cons_succ, i64_w, i32_w]
            rfl
           refine pure_ (i := 5) (N := some 20) (v := ?_) (a' := ?_) (bN 21 63) rfl rfl (any_of HT_.out (by kernel_rfl)) (fun _ _ _ h => h) (Or.inl ⟨by rfl, ?_⟩) ?_ ?_
           rotate_left
           ·intro w'
            go_simp
            with_reducible rfl
           rotate_left
           ·simp only [Act.put, List.setIfInBounds_toArray, List.set_cons_zero, List.set_cons_succ, i64_w, i32_w]
            rfl
           refine pure_ (i := 6) (N := some 21) (v := ?_) (a' := ?_) (bN 21 127) rfl rfl (any_of HT_.out (by kernel_rfl)) (fun _ _ _ h => h) (Or.inl ⟨by rfl, ?_⟩) ?_ ?_
           rotate_left
           ·intro w'
            go_simp
            with_reducible rfl
           rotate_left
           ·simp only [Act.put, List.setIfInBounds_toArray, List.set_cons_zero, List.set_cons_succ, i64_w, i32_w]
            rfl
           refine pure_ (i := 7) (N := some 22) (v := ?_) (a' := ?_) (bN 21 255) rfl rfl (any_of HT_.out (by kernel_rfl)) (fun _ _ _ h => h) (Or.inl ⟨by rfl, ?_⟩) ?_ ?_
           rotate_left
           ·intro w'
            go_simp
            with_reducible rfl
           rotate_left
           ·simp only [Act.put, List.setIfInBounds_toArray, List.set_cons_zero, List.set_cons_succ, i64_w, i32_w]
            rfl
           refine pure_ (i := 8) (N := some 23) (v := ?_) (a' := ?_) (bN 21 511) rfl rfl (any_of HT_.out (by kernel_rfl)) (fun _ _ _ h => h) (Or.inl ⟨by rfl, ?_⟩) ?_ ?_
           rotate_left
           ·intro w'
            go_simp
            with_reducible rfl
           rotate_left
           ·simp only [Act.put, List.setIfInBounds_toArray, List.set_cons_zero, List.set_cons_succ, i64_w, i32_w]
            rfl
           refine pure_ (i := 10) (N := some 25) (v := ?_) (a' := ?_) (bN 21 1535) rfl rfl (any_of HT_.out (by kernel_rfl)) (fun _ _ _ h => h) (Or.inl ⟨by rfl, ?_⟩) ?_ ?_
           rotate_left
           ·intro w'
            go_simp
            with_reducible rfl
           rotate_left
           ·simp only [Act.put, List.setIfInBounds_toArray, List.set_cons_zero, List.set_cons_succ, i64_w, i32_w]
            rfl
           refine pure_ (i := 12) (N := some 27) (v := ?_) (a' := ?_) (bN 21 5631) rfl rfl (any_of HT_.out (by kernel_rfl)) (fun _ _ _ h => h) (Or.inl ⟨by rfl, ?_⟩) ?_ ?_
           rotate_left
           ·intro w'
            go_simp
            with_reducible rfl
           rotate_left
           ·simp only [Act.put, List.setIfInBounds_toArray, List.set_cons_zero, List.set_cons_succ, i64_w, i32_w]
            rfl
           refine pure_ (i := 13) (N := some 28) (v := ?_) (a' := ?_) (bN 21 13823) rfl rfl (any_of HT_.out (by kernel_rfl)) (fun _ _ _ h => h) (Or.inl ⟨by rfl, ?_⟩) ?_ ?_
           rotate_left
           ·intro w'
            go_simp
            with_reducible rfl
           rotate_left
           ·simp only [Act.put, List.setIfInBounds_toArray, List.set_cons_zero, List.set_cons_succ, i64_w, i32_w]
            rfl
           refine take_ (i := 9) (N := some 24) (v := ?_) (a' := ?_) (bN 21 14335) rfl rfl (take_ofW HT_.out HW_.out (by kernel_rfl)) (fun _ _ _ h => h) (Or.inl ⟨by rfl, ?_⟩) hHeld ?_ ?_
           rotate_left
           ·rintro w' ⟨s0, s1, s2, s3, s4, s5⟩
            go_simp
            with_reducible rfl
           rotate_left
           ·simp only [Act.put, List.setIfInBounds_toArray, List.set_cons_zero, List.set_cons_succ, i64_w, i32_w]
            rfl
           refine take_ (i := 11) (N := some 26) (v := ?_) (a' := ?_) (bN 21 16383) rfl rfl (take_ofW HT_.out HW_.out (by kernel_rfl)) (fun _ _ _ h => h) (Or.inl ⟨by rfl, ?_⟩) hHeld ?_ ?_
           rotate_left
           ·rintro w' ⟨s0, s1, s2, s3, s4, s5⟩
            go_simp
            with_reducible rfl
           rotate_left
           ·simp only [Act.put, List.setIfInBounds_toArray, List.set_cons_zero, List.set_cons_succ, i64_w, i32_w]
            rfl
           refine pure_ (i := 14) (N := some 29) (v := ?_) (a' := ?_) (bN 21 32767) rfl rfl (any_of HT_.out (by kernel_rfl)) (fun _ _ _ h => h) (Or.inl ⟨by rfl, ?_⟩) ?_ ?_
           rotate_left
           ·intro w'
            go_simp
            with_reducible rfl
           rotate_left
           ·simp only [Act.put, List.setIfInBounds_toArray, List.set_cons_zero, List.set_cons_succ, i64_w, i32_w]
            rfl
           refine take_ (i := 15) (N := some 30) (v := ?_) (a' := ?_) (bN 21 65535) rfl rfl (take_ofW HT_.out HW_.out (by kernel_rfl)) (fun _ _ _ h => h) (Or.inl ⟨by rfl, ?_⟩) hHeld ?_ ?_
           rotate_left
           ·rintro w' ⟨s0, s1, s2, s3, s4, s5⟩
            go_simp
            with_reducible rfl
           rotate_left
           ·simp only [Act.put, List.setIfInBounds_toArray, List.set_cons_zero, List.set_cons_succ, i64_w, i32_w]
            rfl
           refine take_ (i := 16) (N := some 31) (v := ?_) (a' := ?_) (bN 21 131071) rfl rfl (take_ofW HT_.out HW_.out (by kernel_rfl)) (fun _ _ _ h => h) (Or.inl ⟨by rfl, ?_⟩) hHeld ?_ ?_
           rotate_left
           ·rintro w' ⟨s0, s1, s2, s3, s4, s5⟩
            go_simp
            with_reducible rfl
           rotate_left
           ·simp only [Act.put, List.setIfInBounds_toArray, List.set_cons_zero, List.set_cons_succ, i64_w, i32_w]
            rfl
           refine one_ (i := 17) (N := some 32) (bN 21 262143) rfl rfl (one_of HT_.out (by kernel_rfl)) (by decide) (fun K hK => ?_)
           refine goesV_ Try.func57 (by kernel_rfl) rfl #[] #[] #[.agg #[.int .i64 ((rd_T62 l0_0 (ji15)).f0), .int .i64 ((rd_T62 l0_0 (ji15)).f1)], .agg #[.int .i64 ((rd_T62 l0_0 x10_1).f0), .int .i64 ((rd_T62 l0_0 x10_1).f1)]] #[.agg #[.int .i64 ((rd_T62 l0_0 (ji15)).f0), .int .i64 ((rd_T62 l0_0 (ji15)).f1)], .agg #[.int .i64 ((rd_T62 l0_0 x10_1).f0), .int .i64 ((rd_T62 l0_0 x10_1).f1)]] rfl (by rfl) rfl rfl rfl (by (try simp only [List.map_toArray, List.map_cons, List.map_nil]); first | done | (simp only [hji15]; rfl) | rfl | (simp only [List.length_drop, List.length_take]; rfl)) ?_
           with_reducible refine (call_ins_1.calls ((rd_T62 l0_0 (ji15)).f0) ((rd_T62 l0_0 (ji15)).f1) ((rd_T62 l0_0 x10_1).f0) ((rd_T62 l0_0 x10_1).f1) t115 _ A18.out).mono ?_
           rintro e w22 ⟨rfl, hb⟩
           refine ⟨_, rfl, ?_⟩
           replace BK110 := sBk BK110 hb
           replace BK112 := sBk BK112 hb
           replace HB := sHb hb
           (try clear hb)
           (try clear hb2)
           (try clear hk)
           (try clear hi)
           refine hK.out _ _ ⟨(blk_cell BK112.out 0).trans rfl, (blk_cell BK112.out 1).trans rfl, (blk_cell BK110.out 0).trans rfl, (blk_cell BK110.out 1).trans rfl, ((HB.out.cell (World.block_lt_of_cell? w _ hw114_0)).trans hw114_0), ((HB.out.cell (World.block_lt_of_cell? w _ hw114_1)).trans hw114_1)⟩ (fun hHeld => ?_)
           clear hK K
           refine norm_ (a' := ?_) ?_ ?_
           rotate_left
           ·show Act.put _ (some 32) _ = _
            simp only [Act.put, List.setIfInBounds_toArray, List.set_cons_zero, List.set_cons_succ, i64_w, i32_w]
            rfl
           refine pure_ (i := 18) (N := some 33) (v := ?_) (a' := ?_) (bN 21 524287) rfl rfl (any_of HT_.out (by kernel_rfl)) (fun _ _ _ h => h) (Or.inl ⟨by rfl, ?_⟩) ?_ ?_
           rotate_left
           ·intro w'
            go_simp
            with_reducible rfl
           rotate_left
           ·simp only [Act.put, List.setIfInBounds_toArray, List.set_cons_zero, List.set_cons_succ, i64_w, i32_w]
            rfl
           refine pure_ (i := 19) (N := some 34) (v := ?_) (a' := ?_) (bN 21 1048575) rfl rfl (any_of HT_.out (by kernel_rfl)) (fun _ _ _ h => h) (Or.inl ⟨by rfl, ?_⟩) ?_ ?_
           rotate_left
           ·intro w'
            go_simp
            with_reducible rfl
           rotate_left
           ·simp only [Act.put, List.setIfInBounds_toArray, List.set_cons_zero, List.set_cons_succ, i64_w, i32_w]
            rfl
           refine pure_ (i := 20) (N := some 35) (v := ?_) (a' := ?_) (bN 21 2097151) rfl rfl (any_of HT_.out (by kernel_rfl)) (fun _ _ _ h => h) (Or.inl ⟨by rfl, ?_⟩) ?_ ?_
           rotate_left
           ·intro w'
            go_simp
            with_reducible rfl
           rotate_left
           ·simp only [Act.put, List.setIfInBounds_toArray, List.set_cons_zero, List.set_cons_succ, i64_w, i32_w]
            rfl
           refine done_ (done_of HT_.out (by kernel_rfl)) ?_
           try go_wp2
           go_meet
           case rel => exact ⟨_, (decide (t115 ≥ 0)), rfl, H', ⟨by have := HK1.out; omega⟩, BK110, BK112, HB⟩
          ·rw [if_neg c17] at H
           exact absurd H (by simp)
         ·rw [if_neg c16] at H
          exact absurd H (by simp)
        ·rw [if_neg c14] at H
         have c14b0 : decide (0 < x10_1) = false := decide_eq_false c14
         clear c14
         (first | rw [c14b0] | (simp only [i64_w, i32_w]; rw [c14b0]) | skip)
         have H' := Aside0.mk H
         clear H
         try go_wp2
         have n0_ : Aside0 (((w9.setCell ⟨gb112, 0, none⟩ (.int .i64 ((rd_T62 l0_0 x10_1).f0))).setCell ⟨gb112, 1, none⟩ (.int .i64 ((rd_T62 l0_0 x10_1).f1))).heap[gb110]? = some (.cells #[.slice (some ad111) l0_0.length c0_0, .func (.func 57) #[] #[]] 74 (0, 0))) := ⟨bka BK110⟩
         have n1_ : Aside0 (((w9.setCell ⟨gb112, 0, none⟩ (.int .i64 ((rd_T62 l0_0 x10_1).f0))).setCell ⟨gb112, 1, none⟩ (.int .i64 ((rd_T62 l0_0 x10_1).f1))).heap[gb112]? = some (.cells #[.int .i64 ((rd_T62 l0_0 x10_1).f0), .int .i64 ((rd_T62 l0_0 x10_1).f1)] 62 (0, 0))) := ⟨by refine blk_put (cs := #[.int .i64 ((rd_T62 l0_0 x10_1).f0), .int .i64 0]) ?_ 1 _ rfl; refine blk_put (cs := #[.int .i64 0, .int .i64 0]) ?_ 0 _ rfl; exact BK112.out⟩
         have n2_ : Aside0 (Below w.heap.size w ((w9.setCell ⟨gb112, 0, none⟩ (.int .i64 ((rd_T62 l0_0 x10_1).f0))).setCell ⟨gb112, 1, none⟩ (.int .i64 ((rd_T62 l0_0 x10_1).f1)))) := ⟨bel⟩
         (try clear BK110)
         (try clear BK112)
         (try clear HB)
         generalize ((w9.setCell ⟨gb112, 0, none⟩ (.int .i64 ((rd_T62 l0_0 x10_1).f0))).setCell ⟨gb112, 1, none⟩ (.int .i64 ((rd_T62 l0_0 x10_1).f1))) = w23 at n0_ n1_ n2_ ⊢
         have BK110 := n0_
         have BK112 := n1_
         have HB := n2_
         clear n0_ n1_ n2_
         replace BK110 := Aside0.mk (blk_drew BK110.out)
         replace BK112 := Aside0.mk (blk_drew BK112.out)
         replace HB := Aside0.mk (below_drew1 HB.out)
         refine start_ (n := 21) (S := fun w' => w'.cell? ⟨gb112, 0, none⟩ = some (.int .i64 ((rd_T62 l0_0 x10_1).f0)) ∧ w'.cell? ⟨gb112, 1, none⟩ = some (.int .i64 ((rd_T62 l0_0 x10_1).f1))) (ds := []) #[false, false, false, false, false, false, false, false, false, false, false, false, false, false, false, false, false, false, false, false, false] (by kernel_rfl) rfl rfl ⟨(blk_cell BK112.out 0).trans rfl, (blk_cell BK112.out 1).trans rfl⟩ (fun hHeld => ?_); refine with_tabW api_Inside_right.tab4 api_Inside_right.bits4 (fun HT_ HW_ => ?_)
         generalize w23.drew = w24 at BK110 BK112 HB hHeld ⊢
         refine pure_ (i := 0) (N := some 15) (v := ?_) (a' := ?_) (bN 21 1) rfl rfl (any_of HT_.out (by kernel_rfl)) (fun _ _ _ h => h) (Or.inl ⟨by rfl, ?_⟩) ?_ ?_
         rotate_left
         ·intro w'
          go_simp
          with_reducible rfl
         rotate_left
         ·simp only [Act.put, List.setIfInBounds_toArray, List.set_cons_zero, List.set_cons_succ, i64_w, i32_w]
          rfl
         refine take_ (i := 1) (N := some 16) (v := ?_) (a' := ?_) (bN 21 3) rfl rfl (take_ofW HT_.out HW_.out (by kernel_rfl)) (fun _ _ _ h => h) (Or.inl ⟨by rfl, ?_⟩) hHeld ?_ ?_
         rotate_left
         ·rintro w' ⟨s0, s1⟩
          go_simp
          with_reducible rfl
         rotate_left
         ·simp only [Act.put, List.setIfInBounds_toArray, List.set_cons_zero, List.set_cons_succ, i64_w, i32_w]
          rfl
         refine one_ (i := 2) (N := some 17) (bN 21 7) rfl rfl (one_of HT_.out (by kernel_rfl)) (by decide) (fun K hK => ?_)
         refine goesV_ Try.func50 (by kernel_rfl) rfl #[] #[.pointer (some ⟨gh_, 0, none⟩)] #[.agg #[.int .i64 ((rd_T62 l0_0 x10_1).f0), .int .i64 ((rd_T62 l0_0 x10_1).f1)]] #[.agg #[.int .i64 ((rd_T62 l0_0 x10_1).f0), .int .i64 ((rd_T62 l0_0 x10_1).f1)], .pointer (some ⟨gh_, 0, none⟩)] rfl (by rfl) rfl rfl rfl (by simp only [List.map_toArray, List.map_cons, List.map_nil] <;> rfl) ?_
         with_reducible refine (call_inside_1.calls ((rd_T62 l0_0 x10_1).f0) ((rd_T62 l0_0 x10_1).f1) a1 true _ A12.out gh_ (blk_still HCH.out (by repeat (first | (with_reducible first | exact HB.out | apply below_alloc | apply pw_below_drewN | apply below_drew1) | exact HB.out | (refine below_set ?_ (Aside0.out (by assumption))))))).mono ?_
         rintro e w25 ⟨rfl, hb⟩
         refine ⟨_, rfl, ?_⟩
         replace BK110 := sBk BK110 hb
         replace BK112 := sBk BK112 hb
         replace HB := sHb hb
         (try clear hb)
         (try clear hb2)
         (try clear hk)
         (try clear hi)
         refine hK.out _ _ ⟨(blk_cell BK112.out 0).trans rfl, (blk_cell BK112.out 1).trans rfl⟩ (fun hHeld => ?_)
         clear hK K
         refine norm_ (a' := ?_) ?_ ?_
         rotate_left
         ·show Act.put _ (some 17) _ = _
          simp only [Act.put, List.setIfInBounds_toArray, List.set_cons_zero, List.set_cons_succ, i64_w, i32_w]
          rfl
         refine pure_ (i := 3) (N := some 18) (v := ?_) (a' := ?_) (bN 21 15) rfl rfl (any_of HT_.out (by kernel_rfl)) (fun _ _ _ h => h) (Or.inl ⟨by rfl, ?_⟩) ?_ ?_
         rotate_left
         ·intro w'
          go_simp
          with_reducible rfl
         rotate_left
         ·simp only [Act.put, List.setIfInBounds_toArray, List.set_cons_zero, List.set_cons_succ, i64_w, i32_w]
          rfl
         refine pure_ (i := 4) (N := some 19) (v := ?_) (a' := ?_) (bN 21 31) rfl rfl (any_of HT_.out (by kernel_rfl)) (fun _ _ _ h => h) (Or.inl ⟨by rfl, ?_⟩) ?_ ?_
         rotate_left
         ·intro w'
          go_simp
          with_reducible rfl
         rotate_left
         ·simp only [Act.put, List.setIfInBounds_toArray, List.set_cons_zero, List.set_cons_succ, i64_w, i32_w]
          rfl
         refine pure_ (i := 5) (N := some 20) (v := ?_) (a' := ?_) (bN 21 63) rfl rfl (any_of HT_.out (by kernel_rfl)) (fun _ _ _ h => h) (Or.inl ⟨by rfl, ?_⟩) ?_ ?_
         rotate_left
         ·intro w'
          go_simp
          with_reducible rfl
         rotate_left
         ·simp only [Act.put, List.setIfInBounds_toArray, List.set_cons_zero, List.set_cons_succ, i64_w, i32_w]
          rfl
         refine pure_ (i := 6) (N := some 21) (v := ?_) (a' := ?_) (bN 21 127) rfl rfl (any_of HT_.out (by kernel_rfl)) (fun _ _ _ h => h) (Or.inl ⟨by rfl, ?_⟩) ?_ ?_
         rotate_left
         ·intro w'
          go_simp
          with_reducible rfl
         rotate_left
         ·simp only [Act.put, List.setIfInBounds_toArray, List.set_cons_zero, List.set_cons_succ, i64_w, i32_w]
          rfl
         refine pure_ (i := 7) (N := some 22) (v := ?_) (a' := ?_) (bN 21 255) rfl rfl (any_of HT_.out (by kernel_rfl)) (fun _ _ _ h => h) (Or.inl ⟨by rfl, ?_⟩) ?_ ?_
         rotate_left
         ·intro w'
          go_simp
          with_reducible rfl
         rotate_left
         ·simp only [Act.put, List.setIfInBounds_toArray, List.set_cons_zero, List.set_cons_succ, i64_w, i32_w]
          rfl
         refine pure_ (i := 8) (N := some 23) (v := undef) (a' := ?_) (bN 21 511) rfl rfl (any_of HT_.out (by kernel_rfl)) (fun _ _ _ h => h) (Or.inr ⟨by rfl, rfl⟩) ?_ ?_
         rotate_left
         ·simp only [Act.put, List.setIfInBounds_toArray, List.set_cons_zero, List.set_cons_succ, i64_w, i32_w]
          rfl
         refine pure_ (i := 9) (N := some 24) (v := undef) (a' := ?_) (bN 21 1023) rfl rfl (any_of HT_.out (by kernel_rfl)) (fun _ _ _ h => h) (Or.inr ⟨by rfl, rfl⟩) ?_ ?_
         rotate_left
         ·simp only [Act.put, List.setIfInBounds_toArray, List.set_cons_zero, List.set_cons_succ, i64_w, i32_w]
          rfl
         refine pure_ (i := 10) (N := some 25) (v := undef) (a' := ?_) (bN 21 2047) rfl rfl (any_of HT_.out (by kernel_rfl)) (fun _ _ _ h => h) (Or.inr ⟨by rfl, rfl⟩) ?_ ?_
         rotate_left
         ·simp only [Act.put, List.setIfInBounds_toArray, List.set_cons_zero, List.set_cons_succ, i64_w, i32_w]
          rfl
         refine pure_ (i := 11) (N := some 26) (v := undef) (a' := ?_) (bN 21 4095) rfl rfl (any_of HT_.out (by kernel_rfl)) (fun _ _ _ h => h) (Or.inr ⟨by rfl, rfl⟩) ?_ ?_
         rotate_left
         ·simp only [Act.put, List.setIfInBounds_toArray, List.set_cons_zero, List.set_cons_succ, i64_w, i32_w]
          rfl
         refine pure_ (i := 12) (N := some 27) (v := undef) (a' := ?_) (bN 21 8191) rfl rfl (any_of HT_.out (by kernel_rfl)) (fun _ _ _ h => h) (Or.inr ⟨by rfl, rfl⟩) ?_ ?_
         rotate_left
         ·simp only [Act.put, List.setIfInBounds_toArray, List.set_cons_zero, List.set_cons_succ, i64_w, i32_w]
          rfl
         refine pure_ (i := 13) (N := some 28) (v := undef) (a' := ?_) (bN 21 16383) rfl rfl (any_of HT_.out (by kernel_rfl)) (fun _ _ _ h => h) (Or.inr ⟨by rfl, rfl⟩) ?_ ?_
         rotate_left
         ·simp only [Act.put, List.setIfInBounds_toArray, List.set_cons_zero, List.set_cons_succ, i64_w, i32_w]
          rfl
         refine pure_ (i := 14) (N := some 29) (v := undef) (a' := ?_) (bN 21 32767) rfl rfl (any_of HT_.out (by kernel_rfl)) (fun _ _ _ h => h) (Or.inr ⟨by rfl, rfl⟩) ?_ ?_
         rotate_left
         ·simp only [Act.put, List.setIfInBounds_toArray, List.set_cons_zero, List.set_cons_succ, i64_w, i32_w]
          rfl
         refine pure_ (i := 15) (N := some 30) (v := undef) (a' := ?_) (bN 21 65535) rfl rfl (any_of HT_.out (by kernel_rfl)) (fun _ _ _ h => h) (Or.inr ⟨by rfl, rfl⟩) ?_ ?_
         rotate_left
         ·simp only [Act.put, List.setIfInBounds_toArray, List.set_cons_zero, List.set_cons_succ, i64_w, i32_w]
          rfl
         refine pure_ (i := 16) (N := some 31) (v := undef) (a' := ?_) (bN 21 131071) rfl rfl (any_of HT_.out (by kernel_rfl)) (fun _ _ _ h => h) (Or.inr ⟨by rfl, rfl⟩) ?_ ?_
         rotate_left
         ·simp only [Act.put, List.setIfInBounds_toArray, List.set_cons_zero, List.set_cons_succ, i64_w, i32_w]
          rfl
         refine pure_ (i := 17) (N := some 32) (v := undef) (a' := ?_) (bN 21 262143) rfl rfl (any_of HT_.out (by kernel_rfl)) (fun _ _ _ h => h) (Or.inr ⟨by rfl, rfl⟩) ?_ ?_
         rotate_left
         ·simp only [Act.put, List.setIfInBounds_toArray, List.set_cons_zero, List.set_cons_succ, i64_w, i32_w]
          rfl
         refine pure_ (i := 18) (N := some 33) (v := undef) (a' := ?_) (bN 21 524287) rfl rfl (any_of HT_.out (by kernel_rfl)) (fun _ _ _ h => h) (Or.inr ⟨by rfl, rfl⟩) ?_ ?_
         rotate_left
         ·simp only [Act.put, List.setIfInBounds_toArray, List.set_cons_zero, List.set_cons_succ, i64_w, i32_w]
          rfl
         refine pure_ (i := 19) (N := some 34) (v := ?_) (a' := ?_) (bN 21 1048575) rfl rfl (any_of HT_.out (by kernel_rfl)) (fun _ _ _ h => h) (Or.inl ⟨by rfl, ?_⟩) ?_ ?_
         rotate_left
         ·intro w'
          go_simp
          with_reducible rfl
         rotate_left
         ·simp only [Act.put, List.setIfInBounds_toArray, List.set_cons_zero, List.set_cons_succ, i64_w, i32_w]
          rfl
         refine pure_ (i := 20) (N := some 35) (v := ?_) (a' := ?_) (bN 21 2097151) rfl rfl (any_of HT_.out (by kernel_rfl)) (fun _ _ _ h => h) (Or.inl ⟨by rfl, ?_⟩) ?_ ?_
         rotate_left
         ·intro w'
          go_simp
          with_reducible rfl
         rotate_left
         ·simp only [Act.put, List.setIfInBounds_toArray, List.set_cons_zero, List.set_cons_succ, i64_w, i32_w]
          rfl
         refine done_ (done_of HT_.out (by kernel_rfl)) ?_
         try go_wp2
         go_meet
         case rel => exact ⟨_, (false), rfl, H', ⟨by have := HK1.out; omega⟩, BK110, BK112, HB⟩
       ·replace c13 := Bool.eq_false_iff.mpr c13
        subst c13
        have H1 : (api_Inside_right.j1 k1 a1 l0_0 (l0_0.length : Int) x10_1 true l0_0 a0_1) = some r := by rw [if_neg (show ¬ (false = true) by decide)] at H; exact H
        clear H
        have H := H1
        clear H1
        have H' := Aside0.mk H
        clear H
        try go_wp2
        have n0_ : Aside0 (((w9.setCell ⟨gb112, 0, none⟩ (.int .i64 ((rd_T62 l0_0 x10_1).f0))).setCell ⟨gb112, 1, none⟩ (.int .i64 ((rd_T62 l0_0 x10_1).f1))).heap[gb110]? = some (.cells #[.slice (some ad111) l0_0.length c0_0, .func (.func 57) #[] #[]] 74 (0, 0))) := ⟨bka BK110⟩
        have n1_ : Aside0 (((w9.setCell ⟨gb112, 0, none⟩ (.int .i64 ((rd_T62 l0_0 x10_1).f0))).setCell ⟨gb112, 1, none⟩ (.int .i64 ((rd_T62 l0_0 x10_1).f1))).heap[gb112]? = some (.cells #[.int .i64 ((rd_T62 l0_0 x10_1).f0), .int .i64 ((rd_T62 l0_0 x10_1).f1)] 62 (0, 0))) := ⟨by refine blk_put (cs := #[.int .i64 ((rd_T62 l0_0 x10_1).f0), .int .i64 0]) ?_ 1 _ rfl; refine blk_put (cs := #[.int .i64 0, .int .i64 0]) ?_ 0 _ rfl; exact BK112.out⟩
        have n2_ : Aside0 (Below w.heap.size w ((w9.setCell ⟨gb112, 0, none⟩ (.int .i64 ((rd_T62 l0_0 x10_1).f0))).setCell ⟨gb112, 1, none⟩ (.int .i64 ((rd_T62 l0_0 x10_1).f1)))) := ⟨bel⟩
        (try clear BK110)
        (try clear BK112)
        (try clear HB)
        generalize ((w9.setCell ⟨gb112, 0, none⟩ (.int .i64 ((rd_T62 l0_0 x10_1).f0))).setCell ⟨gb112, 1, none⟩ (.int .i64 ((rd_T62 l0_0 x10_1).f1))) = w26 at n0_ n1_ n2_ ⊢
        have BK110 := n0_
        have BK112 := n1_
        have HB := n2_
        clear n0_ n1_ n2_
        replace BK110 := Aside0.mk (blk_drew BK110.out)
        replace BK112 := Aside0.mk (blk_drew BK112.out)
        replace HB := Aside0.mk (below_drew1 HB.out)
        refine start_ (n := 21) (S := fun w' => w'.cell? ⟨gb112, 0, none⟩ = some (.int .i64 ((rd_T62 l0_0 x10_1).f0)) ∧ w'.cell? ⟨gb112, 1, none⟩ = some (.int .i64 ((rd_T62 l0_0 x10_1).f1))) (ds := []) #[false, false, false, false, false, false, false, false, false, false, false, false, false, false, false, false, false, false, false, false, false] (by kernel_rfl) rfl rfl ⟨(blk_cell BK112.out 0).trans rfl, (blk_cell BK112.out 1).trans rfl⟩ (fun hHeld => ?_); refine with_tabW api_Inside_right.tab4 api_Inside_right.bits4 (fun HT_ HW_ => ?_)
        generalize w26.drew = w27 at BK110 BK112 HB hHeld ⊢
        refine pure_ (i := 0) (N := some 15) (v := ?_) (a' := ?_) (bN 21 1) rfl rfl (any_of HT_.out (by kernel_rfl)) (fun _ _ _ h => h) (Or.inl ⟨by rfl, ?_⟩) ?_ ?_
        rotate_left
        ·intro w'
         go_simp
         with_reducible rfl
        rotate_left
        ·simp only [Act.put, List.setIfInBounds_toArray, List.set_cons_zero, List.set_cons_succ, i64_w, i32_w]
         rfl
        refine take_ (i := 1) (N := some 16) (v := ?_) (a' := ?_) (bN 21 3) rfl rfl (take_ofW HT_.out HW_.out (by kernel_rfl)) (fun _ _ _ h => h) (Or.inl ⟨by rfl, ?_⟩) hHeld ?_ ?_
        rotate_left
        ·rintro w' ⟨s0, s1⟩
         go_simp
         with_reducible rfl
        rotate_left
        ·simp only [Act.put, List.setIfInBounds_toArray, List.set_cons_zero, List.set_cons_succ, i64_w, i32_w]
         rfl
        refine one_ (i := 2) (N := some 17) (bN 21 7) rfl rfl (one_of HT_.out (by kernel_rfl)) (by decide) (fun K hK => ?_)
        refine goesV_ Try.func50 (by kernel_rfl) rfl #[] #[.pointer (some ⟨gh_, 0, none⟩)] #[.agg #[.int .i64 ((rd_T62 l0_0 x10_1).f0), .int .i64 ((rd_T62 l0_0 x10_1).f1)]] #[.agg #[.int .i64 ((rd_T62 l0_0 x10_1).f0), .int .i64 ((rd_T62 l0_0 x10_1).f1)], .pointer (some ⟨gh_, 0, none⟩)] rfl (by rfl) rfl rfl rfl (by simp only [List.map_toArray, List.map_cons, List.map_nil] <;> rfl) ?_
        with_reducible refine (call_inside_1.calls ((rd_T62 l0_0 x10_1).f0) ((rd_T62 l0_0 x10_1).f1) a1 false _ A12.out gh_ (blk_still HCH.out (by repeat (first | (with_reducible first | exact HB.out | apply below_alloc | apply pw_below_drewN | apply below_drew1) | exact HB.out | (refine below_set ?_ (Aside0.out (by assumption))))))).mono ?_
        rintro e w28 ⟨rfl, hb⟩
        refine ⟨_, rfl, ?_⟩
        replace BK110 := sBk BK110 hb
        replace BK112 := sBk BK112 hb
        replace HB := sHb hb
        (try clear hb)
        (try clear hb2)
        (try clear hk)
        (try clear hi)
        refine hK.out _ _ ⟨(blk_cell BK112.out 0).trans rfl, (blk_cell BK112.out 1).trans rfl⟩ (fun hHeld => ?_)
        clear hK K
        refine norm_ (a' := ?_) ?_ ?_
        rotate_left
        ·show Act.put _ (some 17) _ = _
         simp only [Act.put, List.setIfInBounds_toArray, List.set_cons_zero, List.set_cons_succ, i64_w, i32_w]
         rfl
        refine pure_ (i := 3) (N := some 18) (v := ?_) (a' := ?_) (bN 21 15) rfl rfl (any_of HT_.out (by kernel_rfl)) (fun _ _ _ h => h) (Or.inl ⟨by rfl, ?_⟩) ?_ ?_
        rotate_left
        ·intro w'
         go_simp
         with_reducible rfl
        rotate_left
        ·simp only [Act.put, List.setIfInBounds_toArray, List.set_cons_zero, List.set_cons_succ, i64_w, i32_w]
         rfl
        refine pure_ (i := 4) (N := some 19) (v := ?_) (a' := ?_) (bN 21 31) rfl rfl (any_of HT_.out (by kernel_rfl)) (fun _ _ _ h => h) (Or.inl ⟨by rfl, ?_⟩) ?_ ?_
        rotate_left
        ·intro w'
         go_simp
         with_reducible rfl
        rotate_left
        ·simp only [Act.put, List.setIfInBounds_toArray, List.set_cons_zero, List.set_cons_succ, i64_w, i32_w]
         rfl
        refine pure_ (i := 5) (N := some 20) (v := undef) (a' := ?_) (bN 21 63) rfl rfl (any_of HT_.out (by kernel_rfl)) (fun _ _ _ h => h) (Or.inr ⟨by rfl, rfl⟩) ?_ ?_
        rotate_left
        ·simp only [Act.put, List.setIfInBounds_toArray, List.set_cons_zero, List.set_cons_succ, i64_w, i32_w]
         rfl
        refine pure_ (i := 6) (N := some 21) (v := undef) (a' := ?_) (bN 21 127) rfl rfl (any_of HT_.out (by kernel_rfl)) (fun _ _ _ h => h) (Or.inr ⟨by rfl, rfl⟩) ?_ ?_
        rotate_left
        ·simp only [Act.put, List.setIfInBounds_toArray, List.set_cons_zero, List.set_cons_succ, i64_w, i32_w]
         rfl
        refine pure_ (i := 7) (N := some 22) (v := undef) (a' := ?_) (bN 21 255) rfl rfl (any_of HT_.out (by kernel_rfl)) (fun _ _ _ h => h) (Or.inr ⟨by rfl, rfl⟩) ?_ ?_
        rotate_left
        ·simp only [Act.put, List.setIfInBounds_toArray, List.set_cons_zero, List.set_cons_succ, i64_w, i32_w]
         rfl
        refine pure_ (i := 8) (N := some 23) (v := undef) (a' := ?_) (bN 21 511) rfl rfl (any_of HT_.out (by kernel_rfl)) (fun _ _ _ h => h) (Or.inr ⟨by rfl, rfl⟩) ?_ ?_
        rotate_left
        ·simp only [Act.put, List.setIfInBounds_toArray, List.set_cons_zero, List.set_cons_succ, i64_w, i32_w]
         rfl
        refine pure_ (i := 9) (N := some 24) (v := undef) (a' := ?_) (bN 21 1023) rfl rfl (any_of HT_.out (by kernel_rfl)) (fun _ _ _ h => h) (Or.inr ⟨by rfl, rfl⟩) ?_ ?_
        rotate_left
        ·simp only [Act.put, List.setIfInBounds_toArray, List.set_cons_zero, List.set_cons_succ, i64_w, i32_w]
         rfl
        refine pure_ (i := 10) (N := some 25) (v := undef) (a' := ?_) (bN 21 2047) rfl rfl (any_of HT_.out (by kernel_rfl)) (fun _ _ _ h => h) (Or.inr ⟨by rfl, rfl⟩) ?_ ?_
        rotate_left
        ·simp only [Act.put, List.setIfInBounds_toArray, List.set_cons_zero, List.set_cons_succ, i64_w, i32_w]
         rfl
        refine pure_ (i := 11) (N := some 26) (v := undef) (a' := ?_) (bN 21 4095) rfl rfl (any_of HT_.out (by kernel_rfl)) (fun _ _ _ h => h) (Or.inr ⟨by rfl, rfl⟩) ?_ ?_
        rotate_left
        ·simp only [Act.put, List.setIfInBounds_toArray, List.set_cons_zero, List.set_cons_succ, i64_w, i32_w]
         rfl
        refine pure_ (i := 12) (N := some 27) (v := undef) (a' := ?_) (bN 21 8191) rfl rfl (any_of HT_.out (by kernel_rfl)) (fun _ _ _ h => h) (Or.inr ⟨by rfl, rfl⟩) ?_ ?_
        rotate_left
        ·simp only [Act.put, List.setIfInBounds_toArray, List.set_cons_zero, List.set_cons_succ, i64_w, i32_w]
         rfl
        refine pure_ (i := 13) (N := some 28) (v := undef) (a' := ?_) (bN 21 16383) rfl rfl (any_of HT_.out (by kernel_rfl)) (fun _ _ _ h => h) (Or.inr ⟨by rfl, rfl⟩) ?_ ?_
        rotate_left
        ·simp only [Act.put, List.setIfInBounds_toArray, List.set_cons_zero, List.set_cons_succ, i64_w, i32_w]
         rfl
        refine pure_ (i := 14) (N := some 29) (v := undef) (a' := ?_) (bN 21 32767) rfl rfl (any_of HT_.out (by kernel_rfl)) (fun _ _ _ h => h) (Or.inr ⟨by rfl, rfl⟩) ?_ ?_
        rotate_left
        ·simp only [Act.put, List.setIfInBounds_toArray, List.set_cons_zero, List.set_cons_succ, i64_w, i32_w]
         rfl
        refine pure_ (i := 15) (N := some 30) (v := undef) (a' := ?_) (bN 21 65535) rfl rfl (any_of HT_.out (by kernel_rfl)) (fun _ _ _ h => h) (Or.inr ⟨by rfl, rfl⟩) ?_ ?_
        rotate_left
        ·simp only [Act.put, List.setIfInBounds_toArray, List.set_cons_zero, List.set_cons_succ, i64_w, i32_w]
         rfl
        refine pure_ (i := 16) (N := some 31) (v := undef) (a' := ?_) (bN 21 131071) rfl rfl (any_of HT_.out (by kernel_rfl)) (fun _ _ _ h => h) (Or.inr ⟨by rfl, rfl⟩) ?_ ?_
        rotate_left
        ·simp only [Act.put, List.setIfInBounds_toArray, List.set_cons_zero, List.set_cons_succ, i64_w, i32_w]
         rfl
        refine pure_ (i := 17) (N := some 32) (v := undef) (a' := ?_) (bN 21 262143) rfl rfl (any_of HT_.out (by kernel_rfl)) (fun _ _ _ h => h) (Or.inr ⟨by rfl, rfl⟩) ?_ ?_
        rotate_left
        ·simp only [Act.put, List.setIfInBounds_toArray, List.set_cons_zero, List.set_cons_succ, i64_w, i32_w]
         rfl
        refine pure_ (i := 18) (N := some 33) (v := undef) (a' := ?_) (bN 21 524287) rfl rfl (any_of HT_.out (by kernel_rfl)) (fun _ _ _ h => h) (Or.inr ⟨by rfl, rfl⟩) ?_ ?_
        rotate_left
        ·simp only [Act.put, List.setIfInBounds_toArray, List.set_cons_zero, List.set_cons_succ, i64_w, i32_w]
         rfl
        refine pure_ (i := 19) (N := some 34) (v := undef) (a' := ?_) (bN 21 1048575) rfl rfl (any_of HT_.out (by kernel_rfl)) (fun _ _ _ h => h) (Or.inr ⟨by rfl, rfl⟩) ?_ ?_
        rotate_left
        ·simp only [Act.put, List.setIfInBounds_toArray, List.set_cons_zero, List.set_cons_succ, i64_w, i32_w]
         rfl
        refine pure_ (i := 20) (N := some 35) (v := ?_) (a' := ?_) (bN 21 2097151) rfl rfl (any_of HT_.out (by kernel_rfl)) (fun _ _ _ h => h) (Or.inl ⟨by rfl, ?_⟩) ?_ ?_
        rotate_left
        ·intro w'
         go_simp
         with_reducible rfl
        rotate_left
        ·simp only [Act.put, List.setIfInBounds_toArray, List.set_cons_zero, List.set_cons_succ, i64_w, i32_w]
         rfl
        refine done_ (done_of HT_.out (by kernel_rfl)) ?_
        try go_wp2
        go_meet
        case rel => exact ⟨_, (true), rfl, H', ⟨by have := HK1.out; omega⟩, BK110, BK112, HB⟩
      case rest =>
       clear HC8
       try clear c1
       try clear p1
       try clear q1
       try clear hx1
       try clear p2
       try clear c5
       try clear p11
       try clear q11
       try clear hx11
       try clear c13
       try clear c14
       try clear c14b0
       try clear c16
       try clear c16b0
       try clear c17
       try clear c17b0
       try clear hx114_0
       try clear hx114_1
       try clear p114
       try clear q114
       obtain ⟨kq, x35_7, rfl, HA, HJ7, BK110, BK112, HB⟩ := hcut
       cases kq with
       | zero => exact absurd HA.out (by simp [api_Inside_right.j1])
       | succ kj7 =>
        have H := HA.out
        clear HA
        simp only [api_Inside_right.j1] at H
        by_cases c29 : x35_7 = true
        ·subst c29
         have H1 : (some false) = some r := by rw [if_pos rfl] at H; exact H
         clear H
         have H := H1
         clear H1
         obtain rfl := Option.some.inj H
         go_wp2
         go_ret
         exact ⟨rfl, HB.out⟩
        ·replace c29 := Bool.eq_false_iff.mpr c29
         subst c29
         have H1 : (api_Inside_right.l0 kj7 a1 l0_0 (l0_0.length : Int) (wrap64 (x10_1 + 1)) l0_0 a0_1) = some r := by rw [if_neg (show ¬ (false = true) by decide)] at H; exact H
         clear H
         have H := H1
         clear H1
         have H' := Aside0.mk H
         clear H
         go_wp2
         go_roundg kj7
         case measure => have := HK1.out; have := HJ7.out; omega
         case rel => exact ⟨(wrap64 (x10_1 + 1)), rfl, H', ⟨by have := HK1.out; have := HJ7.out; omega⟩, BK110, HB⟩
     ·rw [if_neg c7] at H
      exact absurd H (by simp)
    ·rw [if_neg c6] at H
     exact absurd H (by simp)
   ·rw [if_neg c5] at H
    have c5b0 : decide (x10_1 < (l0_0.length : Int)) = false := decide_eq_false c5
    clear c5
    obtain rfl := Option.some.inj H
    go_wp2
    go_ret
    exact ⟨rfl, HB.out⟩
end Go.Proofs.Ytjehhhlhalkieaa.C
namespace Go.Proofs.Ytjehhhlhalkieaa.Call
open Go.RowKit Go.Proofs.YtjehhhlhalkieaaW.PrintWords Go.Proofs.YtjehhhlhalkieaaW.PrintLast Go.Proofs.YtjehhhlhalkieaaW.PrintMore Go.Proofs.Ytjehhhlhalkieaa.C
set_option linter.unusedVariables false
set_option linter.unusedSimpArgs false
theorem cmpI_lt (a b : Int) : cmpI a b < 0 ↔ a < b := by unfold cmpI; split <;> (try split) <;> omega
theorem cmpI_eq (a b : Int) : cmpI a b = 0 ↔ a = b := by unfold cmpI; split <;> (try split) <;> omega
theorem cmp2_lt (a b c d : Int) : cmp2 a b c d < 0 ↔ (a < c ∨ (a = c ∧ b < d)) := by
  unfold cmp2
  have h1 := cmpI_lt a c
  have h2 := cmpI_eq a c
  have h3 := cmpI_lt b d
  split <;> omega
theorem cmp2_eq (a b c d : Int) : cmp2 a b c d = 0 ↔ (a = c ∧ b = d) := by
  unfold cmp2
  have h1 := cmpI_lt a c
  have h2 := cmpI_eq a c
  have h3 := cmpI_eq b d
  split <;> omega
def idxS {α : Type} (q : α → Bool) : Nat → List α → Int
  | _, [] => -1
  | i, x :: l => if q x = true then (i : Int) else idxS q (i + 1) l
theorem idxS_spec {α : Type} (q : α → Bool) (l : List α) : ∀ i : Nat, (idxS q i l = -1 ∧ ∀ x ∈ l, q x = false) ∨ ∃ k : Nat, ∃ h : k < l.length, idxS q i l = ((i + k : Nat) : Int) ∧ q l[k] = true ∧ ∀ x ∈ l.take k, q x = false := by
  induction l with
  | nil => intro i; exact .inl ⟨rfl, by simp⟩
  | cons x l ih =>
    intro i
    simp only [idxS]
    by_cases h : q x = true
    · rw [if_pos h]
      exact .inr ⟨0, by simp, by simp, by simpa using h, by simp⟩
    · rw [if_neg h]
      have hf : q x = false := by simpa using h
      rcases ih (i + 1) with ⟨e, ha⟩ | ⟨k, hk, e, ht, ha⟩
      · refine .inl ⟨e, fun y hy => ?_⟩
        rcases List.mem_cons.1 hy with rfl | hy
        · exact hf
        · exact ha y hy
      · refine .inr ⟨k + 1, by simpa using hk, by rw [e]; congr 1; omega, by simpa using ht, fun y hy => ?_⟩
        rw [List.take_succ_cons] at hy
        rcases List.mem_cons.1 hy with rfl | hy
        · exact hf
        · exact ha y hy
def rightS {α : Type} (may : α → Bool) (lt : α → α → Bool) : Option α → List α → Bool
  | _, [] => true
  | none, x :: l => may x && rightS may lt (some x) l
  | some p, x :: l => (may x && lt p x) && rightS may lt (some x) l
abbrev qH (a1 : Int) (x : S56) : Bool := cmp2 (tok1 a1) (tok2 a1) x.f0 x.f1 == 0
def ltH (x y : S56) : Bool := decide (cmp2 x.f0 x.f1 y.f0 y.f1 < 0)
theorem ltH_iff (x y : S56) : ltH x y = true ↔ (x.f0 < y.f0 ∨ (x.f0 = y.f0 ∧ x.f1 < y.f1)) := by
  unfold ltH
  rw [decide_eq_true_iff, cmp2_lt]
theorem ltH_trans {x y z : S56} (h1 : ltH x y = true) (h2 : ltH y z = true) : ltH x z = true := by
  rw [ltH_iff] at *
  omega
theorem rdH_at (l : List S56) (i : Nat) (h : i < l.length) : rd_T56 l (i : Int) = l[i] := by
  unfold rd_T56
  rw [Int.toNat_natCast, List.getD_eq_getElem?_getD, List.getElem?_eq_getElem h]
  rfl
theorem idxH_loop (l : List S56) (a1 : Int) (hm : l.length ≤ 1000000000) (j : Nat) : ∀ (f i : Nat), i + j = l.length → j < f → api_Hall_67.l0 f l a1 (l.length : Int) (i : Int) = some (idxS (qH a1) i (l.drop i)) := by
  induction j with
  | zero =>
    intro f i hi hf
    obtain ⟨f, rfl⟩ : ∃ m, f = m + 1 := ⟨f - 1, by omega⟩
    simp only [api_Hall_67.l0]
    rw [if_neg (by omega), List.drop_of_length_le (by omega)]
    rfl
  | succ j ih =>
    intro f i hi hf
    obtain ⟨f, rfl⟩ : ∃ m, f = m + 1 := ⟨f - 1, by omega⟩
    have ha : i < l.length := by omega
    have ei : wrap64 ((i : Int) + 1) = ((i + 1 : Nat) : Int) := by unfold wrap64; omega
    simp only [api_Hall_67.l0]
    rw [if_pos (by omega), if_pos (by omega), if_pos (by omega), rdH_at l i ha, ei, ih f (i + 1) (by omega) (by omega)]
    unfold api_Hall_without_1.f
    simp only [Option.bind_some]
    rw [List.drop_eq_getElem_cons ha]
    simp only [idxS]
    by_cases h : qH a1 l[i] = true
    · rw [if_pos h, if_pos h]
    · rw [if_neg h, if_neg h]
theorem idxH_eq (l : List S56) (a1 : Int) (hm : l.length ≤ 1000000000) (k : Nat) (hk : l.length < k) : api_Hall_67.f k l a1 = some (idxS (qH a1) 0 l) := by
  unfold api_Hall_67.f
  have := idxH_loop l a1 hm l.length k 0 (by omega) hk
  simpa using this
theorem delH_loop (l : List S56) (a1 : Int) (hm : l.length ≤ 1000000000) (j : Nat) : ∀ (f : Nat) (x : List S56) (i m : Nat), x.length = l.length → m + j = l.length → i ≤ m → j < f → x.drop m = l.drop m → x.take i = (l.take m).filter (fun y => !qH a1 y) →
    api_Hall_54.l0 f x a1 (i : Int) (m : Int) = some (l.filter (fun y => !qH a1 y)) := by
  induction j with
  | zero =>
    intro f x i m hx hj him hf hd ht
    obtain ⟨f, rfl⟩ : ∃ m, f = m + 1 := ⟨f - 1, by omega⟩
    simp only [api_Hall_54.l0]
    rw [if_neg (by omega), if_pos (by omega), if_pos (by omega), Int.toNat_natCast, ht, List.take_of_length_le (by omega)]
  | succ j ih =>
    intro f x i m hx hj him hf hd ht
    obtain ⟨f, rfl⟩ : ∃ m, f = m + 1 := ⟨f - 1, by omega⟩
    have ha : m < l.length := by omega
    have hax : m < x.length := by omega
    have em : wrap64 ((m : Int) + 1) = ((m + 1 : Nat) : Int) := by unfold wrap64; omega
    have ei : wrap64 ((i : Int) + 1) = ((i + 1 : Nat) : Int) := by unfold wrap64; omega
    have hxm : x[m] = l[m] := by
      have h1 := List.drop_eq_getElem_cons hax
      have h2 := List.drop_eq_getElem_cons ha
      rw [hd, h2] at h1
      exact (List.cons.inj h1).1.symm
    have hd1 : x.drop (m + 1) = l.drop (m + 1) := by
      have h1 := List.drop_eq_getElem_cons hax
      have h2 := List.drop_eq_getElem_cons ha
      rw [hd, h2] at h1
      exact (List.cons.inj h1).2.symm
    have hl1 : (l.take (m + 1)).filter (fun y => !qH a1 y) = (l.take m).filter (fun y => !qH a1 y) ++ [l[m]].filter (fun y => !qH a1 y) := by
      rw [List.take_succ_eq_append_getElem ha, List.filter_append]
    simp only [api_Hall_54.l0]
    rw [if_pos (by omega), if_pos (by omega), rdH_at x m hax, hxm, em, ei]
    unfold api_Hall_without_1.f
    simp only [Option.bind_some]
    by_cases h : qH a1 l[m] = true
    · rw [if_pos h]
      refine ih f x i (m + 1) hx (by omega) (by omega) (by omega) hd1 ?_
      rw [hl1, ht]
      simp only [List.filter_cons, List.filter_nil]
      rw [if_neg (by rw [h]; decide), List.append_nil]
    · have hf' : qH a1 l[m] = false := by simpa using h
      rw [if_neg h, if_pos (by omega), if_pos (by omega), Int.toNat_natCast]
      refine ih f (x.set i _) (i + 1) (m + 1) (by rw [List.length_set]; exact hx) (by omega) (by omega) (by omega) ?_ ?_
      · rw [List.drop_set_of_lt (by omega)]
        exact hd1
      · rw [hl1]
        simp only [List.filter_cons, List.filter_nil]
        rw [if_pos (by rw [hf']; rfl), List.take_succ_eq_append_getElem (by rw [List.length_set]; omega), List.getElem_set_self, List.take_set_of_le (by omega), ht]
theorem delH_eq (l : List S56) (a1 : Int) (hm : l.length ≤ 1000000000) (k : Nat) (hk : l.length + 5 < k) : api_Hall_54.f k l a1 = some (l.filter (fun y => !qH a1 y)) := by
  unfold api_Hall_54.f
  rw [idxH_eq l a1 hm k (by omega)]
  simp only [Option.bind_some]
  rcases idxS_spec (qH a1) l 0 with ⟨e, ha⟩ | ⟨i, hi, e, ht, ha⟩
  · rw [e, if_pos rfl]
    congr 1
    exact (List.filter_eq_self.2 (fun y hy => by rw [ha y hy]; rfl)).symm
  · rw [e, Nat.zero_add, if_neg (by omega)]
    have ei : wrap64 ((i : Int) + 1) = ((i + 1 : Nat) : Int) := by unfold wrap64; omega
    rw [ei]
    refine delH_loop l a1 hm (l.length - (i + 1)) k l i (i + 1) rfl (by omega) (by omega) (by omega) rfl ?_
    rw [List.take_succ_eq_append_getElem hi, List.filter_append]
    simp only [List.filter_cons, List.filter_nil]
    rw [if_neg (by rw [ht]; decide), List.append_nil]
    exact (List.filter_eq_self.2 (fun y hy => by rw [ha y hy]; rfl)).symm
def PlaceH (l : List S56) (x0 x1 : Int) (p : Nat) : Prop := p ≤ l.length ∧ (∀ y ∈ l.take p, cmp2 y.f0 y.f1 x0 x1 < 0) ∧ (∀ y ∈ l.drop p, ¬ cmp2 y.f0 y.f1 x0 x1 < 0)
def fndH (l : List S56) (x0 x1 : Int) (p : Nat) : Bool := match l[p]? with | some y => cmp2 y.f0 y.f1 x0 x1 == 0 | none => false
theorem searchH_loop (l : List S56) (x0 x1 x2 : Int) (hm : l.length ≤ 1000000000) (hs : l.Pairwise (fun x y => ltH x y = true)) (d : Nat) : ∀ (f i j : Nat), j - i ≤ d → i ≤ j → j ≤ l.length → d < f → (∀ y ∈ l.take i, cmp2 y.f0 y.f1 x0 x1 < 0) → (∀ y ∈ l.drop j, ¬ cmp2 y.f0 y.f1 x0 x1 < 0) →
    ∃ p, PlaceH l x0 x1 p ∧ api_Hall_62.l0 f l (l.length : Int) (i : Int) (j : Int) x0 x1 x2 = some ((p : Int), fndH l x0 x1 p) := by
  have stop : ∀ (f i : Nat), 0 < f → i ≤ l.length → (∀ y ∈ l.take i, cmp2 y.f0 y.f1 x0 x1 < 0) → (∀ y ∈ l.drop i, ¬ cmp2 y.f0 y.f1 x0 x1 < 0) → ∃ p, PlaceH l x0 x1 p ∧ api_Hall_62.l0 f l (l.length : Int) (i : Int) (i : Int) x0 x1 x2 = some ((p : Int), fndH l x0 x1 p) := by
    intro f i hf hi h1 h2
    obtain ⟨f, rfl⟩ : ∃ m, f = m + 1 := ⟨f - 1, by omega⟩
    refine ⟨i, ⟨hi, h1, h2⟩, ?_⟩
    simp only [api_Hall_62.l0]
    unfold fndH
    rw [if_neg (by omega)]
    by_cases h : i < l.length
    · rw [if_pos (by omega), if_pos (by omega), if_pos (by omega), rdH_at l i h, List.getElem?_eq_getElem h]
      rfl
    · rw [if_neg (by omega), List.getElem?_eq_none (by omega)]
  induction d with
  | zero =>
    intro f i j hd hij hj hf h1 h2
    obtain rfl : i = j := by omega
    exact stop f i hf hj h1 h2
  | succ d ih =>
    intro f i j hd hij hj hf h1 h2
    by_cases he : i = j
    · subst he
      exact stop f i (by omega) hj h1 h2
    · obtain ⟨f, rfl⟩ : ∃ m, f = m + 1 := ⟨f - 1, by omega⟩
      have hmid : wrap64 ((IntKind.u64.wrap (wrap64 ((i : Int) + (j : Int)))) / 2) = (((i + j) / 2 : Nat) : Int) := by
        rw [show wrap64 ((i : Int) + (j : Int)) = (i : Int) + (j : Int) from by unfold wrap64; omega, IntKind.wrap_u64]
        unfold wrap64; omega
      have e1 : wrap64 ((((i + j) / 2 : Nat) : Int) + 1) = (((i + j) / 2 + 1 : Nat) : Int) := by unfold wrap64; omega
      simp only [api_Hall_62.l0]
      rw [if_pos (by omega), hmid]
      have hh : (i + j) / 2 < l.length := by omega
      generalize hg : (i + j) / 2 = h at *
      rw [if_pos (by omega), if_pos (by omega), rdH_at l h hh, e1]
      unfold call_halls_1.f
      simp only [Option.bind_some]
      have hlt : ∀ m : Nat, (hm : m < h) → cmp2 (l[m]'(by omega)).f0 (l[m]'(by omega)).f1 l[h].f0 l[h].f1 < 0 := by
        intro m hm
        have := List.pairwise_iff_getElem.1 hs m h (by omega) hh hm
        exact of_decide_eq_true this
      have hgt : ∀ m : Nat, h < m → (hm : m < l.length) → cmp2 l[h].f0 l[h].f1 l[m].f0 l[m].f1 < 0 := by
        intro m hm hml
        have := List.pairwise_iff_getElem.1 hs h m hh hml hm
        exact of_decide_eq_true this
      by_cases hc : cmp2 l[h].f0 l[h].f1 x0 x1 < 0
      · rw [if_pos hc]
        refine ih f (h + 1) j (by omega) (by omega) hj (by omega) ?_ h2
        intro y hy
        obtain ⟨m, hm, rfl⟩ := List.mem_iff_getElem.1 hy
        rw [List.length_take] at hm
        rw [List.getElem_take]
        by_cases hmh : m = h
        · subst hmh; exact hc
        · have h3 := hlt m (by omega)
          rw [cmp2_lt] at *
          omega
      · rw [if_neg hc]
        refine ih f i h (by omega) (by omega) (by omega) (by omega) h1 ?_
        intro y hy
        obtain ⟨m, hm, rfl⟩ := List.mem_iff_getElem.1 hy
        rw [List.length_drop] at hm
        rw [List.getElem_drop]
        by_cases hmh : m = 0
        · subst hmh; simpa using hc
        · have h3 := hgt (h + m) (by omega) (by omega)
          rw [cmp2_lt] at *
          omega
theorem searchH_eq (l : List S56) (x0 x1 x2 : Int) (a2 : Int) (hm : l.length ≤ 1000000000) (hs : l.Pairwise (fun x y => ltH x y = true)) (k : Nat) (hk : l.length < k) :
    ∃ p, PlaceH l x0 x1 p ∧ api_Hall_62.f k l x0 x1 x2 a2 = some ((p : Int), fndH l x0 x1 p) := by
  unfold api_Hall_62.f
  have := searchH_loop l x0 x1 x2 hm hs l.length k 0 l.length (by omega) (by omega) (by omega) hk (by simp) (by simp)
  simpa using this
theorem rightH_loop (l : List S56) (a1 tok_ : Int) (hm : l.length ≤ 1000000000) (j : Nat) : ∀ (f i : Nat), i + j = l.length → 2 * j < f → api_Hall_right.l0 f a1 l (l.length : Int) (i : Int) l tok_ = some (rightS (fun x => hallB (tok1 a1) (tok2 a1) x.f0 x.f1 x.f2) ltH (if i = 0 then none else l[i - 1]?) (l.drop i)) := by
  induction j with
  | zero =>
    intro f i hi hf
    obtain ⟨f, rfl⟩ : ∃ m, f = m + 1 := ⟨f - 1, by omega⟩
    simp only [api_Hall_right.l0]
    rw [if_neg (by omega), List.drop_of_length_le (by omega)]
    cases (if i = 0 then none else l[i - 1]?) <;> rfl
  | succ j ih =>
    intro f i hi hf
    obtain ⟨f, rfl⟩ : ∃ m, f = m + 2 := ⟨f - 2, by omega⟩
    have ha : i < l.length := by omega
    have ei : wrap64 ((i : Int) + 1) = ((i + 1 : Nat) : Int) := by unfold wrap64; omega
    have jt : api_Hall_right.j1 (f + 1) a1 l (l.length : Int) (i : Int) true l tok_ = some false := by simp [api_Hall_right.j1]
    have jf : api_Hall_right.j1 (f + 1) a1 l (l.length : Int) (i : Int) false l tok_ = some (rightS (fun x => hallB (tok1 a1) (tok2 a1) x.f0 x.f1 x.f2) ltH (some l[i]) (l.drop (i + 1))) := by
      simp only [api_Hall_right.j1]
      rw [if_neg (by decide), ei, ih f (i + 1) (by omega) (by omega), if_neg (by omega), Nat.add_sub_cancel, List.getElem?_eq_getElem ha]
    simp only [api_Hall_right.l0]
    rw [if_pos (by omega), if_pos (by omega), if_pos (by omega), rdH_at l i ha]
    unfold call_hall_1.f
    simp only [Option.bind_some]
    rw [List.drop_eq_getElem_cons ha]
    by_cases h1 : hallB (tok1 a1) (tok2 a1) l[i].f0 l[i].f1 l[i].f2 = true
    · rw [if_pos h1]
      by_cases h0 : i = 0
      · subst h0
        rw [if_neg (by omega), if_pos rfl, jf]
        simp only [rightS, h1, Bool.true_and]
      · have ep : wrap64 ((i : Int) - 1) = ((i - 1 : Nat) : Int) := by unfold wrap64; omega
        rw [if_pos (by omega), ep, if_pos (by omega), if_pos (by omega), rdH_at l (i - 1) (by omega), if_neg h0, List.getElem?_eq_getElem (by omega)]
        unfold call_halls_1.f
        simp only [Option.bind_some]
        simp only [rightS, h1, Bool.true_and]
        unfold ltH
        by_cases hc : cmp2 (l[i - 1]'(by omega)).f0 (l[i - 1]'(by omega)).f1 l[i].f0 l[i].f1 < 0
        · rw [decide_eq_false (by omega), decide_eq_true hc, jf, Bool.true_and]
          rfl
        · rw [decide_eq_true (by omega), decide_eq_false hc, jt, Bool.false_and]
    · have h1' : hallB (tok1 a1) (tok2 a1) l[i].f0 l[i].f1 l[i].f2 = false := by simpa using h1
      rw [if_neg h1, jt]
      by_cases h0 : i = 0
      · rw [if_pos h0]
        simp only [rightS, h1', Bool.false_and]
      · rw [if_neg h0, List.getElem?_eq_getElem (by omega)]
        simp only [rightS, h1', Bool.false_and]
theorem rightH_eq (l : List S56) (a1 tok_ : Int) (hm : l.length ≤ 1000000000) (k : Nat) (hk : 2 * l.length < k) : api_Hall_right.f k l tok_ a1 = some (rightS (fun x => hallB (tok1 a1) (tok2 a1) x.f0 x.f1 x.f2) ltH none l) := by
  unfold api_Hall_right.f
  have := rightH_loop l a1 tok_ hm l.length k 0 (by omega) hk
  simpa using this
theorem rightH_some (may : S56 → Bool) (l : List S56) : ∀ p, rightS may ltH (some p) l = true ↔ ((∀ x ∈ l, may x = true) ∧ (p :: l).Pairwise (fun x y => ltH x y = true)) := by
  induction l with
  | nil => intro p; simp [rightS]
  | cons x l ih =>
    intro p
    simp only [rightS, Bool.and_eq_true]
    rw [ih x]
    simp only [List.pairwise_cons, List.mem_cons, forall_eq_or_imp]
    constructor
    · rintro ⟨⟨h1, h2⟩, h3, h4, h5⟩
      exact ⟨⟨h1, h3⟩, ⟨h2, fun y hy => ltH_trans h2 (h4 y hy)⟩, h4, h5⟩
    · rintro ⟨⟨h1, h3⟩, ⟨h2, _⟩, h4, h5⟩
      exact ⟨⟨h1, h2⟩, h3, h4, h5⟩
theorem rightH_none (may : S56 → Bool) (l : List S56) : rightS may ltH none l = true ↔ ((∀ x ∈ l, may x = true) ∧ l.Pairwise (fun x y => ltH x y = true)) := by
  cases l with
  | nil => simp [rightS]
  | cons x l =>
    simp only [rightS, Bool.and_eq_true]
    rw [rightH_some]
    simp only [List.mem_cons, forall_eq_or_imp]
    constructor
    · rintro ⟨h1, h2, h3⟩
      exact ⟨⟨h1, h2⟩, h3⟩
    · rintro ⟨⟨h1, h2⟩, h3⟩
      exact ⟨h1, h2, h3⟩
abbrev qI (a1 : Int) (x : S62) : Bool := cmp2 (tok1 a1) (tok2 a1) x.f0 x.f1 == 0
def ltI (x y : S62) : Bool := decide (cmp2 x.f0 x.f1 y.f0 y.f1 < 0)
theorem ltI_iff (x y : S62) : ltI x y = true ↔ (x.f0 < y.f0 ∨ (x.f0 = y.f0 ∧ x.f1 < y.f1)) := by
  unfold ltI
  rw [decide_eq_true_iff, cmp2_lt]
theorem ltI_trans {x y z : S62} (h1 : ltI x y = true) (h2 : ltI y z = true) : ltI x z = true := by
  rw [ltI_iff] at *
  omega
theorem rdI_at (l : List S62) (i : Nat) (h : i < l.length) : rd_T62 l (i : Int) = l[i] := by
  unfold rd_T62
  rw [Int.toNat_natCast, List.getD_eq_getElem?_getD, List.getElem?_eq_getElem h]
  rfl
theorem idxI_loop (l : List S62) (a1 : Int) (hm : l.length ≤ 1000000000) (j : Nat) : ∀ (f i : Nat), i + j = l.length → j < f → api_Inside_72.l0 f l a1 (l.length : Int) (i : Int) = some (idxS (qI a1) i (l.drop i)) := by
  induction j with
  | zero =>
    intro f i hi hf
    obtain ⟨f, rfl⟩ : ∃ m, f = m + 1 := ⟨f - 1, by omega⟩
    simp only [api_Inside_72.l0]
    rw [if_neg (by omega), List.drop_of_length_le (by omega)]
    rfl
  | succ j ih =>
    intro f i hi hf
    obtain ⟨f, rfl⟩ : ∃ m, f = m + 1 := ⟨f - 1, by omega⟩
    have ha : i < l.length := by omega
    have ei : wrap64 ((i : Int) + 1) = ((i + 1 : Nat) : Int) := by unfold wrap64; omega
    simp only [api_Inside_72.l0]
    rw [if_pos (by omega), if_pos (by omega), if_pos (by omega), rdI_at l i ha, ei, ih f (i + 1) (by omega) (by omega)]
    unfold api_Inside_without_1.f
    simp only [Option.bind_some]
    rw [List.drop_eq_getElem_cons ha]
    simp only [idxS]
    by_cases h : qI a1 l[i] = true
    · rw [if_pos h, if_pos h]
    · rw [if_neg h, if_neg h]
theorem idxI_eq (l : List S62) (a1 : Int) (hm : l.length ≤ 1000000000) (k : Nat) (hk : l.length < k) : api_Inside_72.f k l a1 = some (idxS (qI a1) 0 l) := by
  unfold api_Inside_72.f
  have := idxI_loop l a1 hm l.length k 0 (by omega) hk
  simpa using this
theorem delI_loop (l : List S62) (a1 : Int) (hm : l.length ≤ 1000000000) (j : Nat) : ∀ (f : Nat) (x : List S62) (i m : Nat), x.length = l.length → m + j = l.length → i ≤ m → j < f → x.drop m = l.drop m → x.take i = (l.take m).filter (fun y => !qI a1 y) →
    api_Inside_64.l0 f x a1 (i : Int) (m : Int) = some (l.filter (fun y => !qI a1 y)) := by
  induction j with
  | zero =>
    intro f x i m hx hj him hf hd ht
    obtain ⟨f, rfl⟩ : ∃ m, f = m + 1 := ⟨f - 1, by omega⟩
    simp only [api_Inside_64.l0]
    rw [if_neg (by omega), if_pos (by omega), if_pos (by omega), Int.toNat_natCast, ht, List.take_of_length_le (by omega)]
  | succ j ih =>
    intro f x i m hx hj him hf hd ht
    obtain ⟨f, rfl⟩ : ∃ m, f = m + 1 := ⟨f - 1, by omega⟩
    have ha : m < l.length := by omega
    have hax : m < x.length := by omega
    have em : wrap64 ((m : Int) + 1) = ((m + 1 : Nat) : Int) := by unfold wrap64; omega
    have ei : wrap64 ((i : Int) + 1) = ((i + 1 : Nat) : Int) := by unfold wrap64; omega
    have hxm : x[m] = l[m] := by
      have h1 := List.drop_eq_getElem_cons hax
      have h2 := List.drop_eq_getElem_cons ha
      rw [hd, h2] at h1
      exact (List.cons.inj h1).1.symm
    have hd1 : x.drop (m + 1) = l.drop (m + 1) := by
      have h1 := List.drop_eq_getElem_cons hax
      have h2 := List.drop_eq_getElem_cons ha
      rw [hd, h2] at h1
      exact (List.cons.inj h1).2.symm
    have hl1 : (l.take (m + 1)).filter (fun y => !qI a1 y) = (l.take m).filter (fun y => !qI a1 y) ++ [l[m]].filter (fun y => !qI a1 y) := by
      rw [List.take_succ_eq_append_getElem ha, List.filter_append]
    simp only [api_Inside_64.l0]
    rw [if_pos (by omega), if_pos (by omega), rdI_at x m hax, hxm, em, ei]
    unfold api_Inside_without_1.f
    simp only [Option.bind_some]
    by_cases h : qI a1 l[m] = true
    · rw [if_pos h]
      refine ih f x i (m + 1) hx (by omega) (by omega) (by omega) hd1 ?_
      rw [hl1, ht]
      simp only [List.filter_cons, List.filter_nil]
      rw [if_neg (by rw [h]; decide), List.append_nil]
    · have hf' : qI a1 l[m] = false := by simpa using h
      rw [if_neg h, if_pos (by omega), if_pos (by omega), Int.toNat_natCast]
      refine ih f (x.set i _) (i + 1) (m + 1) (by rw [List.length_set]; exact hx) (by omega) (by omega) (by omega) ?_ ?_
      · rw [List.drop_set_of_lt (by omega)]
        exact hd1
      · rw [hl1]
        simp only [List.filter_cons, List.filter_nil]
        rw [if_pos (by rw [hf']; rfl), List.take_succ_eq_append_getElem (by rw [List.length_set]; omega), List.getElem_set_self, List.take_set_of_le (by omega), ht]
theorem delI_eq (l : List S62) (a1 : Int) (hm : l.length ≤ 1000000000) (k : Nat) (hk : l.length + 5 < k) : api_Inside_64.f k l a1 = some (l.filter (fun y => !qI a1 y)) := by
  unfold api_Inside_64.f
  rw [idxI_eq l a1 hm k (by omega)]
  simp only [Option.bind_some]
  rcases idxS_spec (qI a1) l 0 with ⟨e, ha⟩ | ⟨i, hi, e, ht, ha⟩
  · rw [e, if_pos rfl]
    congr 1
    exact (List.filter_eq_self.2 (fun y hy => by rw [ha y hy]; rfl)).symm
  · rw [e, Nat.zero_add, if_neg (by omega)]
    have ei : wrap64 ((i : Int) + 1) = ((i + 1 : Nat) : Int) := by unfold wrap64; omega
    rw [ei]
    refine delI_loop l a1 hm (l.length - (i + 1)) k l i (i + 1) rfl (by omega) (by omega) (by omega) rfl ?_
    rw [List.take_succ_eq_append_getElem hi, List.filter_append]
    simp only [List.filter_cons, List.filter_nil]
    rw [if_neg (by rw [ht]; decide), List.append_nil]
    exact (List.filter_eq_self.2 (fun y hy => by rw [ha y hy]; rfl)).symm
def PlaceI (l : List S62) (x0 x1 : Int) (p : Nat) : Prop := p ≤ l.length ∧ (∀ y ∈ l.take p, cmp2 y.f0 y.f1 x0 x1 < 0) ∧ (∀ y ∈ l.drop p, ¬ cmp2 y.f0 y.f1 x0 x1 < 0)
def fndI (l : List S62) (x0 x1 : Int) (p : Nat) : Bool := match l[p]? with | some y => cmp2 y.f0 y.f1 x0 x1 == 0 | none => false
theorem searchI_loop (l : List S62) (x0 x1 : Int) (hm : l.length ≤ 1000000000) (hs : l.Pairwise (fun x y => ltI x y = true)) (d : Nat) : ∀ (f i j : Nat), j - i ≤ d → i ≤ j → j ≤ l.length → d < f → (∀ y ∈ l.take i, cmp2 y.f0 y.f1 x0 x1 < 0) → (∀ y ∈ l.drop j, ¬ cmp2 y.f0 y.f1 x0 x1 < 0) →
    ∃ p, PlaceI l x0 x1 p ∧ api_Inside_58.l0 f l (l.length : Int) (i : Int) (j : Int) x0 x1 = some ((p : Int), fndI l x0 x1 p) := by
  have stop : ∀ (f i : Nat), 0 < f → i ≤ l.length → (∀ y ∈ l.take i, cmp2 y.f0 y.f1 x0 x1 < 0) → (∀ y ∈ l.drop i, ¬ cmp2 y.f0 y.f1 x0 x1 < 0) → ∃ p, PlaceI l x0 x1 p ∧ api_Inside_58.l0 f l (l.length : Int) (i : Int) (i : Int) x0 x1 = some ((p : Int), fndI l x0 x1 p) := by
    intro f i hf hi h1 h2
    obtain ⟨f, rfl⟩ : ∃ m, f = m + 1 := ⟨f - 1, by omega⟩
    refine ⟨i, ⟨hi, h1, h2⟩, ?_⟩
    simp only [api_Inside_58.l0]
    unfold fndI
    rw [if_neg (by omega)]
    by_cases h : i < l.length
    · rw [if_pos (by omega), if_pos (by omega), if_pos (by omega), rdI_at l i h, List.getElem?_eq_getElem h]
      rfl
    · rw [if_neg (by omega), List.getElem?_eq_none (by omega)]
  induction d with
  | zero =>
    intro f i j hd hij hj hf h1 h2
    obtain rfl : i = j := by omega
    exact stop f i hf hj h1 h2
  | succ d ih =>
    intro f i j hd hij hj hf h1 h2
    by_cases he : i = j
    · subst he
      exact stop f i (by omega) hj h1 h2
    · obtain ⟨f, rfl⟩ : ∃ m, f = m + 1 := ⟨f - 1, by omega⟩
      have hmid : wrap64 ((IntKind.u64.wrap (wrap64 ((i : Int) + (j : Int)))) / 2) = (((i + j) / 2 : Nat) : Int) := by
        rw [show wrap64 ((i : Int) + (j : Int)) = (i : Int) + (j : Int) from by unfold wrap64; omega, IntKind.wrap_u64]
        unfold wrap64; omega
      have e1 : wrap64 ((((i + j) / 2 : Nat) : Int) + 1) = (((i + j) / 2 + 1 : Nat) : Int) := by unfold wrap64; omega
      simp only [api_Inside_58.l0]
      rw [if_pos (by omega), hmid]
      have hh : (i + j) / 2 < l.length := by omega
      generalize hg : (i + j) / 2 = h at *
      rw [if_pos (by omega), if_pos (by omega), rdI_at l h hh, e1]
      unfold call_ins_1.f
      simp only [Option.bind_some]
      have hlt : ∀ m : Nat, (hm : m < h) → cmp2 (l[m]'(by omega)).f0 (l[m]'(by omega)).f1 l[h].f0 l[h].f1 < 0 := by
        intro m hm
        have := List.pairwise_iff_getElem.1 hs m h (by omega) hh hm
        exact of_decide_eq_true this
      have hgt : ∀ m : Nat, h < m → (hm : m < l.length) → cmp2 l[h].f0 l[h].f1 l[m].f0 l[m].f1 < 0 := by
        intro m hm hml
        have := List.pairwise_iff_getElem.1 hs h m hh hml hm
        exact of_decide_eq_true this
      by_cases hc : cmp2 l[h].f0 l[h].f1 x0 x1 < 0
      · rw [if_pos hc]
        refine ih f (h + 1) j (by omega) (by omega) hj (by omega) ?_ h2
        intro y hy
        obtain ⟨m, hm, rfl⟩ := List.mem_iff_getElem.1 hy
        rw [List.length_take] at hm
        rw [List.getElem_take]
        by_cases hmh : m = h
        · subst hmh; exact hc
        · have h3 := hlt m (by omega)
          rw [cmp2_lt] at *
          omega
      · rw [if_neg hc]
        refine ih f i h (by omega) (by omega) (by omega) (by omega) h1 ?_
        intro y hy
        obtain ⟨m, hm, rfl⟩ := List.mem_iff_getElem.1 hy
        rw [List.length_drop] at hm
        rw [List.getElem_drop]
        by_cases hmh : m = 0
        · subst hmh; simpa using hc
        · have h3 := hgt (h + m) (by omega) (by omega)
          rw [cmp2_lt] at *
          omega
theorem searchI_eq (l : List S62) (x0 x1 : Int) (a2 : Int) (hm : l.length ≤ 1000000000) (hs : l.Pairwise (fun x y => ltI x y = true)) (k : Nat) (hk : l.length < k) :
    ∃ p, PlaceI l x0 x1 p ∧ api_Inside_58.f k l x0 x1 a2 = some ((p : Int), fndI l x0 x1 p) := by
  unfold api_Inside_58.f
  have := searchI_loop l x0 x1 hm hs l.length k 0 l.length (by omega) (by omega) (by omega) hk (by simp) (by simp)
  simpa using this
theorem rightI_loop (l : List S62) (a1 tok_ : Int) (hm : l.length ≤ 1000000000) (j : Nat) : ∀ (f i : Nat), i + j = l.length → 2 * j < f → api_Inside_right.l0 f a1 l (l.length : Int) (i : Int) l tok_ = some (rightS (fun x => insB (tok1 a1) (tok2 a1) x.f0 x.f1) ltI (if i = 0 then none else l[i - 1]?) (l.drop i)) := by
  induction j with
  | zero =>
    intro f i hi hf
    obtain ⟨f, rfl⟩ : ∃ m, f = m + 1 := ⟨f - 1, by omega⟩
    simp only [api_Inside_right.l0]
    rw [if_neg (by omega), List.drop_of_length_le (by omega)]
    cases (if i = 0 then none else l[i - 1]?) <;> rfl
  | succ j ih =>
    intro f i hi hf
    obtain ⟨f, rfl⟩ : ∃ m, f = m + 2 := ⟨f - 2, by omega⟩
    have ha : i < l.length := by omega
    have ei : wrap64 ((i : Int) + 1) = ((i + 1 : Nat) : Int) := by unfold wrap64; omega
    have jt : api_Inside_right.j1 (f + 1) a1 l (l.length : Int) (i : Int) true l tok_ = some false := by simp [api_Inside_right.j1]
    have jf : api_Inside_right.j1 (f + 1) a1 l (l.length : Int) (i : Int) false l tok_ = some (rightS (fun x => insB (tok1 a1) (tok2 a1) x.f0 x.f1) ltI (some l[i]) (l.drop (i + 1))) := by
      simp only [api_Inside_right.j1]
      rw [if_neg (by decide), ei, ih f (i + 1) (by omega) (by omega), if_neg (by omega), Nat.add_sub_cancel, List.getElem?_eq_getElem ha]
    simp only [api_Inside_right.l0]
    rw [if_pos (by omega), if_pos (by omega), if_pos (by omega), rdI_at l i ha]
    unfold call_inside_1.f
    simp only [Option.bind_some]
    rw [List.drop_eq_getElem_cons ha]
    by_cases h1 : insB (tok1 a1) (tok2 a1) l[i].f0 l[i].f1 = true
    · rw [if_pos h1]
      by_cases h0 : i = 0
      · subst h0
        rw [if_neg (by omega), if_pos rfl, jf]
        simp only [rightS, h1, Bool.true_and]
      · have ep : wrap64 ((i : Int) - 1) = ((i - 1 : Nat) : Int) := by unfold wrap64; omega
        rw [if_pos (by omega), ep, if_pos (by omega), if_pos (by omega), rdI_at l (i - 1) (by omega), if_neg h0, List.getElem?_eq_getElem (by omega)]
        unfold call_ins_1.f
        simp only [Option.bind_some]
        simp only [rightS, h1, Bool.true_and]
        unfold ltI
        by_cases hc : cmp2 (l[i - 1]'(by omega)).f0 (l[i - 1]'(by omega)).f1 l[i].f0 l[i].f1 < 0
        · rw [decide_eq_false (by omega), decide_eq_true hc, jf, Bool.true_and]
          rfl
        · rw [decide_eq_true (by omega), decide_eq_false hc, jt, Bool.false_and]
    · have h1' : insB (tok1 a1) (tok2 a1) l[i].f0 l[i].f1 = false := by simpa using h1
      rw [if_neg h1, jt]
      by_cases h0 : i = 0
      · rw [if_pos h0]
        simp only [rightS, h1', Bool.false_and]
      · rw [if_neg h0, List.getElem?_eq_getElem (by omega)]
        simp only [rightS, h1', Bool.false_and]
theorem rightI_eq (l : List S62) (a1 tok_ : Int) (hm : l.length ≤ 1000000000) (k : Nat) (hk : 2 * l.length < k) : api_Inside_right.f k l tok_ a1 = some (rightS (fun x => insB (tok1 a1) (tok2 a1) x.f0 x.f1) ltI none l) := by
  unfold api_Inside_right.f
  have := rightI_loop l a1 tok_ hm l.length k 0 (by omega) hk
  simpa using this
theorem rightI_some (may : S62 → Bool) (l : List S62) : ∀ p, rightS may ltI (some p) l = true ↔ ((∀ x ∈ l, may x = true) ∧ (p :: l).Pairwise (fun x y => ltI x y = true)) := by
  induction l with
  | nil => intro p; simp [rightS]
  | cons x l ih =>
    intro p
    simp only [rightS, Bool.and_eq_true]
    rw [ih x]
    simp only [List.pairwise_cons, List.mem_cons, forall_eq_or_imp]
    constructor
    · rintro ⟨⟨h1, h2⟩, h3, h4, h5⟩
      exact ⟨⟨h1, h3⟩, ⟨h2, fun y hy => ltI_trans h2 (h4 y hy)⟩, h4, h5⟩
    · rintro ⟨⟨h1, h3⟩, ⟨h2, _⟩, h4, h5⟩
      exact ⟨⟨h1, h2⟩, h3, h4, h5⟩
theorem rightI_none (may : S62 → Bool) (l : List S62) : rightS may ltI none l = true ↔ ((∀ x ∈ l, may x = true) ∧ l.Pairwise (fun x y => ltI x y = true)) := by
  cases l with
  | nil => simp [rightS]
  | cons x l =>
    simp only [rightS, Bool.and_eq_true]
    rw [rightI_some]
    simp only [List.mem_cons, forall_eq_or_imp]
    constructor
    · rintro ⟨h1, h2, h3⟩
      exact ⟨⟨h1, h2⟩, h3⟩
    · rintro ⟨⟨h1, h2⟩, h3⟩
      exact ⟨h1, h2, h3⟩
end Go.Proofs.Ytjehhhlhalkieaa.Call
namespace Go.Proofs.Ytjehhhlhalkieaa.C
open Go.RowKit Go.Proofs.YtjehhhlhalkieaaW.PrintWords Go.Proofs.YtjehhhlhalkieaaW.PrintLast Go.Proofs.YtjehhhlhalkieaaW.PrintMore
attribute [local go_sem] max2_int min2_int max_two min_two max_three min_three max_four min_four
set_option linter.unusedVariables false
set_option linter.unusedSimpArgs false
def newellaw19_Own.f (l0_0 : List (S56)) (l0_1 : List (S62)) : Option ((List (S56)) × (List (S62))) := (some (([] : List (S56)) : List (S56))).bind fun y188 => (if y188.length + l0_0.length < 5864062014805 then ((some (([] : List (S62)) : List (S62))).bind fun y194 => (if y194.length + l0_1.length < 8796093022208 then (some ((y188 ++ l0_0), (y194 ++ l0_1))) else (none))) else (none))
def newellaw19_Own.T1 : Bool × List (List Nat × List Nat) := (true, [([], []), ([], []), ([1], [1]), ([0, 2], [0, 2]), ([], []), ([], []), ([5], [5]), ([4, 6, 3], [4, 6]), ([3, 7], [3, 7]), ([8, 7, 0, 1, 2, 3, 4, 5, 6, 7, 8], [8])])
def newellaw19_Own.B1 : List Nat := [0, 0, 2, 7, 0, 0, 32, 127, 255, 511]
theorem newellaw19_Own.tab1 : rtab .any (opsOf Try.f12 1) = newellaw19_Own.T1 := by kernel_rfl
theorem newellaw19_Own.bits1 : waitsOk newellaw19_Own.T1.2 newellaw19_Own.B1 = true := by kernel_rfl
set_option maxHeartbeats 8000000 in
set_option maxRecDepth 100000 in
theorem newellaw19_Own.calls (A0_0 : Option Addr) (c0_0 : Nat) (l0_0 : List (S56)) (A0_1 : Option Addr) (c0_1 : Nat) (l0_1 : List (S62)) (r1 : List (S56)) (r2 : List (S62)) (w : World) (hr0_0 : Kd.C k56 w A0_0 l0_0.length l0_0) (hc0_0 : l0_0.length ≤ c0_0) (hr0_1 : Kd.C k62 w A0_1 l0_1.length l0_1) (hc0_1 : l0_1.length ≤ c0_1) (h : newellaw19_Own.f l0_0 l0_1 = some (r1, r2)) :
  Calls Try.prog 12 #[.agg #[.slice A0_0 l0_0.length c0_0, .slice A0_1 l0_1.length c0_1]] w fun e w' => ∃ v0_ v1_ : Value, e = .returned (.agg #[v0_, v1_]) ∧ Kd.R k56 56 w' w.heap.size (fun _ => True) v0_ r1 ∧ Kd.R k62 62 w' w.heap.size (fun _ => True) v1_ r2 ∧ Below w.heap.size w w' := by
 have hu27 := Try.underlying27
 have HR0_0 := Aside0.mk hr0_0
 have HC0_0 := Aside0.mk hc0_0
 clear hr0_0 hc0_0
 have HR0_1 := Aside0.mk hr0_1
 have HC0_1 := Aside0.mk hc0_1
 clear hr0_1 hc0_1
 have HB := Aside0.mk (Below.refl w.heap.size w)
 have H : ((some (([] : List (S56)) : List (S56))).bind fun y188 => (if y188.length + l0_0.length < 5864062014805 then ((some (([] : List (S62)) : List (S62))).bind fun y194 => (if y194.length + l0_1.length < 8796093022208 then (some ((y188 ++ l0_0), (y194 ++ l0_1))) else (none))) else (none))) = some (r1, r2) := h
 clear h
 obtain ⟨y188, hy188⟩ : ∃ y_ : List (S56), y_ = (([] : List (S56))) := ⟨_, rfl⟩
 replace H : (if y188.length + l0_0.length < 5864062014805 then ((some (([] : List (S62)) : List (S62))).bind fun y194 => (if y194.length + l0_1.length < 8796093022208 then (some ((y188 ++ l0_0), (y194 ++ l0_1))) else (none))) else (none)) = some (r1, r2) := by first | (rw [hy188]; with_reducible exact H) | (have H2_ := (Option.bind_some _ _).symm.trans H; rw [hy188]; with_reducible exact H2_) | (have H2_ := (Option.bind_some _ _).symm.trans H; with_reducible exact H2_) | with_reducible exact H | (rw [hy188]; exact H) | exact H
 have Ny188 := Aside0.mk hy188
 clear hy188
 by_cases c2 : y188.length + l0_0.length < 5864062014805
 ·rw [if_pos c2] at H
  have LMc2 := Aside0.mk c2
  clear c2
  obtain ⟨y191, hy191⟩ : ∃ y_ : List (S56), y_ = (y188 ++ l0_0) := ⟨_, rfl⟩
  replace H : ((some (([] : List (S62)) : List (S62))).bind fun y194 => (if y194.length + l0_1.length < 8796093022208 then (some (y191, (y194 ++ l0_1))) else (none))) = some (r1, r2) := by first | (rw [hy191]; with_reducible exact H) | (have H2_ := (Option.bind_some _ _).symm.trans H; rw [hy191]; with_reducible exact H2_) | (have H2_ := (Option.bind_some _ _).symm.trans H; with_reducible exact H2_) | with_reducible exact H | (rw [hy191]; exact H) | exact H
  have Ny191 := Aside0.mk hy191
  clear hy191
  obtain ⟨y194, hy194⟩ : ∃ y_ : List (S62), y_ = (([] : List (S62))) := ⟨_, rfl⟩
  replace H : (if y194.length + l0_1.length < 8796093022208 then (some (y191, (y194 ++ l0_1))) else (none)) = some (r1, r2) := by first | (rw [hy194]; with_reducible exact H) | (have H2_ := (Option.bind_some _ _).symm.trans H; rw [hy194]; with_reducible exact H2_) | (have H2_ := (Option.bind_some _ _).symm.trans H; with_reducible exact H2_) | with_reducible exact H | (rw [hy194]; exact H) | exact H
  have Ny194 := Aside0.mk hy194
  clear hy194
  by_cases c3 : y194.length + l0_1.length < 8796093022208
  ·rw [if_pos c3] at H
   have LMc3 := Aside0.mk c3
   clear c3
   obtain ⟨y197, hy197⟩ : ∃ y_ : List (S62), y_ = (y194 ++ l0_1) := ⟨_, rfl⟩
   replace H : (some (y191, y197)) = some (r1, r2) := by first | (rw [hy197]; with_reducible exact H) | (have H2_ := (Option.bind_some _ _).symm.trans H; rw [hy197]; with_reducible exact H2_) | (have H2_ := (Option.bind_some _ _).symm.trans H; with_reducible exact H2_) | with_reducible exact H | (rw [hy197]; exact H) | exact H
   have Ny197 := Aside0.mk hy197
   clear hy197
   simp only [Option.some.injEq, Prod.mk.injEq] at H
   obtain ⟨rfl, rfl⟩ := H
   go_enter Try.func12, Try.ntmps12
   try go_wp2_with (first | ((with_reducible refine gate_dst (N := 1) rfl ?_); refine box_event ?hg (N := 1) ?hd (cs := #[.slice A0_0 l0_0.length c0_0, .slice A0_1 l0_1.length c0_1]) (t := 27) ?hr ?_; (case hd => rfl); (case hg => rfl); (case hr => go_simp <;> rfl); intro gb186 hg w4 hbox hb; have BK186 := Aside0.mk hbox; have GW186 := sGe hg; have GE186 := sGe hg; replace HB := sHb hb; clear hb hbox hg) | ((with_reducible refine gate_dst (N := 2) rfl ?_); refine box_event ?hg (N := 2) ?hd (cs := #[.slice none 0 0, .slice none 0 0]) (t := 27) ?hr ?_; (case hd => rfl); (case hg => rfl); (case hr => go_simp <;> rfl); intro gb187 hg w5 hbox hb; have BK187 := Aside0.mk hbox; have GW187 := sGe hg; have GE187 := sGe hg; have NB186_187 := sNl BK186 hg; have NB187_186 := sNg BK186 hg; replace BK186 := sBk BK186 hb; replace HB := sHb hb; clear hb hbox hg))
   replace BK186 := Aside0.mk (blk_drew BK186.out)
   replace BK187 := Aside0.mk (blk_drew BK187.out)
   replace HB := Aside0.mk (below_drew1 HB.out)
   refine start_ (n := 10) (S := fun w' => w'.cell? ⟨gb186, 0, none⟩ = some (.slice A0_0 l0_0.length c0_0) ∧ w'.cell? ⟨gb186, 1, none⟩ = some (.slice A0_1 l0_1.length c0_1)) (ds := []) #[false, false, false, false, false, false, false, false, false, false] (by kernel_rfl) rfl rfl ⟨(blk_cell BK186.out 0).trans rfl, (blk_cell BK186.out 1).trans rfl⟩ (fun hHeld => ?_); refine with_tabW newellaw19_Own.tab1 newellaw19_Own.bits1 (fun HT_ HW_ => ?_)
   generalize w5.drew = w6 at BK186 BK187 HB hHeld ⊢
   refine pure_ (i := 1) (N := some 4) (v := ?_) (a' := ?_) (bN 10 2) rfl rfl (any_of HT_.out (by kernel_rfl)) (fun _ _ _ h => h) (Or.inl ⟨by rfl, ?_⟩) ?_ ?_
   rotate_left
   ·intro w'
    go_simp
    with_reducible rfl
   rotate_left
   ·simp only [Act.put, List.setIfInBounds_toArray, List.set_cons_zero, List.set_cons_succ, i64_w, i32_w]
    rfl
   refine pure_ (i := 5) (N := some 8) (v := ?_) (a' := ?_) (bN 10 34) rfl rfl (any_of HT_.out (by kernel_rfl)) (fun _ _ _ h => h) (Or.inl ⟨by rfl, ?_⟩) ?_ ?_
   rotate_left
   ·intro w'
    go_simp
    with_reducible rfl
   rotate_left
   ·simp only [Act.put, List.setIfInBounds_toArray, List.set_cons_zero, List.set_cons_succ, i64_w, i32_w]
    rfl
   refine take_ (i := 2) (N := some 5) (v := ?_) (a' := ?_) (bN 10 38) rfl rfl (take_ofW HT_.out HW_.out (by kernel_rfl)) (fun _ _ _ h => h) (Or.inl ⟨by rfl, ?_⟩) hHeld ?_ ?_
   rotate_left
   ·rintro w' ⟨s0, s1⟩
    go_simp
    with_reducible rfl
   rotate_left
   ·simp only [Act.put, List.setIfInBounds_toArray, List.set_cons_zero, List.set_cons_succ, i64_w, i32_w]
    rfl
   refine take_ (i := 6) (N := some 9) (v := ?_) (a' := ?_) (bN 10 102) rfl rfl (take_ofW HT_.out HW_.out (by kernel_rfl)) (fun _ _ _ h => h) (Or.inl ⟨by rfl, ?_⟩) hHeld ?_ ?_
   rotate_left
   ·rintro w' ⟨s0, s1⟩
    go_simp
    with_reducible rfl
   rotate_left
   ·simp only [Act.put, List.setIfInBounds_toArray, List.set_cons_zero, List.set_cons_succ, i64_w, i32_w]
    rfl
   refine join_ (σ := Value × Value × Value) 3 (bN 10 127) (fun s_ => [(3, s_.1), (6, s_.2.1), (7, s_.2.2)]) (fun s_ w' => (w'.cell? ⟨gb186, 0, none⟩ = some (.slice A0_0 l0_0.length c0_0) ∧ w'.cell? ⟨gb186, 1, none⟩ = some (.slice A0_1 l0_1.length c0_1)) ∧ (Kd.R k56 56 w' w.heap.size (fun _ => True) s_.2.1 y191) ∧ (Kd.R k62 62 w' w.heap.size (fun _ => True) s_.2.2 y194) ∧ (w'.heap[gb186]? = some (.cells #[.slice A0_0 l0_0.length c0_0, .slice A0_1 l0_1.length c0_1] 27 (0, 0))) ∧ (w'.heap[gb187]? = some (.cells #[.slice none 0 0, .slice none 0 0] 27 (0, 0))) ∧ (Below w.heap.size w w')) ?_ ?_
   rotate_left
   ·intro hCont
    refine two_ (i := 0) (j := 4) (Ni := some 3) (Nj := some 7) (bN 10 103) (bN 10 118) rfl rfl rfl rfl (two_of HT_.out (by kernel_rfl)) (by decide) (by decide) (fun K hK => ?_) (fun K hK => ?_)
    ·skip
     refine Kd.R_lit_step k56 _ 56 ?hg (N := 3) ?hd (xs := ([] : List (S56))) (inner := []) (ok := fun _ => True) (okp := fun _ => True) ?hr ?hp (fun _ hk => hk) trivial (Below.refl _ _) (Nat.le_refl _) (by simp) ?_; (case hd => rfl); (case hg => rfl); (case hr => go_simp <;> rfl); (case hp => exact (Reps.none _ _))
     intro v189 w7 ho8 hb hg_ hnew_
     clear hg_ hnew_
     (first | rw [← Ny188.out] at ho8 | (simp only [Int.reduceToNat] at ho8; rw [← Ny188.out] at ho8))
     have HO190 := Aside0.mk (Kd.R_lower ho8 (below_size HB.out))
     replace BK186 := sBk BK186 hb
     replace BK187 := sBk BK187 hb
     replace HB := sHb hb
     clear hb ho8
     refine hK.out _ _ ⟨(blk_cell BK186.out 0).trans rfl, (blk_cell BK186.out 1).trans rfl⟩ (fun hHeld => ?_)
     clear hK K
     refine norm_ (a' := ?_) ?_ ?_
     rotate_left
     ·show Act.put _ (some 3) _ = _
      simp only [Act.put, List.setIfInBounds_toArray, List.set_cons_zero, List.set_cons_succ, i64_w, i32_w]
      rfl
     refine two_ (i := 3) (j := 4) (Ni := some 6) (Nj := some 7) (bN 10 111) (bN 10 119) rfl rfl rfl rfl (two_of HT_.out (by kernel_rfl)) (by decide) (by decide) (fun K hK => ?_) (fun K hK => ?_)
     ·skip
      refine Kd.R_append_rows_step k56 (w0 := w) w.heap.size (by rfl) (.tmp 3) (.tmp 5) 24 56 (.agg #[(.int .i64 0), (.int .i64 0), (.int .i64 0)]) 24 rfl Try.underlying24 info56 rfl (by decide) (by omega) v189 y188 l0_0 _ _ _ (fun _ => True) (fun _ => False) rfl rfl ?aO ?aR (fun _ _ h => h) (fun _ h => h.elim) ?aF ?aB ?aS ?aL ?_
      (case aR => exact (Kd.C_below HR0_0.out HB.out))
      (case aB => exact HB.out)
      (case aF => exact (fun _ _ => trivial))
      (case aO => exact HO190.out)
      (case aS => exact (below_size HB.out))
      (case aL => have := LMc2.out; omega)
      intro v192 w9 ho hb hg hat
      rw [← Ny191.out] at ho
      have HO193 := Aside0.mk ho
      replace BK186 := Aside0.mk (blk_grown (g := gb186) (o := .cells #[.slice A0_0 l0_0.length c0_0, .slice A0_1 l0_1.length c0_1] 27 (0, 0)) BK186.out hg (Kd.R_ne HO190.out BK186.out (by decide)))
      replace BK187 := Aside0.mk (blk_grown (g := gb187) (o := .cells #[.slice none 0 0, .slice none 0 0] 27 (0, 0)) BK187.out hg (Kd.R_ne HO190.out BK187.out (by decide)))
      replace HB := Aside0.mk hb
      clear HO190
      clear ho hb hg hat
      refine hK.out _ _ ⟨(blk_cell BK186.out 0).trans rfl, (blk_cell BK186.out 1).trans rfl⟩ (fun hHeld => ?_)
      clear hK K
      refine norm_ (a' := ?_) ?_ ?_
      rotate_left
      ·show Act.put _ (some 6) _ = _
       simp only [Act.put, List.setIfInBounds_toArray, List.set_cons_zero, List.set_cons_succ, i64_w, i32_w]
       rfl
      refine one_ (i := 4) (N := some 7) (bN 10 127) rfl rfl (one_of HT_.out (by kernel_rfl)) (by decide) (fun K hK => ?_)
      refine Kd.R_lit_step k62 _ 62 ?hg (N := 7) ?hd (xs := ([] : List (S62))) (inner := []) (ok := fun _ => True) (okp := fun _ => True) ?hr ?hp (fun _ hk => hk) trivial (Below.refl _ _) (Nat.le_refl _) (by simp) ?_; (case hd => rfl); (case hg => rfl); (case hr => go_simp <;> rfl); (case hp => exact (Reps.none _ _))
      intro v195 w10 ho11 hb hg_ hnew_
      clear hg_ hnew_
      (first | rw [← Ny194.out] at ho11 | (simp only [Int.reduceToNat] at ho11; rw [← Ny194.out] at ho11))
      have HO196 := Aside0.mk (Kd.R_lower ho11 (below_size HB.out))
      replace HO193 := sRb HO193 hb
      replace BK186 := sBk BK186 hb
      replace BK187 := sBk BK187 hb
      replace HB := sHb hb
      clear hb ho11
      refine hK.out _ _ ⟨(blk_cell BK186.out 0).trans rfl, (blk_cell BK186.out 1).trans rfl⟩ (fun hHeld => ?_)
      clear hK K
      refine norm_ (a' := ?_) ?_ ?_
      rotate_left
      ·show Act.put _ (some 7) _ = _
       simp only [Act.put, List.setIfInBounds_toArray, List.set_cons_zero, List.set_cons_succ, i64_w, i32_w]
       rfl
      exact norm_ (by simp only [putAll, Act.put, List.setIfInBounds_toArray, List.set_cons_zero, List.set_cons_succ]) (hCont (v189, v192, v195) _ ⟨hHeld, HO193.out, HO196.out, BK186.out, BK187.out, HB.out⟩)
     ·skip
      refine Kd.R_lit_step k62 _ 62 ?hg (N := 7) ?hd (xs := ([] : List (S62))) (inner := []) (ok := fun _ => True) (okp := fun _ => True) ?hr ?hp (fun _ hk => hk) trivial (Below.refl _ _) (Nat.le_refl _) (by simp) ?_; (case hd => rfl); (case hg => rfl); (case hr => go_simp <;> rfl); (case hp => exact (Reps.none _ _))
      intro v195 w9 ho10 hb hg_ hnew_
      clear hg_ hnew_
      (first | rw [← Ny194.out] at ho10 | (simp only [Int.reduceToNat] at ho10; rw [← Ny194.out] at ho10))
      have HO196 := Aside0.mk (Kd.R_lower ho10 (below_size HB.out))
      replace HO190 := sRb HO190 hb
      replace BK186 := sBk BK186 hb
      replace BK187 := sBk BK187 hb
      replace HB := sHb hb
      clear hb ho10
      refine hK.out _ _ ⟨(blk_cell BK186.out 0).trans rfl, (blk_cell BK186.out 1).trans rfl⟩ (fun hHeld => ?_)
      clear hK K
      refine norm_ (a' := ?_) ?_ ?_
      rotate_left
      ·show Act.put _ (some 7) _ = _
       simp only [Act.put, List.setIfInBounds_toArray, List.set_cons_zero, List.set_cons_succ, i64_w, i32_w]
       rfl
      refine one_ (i := 3) (N := some 6) (bN 10 127) rfl rfl (one_of HT_.out (by kernel_rfl)) (by decide) (fun K hK => ?_)
      refine Kd.R_append_rows_step k56 (w0 := w) w.heap.size (by rfl) (.tmp 3) (.tmp 5) 24 56 (.agg #[(.int .i64 0), (.int .i64 0), (.int .i64 0)]) 24 rfl Try.underlying24 info56 rfl (by decide) (by omega) v189 y188 l0_0 _ _ _ (fun _ => True) (fun _ => False) rfl rfl ?aO ?aR (fun _ _ h => h) (fun _ h => h.elim) ?aF ?aB ?aS ?aL ?_
      (case aR => exact (Kd.C_below HR0_0.out HB.out))
      (case aB => exact HB.out)
      (case aF => exact (fun _ _ => trivial))
      (case aO => exact HO190.out)
      (case aS => exact (below_size HB.out))
      (case aL => have := LMc2.out; omega)
      intro v192 w11 ho hb hg hat
      rw [← Ny191.out] at ho
      have HO193 := Aside0.mk ho
      replace BK186 := Aside0.mk (blk_grown (g := gb186) (o := .cells #[.slice A0_0 l0_0.length c0_0, .slice A0_1 l0_1.length c0_1] 27 (0, 0)) BK186.out hg (Kd.R_ne HO190.out BK186.out (by decide)))
      replace BK187 := Aside0.mk (blk_grown (g := gb187) (o := .cells #[.slice none 0 0, .slice none 0 0] 27 (0, 0)) BK187.out hg (Kd.R_ne HO190.out BK187.out (by decide)))
      replace HO196 := Aside0.mk (Kd.R_over' HO196.out (Kd.R_typed HO190.out) (by decide) hg)
      replace HB := Aside0.mk hb
      clear HO190
      clear ho hb hg hat
      refine hK.out _ _ ⟨(blk_cell BK186.out 0).trans rfl, (blk_cell BK186.out 1).trans rfl⟩ (fun hHeld => ?_)
      clear hK K
      refine norm_ (a' := ?_) ?_ ?_
      rotate_left
      ·show Act.put _ (some 6) _ = _
       simp only [Act.put, List.setIfInBounds_toArray, List.set_cons_zero, List.set_cons_succ, i64_w, i32_w]
       rfl
      exact norm_ (by simp only [putAll, Act.put, List.setIfInBounds_toArray, List.set_cons_zero, List.set_cons_succ]) (hCont (v189, v192, v195) _ ⟨hHeld, HO193.out, HO196.out, BK186.out, BK187.out, HB.out⟩)
    ·skip
     refine Kd.R_lit_step k62 _ 62 ?hg (N := 7) ?hd (xs := ([] : List (S62))) (inner := []) (ok := fun _ => True) (okp := fun _ => True) ?hr ?hp (fun _ hk => hk) trivial (Below.refl _ _) (Nat.le_refl _) (by simp) ?_; (case hd => rfl); (case hg => rfl); (case hr => go_simp <;> rfl); (case hp => exact (Reps.none _ _))
     intro v195 w7 ho8 hb hg_ hnew_
     clear hg_ hnew_
     (first | rw [← Ny194.out] at ho8 | (simp only [Int.reduceToNat] at ho8; rw [← Ny194.out] at ho8))
     have HO196 := Aside0.mk (Kd.R_lower ho8 (below_size HB.out))
     replace BK186 := sBk BK186 hb
     replace BK187 := sBk BK187 hb
     replace HB := sHb hb
     clear hb ho8
     refine hK.out _ _ ⟨(blk_cell BK186.out 0).trans rfl, (blk_cell BK186.out 1).trans rfl⟩ (fun hHeld => ?_)
     clear hK K
     refine norm_ (a' := ?_) ?_ ?_
     rotate_left
     ·show Act.put _ (some 7) _ = _
      simp only [Act.put, List.setIfInBounds_toArray, List.set_cons_zero, List.set_cons_succ, i64_w, i32_w]
      rfl
     refine one_ (i := 0) (N := some 3) (bN 10 119) rfl rfl (one_of HT_.out (by kernel_rfl)) (by decide) (fun K hK => ?_)
     refine Kd.R_lit_step k56 _ 56 ?hg (N := 3) ?hd (xs := ([] : List (S56))) (inner := []) (ok := fun _ => True) (okp := fun _ => True) ?hr ?hp (fun _ hk => hk) trivial (Below.refl _ _) (Nat.le_refl _) (by simp) ?_; (case hd => rfl); (case hg => rfl); (case hr => go_simp <;> rfl); (case hp => exact (Reps.none _ _))
     intro v189 w9 ho10 hb hg_ hnew_
     clear hg_ hnew_
     (first | rw [← Ny188.out] at ho10 | (simp only [Int.reduceToNat] at ho10; rw [← Ny188.out] at ho10))
     have HO190 := Aside0.mk (Kd.R_lower ho10 (below_size HB.out))
     replace HO196 := sRb HO196 hb
     replace BK186 := sBk BK186 hb
     replace BK187 := sBk BK187 hb
     replace HB := sHb hb
     clear hb ho10
     refine hK.out _ _ ⟨(blk_cell BK186.out 0).trans rfl, (blk_cell BK186.out 1).trans rfl⟩ (fun hHeld => ?_)
     clear hK K
     refine norm_ (a' := ?_) ?_ ?_
     rotate_left
     ·show Act.put _ (some 3) _ = _
      simp only [Act.put, List.setIfInBounds_toArray, List.set_cons_zero, List.set_cons_succ, i64_w, i32_w]
      rfl
     refine one_ (i := 3) (N := some 6) (bN 10 127) rfl rfl (one_of HT_.out (by kernel_rfl)) (by decide) (fun K hK => ?_)
     refine Kd.R_append_rows_step k56 (w0 := w) w.heap.size (by rfl) (.tmp 3) (.tmp 5) 24 56 (.agg #[(.int .i64 0), (.int .i64 0), (.int .i64 0)]) 24 rfl Try.underlying24 info56 rfl (by decide) (by omega) v189 y188 l0_0 _ _ _ (fun _ => True) (fun _ => False) rfl rfl ?aO ?aR (fun _ _ h => h) (fun _ h => h.elim) ?aF ?aB ?aS ?aL ?_
     (case aR => exact (Kd.C_below HR0_0.out HB.out))
     (case aB => exact HB.out)
     (case aF => exact (fun _ _ => trivial))
     (case aO => exact HO190.out)
     (case aS => exact (below_size HB.out))
     (case aL => have := LMc2.out; omega)
     intro v192 w11 ho hb hg hat
     rw [← Ny191.out] at ho
     have HO193 := Aside0.mk ho
     replace BK186 := Aside0.mk (blk_grown (g := gb186) (o := .cells #[.slice A0_0 l0_0.length c0_0, .slice A0_1 l0_1.length c0_1] 27 (0, 0)) BK186.out hg (Kd.R_ne HO190.out BK186.out (by decide)))
     replace BK187 := Aside0.mk (blk_grown (g := gb187) (o := .cells #[.slice none 0 0, .slice none 0 0] 27 (0, 0)) BK187.out hg (Kd.R_ne HO190.out BK187.out (by decide)))
     replace HO196 := Aside0.mk (Kd.R_over' HO196.out (Kd.R_typed HO190.out) (by decide) hg)
     replace HB := Aside0.mk hb
     clear HO190
     clear ho hb hg hat
     refine hK.out _ _ ⟨(blk_cell BK186.out 0).trans rfl, (blk_cell BK186.out 1).trans rfl⟩ (fun hHeld => ?_)
     clear hK K
     refine norm_ (a' := ?_) ?_ ?_
     rotate_left
     ·show Act.put _ (some 6) _ = _
      simp only [Act.put, List.setIfInBounds_toArray, List.set_cons_zero, List.set_cons_succ, i64_w, i32_w]
      rfl
     exact norm_ (by simp only [putAll, Act.put, List.setIfInBounds_toArray, List.set_cons_zero, List.set_cons_succ]) (hCont (v189, v192, v195) _ ⟨hHeld, HO193.out, HO196.out, BK186.out, BK187.out, HB.out⟩)
   rintro ⟨v189, v192, v195⟩ w12 ⟨hS_, h0_, h1_, h2_, h3_, h4_⟩
   have n0_ : Aside0 (Kd.R k56 56 w12 w.heap.size (fun _ => True) v192 y191) := ⟨h0_⟩
   have n1_ : Aside0 (Kd.R k62 62 w12 w.heap.size (fun _ => True) v195 y194) := ⟨h1_⟩
   have n2_ : Aside0 (w12.heap[gb186]? = some (.cells #[.slice A0_0 l0_0.length c0_0, .slice A0_1 l0_1.length c0_1] 27 (0, 0))) := ⟨h2_⟩
   have n3_ : Aside0 (w12.heap[gb187]? = some (.cells #[.slice none 0 0, .slice none 0 0] 27 (0, 0))) := ⟨h3_⟩
   have n4_ : Aside0 (Below w.heap.size w w12) := ⟨h4_⟩
   clear BK186
   clear BK187
   clear HB
   clear h0_ h1_ h2_ h3_ h4_
   have HO193 := n0_
   have HO196 := n1_
   have BK186 := n2_
   have BK187 := n3_
   have HB := n4_
   clear n0_ n1_ n2_ n3_ n4_
   have hHeld : w12.cell? ⟨gb186, 0, none⟩ = some (.slice A0_0 l0_0.length c0_0) ∧ w12.cell? ⟨gb186, 1, none⟩ = some (.slice A0_1 l0_1.length c0_1) := hS_
   refine norm_ (a' := ?_) ?_ ?_
   rotate_left
   ·simp only [putAll, Act.put, List.setIfInBounds_toArray, List.set_cons_zero, List.set_cons_succ]
    rfl
   refine one_ (i := 7) (N := some 10) (bN 10 255) rfl rfl (one_of HT_.out (by kernel_rfl)) (by decide) (fun K hK => ?_)
   refine Kd.R_append_rows_step k62 (w0 := w) w.heap.size (by rfl) (.tmp 7) (.tmp 9) 25 62 (.agg #[(.int .i64 0), (.int .i64 0)]) 16 rfl Try.underlying25 info62 rfl (by decide) (by omega) v195 y194 l0_1 _ _ _ (fun _ => True) (fun _ => False) rfl rfl ?aO ?aR (fun _ _ h => h) (fun _ h => h.elim) ?aF ?aB ?aS ?aL ?_
   (case aR => exact (Kd.C_below HR0_1.out HB.out))
   (case aB => exact HB.out)
   (case aF => exact (fun _ _ => trivial))
   (case aO => exact HO196.out)
   (case aS => exact (below_size HB.out))
   (case aL => have := LMc3.out; omega)
   intro v198 w13 ho hb hg hat
   rw [← Ny197.out] at ho
   have HO199 := Aside0.mk ho
   replace BK186 := Aside0.mk (blk_grown (g := gb186) (o := .cells #[.slice A0_0 l0_0.length c0_0, .slice A0_1 l0_1.length c0_1] 27 (0, 0)) BK186.out hg (Kd.R_ne HO196.out BK186.out (by decide)))
   replace BK187 := Aside0.mk (blk_grown (g := gb187) (o := .cells #[.slice none 0 0, .slice none 0 0] 27 (0, 0)) BK187.out hg (Kd.R_ne HO196.out BK187.out (by decide)))
   replace HO193 := Aside0.mk (Kd.R_over' HO193.out (Kd.R_typed HO196.out) (by decide) hg)
   replace HB := Aside0.mk hb
   clear HO196
   clear ho hb hg hat
   obtain ⟨Ao14, co14, eo14⟩ := Kd.R_slice HO199.out
   (first | subst eo14 | (injection eo14 with f1_ f2_ f3_; have f4_ := f1_.symm; have f5_ := f3_.symm; clear f1_ f2_ f3_; subst f4_; subst f5_))
   obtain ⟨Ao15, co15, eo15⟩ := Kd.R_slice HO193.out
   (first | subst eo15 | (injection eo15 with f1_ f2_ f3_; have f4_ := f1_.symm; have f5_ := f3_.symm; clear f1_ f2_ f3_; subst f4_; subst f5_))
   refine hK.out _ _ ⟨(blk_cell BK186.out 0).trans rfl, (blk_cell BK186.out 1).trans rfl⟩ (fun hHeld => ?_)
   clear hK K
   refine norm_ (a' := ?_) ?_ ?_
   rotate_left
   ·show Act.put _ (some 10) _ = _
    simp only [Act.put, List.setIfInBounds_toArray, List.set_cons_zero, List.set_cons_succ, i64_w, i32_w]
    rfl
   refine pure_ (i := 8) (N := some 11) (v := ?_) (a' := ?_) (bN 10 511) rfl rfl (any_of HT_.out (by kernel_rfl)) (fun _ _ _ h => h) (Or.inl ⟨by rfl, ?_⟩) ?_ ?_
   rotate_left
   ·intro w'
    go_simp
    with_reducible rfl
   rotate_left
   ·simp only [Act.put, List.setIfInBounds_toArray, List.set_cons_zero, List.set_cons_succ, i64_w, i32_w]
    rfl
   refine one_ (i := 9) (N := none) (bN 10 1023) rfl rfl (one_of HT_.out (by kernel_rfl)) (by decide) (fun K hK => ?_)
   have hs16 : w13.cell? ⟨gb187, 0, none⟩ = some (.slice none 0 0) := (blk_cell BK187.out 0).trans rfl
   have hfs16 := blk_frozen BK187.out 0
   have hns16_0 := NB186_187.out
   have hms16_0 := NB187_186.out
   have hs17 : w13.cell? ⟨gb187, 1, none⟩ = some (.slice none 0 0) := (blk_cell BK187.out 1).trans rfl
   have hfs17 := blk_frozen BK187.out 1
   have hns17_0 := NB186_187.out
   have hms17_0 := NB187_186.out
   refine skip_ (w1 := ?_) (by rfl) rfl ?_ ?_
   rotate_left
   ·go_simp
    rfl
   refine hK.out _ _ ⟨((cell_far (p := ⟨gb187, _, none⟩) NB186_187.out _).trans (((cell_far (p := ⟨gb187, _, none⟩) NB186_187.out _).trans (hHeld.1)))), ((cell_far (p := ⟨gb187, _, none⟩) NB186_187.out _).trans (((cell_far (p := ⟨gb187, _, none⟩) NB186_187.out _).trans (hHeld.2))))⟩ (fun hHeld => ?_)
   clear hK K
   refine done_ (done_of HT_.out (by kernel_rfl)) ?_
   try go_wp2
   refine bodyPost_ret (results_cell_row rfl _ _ gb187 27 #[.slice Ao15 y191.length co15, .slice Ao14 y197.length co14] (0, 0) _ rfl (by refine blk_put (cs := #[.slice Ao15 y191.length co15, .slice none 0 0]) ?_ 1 _ rfl; refine blk_put (cs := #[.slice none 0 0, .slice none 0 0]) ?_ 0 _ rfl; exact BK187.out) Try.underlying27 rfl (by kernel_rfl)) rfl ?_
   exact ⟨_, _, by first | rfl | (simp [errW_none, errW_some] <;> rfl) | (simp [*, errW_none, errW_some] <;> rfl), by (with_reducible repeat (first | apply Kd.R_alloc | apply Kd.R_drewN | apply Kd.R_drew)); exact Kd.R_mono (Kd.R_far (Kd.R_far (Kd.R_types HO193.out BK187.out (by decide)) (fun _ hk => hk.2) _) (fun _ hk => hk.2) _) (fun _ hk => trivial), by (with_reducible repeat (first | apply Kd.R_alloc | apply Kd.R_drewN | apply Kd.R_drew)); exact Kd.R_mono (Kd.R_far (Kd.R_far (Kd.R_types HO199.out BK187.out (by decide)) (fun _ hk => hk.2) _) (fun _ hk => hk.2) _) (fun _ hk => trivial), bel⟩
  ·rw [if_neg c3] at H
   exact absurd H (by simp)
 ·rw [if_neg c2] at H
  exact absurd H (by simp)
end Go.Proofs.Ytjehhhlhalkieaa.C
namespace Go.Proofs.Ytjehhhlhalkieaa.C
open Go.RowKit Go.Proofs.YtjehhhlhalkieaaW.PrintWords Go.Proofs.YtjehhhlhalkieaaW.PrintLast Go.Proofs.YtjehhhlhalkieaaW.PrintMore
attribute [local go_sem] max2_int min2_int max_two min_two max_three min_three max_four min_four
set_option linter.unusedVariables false
set_option linter.unusedSimpArgs false
def newelref19_Few.f (l0_0 : List (S56)) (l0_1 : List (S62)) : Option (Bool) := if (l0_0.length : Int) ≤ 130 then (some (decide ((l0_1.length : Int) ≤ 520))) else (some false)
set_option maxHeartbeats 8000000 in
set_option maxRecDepth 100000 in
theorem newelref19_Few.calls (A0_0 : Option Addr) (c0_0 : Nat) (l0_0 : List (S56)) (A0_1 : Option Addr) (c0_1 : Nat) (l0_1 : List (S62)) (r : Bool) (w : World) (hr0_0 : Kd.C k56 w A0_0 l0_0.length l0_0) (hc0_0 : l0_0.length ≤ c0_0) (hr0_1 : Kd.C k62 w A0_1 l0_1.length l0_1) (hc0_1 : l0_1.length ≤ c0_1) (h : newelref19_Few.f l0_0 l0_1 = some r) :
  Calls Try.prog 9 #[.agg #[.slice A0_0 l0_0.length c0_0, .slice A0_1 l0_1.length c0_1]] w fun e w' => e = .returned (.bool r) ∧ Below w.heap.size w w' := by
 have hu27 := Try.underlying27
 have HR0_0 := Aside0.mk hr0_0
 have HC0_0 := Aside0.mk hc0_0
 clear hr0_0 hc0_0
 have HR0_1 := Aside0.mk hr0_1
 have HC0_1 := Aside0.mk hc0_1
 clear hr0_1 hc0_1
 have HB := Aside0.mk (Below.refl w.heap.size w)
 have H : (if (l0_0.length : Int) ≤ 130 then (some (decide ((l0_1.length : Int) ≤ 520))) else (some false)) = some r := h
 clear h
 by_cases c2 : (l0_0.length : Int) ≤ 130
 ·rw [if_pos c2] at H
  have c2b0 : decide ((l0_0.length : Int) ≤ 130) = true := decide_eq_true c2
  have c2b1 : decide (l0_0.length ≤ 130) = true := decide_eq_true (by omega)
  clear c2
  obtain rfl := Option.some.inj H
  go_enter Try.func9, Try.ntmps9
  go_wp2_with (first | ((with_reducible refine gate_dst (N := 1) rfl ?_); (try (refine gate_guard (by rfl) ?_; dsimp only)); refine box_event ?hg (N := 1) ?hd (cs := #[.slice A0_0 l0_0.length c0_0, .slice A0_1 l0_1.length c0_1]) (t := 27) ?hr ?_; (case hd => rfl); (case hg => rfl); (case hr => first | (go_simp; done) | (go_simp; rfl)); intro gb101 hg w3 hbox hb; have n0_ := Aside0.mk (below_step (by repeat (first | (with_reducible first | exact HB.out | apply below_alloc | apply pw_below_drewN | apply below_drew1) | exact HB.out)) hb); have n1_ := Aside0.mk (hbox); have n2_ := Aside0.mk ((by rw [hg]; exact (below_size (by repeat (first | (with_reducible first | exact HB.out | apply below_alloc | apply pw_below_drewN | apply below_drew1) | exact HB.out))) : w.heap.size ≤ gb101)); have n3_ := Aside0.mk ((by rw [hg]; exact (below_size (by repeat (first | (with_reducible first | exact HB.out | apply below_alloc | apply pw_below_drewN | apply below_drew1) | exact HB.out))) : w.heap.size ≤ gb101)); clear HB; have HB := n0_; have BK101 := n1_; have GW101 := n2_; have GE101 := n3_; clear n0_ n1_ n2_ n3_; clear hb hbox hg; have hcz4_0 : w3.cell? ⟨gb101, 0, none⟩ = some (.slice A0_0 l0_0.length c0_0) := (blk_cell BK101.out 0).trans rfl; have hcz4_1 : w3.cell? ⟨gb101, 1, none⟩ = some (.slice A0_1 l0_1.length c0_1) := (blk_cell BK101.out 1).trans rfl; have hfz4_0 := blk_frozen BK101.out 0; have hfz4_1 := blk_frozen BK101.out 1))
  go_ret
  exact ⟨by first | rfl | (simp [errW_none, errW_some] <;> rfl) | (simp [*, errW_none, errW_some] <;> rfl), by repeat (first | (with_reducible first | exact HB.out | apply below_alloc | apply pw_below_drewN | apply below_drew1 | refine below_set ?_ GE101.out) | exact HB.out)⟩
 ·rw [if_neg c2] at H
  have c2b0 : decide ((l0_0.length : Int) ≤ 130) = false := decide_eq_false c2
  have c2b1 : decide (l0_0.length ≤ 130) = false := decide_eq_false (by omega)
  clear c2
  obtain rfl := Option.some.inj H
  go_enter Try.func9, Try.ntmps9
  go_wp2_with (first | ((with_reducible refine gate_dst (N := 1) rfl ?_); (try (refine gate_guard (by rfl) ?_; dsimp only)); refine box_event ?hg (N := 1) ?hd (cs := #[.slice A0_0 l0_0.length c0_0, .slice A0_1 l0_1.length c0_1]) (t := 27) ?hr ?_; (case hd => rfl); (case hg => rfl); (case hr => first | (go_simp; done) | (go_simp; rfl)); intro gb101 hg w5 hbox hb; have n0_ := Aside0.mk (below_step (by repeat (first | (with_reducible first | exact HB.out | apply below_alloc | apply pw_below_drewN | apply below_drew1) | exact HB.out)) hb); have n1_ := Aside0.mk (hbox); have n2_ := Aside0.mk ((by rw [hg]; exact (below_size (by repeat (first | (with_reducible first | exact HB.out | apply below_alloc | apply pw_below_drewN | apply below_drew1) | exact HB.out))) : w.heap.size ≤ gb101)); have n3_ := Aside0.mk ((by rw [hg]; exact (below_size (by repeat (first | (with_reducible first | exact HB.out | apply below_alloc | apply pw_below_drewN | apply below_drew1) | exact HB.out))) : w.heap.size ≤ gb101)); clear HB; have HB := n0_; have BK101 := n1_; have GW101 := n2_; have GE101 := n3_; clear n0_ n1_ n2_ n3_; clear hb hbox hg; have hcz6_0 : w5.cell? ⟨gb101, 0, none⟩ = some (.slice A0_0 l0_0.length c0_0) := (blk_cell BK101.out 0).trans rfl; have hcz6_1 : w5.cell? ⟨gb101, 1, none⟩ = some (.slice A0_1 l0_1.length c0_1) := (blk_cell BK101.out 1).trans rfl; have hfz6_0 := blk_frozen BK101.out 0; have hfz6_1 := blk_frozen BK101.out 1))
  go_ret
  exact ⟨by first | rfl | (simp [errW_none, errW_some] <;> rfl) | (simp [*, errW_none, errW_some] <;> rfl), by repeat (first | (with_reducible first | exact HB.out | apply below_alloc | apply pw_below_drewN | apply below_drew1 | refine below_set ?_ GE101.out) | exact HB.out)⟩
end Go.Proofs.Ytjehhhlhalkieaa.C
namespace Go.Proofs.Ytjehhhlhalkieaa.C
open Go.RowKit Go.Proofs.YtjehhhlhalkieaaW.PrintWords Go.Proofs.YtjehhhlhalkieaaW.PrintLast Go.Proofs.YtjehhhlhalkieaaW.PrintMore
attribute [local go_sem] max2_int min2_int max_two min_two max_three min_three max_four min_four
set_option linter.unusedVariables false
set_option linter.unusedSimpArgs false
theorem eqA56 (d : Nat) (w : World) (x0 y0 : Int) (x1 y1 : Int) (x2 y2 : Int) :
  (Op.equalIn (d + 2) 56 (.agg #[.int .i64 x0, .int .i64 x1, .int .i64 x2]) (.agg #[.int .i64 y0, .int .i64 y1, .int .i64 y2])).run Try.prog w = .ok (x0 == y0 && (x1 == y1 && (x2 == y2))) w := by
 refine eqA_of Try.underlying56 (by kernel_rfl) ?_
 refine eqf_cons (by rfl) (by go_simp; rfl) (by go_simp; rfl) (by go_simp) ?_
 refine eqf_cons (by rfl) (by go_simp; rfl) (by go_simp; rfl) (by go_simp) ?_
 exact eqf_last (by rfl) (by go_simp; rfl) (by go_simp; rfl) (by go_simp)
end Go.Proofs.Ytjehhhlhalkieaa.C
namespace Go.Proofs.Ytjehhhlhalkieaa.C
open Go.RowKit Go.Proofs.YtjehhhlhalkieaaW.PrintWords Go.Proofs.YtjehhhlhalkieaaW.PrintLast Go.Proofs.YtjehhhlhalkieaaW.PrintMore
attribute [local go_sem] max2_int min2_int max_two min_two max_three min_three max_four min_four
set_option linter.unusedVariables false
set_option linter.unusedSimpArgs false
theorem eqA62 (d : Nat) (w : World) (x0 y0 : Int) (x1 y1 : Int) :
  (Op.equalIn (d + 2) 62 (.agg #[.int .i64 x0, .int .i64 x1]) (.agg #[.int .i64 y0, .int .i64 y1])).run Try.prog w = .ok (x0 == y0 && (x1 == y1)) w := by
 refine eqA_of Try.underlying62 (by kernel_rfl) ?_
 refine eqf_cons (by rfl) (by go_simp; rfl) (by go_simp; rfl) (by go_simp) ?_
 exact eqf_last (by rfl) (by go_simp; rfl) (by go_simp; rfl) (by go_simp)
end Go.Proofs.Ytjehhhlhalkieaa.C
namespace Go.Proofs.Ytjehhhlhalkieaa.C
open Go.RowKit Go.Proofs.YtjehhhlhalkieaaW.PrintWords Go.Proofs.YtjehhhlhalkieaaW.PrintLast Go.Proofs.YtjehhhlhalkieaaW.PrintMore
attribute [local go_sem] max2_int min2_int max_two min_two max_three min_three max_four min_four
set_option linter.unusedVariables false
set_option linter.unusedSimpArgs false
attribute [local go_sem high] eqA56 eqA62
mutual
def newelref19_Same.j0 : Nat → Bool → List (S56) → List (S62) → List (S56) → List (S62) → Option (Bool)
 | 0, _, _, _, _, _ => none
 | k + 1, x22, x103000, x103001, x104000, x104001 => if x22 = true then (some false) else (newelref19_Same.l0 k 0 x103000 x103001 x104000 x104001)
def newelref19_Same.l0 : Nat → Int → List (S56) → List (S62) → List (S56) → List (S62) → Option (Bool)
 | 0, _, _, _, _, _ => none
 | k + 1, x5, x103000, x103001, x104000, x104001 => if x5 < (x103000.length : Int) then (if 0 ≤ x5 then (if x5 < (x104000.length : Int) then (if (!(((rd_T56 x103000 x5).f0) == ((rd_T56 x104000 x5).f0)) || (!(((rd_T56 x103000 x5).f1) == ((rd_T56 x104000 x5).f1)) || (!(((rd_T56 x103000 x5).f2) == ((rd_T56 x104000 x5).f2))))) = true then (some false) else (newelref19_Same.l0 k (wrap64 (x5 + 1)) x103000 x103001 x104000 x104001)) else (none)) else (none)) else (newelref19_Same.l1 k 0 x103000 x103001 x104000 x104001)
def newelref19_Same.l1 : Nat → Int → List (S56) → List (S62) → List (S56) → List (S62) → Option (Bool)
 | 0, _, _, _, _, _ => none
 | k + 1, x6, x103000, x103001, x104000, x104001 => if x6 < (x103001.length : Int) then (if 0 ≤ x6 then (if x6 < (x104001.length : Int) then (if (!(((rd_T62 x103001 x6).f0) == ((rd_T62 x104001 x6).f0)) || (!(((rd_T62 x103001 x6).f1) == ((rd_T62 x104001 x6).f1)))) = true then (some false) else (newelref19_Same.l1 k (wrap64 (x6 + 1)) x103000 x103001 x104000 x104001)) else (none)) else (none)) else (some true)
end
def newelref19_Same.f (k : Nat) (l0_0 : List (S56)) (l0_1 : List (S62)) (l1_0 : List (S56)) (l1_1 : List (S62)) : Option (Bool) := if (l0_0.length : Int) = (l1_0.length : Int) then (newelref19_Same.j0 k ((l0_1.length : Int) != (l1_1.length : Int)) l0_0 l0_1 l1_0 l1_1) else (newelref19_Same.j0 k true l0_0 l0_1 l1_0 l1_1)
theorem newelref19_Same.mono_l : ∀ k, (∀ y0 y1 y2 y3 y4, LeO (newelref19_Same.j0 k y0 y1 y2 y3 y4) (newelref19_Same.j0 (k + 1) y0 y1 y2 y3 y4)) ∧ (∀ y0 y1 y2 y3 y4, LeO (newelref19_Same.l0 k y0 y1 y2 y3 y4) (newelref19_Same.l0 (k + 1) y0 y1 y2 y3 y4)) ∧ (∀ y0 y1 y2 y3 y4, LeO (newelref19_Same.l1 k y0 y1 y2 y3 y4) (newelref19_Same.l1 (k + 1) y0 y1 y2 y3 y4))
 | 0 => ⟨fun _ _ _ _ _ r h => by simp [newelref19_Same.j0] at h, fun _ _ _ _ _ r h => by simp [newelref19_Same.l0] at h, fun _ _ _ _ _ r h => by simp [newelref19_Same.l1] at h⟩
 | k + 1 => by
  obtain ⟨ih0, ih1, ih2⟩ := newelref19_Same.mono_l k
  refine ⟨?_, ?_, ?_⟩
  ·intro y0 y1 y2 y3 y4
   unfold newelref19_Same.j0
   repeat' first
   | (with_reducible exact ih0 _ _ _ _ _)
   | (with_reducible exact ih1 _ _ _ _ _)
   | (with_reducible exact ih2 _ _ _ _ _)
   | (with_reducible exact LeO.refl _)
   | (with_reducible exact LeO.none _)
   | (with_reducible refine LeO.ite ?_ ?_)
   | (with_reducible refine LeO.bind ?_ (fun _ => ?_))
   | exact ih0 _ _ _ _ _
   | exact ih1 _ _ _ _ _
   | exact ih2 _ _ _ _ _
   | exact LeO.none _
   | refine LeO.ite ?_ ?_
   | refine LeO.bind ?_ (fun _ => ?_)
  ·intro y0 y1 y2 y3 y4
   unfold newelref19_Same.l0
   repeat' first
   | (with_reducible exact ih0 _ _ _ _ _)
   | (with_reducible exact ih1 _ _ _ _ _)
   | (with_reducible exact ih2 _ _ _ _ _)
   | (with_reducible exact LeO.refl _)
   | (with_reducible exact LeO.none _)
   | (with_reducible refine LeO.ite ?_ ?_)
   | (with_reducible refine LeO.bind ?_ (fun _ => ?_))
   | exact ih0 _ _ _ _ _
   | exact ih1 _ _ _ _ _
   | exact ih2 _ _ _ _ _
   | exact LeO.none _
   | refine LeO.ite ?_ ?_
   | refine LeO.bind ?_ (fun _ => ?_)
  ·intro y0 y1 y2 y3 y4
   unfold newelref19_Same.l1
   repeat' first
   | (with_reducible exact ih0 _ _ _ _ _)
   | (with_reducible exact ih1 _ _ _ _ _)
   | (with_reducible exact ih2 _ _ _ _ _)
   | (with_reducible exact LeO.refl _)
   | (with_reducible exact LeO.none _)
   | (with_reducible refine LeO.ite ?_ ?_)
   | (with_reducible refine LeO.bind ?_ (fun _ => ?_))
   | exact ih0 _ _ _ _ _
   | exact ih1 _ _ _ _ _
   | exact ih2 _ _ _ _ _
   | exact LeO.none _
   | refine LeO.ite ?_ ?_
   | refine LeO.bind ?_ (fun _ => ?_)
theorem newelref19_Same.mono : ∀ a0 a1 a2 a3 k, LeO (newelref19_Same.f k a0 a1 a2 a3) (newelref19_Same.f (k + 1) a0 a1 a2 a3) := by
 intro a0 a1 a2 a3 k
 obtain ⟨ih0, ih1, ih2⟩ := newelref19_Same.mono_l k
 unfold newelref19_Same.f
 repeat' first
   | (with_reducible exact ih0 _ _ _ _ _)
   | (with_reducible exact ih1 _ _ _ _ _)
   | (with_reducible exact ih2 _ _ _ _ _)
   | (with_reducible exact LeO.refl _)
   | (with_reducible exact LeO.none _)
   | (with_reducible refine LeO.ite ?_ ?_)
   | (with_reducible refine LeO.bind ?_ (fun _ => ?_))
   | exact ih0 _ _ _ _ _
   | exact ih1 _ _ _ _ _
   | exact ih2 _ _ _ _ _
   | exact LeO.none _
   | refine LeO.ite ?_ ?_
   | refine LeO.bind ?_ (fun _ => ?_)
set_option maxHeartbeats 8000000 in
set_option maxRecDepth 100000 in
theorem newelref19_Same.calls (k : Nat) (A0_0 : Option Addr) (c0_0 : Nat) (l0_0 : List (S56)) (A0_1 : Option Addr) (c0_1 : Nat) (l0_1 : List (S62)) (A1_0 : Option Addr) (c1_0 : Nat) (l1_0 : List (S56)) (A1_1 : Option Addr) (c1_1 : Nat) (l1_1 : List (S62)) (r : Bool) (w : World) (hr0_0 : Kd.C k56 w A0_0 l0_0.length l0_0) (hc0_0 : l0_0.length ≤ c0_0) (hr0_1 : Kd.C k62 w A0_1 l0_1.length l0_1) (hc0_1 : l0_1.length ≤ c0_1) (hr1_0 : Kd.C k56 w A1_0 l1_0.length l1_0) (hc1_0 : l1_0.length ≤ c1_0) (hr1_1 : Kd.C k62 w A1_1 l1_1.length l1_1) (hc1_1 : l1_1.length ≤ c1_1) (h : newelref19_Same.f k l0_0 l0_1 l1_0 l1_1 = some r) :
  Calls Try.prog 15 #[.agg #[.slice A0_0 l0_0.length c0_0, .slice A0_1 l0_1.length c0_1], .agg #[.slice A1_0 l1_0.length c1_0, .slice A1_1 l1_1.length c1_1]] w fun e w' => e = .returned (.bool r) ∧ Below w.heap.size w w' := by
 have hu27 := Try.underlying27
 have hu56 := Try.underlying56
 have hu62 := Try.underlying62
 have HR0_0 := Aside0.mk hr0_0
 have HC0_0 := Aside0.mk hc0_0
 clear hr0_0 hc0_0
 have HR0_1 := Aside0.mk hr0_1
 have HC0_1 := Aside0.mk hc0_1
 clear hr0_1 hc0_1
 have HR1_0 := Aside0.mk hr1_0
 have HC1_0 := Aside0.mk hc1_0
 clear hr1_0 hc1_0
 have HR1_1 := Aside0.mk hr1_1
 have HC1_1 := Aside0.mk hc1_1
 clear hr1_1 hc1_1
 have HB := Aside0.mk (Below.refl w.heap.size w)
 have H : (if (l0_0.length : Int) = (l1_0.length : Int) then (newelref19_Same.j0 k ((l0_1.length : Int) != (l1_1.length : Int)) l0_0 l0_1 l1_0 l1_1) else (newelref19_Same.j0 k true l0_0 l0_1 l1_0 l1_1)) = some r := h
 clear h
 have HC3 := Aside0.mk H
 clear H
 go_enter Try.func15, Try.ntmps15
 go_upto_region 1 with (first | ((with_reducible refine gate_dst (N := 2) rfl ?_); (try (refine gate_guard (by rfl) ?_; dsimp only)); refine box_event ?hg (N := 2) ?hd (cs := #[.slice A0_0 l0_0.length c0_0, .slice A0_1 l0_1.length c0_1]) (t := 27) ?hr ?_; (case hd => rfl); (case hg => rfl); (case hr => go_simp <;> rfl); intro gb102 hg w4 hbox hb; have BK102 := Aside0.mk hbox; have GW102 := sGe hg; have GE102 := sGe hg; replace HB := sHb hb; clear hb hbox hg) | ((with_reducible refine gate_dst (N := 3) rfl ?_); (try (refine gate_guard (by rfl) ?_; dsimp only)); refine box_event ?hg (N := 3) ?hd (cs := #[.slice A1_0 l1_0.length c1_0, .slice A1_1 l1_1.length c1_1]) (t := 27) ?hr ?_; (case hd => rfl); (case hg => rfl); (case hr => go_simp <;> rfl); intro gb103 hg w5 hbox hb; have BK103 := Aside0.mk hbox; have GW103 := sGe hg; have GE103 := sGe hg; have NB102_103 := sNl BK102 hg; have NB103_102 := sNg BK102 hg; replace BK102 := sBk BK102 hb; replace HB := sHb hb; clear hb hbox hg))
 repeat (go_quiet (first | ((with_reducible refine gate_dst (N := 2) rfl ?_); (try (refine gate_guard (by rfl) ?_; dsimp only)); refine box_event ?hg (N := 2) ?hd (cs := #[.slice A0_0 l0_0.length c0_0, .slice A0_1 l0_1.length c0_1]) (t := 27) ?hr ?_; (case hd => rfl); (case hg => rfl); (case hr => go_simp <;> rfl); intro gb102 hg w4 hbox hb; have BK102 := Aside0.mk hbox; have GW102 := sGe hg; have GE102 := sGe hg; replace HB := sHb hb; clear hb hbox hg) | ((with_reducible refine gate_dst (N := 3) rfl ?_); (try (refine gate_guard (by rfl) ?_; dsimp only)); refine box_event ?hg (N := 3) ?hd (cs := #[.slice A1_0 l1_0.length c1_0, .slice A1_1 l1_1.length c1_1]) (t := 27) ?hr ?_; (case hd => rfl); (case hg => rfl); (case hr => go_simp <;> rfl); intro gb103 hg w5 hbox hb; have BK103 := Aside0.mk hbox; have GW103 := sGe hg; have GE103 := sGe hg; have NB102_103 := sNl BK102 hg; have NB103_102 := sNg BK102 hg; replace BK102 := sBk BK102 hb; replace HB := sHb hb; clear hb hbox hg)); go_upto_region 1 with (first | ((with_reducible refine gate_dst (N := 2) rfl ?_); (try (refine gate_guard (by rfl) ?_; dsimp only)); refine box_event ?hg (N := 2) ?hd (cs := #[.slice A0_0 l0_0.length c0_0, .slice A0_1 l0_1.length c0_1]) (t := 27) ?hr ?_; (case hd => rfl); (case hg => rfl); (case hr => go_simp <;> rfl); intro gb102 hg w4 hbox hb; have BK102 := Aside0.mk hbox; have GW102 := sGe hg; have GE102 := sGe hg; replace HB := sHb hb; clear hb hbox hg) | ((with_reducible refine gate_dst (N := 3) rfl ?_); (try (refine gate_guard (by rfl) ?_; dsimp only)); refine box_event ?hg (N := 3) ?hd (cs := #[.slice A1_0 l1_0.length c1_0, .slice A1_1 l1_1.length c1_1]) (t := 27) ?hr ?_; (case hd => rfl); (case hg => rfl); (case hr => go_simp <;> rfl); intro gb103 hg w5 hbox hb; have BK103 := Aside0.mk hbox; have GW103 := sGe hg; have GE103 := sGe hg; have NB102_103 := sNl BK102 hg; have NB103_102 := sNg BK102 hg; replace BK102 := sBk BK102 hb; replace HB := sHb hb; clear hb hbox hg)))
 (try simp only [Act.put, List.setIfInBounds_toArray, List.set_cons_zero, List.set_cons_succ])
 go_cut [22] (fun v22 wc => ∃ (kq : Nat) (x22_2 : Bool), v22 = .bool x22_2 ∧ Aside0 (newelref19_Same.j0 kq x22_2 l0_0 l0_1 l1_0 l1_1 = some r) ∧ Aside0 (kq ≤ k) ∧ Aside0 (wc.heap[gb102]? = some (.cells #[(.slice A0_0 l0_0.length c0_0), (.slice A0_1 l0_1.length c0_1)] 27 (0, 0))) ∧ Aside0 (wc.heap[gb103]? = some (.cells #[(.slice A1_0 l1_0.length c1_0), (.slice A1_1 l1_1.length c1_1)] 27 (0, 0))) ∧ Aside0 (Below w.heap.size w wc))
 case first =>
  have H := HC3.out
  clear HC3
  by_cases c6 : (l0_0.length : Int) = (l1_0.length : Int)
  ·rw [if_pos c6] at H
   have c6b0 : ((l0_0.length : Int) == (l1_0.length : Int)) = true := beq_iff_eq.mpr c6
   have c6b1 : ((l0_0.length : Int) != (l1_0.length : Int)) = false := bne_eq_false_iff_eq.mpr c6
   have c6b2 : (l0_0.length == l1_0.length) = true := by first | simpa using c6 | (simp at c6 ⊢; omega)
   clear c6
   (first | rw [c6b0] | (simp only [i64_w, i32_w]; rw [c6b0]) | skip)
   have H' := Aside0.mk H
   clear H
   have hnb7 := NB102_103.out
   have hnc7 := NB103_102.out
   have hcz8_0 : w5.cell? ⟨gb102, 0, none⟩ = some (.slice A0_0 l0_0.length c0_0) := (blk_cell BK102.out 0).trans rfl
   have hcz8_1 : w5.cell? ⟨gb102, 1, none⟩ = some (.slice A0_1 l0_1.length c0_1) := (blk_cell BK102.out 1).trans rfl
   have hfz8_0 := blk_frozen BK102.out 0
   have hfz8_1 := blk_frozen BK102.out 1
   have hcz9_0 : w5.cell? ⟨gb103, 0, none⟩ = some (.slice A1_0 l1_0.length c1_0) := (blk_cell BK103.out 0).trans rfl
   have hcz9_1 : w5.cell? ⟨gb103, 1, none⟩ = some (.slice A1_1 l1_1.length c1_1) := (blk_cell BK103.out 1).trans rfl
   have hfz9_0 := blk_frozen BK103.out 0
   have hfz9_1 := blk_frozen BK103.out 1
   go_wp2
   repeat (go_quiet (fail); try go_wp2)
   go_meet
   case rel => exact ⟨_, (((l0_1.length : Int) != (l1_1.length : Int))), rfl, H', ⟨by first | omega | exact Nat.le_refl _⟩, BK102, BK103, HB⟩
  ·rw [if_neg c6] at H
   have c6b0 : ((l0_0.length : Int) == (l1_0.length : Int)) = false := beq_eq_false_iff_ne.mpr c6
   have c6b1 : ((l0_0.length : Int) != (l1_0.length : Int)) = true := bne_iff_ne.mpr c6
   have c6b2 : (l0_0.length == l1_0.length) = false := by first | simpa using c6 | (simp at c6 ⊢; omega)
   (first | rw [c6b0] | (simp only [i64_w, i32_w]; rw [c6b0]) | skip)
   have H' := Aside0.mk H
   clear H
   have hnb10 := NB102_103.out
   have hnc10 := NB103_102.out
   have hcz11_0 : w5.cell? ⟨gb102, 0, none⟩ = some (.slice A0_0 l0_0.length c0_0) := (blk_cell BK102.out 0).trans rfl
   have hcz11_1 : w5.cell? ⟨gb102, 1, none⟩ = some (.slice A0_1 l0_1.length c0_1) := (blk_cell BK102.out 1).trans rfl
   have hfz11_0 := blk_frozen BK102.out 0
   have hfz11_1 := blk_frozen BK102.out 1
   have hcz12_0 : w5.cell? ⟨gb103, 0, none⟩ = some (.slice A1_0 l1_0.length c1_0) := (blk_cell BK103.out 0).trans rfl
   have hcz12_1 : w5.cell? ⟨gb103, 1, none⟩ = some (.slice A1_1 l1_1.length c1_1) := (blk_cell BK103.out 1).trans rfl
   have hfz12_0 := blk_frozen BK103.out 0
   have hfz12_1 := blk_frozen BK103.out 1
   go_wp2
   repeat (go_quiet (fail); try go_wp2)
   go_meet
   case rel => exact ⟨_, (true), rfl, H', ⟨by first | omega | exact Nat.le_refl _⟩, BK102, BK103, HB⟩
 case rest =>
  clear HC3
  try clear c1
  try clear p2
  try clear c6
  try clear c6b0
  try clear c6b1
  try clear c6b2
  try clear c7
  try clear c10
  try clear hcz11_0
  try clear hcz11_1
  try clear hcz12_0
  try clear hcz12_1
  try clear hcz8_0
  try clear hcz8_1
  try clear hcz9_0
  try clear hcz9_1
  try clear hfz11_0
  try clear hfz11_1
  try clear hfz12_0
  try clear hfz12_1
  try clear hfz8_0
  try clear hfz8_1
  try clear hfz9_0
  try clear hfz9_1
  obtain ⟨kq, x22_2, rfl, HA, HJ2, BK102, BK103, HB⟩ := hcut
  cases kq with
  | zero => exact absurd HA.out (by simp [newelref19_Same.j0])
  | succ kj2 =>
   have H := HA.out
   clear HA
   simp only [newelref19_Same.j0] at H
   by_cases c13 : x22_2 = true
   ·subst c13
    have H1 : (some false) = some r := by rw [if_pos rfl] at H; exact H
    clear H
    have H := H1
    clear H1
    obtain rfl := Option.some.inj H
    go_wp2
    repeat (go_quiet (fail); try go_wp2)
    go_ret
    exact ⟨rfl, HB.out⟩
   ·replace c13 := Bool.eq_false_iff.mpr c13
    subst c13
    have H1 : (newelref19_Same.l0 kj2 0 l0_0 l0_1 l1_0 l1_1) = some r := by rw [if_neg (show ¬ (false = true) by decide)] at H; exact H
    clear H
    have H := H1
    clear H1
    have H' := Aside0.mk H
    clear H
    go_wp2
    repeat (go_quiet (fail); try go_wp2)
    go_loopg [5] kj2 (fun kq v5 w' => ∃ (x5_2 : Int), v5 = .int .i64 x5_2 ∧ Aside0 (newelref19_Same.l0 kq x5_2 l0_0 l0_1 l1_0 l1_1 = some r) ∧ Aside0 (kq ≤ kj2) ∧ Aside0 (w'.heap[gb102]? = some (.cells #[(.slice A0_0 l0_0.length c0_0), (.slice A0_1 l0_1.length c0_1)] 27 (0, 0))) ∧ Aside0 (w'.heap[gb103]? = some (.cells #[(.slice A1_0 l1_0.length c1_0), (.slice A1_1 l1_1.length c1_1)] 27 (0, 0))) ∧ Aside0 (Below w.heap.size w w'))
    case atStart => exact ⟨(0), rfl, H', ⟨Nat.le_refl _⟩, BK102, BK103, HB⟩
    case round =>
     clear H'
     try clear c1
     try clear p2
     try clear c6
     try clear c6b0
     try clear c6b1
     try clear c6b2
     try clear c7
     try clear c10
     try clear c13
     try clear hcz11_0
     try clear hcz11_1
     try clear hcz12_0
     try clear hcz12_1
     try clear hcz8_0
     try clear hcz8_1
     try clear hcz9_0
     try clear hcz9_1
     try clear hfz11_0
     try clear hfz11_1
     try clear hfz12_0
     try clear hfz12_1
     try clear hfz8_0
     try clear hfz8_1
     try clear hfz9_0
     try clear hfz9_1
     try clear p2
     obtain ⟨x5_2, rfl, HA, HK2, BK102, BK103, HB⟩ := hrel
     cases gk with
     | zero => exact absurd HA.out (by simp [newelref19_Same.l0])
     | succ k2 =>
      have H := HA.out
      clear HA
      simp only [newelref19_Same.l0] at H
      by_cases c14 : x5_2 < (l0_0.length : Int)
      ·rw [if_pos c14] at H
       have c14b0 : decide (x5_2 < (l0_0.length : Int)) = true := decide_eq_true c14
       clear c14
       by_cases c15 : 0 ≤ x5_2
       ·rw [if_pos c15] at H
        have c15b0 : decide (0 ≤ x5_2) = true := decide_eq_true c15
        clear c15
        by_cases c16 : x5_2 < (l1_0.length : Int)
        ·rw [if_pos c16] at H
         have c16b0 : decide (x5_2 < (l1_0.length : Int)) = true := decide_eq_true c16
         clear c16
         by_cases c17 : (!(((rd_T56 l0_0 x5_2).f0) == ((rd_T56 l1_0 x5_2).f0)) || (!(((rd_T56 l0_0 x5_2).f1) == ((rd_T56 l1_0 x5_2).f1)) || (!(((rd_T56 l0_0 x5_2).f2) == ((rd_T56 l1_0 x5_2).f2))))) = true
         ·rw [if_pos c17] at H
          have c17b0 : (!(((rd_T56 l0_0 x5_2).f0) == ((rd_T56 l1_0 x5_2).f0)) || (!(((rd_T56 l0_0 x5_2).f1) == ((rd_T56 l1_0 x5_2).f1)) || (!(((rd_T56 l0_0 x5_2).f2) == ((rd_T56 l1_0 x5_2).f2))))) = true := c17
          (try (have c17s0 := c17b0; simp only [beq_self_eq_true, bne_self_eq_false, Bool.not_true, Bool.not_false, Bool.true_and, Bool.and_true, Bool.false_or, Bool.or_false] at c17s0))
          clear c17
          obtain rfl := Option.some.inj H
          have hnb18 := NB102_103.out
          have hnc18 := NB103_102.out
          have hcz19_0 : wr.cell? ⟨gb102, 0, none⟩ = some (.slice A0_0 l0_0.length c0_0) := (blk_cell BK102.out 0).trans rfl
          have hcz19_1 : wr.cell? ⟨gb102, 1, none⟩ = some (.slice A0_1 l0_1.length c0_1) := (blk_cell BK102.out 1).trans rfl
          have hfz19_0 := blk_frozen BK102.out 0
          have hfz19_1 := blk_frozen BK102.out 1
          have p104 : 0 ≤ (x5_2 : Int) := of_decide_eq_true (by assumption)
          have q104 : x5_2 < (l0_0.length : Int) := of_decide_eq_true (by assumption)
          obtain ⟨ad104, e104, hx104_0, hx104_1, hx104_2⟩ := at_T56 HR0_0.out x5_2 p104 q104
          cases e104
          replace hx104_0 := (HB.out.cell (World.block_lt_of_cell? w _ hx104_0)).trans hx104_0
          replace hx104_1 := (HB.out.cell (World.block_lt_of_cell? w _ hx104_1)).trans hx104_1
          replace hx104_2 := (HB.out.cell (World.block_lt_of_cell? w _ hx104_2)).trans hx104_2
          replace p104 := eq_true p104
          replace q104 := eq_true q104
          have hcz20_0 : wr.cell? ⟨gb103, 0, none⟩ = some (.slice A1_0 l1_0.length c1_0) := (blk_cell BK103.out 0).trans rfl
          have hcz20_1 : wr.cell? ⟨gb103, 1, none⟩ = some (.slice A1_1 l1_1.length c1_1) := (blk_cell BK103.out 1).trans rfl
          have hfz20_0 := blk_frozen BK103.out 0
          have hfz20_1 := blk_frozen BK103.out 1
          have p105 : 0 ≤ (x5_2 : Int) := of_decide_eq_true (by assumption)
          have q105 : x5_2 < (l1_0.length : Int) := of_decide_eq_true (by assumption)
          obtain ⟨ad105, e105, hx105_0, hx105_1, hx105_2⟩ := at_T56 HR1_0.out x5_2 p105 q105
          cases e105
          replace hx105_0 := (HB.out.cell (World.block_lt_of_cell? w _ hx105_0)).trans hx105_0
          replace hx105_1 := (HB.out.cell (World.block_lt_of_cell? w _ hx105_1)).trans hx105_1
          replace hx105_2 := (HB.out.cell (World.block_lt_of_cell? w _ hx105_2)).trans hx105_2
          replace p105 := eq_true p105
          replace q105 := eq_true q105
          go_wp2
          repeat (go_quiet (fail); try go_wp2)
          go_ret
          exact ⟨by first | rfl | (simp [errW_none, errW_some] <;> rfl) | (simp [*, errW_none, errW_some] <;> rfl), bel⟩
         ·rw [if_neg c17] at H
          have c17b0 : (!(((rd_T56 l0_0 x5_2).f0) == ((rd_T56 l1_0 x5_2).f0)) || (!(((rd_T56 l0_0 x5_2).f1) == ((rd_T56 l1_0 x5_2).f1)) || (!(((rd_T56 l0_0 x5_2).f2) == ((rd_T56 l1_0 x5_2).f2))))) = false := by simpa using c17
          (try (have c17s0 := c17b0; simp only [beq_self_eq_true, bne_self_eq_false, Bool.not_true, Bool.not_false, Bool.true_and, Bool.and_true, Bool.false_or, Bool.or_false] at c17s0))
          clear c17
          have H' := Aside0.mk H
          clear H
          have hnb21 := NB102_103.out
          have hnc21 := NB103_102.out
          have hcz22_0 : wr.cell? ⟨gb102, 0, none⟩ = some (.slice A0_0 l0_0.length c0_0) := (blk_cell BK102.out 0).trans rfl
          have hcz22_1 : wr.cell? ⟨gb102, 1, none⟩ = some (.slice A0_1 l0_1.length c0_1) := (blk_cell BK102.out 1).trans rfl
          have hfz22_0 := blk_frozen BK102.out 0
          have hfz22_1 := blk_frozen BK102.out 1
          have p104 : 0 ≤ (x5_2 : Int) := of_decide_eq_true (by assumption)
          have q104 : x5_2 < (l0_0.length : Int) := of_decide_eq_true (by assumption)
          obtain ⟨ad104, e104, hx104_0, hx104_1, hx104_2⟩ := at_T56 HR0_0.out x5_2 p104 q104
          cases e104
          replace hx104_0 := (HB.out.cell (World.block_lt_of_cell? w _ hx104_0)).trans hx104_0
          replace hx104_1 := (HB.out.cell (World.block_lt_of_cell? w _ hx104_1)).trans hx104_1
          replace hx104_2 := (HB.out.cell (World.block_lt_of_cell? w _ hx104_2)).trans hx104_2
          replace p104 := eq_true p104
          replace q104 := eq_true q104
          have hcz23_0 : wr.cell? ⟨gb103, 0, none⟩ = some (.slice A1_0 l1_0.length c1_0) := (blk_cell BK103.out 0).trans rfl
          have hcz23_1 : wr.cell? ⟨gb103, 1, none⟩ = some (.slice A1_1 l1_1.length c1_1) := (blk_cell BK103.out 1).trans rfl
          have hfz23_0 := blk_frozen BK103.out 0
          have hfz23_1 := blk_frozen BK103.out 1
          have p105 : 0 ≤ (x5_2 : Int) := of_decide_eq_true (by assumption)
          have q105 : x5_2 < (l1_0.length : Int) := of_decide_eq_true (by assumption)
          obtain ⟨ad105, e105, hx105_0, hx105_1, hx105_2⟩ := at_T56 HR1_0.out x5_2 p105 q105
          cases e105
          replace hx105_0 := (HB.out.cell (World.block_lt_of_cell? w _ hx105_0)).trans hx105_0
          replace hx105_1 := (HB.out.cell (World.block_lt_of_cell? w _ hx105_1)).trans hx105_1
          replace hx105_2 := (HB.out.cell (World.block_lt_of_cell? w _ hx105_2)).trans hx105_2
          replace p105 := eq_true p105
          replace q105 := eq_true q105
          go_wp2
          repeat (go_quiet (fail); try go_wp2)
          go_roundg k2
          case measure => have := HJ2.out; have := HK2.out; omega
          case rel => exact ⟨(wrap64 (x5_2 + 1)), (by first | rfl | (simp; done) | (simp [*]; done)), H', ⟨by have := HJ2.out; have := HK2.out; omega⟩, ⟨bka BK102⟩, ⟨bka BK103⟩, ⟨bel⟩⟩
        ·rw [if_neg c16] at H
         exact absurd H (by simp)
       ·rw [if_neg c15] at H
        exact absurd H (by simp)
      ·rw [if_neg c14] at H
       have c14b0 : decide (x5_2 < (l0_0.length : Int)) = false := decide_eq_false c14
       clear c14
       have H' := Aside0.mk H
       clear H
       have hnb24 := NB102_103.out
       have hnc24 := NB103_102.out
       have hcz25_0 : wr.cell? ⟨gb102, 0, none⟩ = some (.slice A0_0 l0_0.length c0_0) := (blk_cell BK102.out 0).trans rfl
       have hcz25_1 : wr.cell? ⟨gb102, 1, none⟩ = some (.slice A0_1 l0_1.length c0_1) := (blk_cell BK102.out 1).trans rfl
       have hfz25_0 := blk_frozen BK102.out 0
       have hfz25_1 := blk_frozen BK102.out 1
       go_wp2
       repeat (go_quiet (fail); try go_wp2)
       go_loopg [6] k2 (fun kq v6 w' => ∃ (x6_3 : Int), v6 = .int .i64 x6_3 ∧ Aside0 (newelref19_Same.l1 kq x6_3 l0_0 l0_1 l1_0 l1_1 = some r) ∧ Aside0 (kq ≤ k2) ∧ Aside0 (w'.heap[gb102]? = some (.cells #[(.slice A0_0 l0_0.length c0_0), (.slice A0_1 l0_1.length c0_1)] 27 (0, 0))) ∧ Aside0 (w'.heap[gb103]? = some (.cells #[(.slice A1_0 l1_0.length c1_0), (.slice A1_1 l1_1.length c1_1)] 27 (0, 0))) ∧ Aside0 (Below w.heap.size w w'))
       case atStart => exact ⟨(0), rfl, H', ⟨Nat.le_refl _⟩, BK102, BK103, HB⟩
       case round =>
        clear H'
        try clear c1
        try clear p1
        try clear q1
        try clear hx1
        try clear c2
        try clear p2
        try clear c6
        try clear c6b0
        try clear c6b1
        try clear c6b2
        try clear p6
        try clear c7
        try clear c10
        try clear p10
        try clear q10
        try clear hx10
        try clear c13
        try clear c14
        try clear c14b0
        try clear c15
        try clear c15b0
        try clear c16
        try clear c16b0
        try clear c17
        try clear c17b0
        try clear c18
        try clear c21
        try clear c24
        try clear hcz11_0
        try clear hcz11_1
        try clear hcz12_0
        try clear hcz12_1
        try clear hcz19_0
        try clear hcz19_1
        try clear hcz20_0
        try clear hcz20_1
        try clear hcz22_0
        try clear hcz22_1
        try clear hcz23_0
        try clear hcz23_1
        try clear hcz25_0
        try clear hcz25_1
        try clear hcz8_0
        try clear hcz8_1
        try clear hcz9_0
        try clear hcz9_1
        try clear hfz11_0
        try clear hfz11_1
        try clear hfz12_0
        try clear hfz12_1
        try clear hfz19_0
        try clear hfz19_1
        try clear hfz20_0
        try clear hfz20_1
        try clear hfz22_0
        try clear hfz22_1
        try clear hfz23_0
        try clear hfz23_1
        try clear hfz25_0
        try clear hfz25_1
        try clear hfz8_0
        try clear hfz8_1
        try clear hfz9_0
        try clear hfz9_1
        try clear hx104_0
        try clear hx104_1
        try clear hx104_2
        try clear hx105_0
        try clear hx105_1
        try clear hx105_2
        try clear p104
        try clear p105
        try clear p2
        try clear q104
        try clear q105
        obtain ⟨x6_3, rfl, HA, HK3, BK102, BK103, HB⟩ := hrel
        cases gk with
        | zero => exact absurd HA.out (by simp [newelref19_Same.l1])
        | succ k3 =>
         have H := HA.out
         clear HA
         simp only [newelref19_Same.l1] at H
         by_cases c26 : x6_3 < (l0_1.length : Int)
         ·rw [if_pos c26] at H
          have c26b0 : decide (x6_3 < (l0_1.length : Int)) = true := decide_eq_true c26
          clear c26
          by_cases c27 : 0 ≤ x6_3
          ·rw [if_pos c27] at H
           have c27b0 : decide (0 ≤ x6_3) = true := decide_eq_true c27
           clear c27
           by_cases c28 : x6_3 < (l1_1.length : Int)
           ·rw [if_pos c28] at H
            have c28b0 : decide (x6_3 < (l1_1.length : Int)) = true := decide_eq_true c28
            clear c28
            by_cases c29 : (!(((rd_T62 l0_1 x6_3).f0) == ((rd_T62 l1_1 x6_3).f0)) || (!(((rd_T62 l0_1 x6_3).f1) == ((rd_T62 l1_1 x6_3).f1)))) = true
            ·rw [if_pos c29] at H
             have c29b0 : (!(((rd_T62 l0_1 x6_3).f0) == ((rd_T62 l1_1 x6_3).f0)) || (!(((rd_T62 l0_1 x6_3).f1) == ((rd_T62 l1_1 x6_3).f1)))) = true := c29
             (try (have c29s0 := c29b0; simp only [beq_self_eq_true, bne_self_eq_false, Bool.not_true, Bool.not_false, Bool.true_and, Bool.and_true, Bool.false_or, Bool.or_false] at c29s0))
             clear c29
             obtain rfl := Option.some.inj H
             have hnb30 := NB102_103.out
             have hnc30 := NB103_102.out
             have hcz31_0 : wr.cell? ⟨gb102, 0, none⟩ = some (.slice A0_0 l0_0.length c0_0) := (blk_cell BK102.out 0).trans rfl
             have hcz31_1 : wr.cell? ⟨gb102, 1, none⟩ = some (.slice A0_1 l0_1.length c0_1) := (blk_cell BK102.out 1).trans rfl
             have hfz31_0 := blk_frozen BK102.out 0
             have hfz31_1 := blk_frozen BK102.out 1
             have p106 : 0 ≤ (x6_3 : Int) := of_decide_eq_true (by assumption)
             have q106 : x6_3 < (l0_1.length : Int) := of_decide_eq_true (by assumption)
             obtain ⟨ad106, e106, hx106_0, hx106_1⟩ := at_T62 HR0_1.out x6_3 p106 q106
             cases e106
             replace hx106_0 := (HB.out.cell (World.block_lt_of_cell? w _ hx106_0)).trans hx106_0
             replace hx106_1 := (HB.out.cell (World.block_lt_of_cell? w _ hx106_1)).trans hx106_1
             replace p106 := eq_true p106
             replace q106 := eq_true q106
             have hcz32_0 : wr.cell? ⟨gb103, 0, none⟩ = some (.slice A1_0 l1_0.length c1_0) := (blk_cell BK103.out 0).trans rfl
             have hcz32_1 : wr.cell? ⟨gb103, 1, none⟩ = some (.slice A1_1 l1_1.length c1_1) := (blk_cell BK103.out 1).trans rfl
             have hfz32_0 := blk_frozen BK103.out 0
             have hfz32_1 := blk_frozen BK103.out 1
             have p107 : 0 ≤ (x6_3 : Int) := of_decide_eq_true (by assumption)
             have q107 : x6_3 < (l1_1.length : Int) := of_decide_eq_true (by assumption)
             obtain ⟨ad107, e107, hx107_0, hx107_1⟩ := at_T62 HR1_1.out x6_3 p107 q107
             cases e107
             replace hx107_0 := (HB.out.cell (World.block_lt_of_cell? w _ hx107_0)).trans hx107_0
             replace hx107_1 := (HB.out.cell (World.block_lt_of_cell? w _ hx107_1)).trans hx107_1
             replace p107 := eq_true p107
             replace q107 := eq_true q107
             go_wp2
             repeat (go_quiet (fail); try go_wp2)
             go_ret
             exact ⟨by first | rfl | (simp [errW_none, errW_some] <;> rfl) | (simp [*, errW_none, errW_some] <;> rfl), bel⟩
            ·rw [if_neg c29] at H
             have c29b0 : (!(((rd_T62 l0_1 x6_3).f0) == ((rd_T62 l1_1 x6_3).f0)) || (!(((rd_T62 l0_1 x6_3).f1) == ((rd_T62 l1_1 x6_3).f1)))) = false := by simpa using c29
             (try (have c29s0 := c29b0; simp only [beq_self_eq_true, bne_self_eq_false, Bool.not_true, Bool.not_false, Bool.true_and, Bool.and_true, Bool.false_or, Bool.or_false] at c29s0))
             clear c29
             have H' := Aside0.mk H
             clear H
             have hnb33 := NB102_103.out
             have hnc33 := NB103_102.out
             have hcz34_0 : wr.cell? ⟨gb102, 0, none⟩ = some (.slice A0_0 l0_0.length c0_0) := (blk_cell BK102.out 0).trans rfl
             have hcz34_1 : wr.cell? ⟨gb102, 1, none⟩ = some (.slice A0_1 l0_1.length c0_1) := (blk_cell BK102.out 1).trans rfl
             have hfz34_0 := blk_frozen BK102.out 0
             have hfz34_1 := blk_frozen BK102.out 1
             have p106 : 0 ≤ (x6_3 : Int) := of_decide_eq_true (by assumption)
             have q106 : x6_3 < (l0_1.length : Int) := of_decide_eq_true (by assumption)
             obtain ⟨ad106, e106, hx106_0, hx106_1⟩ := at_T62 HR0_1.out x6_3 p106 q106
             cases e106
             replace hx106_0 := (HB.out.cell (World.block_lt_of_cell? w _ hx106_0)).trans hx106_0
             replace hx106_1 := (HB.out.cell (World.block_lt_of_cell? w _ hx106_1)).trans hx106_1
             replace p106 := eq_true p106
             replace q106 := eq_true q106
             have hcz35_0 : wr.cell? ⟨gb103, 0, none⟩ = some (.slice A1_0 l1_0.length c1_0) := (blk_cell BK103.out 0).trans rfl
             have hcz35_1 : wr.cell? ⟨gb103, 1, none⟩ = some (.slice A1_1 l1_1.length c1_1) := (blk_cell BK103.out 1).trans rfl
             have hfz35_0 := blk_frozen BK103.out 0
             have hfz35_1 := blk_frozen BK103.out 1
             have p107 : 0 ≤ (x6_3 : Int) := of_decide_eq_true (by assumption)
             have q107 : x6_3 < (l1_1.length : Int) := of_decide_eq_true (by assumption)
             obtain ⟨ad107, e107, hx107_0, hx107_1⟩ := at_T62 HR1_1.out x6_3 p107 q107
             cases e107
             replace hx107_0 := (HB.out.cell (World.block_lt_of_cell? w _ hx107_0)).trans hx107_0
             replace hx107_1 := (HB.out.cell (World.block_lt_of_cell? w _ hx107_1)).trans hx107_1
             replace p107 := eq_true p107
             replace q107 := eq_true q107
             go_wp2
             repeat (go_quiet (fail); try go_wp2)
             go_roundg k3
             case measure => have := HJ2.out; have := HK2.out; have := HK3.out; omega
             case rel => exact ⟨(wrap64 (x6_3 + 1)), (by first | rfl | (simp; done) | (simp [*]; done)), H', ⟨by have := HJ2.out; have := HK2.out; have := HK3.out; omega⟩, ⟨bka BK102⟩, ⟨bka BK103⟩, ⟨bel⟩⟩
           ·rw [if_neg c28] at H
            exact absurd H (by simp)
          ·rw [if_neg c27] at H
           exact absurd H (by simp)
         ·rw [if_neg c26] at H
          have c26b0 : decide (x6_3 < (l0_1.length : Int)) = false := decide_eq_false c26
          clear c26
          obtain rfl := Option.some.inj H
          have hnb36 := NB102_103.out
          have hnc36 := NB103_102.out
          have hcz37_0 : wr.cell? ⟨gb102, 0, none⟩ = some (.slice A0_0 l0_0.length c0_0) := (blk_cell BK102.out 0).trans rfl
          have hcz37_1 : wr.cell? ⟨gb102, 1, none⟩ = some (.slice A0_1 l0_1.length c0_1) := (blk_cell BK102.out 1).trans rfl
          have hfz37_0 := blk_frozen BK102.out 0
          have hfz37_1 := blk_frozen BK102.out 1
          go_wp2
          repeat (go_quiet (fail); try go_wp2)
          go_ret
          exact ⟨by first | rfl | (simp [errW_none, errW_some] <;> rfl) | (simp [*, errW_none, errW_some] <;> rfl), bel⟩
end Go.Proofs.Ytjehhhlhalkieaa.C
namespace Go.Proofs.Ytjehhhlhalkieaa.C
open Go.RowKit Go.Proofs.YtjehhhlhalkieaaW.PrintWords Go.Proofs.YtjehhhlhalkieaaW.PrintLast Go.Proofs.YtjehhhlhalkieaaW.PrintMore
attribute [local go_sem] max2_int min2_int max_two min_two max_three min_three max_four min_four
set_option linter.unusedVariables false
set_option linter.unusedSimpArgs false
attribute [local go_sem high] eqA56
def api_Hall.l0 : Nat → List (S56) → List (S56) → Int → Int → Option (Bool)
 | 0, _, _, _, _ => none
 | k + 1, x0, x1, x12, x13 => if x13 < x12 then (if 0 ≤ x13 then (if x13 < (x0.length : Int) then (if x13 < (x1.length : Int) then (if (!(((rd_T56 x0 x13).f0) == ((rd_T56 x1 x13).f0)) || (!(((rd_T56 x0 x13).f1) == ((rd_T56 x1 x13).f1)) || (!(((rd_T56 x0 x13).f2) == ((rd_T56 x1 x13).f2))))) = true then (some false) else (api_Hall.l0 k x0 x1 x12 (wrap64 (x13 + 1)))) else (none)) else (none)) else (none)) else (some true)
def api_Hall.f (k : Nat) (l0 : List (S56)) (l1 : List (S56)) : Option (Bool) := if (l0.length : Int) = (l1.length : Int) then (api_Hall.l0 k l0 l1 (l0.length : Int) 0) else (some false)
theorem api_Hall.mono_l : ∀ k, (∀ y0 y1 y2 y3, LeO (api_Hall.l0 k y0 y1 y2 y3) (api_Hall.l0 (k + 1) y0 y1 y2 y3))
 | 0 => fun _ _ _ _ r h => by simp [api_Hall.l0] at h
 | k + 1 => by
  have ih0 := api_Hall.mono_l k
  ·intro y0 y1 y2 y3
   unfold api_Hall.l0
   repeat' first
   | (with_reducible exact ih0 _ _ _ _)
   | (with_reducible exact LeO.refl _)
   | (with_reducible exact LeO.none _)
   | (with_reducible refine LeO.ite ?_ ?_)
   | (with_reducible refine LeO.bind ?_ (fun _ => ?_))
   | exact ih0 _ _ _ _
   | exact LeO.none _
   | refine LeO.ite ?_ ?_
   | refine LeO.bind ?_ (fun _ => ?_)
theorem api_Hall.mono : ∀ a0 a1 k, LeO (api_Hall.f k a0 a1) (api_Hall.f (k + 1) a0 a1) := by
 intro a0 a1 k
 have ih0 := api_Hall.mono_l k
 unfold api_Hall.f
 repeat' first
   | (with_reducible exact ih0 _ _ _ _)
   | (with_reducible exact LeO.refl _)
   | (with_reducible exact LeO.none _)
   | (with_reducible refine LeO.ite ?_ ?_)
   | (with_reducible refine LeO.bind ?_ (fun _ => ?_))
   | exact ih0 _ _ _ _
   | exact LeO.none _
   | refine LeO.ite ?_ ?_
   | refine LeO.bind ?_ (fun _ => ?_)
set_option maxHeartbeats 8000000 in
set_option maxRecDepth 100000 in
theorem api_Hall.calls (k : Nat) (A0 : Option Addr) (c0 : Nat) (l0 : List (S56)) (A1 : Option Addr) (c1 : Nat) (l1 : List (S56)) (r : Bool) (w : World) (hr0 : Kd.C k56 w A0 l0.length l0) (hc0 : l0.length ≤ c0) (hr1 : Kd.C k56 w A1 l1.length l1) (hc1 : l1.length ≤ c1) (h : api_Hall.f k l0 l1 = some r) :
  Calls Try.prog 48 #[.slice A0 l0.length c0, .slice A1 l1.length c1] w fun e w' => e = .returned (.bool r) ∧ Drawn0 w w' := by
 have hu56 := Try.underlying56
 have HR0 := Aside0.mk hr0
 have HC0 := Aside0.mk hc0
 clear hr0 hc0
 have HR1 := Aside0.mk hr1
 have HC1 := Aside0.mk hc1
 clear hr1 hc1
 have H : (if (l0.length : Int) = (l1.length : Int) then (api_Hall.l0 k l0 l1 (l0.length : Int) 0) else (some false)) = some r := h
 clear h
 by_cases c3 : (l0.length : Int) = (l1.length : Int)
 ·rw [if_pos c3] at H
  have c3b0 : ((l0.length : Int) == (l1.length : Int)) = true := beq_iff_eq.mpr c3
  have c3b1 : ((l0.length : Int) != (l1.length : Int)) = false := bne_eq_false_iff_eq.mpr c3
  have c3b2 : (l0.length == l1.length) = true := by first | simpa using c3 | (simp at c3 ⊢; omega)
  clear c3
  have H' := Aside0.mk H
  clear H
  go_enter Try.func48, Try.ntmps48
  go_wp2
  repeat (go_quiet (fail); try go_wp2)
  go_loopg [13] k (fun kq v13 w' => ∃ (x13_1 : Int), v13 = .int .i64 x13_1 ∧ Aside0 (api_Hall.l0 kq l0 l1 (l0.length : Int) x13_1 = some r) ∧ Aside0 (kq ≤ k) ∧ Drawn0 w w')
  case atStart => exact ⟨(0), (by first | rfl | (simp; done) | (simp [*]; done)), H', ⟨Nat.le_refl _⟩, by repeat (first | exact Drawn0.refl _ | apply Drawn0.step)⟩
  case round =>
   clear H'
   try clear c1
   try clear p2
   try clear c3
   try clear c3b0
   try clear c3b1
   try clear c3b2
   obtain ⟨x13_1, rfl, HA, HK1, ⟨m1, rfl⟩⟩ := hrel
   cases gk with
   | zero => exact absurd HA.out (by simp [api_Hall.l0])
   | succ k1 =>
    have H := HA.out
    clear HA
    simp only [api_Hall.l0] at H
    by_cases c4 : x13_1 < (l0.length : Int)
    ·rw [if_pos c4] at H
     have c4b0 : decide (x13_1 < (l0.length : Int)) = true := decide_eq_true c4
     clear c4
     by_cases c5 : 0 ≤ x13_1
     ·rw [if_pos c5] at H
      have c5b0 : decide (0 ≤ x13_1) = true := decide_eq_true c5
      clear c5
      by_cases c6 : x13_1 < (l0.length : Int)
      ·rw [if_pos c6] at H
       have c6b0 : decide (x13_1 < (l0.length : Int)) = true := decide_eq_true c6
       clear c6
       by_cases c7 : x13_1 < (l1.length : Int)
       ·rw [if_pos c7] at H
        have c7b0 : decide (x13_1 < (l1.length : Int)) = true := decide_eq_true c7
        clear c7
        by_cases c8 : (!(((rd_T56 l0 x13_1).f0) == ((rd_T56 l1 x13_1).f0)) || (!(((rd_T56 l0 x13_1).f1) == ((rd_T56 l1 x13_1).f1)) || (!(((rd_T56 l0 x13_1).f2) == ((rd_T56 l1 x13_1).f2))))) = true
        ·rw [if_pos c8] at H
         have c8b0 : (!(((rd_T56 l0 x13_1).f0) == ((rd_T56 l1 x13_1).f0)) || (!(((rd_T56 l0 x13_1).f1) == ((rd_T56 l1 x13_1).f1)) || (!(((rd_T56 l0 x13_1).f2) == ((rd_T56 l1 x13_1).f2))))) = true := c8
         (try (have c8s0 := c8b0; simp only [beq_self_eq_true, bne_self_eq_false, Bool.not_true, Bool.not_false, Bool.true_and, Bool.and_true, Bool.false_or, Bool.or_false] at c8s0))
         clear c8
         obtain rfl := Option.some.inj H
         have p127 : 0 ≤ (x13_1 : Int) := of_decide_eq_true (by first | (with_reducible assumption) | assumption)
         have q127 : x13_1 < (l0.length : Int) := of_decide_eq_true (by first | (with_reducible assumption) | assumption)
         obtain ⟨ad127, e127, hx127_0, hx127_1, hx127_2⟩ := at_T56 HR0.out x13_1 p127 q127
         cases e127
         replace p127 := eq_true p127
         replace q127 := eq_true q127
         have p128 : 0 ≤ (x13_1 : Int) := of_decide_eq_true (by first | (with_reducible assumption) | assumption)
         have q128 : x13_1 < (l1.length : Int) := of_decide_eq_true (by first | (with_reducible assumption) | assumption)
         obtain ⟨ad128, e128, hx128_0, hx128_1, hx128_2⟩ := at_T56 HR1.out x13_1 p128 q128
         cases e128
         replace p128 := eq_true p128
         replace q128 := eq_true q128
         go_wp2
         repeat (go_quiet (fail); try go_wp2)
         go_ret
         exact ⟨by first | rfl | (simp; done) | (simp [*]; done), by repeat (first | exact Drawn0.refl _ | apply Drawn0.step)⟩
        ·rw [if_neg c8] at H
         have c8b0 : (!(((rd_T56 l0 x13_1).f0) == ((rd_T56 l1 x13_1).f0)) || (!(((rd_T56 l0 x13_1).f1) == ((rd_T56 l1 x13_1).f1)) || (!(((rd_T56 l0 x13_1).f2) == ((rd_T56 l1 x13_1).f2))))) = false := by simpa using c8
         (try (have c8s0 := c8b0; simp only [beq_self_eq_true, bne_self_eq_false, Bool.not_true, Bool.not_false, Bool.true_and, Bool.and_true, Bool.false_or, Bool.or_false] at c8s0))
         clear c8
         have H' := Aside0.mk H
         clear H
         have p127 : 0 ≤ (x13_1 : Int) := of_decide_eq_true (by first | (with_reducible assumption) | assumption)
         have q127 : x13_1 < (l0.length : Int) := of_decide_eq_true (by first | (with_reducible assumption) | assumption)
         obtain ⟨ad127, e127, hx127_0, hx127_1, hx127_2⟩ := at_T56 HR0.out x13_1 p127 q127
         cases e127
         replace p127 := eq_true p127
         replace q127 := eq_true q127
         have p128 : 0 ≤ (x13_1 : Int) := of_decide_eq_true (by first | (with_reducible assumption) | assumption)
         have q128 : x13_1 < (l1.length : Int) := of_decide_eq_true (by first | (with_reducible assumption) | assumption)
         obtain ⟨ad128, e128, hx128_0, hx128_1, hx128_2⟩ := at_T56 HR1.out x13_1 p128 q128
         cases e128
         replace p128 := eq_true p128
         replace q128 := eq_true q128
         go_wp2
         repeat (go_quiet (fail); try go_wp2)
         go_roundg k1
         case measure => have := HK1.out; omega
         case rel => exact ⟨(wrap64 (x13_1 + 1)), (by first | rfl | (simp; done) | (simp [*]; done)), H', ⟨by have := HK1.out; omega⟩, by repeat (first | exact Drawn0.refl _ | apply Drawn0.step)⟩
       ·rw [if_neg c7] at H
        exact absurd H (by simp)
      ·rw [if_neg c6] at H
       exact absurd H (by simp)
     ·rw [if_neg c5] at H
      exact absurd H (by simp)
    ·rw [if_neg c4] at H
     have c4b0 : decide (x13_1 < (l0.length : Int)) = false := decide_eq_false c4
     clear c4
     obtain rfl := Option.some.inj H
     go_wp2
     repeat (go_quiet (fail); try go_wp2)
     go_ret
     exact ⟨by first | rfl | (simp; done) | (simp [*]; done), by repeat (first | exact Drawn0.refl _ | apply Drawn0.step)⟩
 ·rw [if_neg c3] at H
  have c3b0 : ((l0.length : Int) == (l1.length : Int)) = false := beq_eq_false_iff_ne.mpr c3
  have c3b1 : ((l0.length : Int) != (l1.length : Int)) = true := bne_iff_ne.mpr c3
  have c3b2 : (l0.length == l1.length) = false := by first | simpa using c3 | (simp at c3 ⊢; omega)
  obtain rfl := Option.some.inj H
  go_enter Try.func48, Try.ntmps48
  go_wp2
  repeat (go_quiet (fail); try go_wp2)
  go_ret
  exact ⟨by first | rfl | (simp; done) | (simp [*]; done), by repeat (first | exact Drawn0.refl _ | apply Drawn0.step)⟩
end Go.Proofs.Ytjehhhlhalkieaa.C
namespace Go.Proofs.Ytjehhhlhalkieaa.C
open Go.RowKit Go.Proofs.YtjehhhlhalkieaaW.PrintWords Go.Proofs.YtjehhhlhalkieaaW.PrintLast Go.Proofs.YtjehhhlhalkieaaW.PrintMore
attribute [local go_sem] max2_int min2_int max_two min_two max_three min_three max_four min_four
set_option linter.unusedVariables false
set_option linter.unusedSimpArgs false
attribute [local go_sem high] eqA62
def api_Inside.l0 : Nat → List (S62) → List (S62) → Int → Int → Option (Bool)
 | 0, _, _, _, _ => none
 | k + 1, x0, x1, x12, x13 => if x13 < x12 then (if 0 ≤ x13 then (if x13 < (x0.length : Int) then (if x13 < (x1.length : Int) then (if (!(((rd_T62 x0 x13).f0) == ((rd_T62 x1 x13).f0)) || (!(((rd_T62 x0 x13).f1) == ((rd_T62 x1 x13).f1)))) = true then (some false) else (api_Inside.l0 k x0 x1 x12 (wrap64 (x13 + 1)))) else (none)) else (none)) else (none)) else (some true)
def api_Inside.f (k : Nat) (l0 : List (S62)) (l1 : List (S62)) : Option (Bool) := if (l0.length : Int) = (l1.length : Int) then (api_Inside.l0 k l0 l1 (l0.length : Int) 0) else (some false)
theorem api_Inside.mono_l : ∀ k, (∀ y0 y1 y2 y3, LeO (api_Inside.l0 k y0 y1 y2 y3) (api_Inside.l0 (k + 1) y0 y1 y2 y3))
 | 0 => fun _ _ _ _ r h => by simp [api_Inside.l0] at h
 | k + 1 => by
  have ih0 := api_Inside.mono_l k
  ·intro y0 y1 y2 y3
   unfold api_Inside.l0
   repeat' first
   | (with_reducible exact ih0 _ _ _ _)
   | (with_reducible exact LeO.refl _)
   | (with_reducible exact LeO.none _)
   | (with_reducible refine LeO.ite ?_ ?_)
   | (with_reducible refine LeO.bind ?_ (fun _ => ?_))
   | exact ih0 _ _ _ _
   | exact LeO.none _
   | refine LeO.ite ?_ ?_
   | refine LeO.bind ?_ (fun _ => ?_)
theorem api_Inside.mono : ∀ a0 a1 k, LeO (api_Inside.f k a0 a1) (api_Inside.f (k + 1) a0 a1) := by
 intro a0 a1 k
 have ih0 := api_Inside.mono_l k
 unfold api_Inside.f
 repeat' first
   | (with_reducible exact ih0 _ _ _ _)
   | (with_reducible exact LeO.refl _)
   | (with_reducible exact LeO.none _)
   | (with_reducible refine LeO.ite ?_ ?_)
   | (with_reducible refine LeO.bind ?_ (fun _ => ?_))
   | exact ih0 _ _ _ _
   | exact LeO.none _
   | refine LeO.ite ?_ ?_
   | refine LeO.bind ?_ (fun _ => ?_)
set_option maxHeartbeats 8000000 in
set_option maxRecDepth 100000 in
theorem api_Inside.calls (k : Nat) (A0 : Option Addr) (c0 : Nat) (l0 : List (S62)) (A1 : Option Addr) (c1 : Nat) (l1 : List (S62)) (r : Bool) (w : World) (hr0 : Kd.C k62 w A0 l0.length l0) (hc0 : l0.length ≤ c0) (hr1 : Kd.C k62 w A1 l1.length l1) (hc1 : l1.length ≤ c1) (h : api_Inside.f k l0 l1 = some r) :
  Calls Try.prog 49 #[.slice A0 l0.length c0, .slice A1 l1.length c1] w fun e w' => e = .returned (.bool r) ∧ Drawn0 w w' := by
 have hu62 := Try.underlying62
 have HR0 := Aside0.mk hr0
 have HC0 := Aside0.mk hc0
 clear hr0 hc0
 have HR1 := Aside0.mk hr1
 have HC1 := Aside0.mk hc1
 clear hr1 hc1
 have H : (if (l0.length : Int) = (l1.length : Int) then (api_Inside.l0 k l0 l1 (l0.length : Int) 0) else (some false)) = some r := h
 clear h
 by_cases c3 : (l0.length : Int) = (l1.length : Int)
 ·rw [if_pos c3] at H
  have c3b0 : ((l0.length : Int) == (l1.length : Int)) = true := beq_iff_eq.mpr c3
  have c3b1 : ((l0.length : Int) != (l1.length : Int)) = false := bne_eq_false_iff_eq.mpr c3
  have c3b2 : (l0.length == l1.length) = true := by first | simpa using c3 | (simp at c3 ⊢; omega)
  clear c3
  have H' := Aside0.mk H
  clear H
  go_enter Try.func49, Try.ntmps49
  go_wp2
  repeat (go_quiet (fail); try go_wp2)
  go_loopg [13] k (fun kq v13 w' => ∃ (x13_1 : Int), v13 = .int .i64 x13_1 ∧ Aside0 (api_Inside.l0 kq l0 l1 (l0.length : Int) x13_1 = some r) ∧ Aside0 (kq ≤ k) ∧ Drawn0 w w')
  case atStart => exact ⟨(0), (by first | rfl | (simp; done) | (simp [*]; done)), H', ⟨Nat.le_refl _⟩, by repeat (first | exact Drawn0.refl _ | apply Drawn0.step)⟩
  case round =>
   clear H'
   try clear c1
   try clear p2
   try clear c3
   try clear c3b0
   try clear c3b1
   try clear c3b2
   obtain ⟨x13_1, rfl, HA, HK1, ⟨m1, rfl⟩⟩ := hrel
   cases gk with
   | zero => exact absurd HA.out (by simp [api_Inside.l0])
   | succ k1 =>
    have H := HA.out
    clear HA
    simp only [api_Inside.l0] at H
    by_cases c4 : x13_1 < (l0.length : Int)
    ·rw [if_pos c4] at H
     have c4b0 : decide (x13_1 < (l0.length : Int)) = true := decide_eq_true c4
     clear c4
     by_cases c5 : 0 ≤ x13_1
     ·rw [if_pos c5] at H
      have c5b0 : decide (0 ≤ x13_1) = true := decide_eq_true c5
      clear c5
      by_cases c6 : x13_1 < (l0.length : Int)
      ·rw [if_pos c6] at H
       have c6b0 : decide (x13_1 < (l0.length : Int)) = true := decide_eq_true c6
       clear c6
       by_cases c7 : x13_1 < (l1.length : Int)
       ·rw [if_pos c7] at H
        have c7b0 : decide (x13_1 < (l1.length : Int)) = true := decide_eq_true c7
        clear c7
        by_cases c8 : (!(((rd_T62 l0 x13_1).f0) == ((rd_T62 l1 x13_1).f0)) || (!(((rd_T62 l0 x13_1).f1) == ((rd_T62 l1 x13_1).f1)))) = true
        ·rw [if_pos c8] at H
         have c8b0 : (!(((rd_T62 l0 x13_1).f0) == ((rd_T62 l1 x13_1).f0)) || (!(((rd_T62 l0 x13_1).f1) == ((rd_T62 l1 x13_1).f1)))) = true := c8
         (try (have c8s0 := c8b0; simp only [beq_self_eq_true, bne_self_eq_false, Bool.not_true, Bool.not_false, Bool.true_and, Bool.and_true, Bool.false_or, Bool.or_false] at c8s0))
         clear c8
         obtain rfl := Option.some.inj H
         have p129 : 0 ≤ (x13_1 : Int) := of_decide_eq_true (by first | (with_reducible assumption) | assumption)
         have q129 : x13_1 < (l0.length : Int) := of_decide_eq_true (by first | (with_reducible assumption) | assumption)
         obtain ⟨ad129, e129, hx129_0, hx129_1⟩ := at_T62 HR0.out x13_1 p129 q129
         cases e129
         replace p129 := eq_true p129
         replace q129 := eq_true q129
         have p130 : 0 ≤ (x13_1 : Int) := of_decide_eq_true (by first | (with_reducible assumption) | assumption)
         have q130 : x13_1 < (l1.length : Int) := of_decide_eq_true (by first | (with_reducible assumption) | assumption)
         obtain ⟨ad130, e130, hx130_0, hx130_1⟩ := at_T62 HR1.out x13_1 p130 q130
         cases e130
         replace p130 := eq_true p130
         replace q130 := eq_true q130
         go_wp2
         repeat (go_quiet (fail); try go_wp2)
         go_ret
         exact ⟨by first | rfl | (simp; done) | (simp [*]; done), by repeat (first | exact Drawn0.refl _ | apply Drawn0.step)⟩
        ·rw [if_neg c8] at H
         have c8b0 : (!(((rd_T62 l0 x13_1).f0) == ((rd_T62 l1 x13_1).f0)) || (!(((rd_T62 l0 x13_1).f1) == ((rd_T62 l1 x13_1).f1)))) = false := by simpa using c8
         (try (have c8s0 := c8b0; simp only [beq_self_eq_true, bne_self_eq_false, Bool.not_true, Bool.not_false, Bool.true_and, Bool.and_true, Bool.false_or, Bool.or_false] at c8s0))
         clear c8
         have H' := Aside0.mk H
         clear H
         have p129 : 0 ≤ (x13_1 : Int) := of_decide_eq_true (by first | (with_reducible assumption) | assumption)
         have q129 : x13_1 < (l0.length : Int) := of_decide_eq_true (by first | (with_reducible assumption) | assumption)
         obtain ⟨ad129, e129, hx129_0, hx129_1⟩ := at_T62 HR0.out x13_1 p129 q129
         cases e129
         replace p129 := eq_true p129
         replace q129 := eq_true q129
         have p130 : 0 ≤ (x13_1 : Int) := of_decide_eq_true (by first | (with_reducible assumption) | assumption)
         have q130 : x13_1 < (l1.length : Int) := of_decide_eq_true (by first | (with_reducible assumption) | assumption)
         obtain ⟨ad130, e130, hx130_0, hx130_1⟩ := at_T62 HR1.out x13_1 p130 q130
         cases e130
         replace p130 := eq_true p130
         replace q130 := eq_true q130
         go_wp2
         repeat (go_quiet (fail); try go_wp2)
         go_roundg k1
         case measure => have := HK1.out; omega
         case rel => exact ⟨(wrap64 (x13_1 + 1)), (by first | rfl | (simp; done) | (simp [*]; done)), H', ⟨by have := HK1.out; omega⟩, by repeat (first | exact Drawn0.refl _ | apply Drawn0.step)⟩
       ·rw [if_neg c7] at H
        exact absurd H (by simp)
      ·rw [if_neg c6] at H
       exact absurd H (by simp)
     ·rw [if_neg c5] at H
      exact absurd H (by simp)
    ·rw [if_neg c4] at H
     have c4b0 : decide (x13_1 < (l0.length : Int)) = false := decide_eq_false c4
     clear c4
     obtain rfl := Option.some.inj H
     go_wp2
     repeat (go_quiet (fail); try go_wp2)
     go_ret
     exact ⟨by first | rfl | (simp; done) | (simp [*]; done), by repeat (first | exact Drawn0.refl _ | apply Drawn0.step)⟩
 ·rw [if_neg c3] at H
  have c3b0 : ((l0.length : Int) == (l1.length : Int)) = false := beq_eq_false_iff_ne.mpr c3
  have c3b1 : ((l0.length : Int) != (l1.length : Int)) = true := bne_iff_ne.mpr c3
  have c3b2 : (l0.length == l1.length) = false := by first | simpa using c3 | (simp at c3 ⊢; omega)
  obtain rfl := Option.some.inj H
  go_enter Try.func49, Try.ntmps49
  go_wp2
  repeat (go_quiet (fail); try go_wp2)
  go_ret
  exact ⟨by first | rfl | (simp; done) | (simp [*]; done), by repeat (first | exact Drawn0.refl _ | apply Drawn0.step)⟩
end Go.Proofs.Ytjehhhlhalkieaa.C
namespace Go.Proofs.Ytjehhhlhalkieaa.C
open Go.RowKit Go.Proofs.YtjehhhlhalkieaaW.PrintWords Go.Proofs.YtjehhhlhalkieaaW.PrintLast Go.Proofs.YtjehhhlhalkieaaW.PrintMore
attribute [local go_sem] max2_int min2_int max_two min_two max_three min_three max_four min_four
set_option linter.unusedVariables false
set_option linter.unusedSimpArgs false
def call_Same.f (k : Nat) (l0_0 : List (S56)) (l0_1 : List (S62)) (l1_0 : List (S56)) (l1_1 : List (S62)) : Option (Bool) := (api_Hall.f k l0_0 l1_0).bind fun t133 => (if t133 = true then ((api_Inside.f k l0_1 l1_1).bind fun t134 => (some t134)) else (some false))
theorem call_Same.mono : ∀ a0 a1 a2 a3 k, LeO (call_Same.f k a0 a1 a2 a3) (call_Same.f (k + 1) a0 a1 a2 a3) := by
 intro a0 a1 a2 a3 k
 unfold call_Same.f
 repeat' first
   | (with_reducible exact api_Hall.mono _ _ _)
   | (with_reducible exact api_Inside.mono _ _ _)
   | (with_reducible exact LeO.refl _)
   | (with_reducible exact LeO.none _)
   | (with_reducible refine LeO.ite ?_ ?_)
   | (with_reducible refine LeO.bind ?_ (fun _ => ?_))
   | exact api_Hall.mono _ _ _
   | exact api_Inside.mono _ _ _
   | exact LeO.none _
   | refine LeO.ite ?_ ?_
   | refine LeO.bind ?_ (fun _ => ?_)
set_option maxHeartbeats 8000000 in
set_option maxRecDepth 100000 in
theorem call_Same.calls (k : Nat) (A0_0 : Option Addr) (c0_0 : Nat) (l0_0 : List (S56)) (A0_1 : Option Addr) (c0_1 : Nat) (l0_1 : List (S62)) (A1_0 : Option Addr) (c1_0 : Nat) (l1_0 : List (S56)) (A1_1 : Option Addr) (c1_1 : Nat) (l1_1 : List (S62)) (r : Bool) (w : World) (hr0_0 : Kd.C k56 w A0_0 l0_0.length l0_0) (hc0_0 : l0_0.length ≤ c0_0) (hr0_1 : Kd.C k62 w A0_1 l0_1.length l0_1) (hc0_1 : l0_1.length ≤ c0_1) (hr1_0 : Kd.C k56 w A1_0 l1_0.length l1_0) (hc1_0 : l1_0.length ≤ c1_0) (hr1_1 : Kd.C k62 w A1_1 l1_1.length l1_1) (hc1_1 : l1_1.length ≤ c1_1) (h : call_Same.f k l0_0 l0_1 l1_0 l1_1 = some r) :
  Calls Try.prog 27 #[.agg #[.slice A0_0 l0_0.length c0_0, .slice A0_1 l0_1.length c0_1], .agg #[.slice A1_0 l1_0.length c1_0, .slice A1_1 l1_1.length c1_1]] w fun e w' => e = .returned (.bool r) ∧ Below w.heap.size w w' := by
 have hu27 := Try.underlying27
 have HR0_0 := Aside0.mk hr0_0
 have HC0_0 := Aside0.mk hc0_0
 clear hr0_0 hc0_0
 have HR0_1 := Aside0.mk hr0_1
 have HC0_1 := Aside0.mk hc0_1
 clear hr0_1 hc0_1
 have HR1_0 := Aside0.mk hr1_0
 have HC1_0 := Aside0.mk hc1_0
 clear hr1_0 hc1_0
 have HR1_1 := Aside0.mk hr1_1
 have HC1_1 := Aside0.mk hc1_1
 clear hr1_1 hc1_1
 have HB := Aside0.mk (Below.refl w.heap.size w)
 have H : ((api_Hall.f k l0_0 l1_0).bind fun t133 => (if t133 = true then ((api_Inside.f k l0_1 l1_1).bind fun t134 => (some t134)) else (some false))) = some r := h
 clear h
 replace H := Option.bind_eq_some_iff.mp H
 obtain ⟨t133, A30, H⟩ := H
 replace H : (if t133 = true then ((api_Inside.f k l0_1 l1_1).bind fun t134 => (some t134)) else (some false)) = some r := H
 have A3 := Aside0.mk A30
 clear A30
 by_cases c4 : t133 = true
 ·subst c4
  have H1 : ((api_Inside.f k l0_1 l1_1).bind fun t134 => (some t134)) = some r := by rw [if_pos rfl] at H; exact H
  clear H
  have H := H1
  clear H1
  replace H := Option.bind_eq_some_iff.mp H
  obtain ⟨t134, A50, H⟩ := H
  replace H : (some t134) = some r := H
  have A5 := Aside0.mk A50
  clear A50
  obtain rfl := Option.some.inj H
  go_enter Try.func27, Try.ntmps27
  go_wp2_with (first | ((with_reducible refine gate_dst (N := 2) rfl ?_); refine box_event ?hg (N := 2) ?hd (cs := #[.slice A0_0 l0_0.length c0_0, .slice A0_1 l0_1.length c0_1]) (t := 27) ?hr ?_; (case hd => rfl); (case hg => rfl); (case hr => go_simp <;> rfl); intro gb131 hg w6 hbox hb; have BK131 := Aside0.mk hbox; have GW131 := sGe hg; have GE131 := sGe hg; replace HB := sHb hb; clear hb hbox hg) | ((with_reducible refine gate_dst (N := 3) rfl ?_); refine box_event ?hg (N := 3) ?hd (cs := #[.slice A1_0 l1_0.length c1_0, .slice A1_1 l1_1.length c1_1]) (t := 27) ?hr ?_; (case hd => rfl); (case hg => rfl); (case hr => go_simp <;> rfl); intro gb132 hg w7 hbox hb; have BK132 := Aside0.mk hbox; have GW132 := sGe hg; have GE132 := sGe hg; have NB131_132 := sNl BK131 hg; have NB132_131 := sNg BK131 hg; replace BK131 := sBk BK131 hb; replace HB := sHb hb; clear hb hbox hg; have hnb8 := NB131_132.out; have hnc8 := NB132_131.out; have hcz9_0 : w7.cell? ⟨gb131, 0, none⟩ = some (.slice A0_0 l0_0.length c0_0) := (blk_cell BK131.out 0).trans rfl; have hcz9_1 : w7.cell? ⟨gb131, 1, none⟩ = some (.slice A0_1 l0_1.length c0_1) := (blk_cell BK131.out 1).trans rfl; have hfz9_0 := blk_frozen BK131.out 0; have hfz9_1 := blk_frozen BK131.out 1; have hcz10_0 : w7.cell? ⟨gb132, 0, none⟩ = some (.slice A1_0 l1_0.length c1_0) := (blk_cell BK132.out 0).trans rfl; have hcz10_1 : w7.cell? ⟨gb132, 1, none⟩ = some (.slice A1_1 l1_1.length c1_1) := (blk_cell BK132.out 1).trans rfl; have hfz10_0 := blk_frozen BK132.out 0; have hfz10_1 := blk_frozen BK132.out 1) | ((with_reducible refine gate_callee (f := 48) rfl ?_); refine goesL_ (some 9) rfl rfl Try.func48 (by kernel_rfl) rfl #[.slice A0_0 l0_0.length c0_0, .slice A1_0 l1_0.length c1_0] rfl (by simp only [List.map_toArray, List.map_cons, List.map_nil] <;> rfl) ?_; (with_reducible refine (api_Hall.calls k _ _ l0_0 _ _ l1_0 true _ ?side1 ?side2 ?side3 ?side4 A3.out).mono ?_); (case side1 => repeat (first | exact (Kd.C_below HR0_0.out HB.out) | (with_reducible refine Kd.C_alloc ?_ _) | (with_reducible refine Kd.C_drewN ?_ _) | (with_reducible refine Kd.C_drew ?_))); (case side2 => exact HC0_0.out); (case side3 => repeat (first | exact (Kd.C_below HR1_0.out HB.out) | (with_reducible refine Kd.C_alloc ?_ _) | (with_reducible refine Kd.C_drewN ?_ _) | (with_reducible refine Kd.C_drew ?_))); (case side4 => exact HC1_0.out); rintro e w' ⟨rfl, ⟨nd, rfl⟩⟩; refine ⟨_, rfl, ?_⟩) | (go_at_call 49; (with_reducible refine (api_Inside.calls k _ _ l0_1 _ _ l1_1 t134 _ ?side1 ?side2 ?side3 ?side4 A5.out).mono ?_); (case side1 => repeat (first | exact (Kd.C_below HR0_1.out bel) | (with_reducible refine Kd.C_alloc ?_ _) | (with_reducible refine Kd.C_drewN ?_ _) | (with_reducible refine Kd.C_drew ?_))); (case side2 => exact HC0_1.out); (case side3 => repeat (first | exact (Kd.C_below HR1_1.out bel) | (with_reducible refine Kd.C_alloc ?_ _) | (with_reducible refine Kd.C_drewN ?_ _) | (with_reducible refine Kd.C_drew ?_))); (case side4 => exact HC1_1.out); rintro e w' ⟨rfl, ⟨nd, rfl⟩⟩))
  go_ret
  exact ⟨by first | rfl | (simp [errW_none, errW_some] <;> rfl) | (simp [*, errW_none, errW_some] <;> rfl), bel⟩
 ·replace c4 := Bool.eq_false_iff.mpr c4
  subst c4
  have H1 : (some false) = some r := by rw [if_neg (show ¬ (false = true) by decide)] at H; exact H
  clear H
  have H := H1
  clear H1
  obtain rfl := Option.some.inj H
  go_enter Try.func27, Try.ntmps27
  go_wp2_with (first | ((with_reducible refine gate_dst (N := 2) rfl ?_); refine box_event ?hg (N := 2) ?hd (cs := #[.slice A0_0 l0_0.length c0_0, .slice A0_1 l0_1.length c0_1]) (t := 27) ?hr ?_; (case hd => rfl); (case hg => rfl); (case hr => go_simp <;> rfl); intro gb131 hg w11 hbox hb; have BK131 := Aside0.mk hbox; have GW131 := sGe hg; have GE131 := sGe hg; replace HB := sHb hb; clear hb hbox hg) | ((with_reducible refine gate_dst (N := 3) rfl ?_); refine box_event ?hg (N := 3) ?hd (cs := #[.slice A1_0 l1_0.length c1_0, .slice A1_1 l1_1.length c1_1]) (t := 27) ?hr ?_; (case hd => rfl); (case hg => rfl); (case hr => go_simp <;> rfl); intro gb132 hg w12 hbox hb; have BK132 := Aside0.mk hbox; have GW132 := sGe hg; have GE132 := sGe hg; have NB131_132 := sNl BK131 hg; have NB132_131 := sNg BK131 hg; replace BK131 := sBk BK131 hb; replace HB := sHb hb; clear hb hbox hg; have hnb13 := NB131_132.out; have hnc13 := NB132_131.out; have hcz14_0 : w12.cell? ⟨gb131, 0, none⟩ = some (.slice A0_0 l0_0.length c0_0) := (blk_cell BK131.out 0).trans rfl; have hcz14_1 : w12.cell? ⟨gb131, 1, none⟩ = some (.slice A0_1 l0_1.length c0_1) := (blk_cell BK131.out 1).trans rfl; have hfz14_0 := blk_frozen BK131.out 0; have hfz14_1 := blk_frozen BK131.out 1; have hcz15_0 : w12.cell? ⟨gb132, 0, none⟩ = some (.slice A1_0 l1_0.length c1_0) := (blk_cell BK132.out 0).trans rfl; have hcz15_1 : w12.cell? ⟨gb132, 1, none⟩ = some (.slice A1_1 l1_1.length c1_1) := (blk_cell BK132.out 1).trans rfl; have hfz15_0 := blk_frozen BK132.out 0; have hfz15_1 := blk_frozen BK132.out 1) | ((with_reducible refine gate_callee (f := 48) rfl ?_); refine goesL_ (some 9) rfl rfl Try.func48 (by kernel_rfl) rfl #[.slice A0_0 l0_0.length c0_0, .slice A1_0 l1_0.length c1_0] rfl (by simp only [List.map_toArray, List.map_cons, List.map_nil] <;> rfl) ?_; (with_reducible refine (api_Hall.calls k _ _ l0_0 _ _ l1_0 false _ ?side1 ?side2 ?side3 ?side4 A3.out).mono ?_); (case side1 => exact (Kd.C_below HR0_0.out HB.out)); (case side2 => exact HC0_0.out); (case side3 => exact (Kd.C_below HR1_0.out HB.out)); (case side4 => exact HC1_0.out); rintro e w' ⟨rfl, ⟨nd, rfl⟩⟩; refine ⟨_, rfl, ?_⟩))
  go_ret
  exact ⟨by first | rfl | (simp [errW_none, errW_some] <;> rfl) | (simp [*, errW_none, errW_some] <;> rfl), bel⟩
end Go.Proofs.Ytjehhhlhalkieaa.C
