/- Texts of this claim, one behind the other: what the law's functions come to, walked; and what that is, in plain Lean. No conditions of their own. -/
import Derived.Test.YtickbejailcehaaDoorQ1
import Derived.Test.YtickbejailcehaaDoorQ2
-- Written by a program of this session (wip/pp: the kit's print, changed), out of the translation. Lean checks it.
namespace Go.Proofs.YtickbejailcehaaDoor.C
open Go.RowKit Go.Proofs.YtickbejailcehaaDoorW.PrintWords Go.Proofs.YtickbejailcehaaDoorW.PrintLast Go.Proofs.YtickbejailcehaaDoorW.PrintMore
attribute [local go_sem] max2_int min2_int max_two min_two max_three min_three max_four min_four   -- for this text's walks alone
set_option linter.unusedVariables false
set_option linter.unusedSimpArgs false

/-! ### flash_Write: function 11 -/
mutual
def flash_Write.j0 : Nat → Int → List Int → Bool → Int → Bool → List Int → List Int → Option (List Int × List Int × Bool × Int)
 | 0, _, _, _, _, _, _, _ => none
 | k + 1, x2, x9, x12, x13, x40, x180000, x180001 => if x40 = true then (some (([] : List Int), ([] : List Int), false, 124)) else (if x13 = 0 then (flash_Write.j1 k x2 x9 false x12 x180000 x180001) else (flash_Write.j1 k x2 x9 false true x180000 x180001))
def flash_Write.j1 : Nat → Int → List Int → Bool → Bool → List Int → List Int → Option (List Int × List Int × Bool × Int)
 | 0, _, _, _, _, _, _ => none
 | k + 1, x2, x9, x14, x46, x180000, x180001 => if x46 = true then (flash_Write.j2 k x2 x9 true x180000 x180001) else (flash_Write.j2 k x2 x9 x14 x180000 x180001)
def flash_Write.j2 : Nat → Int → List Int → Bool → List Int → List Int → Option (List Int × List Int × Bool × Int)
 | 0, _, _, _, _, _ => none
 | k + 1, x2, x9, x14, x180000, x180001 => (bytes_Clone.f x180000).bind fun t195 => ((bytes_Clone.f x180001).bind fun t198 => (if 0 ≤ (mn (mx x2 0) (x9.length : Int)) then (if (mn (mx x2 0) (x9.length : Int)) ≤ (x9.length : Int) then (some (pickR x14 (x9.take ((mn (mx x2 0) (x9.length : Int)) : Int).toNat) t195, pickR x14 t198 (x9.take ((mn (mx x2 0) (x9.length : Int)) : Int).toNat), decide (x2 ≥ (x9.length : Int)), 0)) else (none)) else (none)))
end
def flash_Write.f (k : Nat) (l0_0 : List Int) (l0_1 : List Int) (a1_0 : Int) (a1_1 : Int) (a1_2 : Int) (l1_3 : List Int) (a2 : Int) : Option (List Int × List Int × Bool × Int) := (flash_Code.f k a1_0 a1_1 a1_2 l1_3).bind fun bt182 => (if bt182.2 = 0 then ((flash_Recover.f k l0_0 l0_1).bind fun bt186 => (if bt186.2.2.2.2.2 = 0 then (flash_Write.j0 k a2 bt182.1 bt186.2.2.2.2.1 bt186.2.2.2.2.2 (decide (a1_0 ≤ bt186.1)) l0_0 l0_1) else (flash_Write.j0 k a2 bt182.1 bt186.2.2.2.2.1 bt186.2.2.2.2.2 false l0_0 l0_1))) else (some (([] : List Int), ([] : List Int), false, bt182.2)))
theorem flash_Write.mono_l : ∀ k, (∀ y0 y1 y2 y3 y4 y5 y6, LeO (flash_Write.j0 k y0 y1 y2 y3 y4 y5 y6) (flash_Write.j0 (k + 1) y0 y1 y2 y3 y4 y5 y6)) ∧ (∀ y0 y1 y2 y3 y4 y5, LeO (flash_Write.j1 k y0 y1 y2 y3 y4 y5) (flash_Write.j1 (k + 1) y0 y1 y2 y3 y4 y5)) ∧ (∀ y0 y1 y2 y3 y4, LeO (flash_Write.j2 k y0 y1 y2 y3 y4) (flash_Write.j2 (k + 1) y0 y1 y2 y3 y4))
 | 0 => ⟨fun _ _ _ _ _ _ _ r h => by simp [flash_Write.j0] at h, fun _ _ _ _ _ _ r h => by simp [flash_Write.j1] at h, fun _ _ _ _ _ r h => by simp [flash_Write.j2] at h⟩
 | k + 1 => by
  obtain ⟨ih0, ih1, ih2⟩ := flash_Write.mono_l k
  refine ⟨?_, ?_, ?_⟩
  ·intro y0 y1 y2 y3 y4 y5 y6
   unfold flash_Write.j0
   repeat' first
   | (with_reducible exact ih0 _ _ _ _ _ _ _)
   | (with_reducible exact ih1 _ _ _ _ _ _)
   | (with_reducible exact ih2 _ _ _ _ _)
   | (with_reducible exact flash_Code.mono _ _ _ _ _)
   | (with_reducible exact flash_Recover.mono _ _ _)
   | (with_reducible exact LeO.refl _)
   | (with_reducible exact LeO.none _)
   | (with_reducible refine LeO.ite ?_ ?_)
   | (with_reducible refine LeO.bind ?_ (fun _ => ?_))
   | exact ih0 _ _ _ _ _ _ _
   | exact ih1 _ _ _ _ _ _
   | exact ih2 _ _ _ _ _
   | exact flash_Code.mono _ _ _ _ _
   | exact flash_Recover.mono _ _ _
   | exact LeO.none _
   | refine LeO.ite ?_ ?_
   | refine LeO.bind ?_ (fun _ => ?_)
  ·intro y0 y1 y2 y3 y4 y5
   unfold flash_Write.j1
   repeat' first
   | (with_reducible exact ih0 _ _ _ _ _ _ _)
   | (with_reducible exact ih1 _ _ _ _ _ _)
   | (with_reducible exact ih2 _ _ _ _ _)
   | (with_reducible exact flash_Code.mono _ _ _ _ _)
   | (with_reducible exact flash_Recover.mono _ _ _)
   | (with_reducible exact LeO.refl _)
   | (with_reducible exact LeO.none _)
   | (with_reducible refine LeO.ite ?_ ?_)
   | (with_reducible refine LeO.bind ?_ (fun _ => ?_))
   | exact ih0 _ _ _ _ _ _ _
   | exact ih1 _ _ _ _ _ _
   | exact ih2 _ _ _ _ _
   | exact flash_Code.mono _ _ _ _ _
   | exact flash_Recover.mono _ _ _
   | exact LeO.none _
   | refine LeO.ite ?_ ?_
   | refine LeO.bind ?_ (fun _ => ?_)
  ·intro y0 y1 y2 y3 y4
   unfold flash_Write.j2
   repeat' first
   | (with_reducible exact ih0 _ _ _ _ _ _ _)
   | (with_reducible exact ih1 _ _ _ _ _ _)
   | (with_reducible exact ih2 _ _ _ _ _)
   | (with_reducible exact flash_Code.mono _ _ _ _ _)
   | (with_reducible exact flash_Recover.mono _ _ _)
   | (with_reducible exact LeO.refl _)
   | (with_reducible exact LeO.none _)
   | (with_reducible refine LeO.ite ?_ ?_)
   | (with_reducible refine LeO.bind ?_ (fun _ => ?_))
   | exact ih0 _ _ _ _ _ _ _
   | exact ih1 _ _ _ _ _ _
   | exact ih2 _ _ _ _ _
   | exact flash_Code.mono _ _ _ _ _
   | exact flash_Recover.mono _ _ _
   | exact LeO.none _
   | refine LeO.ite ?_ ?_
   | refine LeO.bind ?_ (fun _ => ?_)
theorem flash_Write.mono : ∀ a0 a1 a2 a3 a4 a5 a6 k, LeO (flash_Write.f k a0 a1 a2 a3 a4 a5 a6) (flash_Write.f (k + 1) a0 a1 a2 a3 a4 a5 a6) := by
 intro a0 a1 a2 a3 a4 a5 a6 k
 obtain ⟨ih0, ih1, ih2⟩ := flash_Write.mono_l k
 unfold flash_Write.f
 repeat' first
   | (with_reducible exact ih0 _ _ _ _ _ _ _)
   | (with_reducible exact ih1 _ _ _ _ _ _)
   | (with_reducible exact ih2 _ _ _ _ _)
   | (with_reducible exact flash_Code.mono _ _ _ _ _)
   | (with_reducible exact flash_Recover.mono _ _ _)
   | (with_reducible exact LeO.refl _)
   | (with_reducible exact LeO.none _)
   | (with_reducible refine LeO.ite ?_ ?_)
   | (with_reducible refine LeO.bind ?_ (fun _ => ?_))
   | exact ih0 _ _ _ _ _ _ _
   | exact ih1 _ _ _ _ _ _
   | exact ih2 _ _ _ _ _
   | exact flash_Code.mono _ _ _ _ _
   | exact flash_Recover.mono _ _ _
   | exact LeO.none _
   | refine LeO.ite ?_ ?_
   | refine LeO.bind ?_ (fun _ => ?_)
def flash_Write.T10 : Bool × List (List Nat × List Nat) := (true, [([], []), ([0], [0]), ([1], [1]), ([], []), ([3], [3]), ([4, 2], [4]), ([2, 5], [2, 5]), ([], []), ([7, 6, 5, 0, 1, 2, 3, 4, 5, 6, 7], [6, 7])])
def flash_Write.B10 : List Nat := [0, 1, 3, 0, 8, 31, 63, 0, 255]
theorem flash_Write.tab10 : rtab .any (opsOf Tryd.f11 10) = flash_Write.T10 := by kernel_rfl
theorem flash_Write.bits10 : waitsOk flash_Write.T10.2 flash_Write.B10 = true := by kernel_rfl
def flash_Write.T12 : Bool × List (List Nat × List Nat) := (true, [([], []), ([0], [0]), ([], []), ([], []), ([3], [3]), ([], []), ([5], [5]), ([4, 6], [4, 6]), ([2, 7], [2, 7]), ([1, 0, 1, 2, 3, 4, 5, 6, 7, 8], [1]), ([9, 8, 1, 0, 1, 2, 3, 4, 5, 6, 7, 8], [8, 9])])
def flash_Write.B12 : List Nat := [0, 1, 0, 0, 8, 0, 32, 120, 252, 511, 1023]
theorem flash_Write.tab12 : rtab .any (opsOf Tryd.f11 12) = flash_Write.T12 := by kernel_rfl
theorem flash_Write.bits12 : waitsOk flash_Write.T12.2 flash_Write.B12 = true := by kernel_rfl
set_option maxHeartbeats 8000000 in
set_option maxRecDepth 100000 in
theorem flash_Write.calls (k : Nat) (A0_0 : Option Addr) (c0_0 : Nat) (l0_0 : List Int) (A0_1 : Option Addr) (c0_1 : Nat) (l0_1 : List Int) (a1_0 : Int) (a1_1 : Int) (a1_2 : Int) (A1_3 : Option Addr) (c1_3 : Nat) (l1_3 : List Int) (a2 : Int) (r1 : List Int) (r2 : List Int) (r3 : Bool) (r4 : Int) (w : World) (hr0_0 : Kd.C (Kd.int .u8) w A0_0 l0_0.length l0_0) (hc0_0 : l0_0.length ≤ c0_0) (hr0_1 : Kd.C (Kd.int .u8) w A0_1 l0_1.length l0_1) (hc0_1 : l0_1.length ≤ c0_1) (hr1_3 : Kd.C (Kd.int .u8) w A1_3 l1_3.length l1_3) (hc1_3 : l1_3.length ≤ c1_3) (h : flash_Write.f k l0_0 l0_1 a1_0 a1_1 a1_2 l1_3 a2 = some (r1, r2, r3, r4)) (ht_ : Laid.TabAt w) :
  Calls Tryd.prog 11 #[.agg #[.slice A0_0 l0_0.length c0_0, .slice A0_1 l0_1.length c0_1], .agg #[.int .i64 a1_0, .int .i64 a1_1, .int .i64 a1_2, .slice A1_3 l1_3.length c1_3], .int .i64 a2] w fun e w' => ∃ v0_ v1_ : Value, e = .returned (.tuple #[.agg #[v0_, v1_], .bool r3, .int .i64 r4]) ∧ Kd.R (Kd.int .u8) 5 w' w.heap.size (fun k_ => some k_ ≠ (v1_ : Value).ownBlock) v0_ r1 ∧ Kd.R (Kd.int .u8) 5 w' w.heap.size (fun k_ => some k_ ≠ (v0_ : Value).ownBlock) v1_ r2 ∧ Below w.heap.size w w' := by
 have HTAB := Aside0.mk ht_
 clear ht_
 have hu24 := Tryd.underlying24
 have hu26 := Tryd.underlying26
 have hu58 := Tryd.underlying58
 have HR0_0 := Aside0.mk hr0_0
 have HC0_0 := Aside0.mk hc0_0
 clear hr0_0 hc0_0
 have HR0_1 := Aside0.mk hr0_1
 have HC0_1 := Aside0.mk hc0_1
 clear hr0_1 hc0_1
 have HR1_3 := Aside0.mk hr1_3
 have HC1_3 := Aside0.mk hc1_3
 clear hr1_3 hc1_3
 have HB := Aside0.mk (Below.refl w.heap.size w)
 have H : ((flash_Code.f k a1_0 a1_1 a1_2 l1_3).bind fun bt182 => (if bt182.2 = 0 then ((flash_Recover.f k l0_0 l0_1).bind fun bt186 => (if bt186.2.2.2.2.2 = 0 then (flash_Write.j0 k a2 bt182.1 bt186.2.2.2.2.1 bt186.2.2.2.2.2 (decide (a1_0 ≤ bt186.1)) l0_0 l0_1) else (flash_Write.j0 k a2 bt182.1 bt186.2.2.2.2.1 bt186.2.2.2.2.2 false l0_0 l0_1))) else (some (([] : List Int), ([] : List Int), false, bt182.2)))) = some (r1, r2, r3, r4) := h
 clear h
 replace H := Option.bind_eq_some_iff.mp H
 obtain ⟨⟨t182, t185⟩, A40, H⟩ := H
 replace H : (if t185 = 0 then ((flash_Recover.f k l0_0 l0_1).bind fun bt186 => (if bt186.2.2.2.2.2 = 0 then (flash_Write.j0 k a2 t182 bt186.2.2.2.2.1 bt186.2.2.2.2.2 (decide (a1_0 ≤ bt186.1)) l0_0 l0_1) else (flash_Write.j0 k a2 t182 bt186.2.2.2.2.1 bt186.2.2.2.2.2 false l0_0 l0_1))) else (some (([] : List Int), ([] : List Int), false, t185))) = some (r1, r2, r3, r4) := H
 have A4 := Aside0.mk A40
 clear A40
 by_cases c5 : t185 = 0
 ·rw [if_pos c5] at H
  have c5b0 : (t185 == 0) = true := beq_iff_eq.mpr c5
  have c5b1 : (t185 != 0) = false := bne_eq_false_iff_eq.mpr c5
  clear c5
  replace H := Option.bind_eq_some_iff.mp H
  obtain ⟨⟨t186, t187, t188, t189, t192, t193⟩, A60, H⟩ := H
  replace H : (if t193 = 0 then (flash_Write.j0 k a2 t182 t192 t193 (decide (a1_0 ≤ t186)) l0_0 l0_1) else (flash_Write.j0 k a2 t182 t192 t193 false l0_0 l0_1)) = some (r1, r2, r3, r4) := H
  have A6 := Aside0.mk A60
  clear A60
  have HC7 := Aside0.mk H
  clear H
  go_enter Tryd.func11, Tryd.ntmps11
  go_upto_region 5 with (first | ((with_reducible refine gate_dst (N := 3) rfl ?_); refine box_event ?hg (N := 3) ?hd (cs := #[.slice A0_0 l0_0.length c0_0, .slice A0_1 l0_1.length c0_1]) (t := 24) ?hr ?_; (case hd => rfl); (case hg => rfl); (case hr => first | (go_simp; done) | (go_simp; rfl)); intro gb179 hg w8 hbox hb; have n0_ := Aside0.mk (below_step (by repeat (first | (with_reducible first | exact HB.out | apply below_alloc | apply pw_below_drewN | apply below_drew1) | exact HB.out)) hb); have n1_ := Aside0.mk (hbox); have n2_ := Aside0.mk ((by rw [hg]; exact (below_size (by repeat (first | (with_reducible first | exact HB.out | apply below_alloc | apply pw_below_drewN | apply below_drew1) | exact HB.out))) : w.heap.size ≤ gb179)); have n3_ := Aside0.mk ((by rw [hg]; exact (below_size (by repeat (first | (with_reducible first | exact HB.out | apply below_alloc | apply pw_below_drewN | apply below_drew1) | exact HB.out))) : w.heap.size ≤ gb179)); clear HB; have HB := n0_; have BK179 := n1_; have GW179 := n2_; have GE179 := n3_; clear n0_ n1_ n2_ n3_; clear hb hbox hg) | ((with_reducible refine gate_dst (N := 4) rfl ?_); refine box_event ?hg (N := 4) ?hd (cs := #[.int .i64 a1_0, .int .i64 a1_1, .int .i64 a1_2, .slice A1_3 l1_3.length c1_3]) (t := 26) ?hr ?_; (case hd => rfl); (case hg => rfl); (case hr => first | (go_simp; done) | (go_simp; rfl)); intro gb180 hg w9 hbox hb; have n0_ := Aside0.mk (blk_below (g := gb179) (o := .cells #[.slice A0_0 l0_0.length c0_0, .slice A0_1 l0_1.length c0_1] 24 (0, 0)) (by (with_reducible repeat (first | refine blk_drewN ?_ _ | refine blk_drew ?_ | refine blk_alloc ?_ _)); exact BK179.out) hb); have n1_ := Aside0.mk (below_step (by repeat (first | (with_reducible first | exact HB.out | apply below_alloc | apply pw_below_drewN | apply below_drew1 | refine below_set ?_ GE179.out) | exact HB.out)) hb); have n2_ := Aside0.mk (hbox); have n3_ := Aside0.mk ((by rw [hg]; exact (below_size (by repeat (first | (with_reducible first | exact HB.out | apply below_alloc | apply pw_below_drewN | apply below_drew1 | refine below_set ?_ GE179.out) | exact HB.out))) : w.heap.size ≤ gb180)); have n4_ := Aside0.mk ((by rw [hg]; exact (below_size (by repeat (first | (with_reducible first | exact HB.out | apply below_alloc | apply pw_below_drewN | apply below_drew1 | refine below_set ?_ GE179.out) | exact HB.out))) : w.heap.size ≤ gb180)); have n5_ := Aside0.mk ((by rw [hg]; exact Nat.ne_of_lt (blk_lt (g := gb179) (o := .cells #[.slice A0_0 l0_0.length c0_0, .slice A0_1 l0_1.length c0_1] 24 (0, 0)) (by (with_reducible repeat (first | refine blk_drewN ?_ _ | refine blk_drew ?_ | refine blk_alloc ?_ _)); exact BK179.out)) : gb179 ≠ gb180)); have n6_ := Aside0.mk ((by rw [hg]; exact Nat.ne_of_gt (blk_lt (g := gb179) (o := .cells #[.slice A0_0 l0_0.length c0_0, .slice A0_1 l0_1.length c0_1] 24 (0, 0)) (by (with_reducible repeat (first | refine blk_drewN ?_ _ | refine blk_drew ?_ | refine blk_alloc ?_ _)); exact BK179.out)) : gb180 ≠ gb179)); clear BK179; clear HB; have BK179 := n0_; have HB := n1_; have BK180 := n2_; have GW180 := n3_; have GE180 := n4_; have NB179_180 := n5_; have NB180_179 := n6_; clear n0_ n1_ n2_ n3_ n4_ n5_ n6_; clear hb hbox hg) | ((with_reducible refine gate_dst (N := 6) rfl ?_); refine box_event ?hg (N := 6) ?hd (cs := #[.slice none 0 0, .slice none 0 0]) (t := 24) ?hr ?_; (case hd => rfl); (case hg => rfl); (case hr => first | (go_simp; done) | (go_simp; rfl)); intro gb181 hg w10 hbox hb; have n0_ := Aside0.mk (blk_below (g := gb179) (o := .cells #[.slice A0_0 l0_0.length c0_0, .slice A0_1 l0_1.length c0_1] 24 (0, 0)) (by (with_reducible repeat (first | refine blk_drewN ?_ _ | refine blk_drew ?_ | refine blk_alloc ?_ _)); exact BK179.out) hb); have n1_ := Aside0.mk (blk_below (g := gb180) (o := .cells #[.int .i64 a1_0, .int .i64 a1_1, .int .i64 a1_2, .slice A1_3 l1_3.length c1_3] 26 (0, 0)) (by (with_reducible repeat (first | refine blk_drewN ?_ _ | refine blk_drew ?_ | refine blk_alloc ?_ _)); exact BK180.out) hb); have n2_ := Aside0.mk (below_step (by repeat (first | (with_reducible first | exact HB.out | apply below_alloc | apply pw_below_drewN | apply below_drew1 | refine below_set ?_ GE179.out | refine below_set ?_ GE180.out) | exact HB.out)) hb); have n3_ := Aside0.mk (hbox); have n4_ := Aside0.mk ((by rw [hg]; exact (below_size (by repeat (first | (with_reducible first | exact HB.out | apply below_alloc | apply pw_below_drewN | apply below_drew1 | refine below_set ?_ GE179.out | refine below_set ?_ GE180.out) | exact HB.out))) : w.heap.size ≤ gb181)); have n5_ := Aside0.mk ((by rw [hg]; exact (below_size (by repeat (first | (with_reducible first | exact HB.out | apply below_alloc | apply pw_below_drewN | apply below_drew1 | refine below_set ?_ GE179.out | refine below_set ?_ GE180.out) | exact HB.out))) : w.heap.size ≤ gb181)); have n6_ := Aside0.mk ((by rw [hg]; exact Nat.ne_of_lt (blk_lt (g := gb179) (o := .cells #[.slice A0_0 l0_0.length c0_0, .slice A0_1 l0_1.length c0_1] 24 (0, 0)) (by (with_reducible repeat (first | refine blk_drewN ?_ _ | refine blk_drew ?_ | refine blk_alloc ?_ _)); exact BK179.out)) : gb179 ≠ gb181)); have n7_ := Aside0.mk ((by rw [hg]; exact Nat.ne_of_gt (blk_lt (g := gb179) (o := .cells #[.slice A0_0 l0_0.length c0_0, .slice A0_1 l0_1.length c0_1] 24 (0, 0)) (by (with_reducible repeat (first | refine blk_drewN ?_ _ | refine blk_drew ?_ | refine blk_alloc ?_ _)); exact BK179.out)) : gb181 ≠ gb179)); have n8_ := Aside0.mk ((by rw [hg]; exact Nat.ne_of_lt (blk_lt (g := gb180) (o := .cells #[.int .i64 a1_0, .int .i64 a1_1, .int .i64 a1_2, .slice A1_3 l1_3.length c1_3] 26 (0, 0)) (by (with_reducible repeat (first | refine blk_drewN ?_ _ | refine blk_drew ?_ | refine blk_alloc ?_ _)); exact BK180.out)) : gb180 ≠ gb181)); have n9_ := Aside0.mk ((by rw [hg]; exact Nat.ne_of_gt (blk_lt (g := gb180) (o := .cells #[.int .i64 a1_0, .int .i64 a1_1, .int .i64 a1_2, .slice A1_3 l1_3.length c1_3] 26 (0, 0)) (by (with_reducible repeat (first | refine blk_drewN ?_ _ | refine blk_drew ?_ | refine blk_alloc ?_ _)); exact BK180.out)) : gb181 ≠ gb180)); clear BK179; clear BK180; clear HB; have BK179 := n0_; have BK180 := n1_; have HB := n2_; have BK181 := n3_; have GW181 := n4_; have GE181 := n5_; have NB179_181 := n6_; have NB181_179 := n7_; have NB180_181 := n8_; have NB181_180 := n9_; clear n0_ n1_ n2_ n3_ n4_ n5_ n6_ n7_ n8_ n9_; clear hb hbox hg; have hnb11 := NB180_179.out; have hnc11 := NB179_180.out; have hnb12 := NB180_181.out; have hnc12 := NB181_180.out; have hcz13_0 : w10.cell? ⟨gb180, 0, none⟩ = some (.int .i64 a1_0) := (blk_cell BK180.out 0).trans rfl; have hcz13_1 : w10.cell? ⟨gb180, 1, none⟩ = some (.int .i64 a1_1) := (blk_cell BK180.out 1).trans rfl; have hcz13_2 : w10.cell? ⟨gb180, 2, none⟩ = some (.int .i64 a1_2) := (blk_cell BK180.out 2).trans rfl; have hcz13_3 : w10.cell? ⟨gb180, 3, none⟩ = some (.slice A1_3 l1_3.length c1_3) := (blk_cell BK180.out 3).trans rfl; have hfz13_0 := blk_frozen BK180.out 0; have hfz13_1 := blk_frozen BK180.out 1; have hfz13_2 := blk_frozen BK180.out 2; have hfz13_3 := blk_frozen BK180.out 3) | ((with_reducible refine gate_callee (f := 18) rfl ?_); refine goesL_ (some 19) rfl rfl Tryd.func18 (by kernel_rfl) rfl #[.agg #[.int .i64 a1_0, .int .i64 a1_1, .int .i64 a1_2, .slice A1_3 l1_3.length c1_3]] rfl (by (try simp only [List.map_toArray, List.map_cons, List.map_nil]); first | done | rfl | (simp only [List.length_drop, List.length_take]; rfl)) ?_; (with_reducible refine (flash_Code.calls k a1_0 a1_1 a1_2 _ _ l1_3 t182 t185 _ ?side1 ?side2 A4.out (by first | exact HTAB.out | ((repeat (first | exact HTAB.out | (with_reducible refine Laid.tab_alloc ?_ _) | (with_reducible refine Laid.tab_drewN ?_ _) | (with_reducible refine Laid.tab_drew ?_))); done) | (refine Laid.tab_below' HTAB.out ?_; (repeat (first | (with_reducible first | exact HB.out | apply below_alloc | apply pw_below_drewN | apply below_drew1) | exact HB.out | (refine below_set ?_ (Aside0.out (by assumption)))))))).mono ?_); (case side1 => repeat (first | exact (Kd.C_below HR1_3.out HB.out) | (with_reducible refine Kd.C_alloc ?_ _) | (with_reducible refine Kd.C_drewN ?_ _) | (with_reducible refine Kd.C_drew ?_))); (case side2 => exact HC1_3.out); rintro e w14 ⟨v183, rfl, ho0, hb⟩; refine ⟨_, rfl, ?_⟩; have n0_ := Aside0.mk (Kd.R_lower ho0 (below_size (by repeat (first | (with_reducible first | exact HB.out | apply below_alloc | apply pw_below_drewN | apply below_drew1 | refine below_set ?_ GE179.out | refine below_set ?_ GE180.out | refine below_set ?_ GE181.out) | exact HB.out)))); have n1_ := Aside0.mk (blk_below (g := gb179) (o := .cells #[.slice A0_0 l0_0.length c0_0, .slice A0_1 l0_1.length c0_1] 24 (0, 0)) (by (with_reducible repeat (first | refine blk_drewN ?_ _ | refine blk_drew ?_ | refine blk_alloc ?_ _)); exact BK179.out) hb); have n2_ := Aside0.mk (blk_below (g := gb180) (o := .cells #[.int .i64 a1_0, .int .i64 a1_1, .int .i64 a1_2, .slice A1_3 l1_3.length c1_3] 26 (0, 0)) (by (with_reducible repeat (first | refine blk_drewN ?_ _ | refine blk_drew ?_ | refine blk_alloc ?_ _)); exact BK180.out) hb); have n3_ := Aside0.mk (blk_below (g := gb181) (o := .cells #[.slice none 0 0, .slice none 0 0] 24 (0, 0)) (by (with_reducible repeat (first | refine blk_drewN ?_ _ | refine blk_drew ?_ | refine blk_alloc ?_ _)); exact BK181.out) hb); have n4_ := Aside0.mk (below_step (by repeat (first | (with_reducible first | exact HB.out | apply below_alloc | apply pw_below_drewN | apply below_drew1 | refine below_set ?_ GE179.out | refine below_set ?_ GE180.out | refine below_set ?_ GE181.out) | exact HB.out)) hb); clear BK179; clear BK180; clear BK181; clear HB; have HO184 := n0_; have BK179 := n1_; have BK180 := n2_; have BK181 := n3_; have HB := n4_; clear n0_ n1_ n2_ n3_ n4_; (try clear hb); (try clear hb2); (try clear hk); (try clear hi); (try clear ho0); have hnb15 := NB179_181.out; have hnc15 := NB181_179.out; have hcz16_0 : w14.cell? ⟨gb179, 0, none⟩ = some (.slice A0_0 l0_0.length c0_0) := (blk_cell BK179.out 0).trans rfl; have hcz16_1 : w14.cell? ⟨gb179, 1, none⟩ = some (.slice A0_1 l0_1.length c0_1) := (blk_cell BK179.out 1).trans rfl; have hfz16_0 := blk_frozen BK179.out 0; have hfz16_1 := blk_frozen BK179.out 1) | ((with_reducible refine gate_callee (f := 14) rfl ?_); refine goesL_ (some 28) rfl rfl Tryd.func14 (by kernel_rfl) rfl #[.agg #[.slice A0_0 l0_0.length c0_0, .slice A0_1 l0_1.length c0_1]] rfl (by (try simp only [List.map_toArray, List.map_cons, List.map_nil]); first | done | rfl | (simp only [List.length_drop, List.length_take]; rfl)) ?_; (with_reducible refine (flash_Recover.calls k _ _ l0_0 _ _ l0_1 t186 t187 t188 t189 t192 t193 _ ?side1 ?side2 ?side3 ?side4 A6.out (by first | exact HTAB.out | ((repeat (first | exact HTAB.out | (with_reducible refine Laid.tab_alloc ?_ _) | (with_reducible refine Laid.tab_drewN ?_ _) | (with_reducible refine Laid.tab_drew ?_))); done) | (refine Laid.tab_below' HTAB.out ?_; (repeat (first | (with_reducible first | exact HB.out | apply below_alloc | apply pw_below_drewN | apply below_drew1) | exact HB.out | (refine below_set ?_ (Aside0.out (by assumption)))))))).mono ?_); (case side1 => repeat (first | exact (Kd.C_below HR0_0.out HB.out) | (with_reducible refine Kd.C_alloc ?_ _) | (with_reducible refine Kd.C_drewN ?_ _) | (with_reducible refine Kd.C_drew ?_))); (case side2 => exact HC0_0.out); (case side3 => repeat (first | exact (Kd.C_below HR0_1.out HB.out) | (with_reducible refine Kd.C_alloc ?_ _) | (with_reducible refine Kd.C_drewN ?_ _) | (with_reducible refine Kd.C_drew ?_))); (case side4 => exact HC0_1.out); rintro e w17 ⟨v190, rfl, ho0, hb⟩; refine ⟨_, rfl, ?_⟩; have n0_ := Aside0.mk (Kd.R_elder' (by (with_reducible repeat (first | apply Kd.R_alloc | apply Kd.R_drewN | apply Kd.R_drew)); exact HO184.out) (Kd.R_base ho0) hb); have n1_ := Aside0.mk (Kd.R_lower (Kd.R_new' ho0 (Kd.R_lt (by (with_reducible repeat (first | apply Kd.R_alloc | apply Kd.R_drewN | apply Kd.R_drew)); exact HO184.out))) (below_size (by repeat (first | (with_reducible first | exact HB.out | apply below_alloc | apply pw_below_drewN | apply below_drew1 | refine below_set ?_ GE179.out | refine below_set ?_ GE180.out | refine below_set ?_ GE181.out) | exact HB.out)))); have n2_ := Aside0.mk (blk_below (g := gb179) (o := .cells #[.slice A0_0 l0_0.length c0_0, .slice A0_1 l0_1.length c0_1] 24 (0, 0)) (by (with_reducible repeat (first | refine blk_drewN ?_ _ | refine blk_drew ?_ | refine blk_alloc ?_ _)); exact BK179.out) hb); have n3_ := Aside0.mk (blk_below (g := gb180) (o := .cells #[.int .i64 a1_0, .int .i64 a1_1, .int .i64 a1_2, .slice A1_3 l1_3.length c1_3] 26 (0, 0)) (by (with_reducible repeat (first | refine blk_drewN ?_ _ | refine blk_drew ?_ | refine blk_alloc ?_ _)); exact BK180.out) hb); have n4_ := Aside0.mk (blk_below (g := gb181) (o := .cells #[.slice none 0 0, .slice none 0 0] 24 (0, 0)) (by (with_reducible repeat (first | refine blk_drewN ?_ _ | refine blk_drew ?_ | refine blk_alloc ?_ _)); exact BK181.out) hb); have n5_ := Aside0.mk (below_step (by repeat (first | (with_reducible first | exact HB.out | apply below_alloc | apply pw_below_drewN | apply below_drew1 | refine below_set ?_ GE179.out | refine below_set ?_ GE180.out | refine below_set ?_ GE181.out) | exact HB.out)) hb); clear HO184; clear BK179; clear BK180; clear BK181; clear HB; have HO184 := n0_; have HO191 := n1_; have BK179 := n2_; have BK180 := n3_; have BK181 := n4_; have HB := n5_; clear n0_ n1_ n2_ n3_ n4_ n5_; (try clear hb); (try clear hb2); (try clear hk); (try clear hi); (try clear ho0)) | ((with_reducible refine gate_dst (N := 11) rfl ?_); refine box_event ?hg (N := 11) ?hd (cs := #[.int .i64 0, .int .i64 0, .int .i64 0, .slice none 0 0]) (t := 26) ?hr ?_; (case hd => rfl); (case hg => rfl); (case hr => first | (go_simp; done) | (go_simp; rfl)); intro gb194 hg w18 hbox hb; have n0_ := Aside0.mk (Kd.R_below (by (with_reducible repeat (first | apply Kd.R_alloc | apply Kd.R_drewN | apply Kd.R_drew)); exact HO184.out) hb); have n1_ := Aside0.mk (Kd.R_below (by (with_reducible repeat (first | apply Kd.R_alloc | apply Kd.R_drewN | apply Kd.R_drew)); exact HO191.out) hb); have n2_ := Aside0.mk (blk_below (g := gb179) (o := .cells #[.slice A0_0 l0_0.length c0_0, .slice A0_1 l0_1.length c0_1] 24 (0, 0)) (by (with_reducible repeat (first | refine blk_drewN ?_ _ | refine blk_drew ?_ | refine blk_alloc ?_ _)); exact BK179.out) hb); have n3_ := Aside0.mk (blk_below (g := gb180) (o := .cells #[.int .i64 a1_0, .int .i64 a1_1, .int .i64 a1_2, .slice A1_3 l1_3.length c1_3] 26 (0, 0)) (by (with_reducible repeat (first | refine blk_drewN ?_ _ | refine blk_drew ?_ | refine blk_alloc ?_ _)); exact BK180.out) hb); have n4_ := Aside0.mk (blk_below (g := gb181) (o := .cells #[.slice none 0 0, .slice none 0 0] 24 (0, 0)) (by (with_reducible repeat (first | refine blk_drewN ?_ _ | refine blk_drew ?_ | refine blk_alloc ?_ _)); exact BK181.out) hb); have n5_ := Aside0.mk (below_step (by repeat (first | (with_reducible first | exact HB.out | apply below_alloc | apply pw_below_drewN | apply below_drew1 | refine below_set ?_ GE179.out | refine below_set ?_ GE180.out | refine below_set ?_ GE181.out) | exact HB.out)) hb); have n6_ := Aside0.mk (hbox); have n7_ := Aside0.mk ((by rw [hg]; exact (below_size (by repeat (first | (with_reducible first | exact HB.out | apply below_alloc | apply pw_below_drewN | apply below_drew1 | refine below_set ?_ GE179.out | refine below_set ?_ GE180.out | refine below_set ?_ GE181.out) | exact HB.out))) : w.heap.size ≤ gb194)); have n8_ := Aside0.mk ((by rw [hg]; exact (below_size (by repeat (first | (with_reducible first | exact HB.out | apply below_alloc | apply pw_below_drewN | apply below_drew1 | refine below_set ?_ GE179.out | refine below_set ?_ GE180.out | refine below_set ?_ GE181.out) | exact HB.out))) : w.heap.size ≤ gb194)); have n9_ := Aside0.mk ((by rw [hg]; exact Nat.ne_of_lt (blk_lt (g := gb179) (o := .cells #[.slice A0_0 l0_0.length c0_0, .slice A0_1 l0_1.length c0_1] 24 (0, 0)) (by (with_reducible repeat (first | refine blk_drewN ?_ _ | refine blk_drew ?_ | refine blk_alloc ?_ _)); exact BK179.out)) : gb179 ≠ gb194)); have n10_ := Aside0.mk ((by rw [hg]; exact Nat.ne_of_gt (blk_lt (g := gb179) (o := .cells #[.slice A0_0 l0_0.length c0_0, .slice A0_1 l0_1.length c0_1] 24 (0, 0)) (by (with_reducible repeat (first | refine blk_drewN ?_ _ | refine blk_drew ?_ | refine blk_alloc ?_ _)); exact BK179.out)) : gb194 ≠ gb179)); have n11_ := Aside0.mk ((by rw [hg]; exact Nat.ne_of_lt (blk_lt (g := gb180) (o := .cells #[.int .i64 a1_0, .int .i64 a1_1, .int .i64 a1_2, .slice A1_3 l1_3.length c1_3] 26 (0, 0)) (by (with_reducible repeat (first | refine blk_drewN ?_ _ | refine blk_drew ?_ | refine blk_alloc ?_ _)); exact BK180.out)) : gb180 ≠ gb194)); have n12_ := Aside0.mk ((by rw [hg]; exact Nat.ne_of_gt (blk_lt (g := gb180) (o := .cells #[.int .i64 a1_0, .int .i64 a1_1, .int .i64 a1_2, .slice A1_3 l1_3.length c1_3] 26 (0, 0)) (by (with_reducible repeat (first | refine blk_drewN ?_ _ | refine blk_drew ?_ | refine blk_alloc ?_ _)); exact BK180.out)) : gb194 ≠ gb180)); have n13_ := Aside0.mk ((by rw [hg]; exact Nat.ne_of_lt (blk_lt (g := gb181) (o := .cells #[.slice none 0 0, .slice none 0 0] 24 (0, 0)) (by (with_reducible repeat (first | refine blk_drewN ?_ _ | refine blk_drew ?_ | refine blk_alloc ?_ _)); exact BK181.out)) : gb181 ≠ gb194)); have n14_ := Aside0.mk ((by rw [hg]; exact Nat.ne_of_gt (blk_lt (g := gb181) (o := .cells #[.slice none 0 0, .slice none 0 0] 24 (0, 0)) (by (with_reducible repeat (first | refine blk_drewN ?_ _ | refine blk_drew ?_ | refine blk_alloc ?_ _)); exact BK181.out)) : gb194 ≠ gb181)); clear HO184; clear HO191; clear BK179; clear BK180; clear BK181; clear HB; have HO184 := n0_; have HO191 := n1_; have BK179 := n2_; have BK180 := n3_; have BK181 := n4_; have HB := n5_; have BK194 := n6_; have GW194 := n7_; have GE194 := n8_; have NB179_194 := n9_; have NB194_179 := n10_; have NB180_194 := n11_; have NB194_180 := n12_; have NB181_194 := n13_; have NB194_181 := n14_; clear n0_ n1_ n2_ n3_ n4_ n5_ n6_ n7_ n8_ n9_ n10_ n11_ n12_ n13_ n14_; clear hb hbox hg; have hnb19 := NB194_179.out; have hnc19 := NB179_194.out; have hnb20 := NB194_180.out; have hnc20 := NB180_194.out; have hnb21 := NB194_181.out; have hnc21 := NB181_194.out; have hcz22_0 : w18.cell? ⟨gb194, 0, none⟩ = some (.int .i64 0) := (blk_cell BK194.out 0).trans rfl; have hcz22_1 : w18.cell? ⟨gb194, 1, none⟩ = some (.int .i64 0) := (blk_cell BK194.out 1).trans rfl; have hcz22_2 : w18.cell? ⟨gb194, 2, none⟩ = some (.int .i64 0) := (blk_cell BK194.out 2).trans rfl; have hcz22_3 : w18.cell? ⟨gb194, 3, none⟩ = some (.slice none 0 0) := (blk_cell BK194.out 3).trans rfl; have hfz22_0 := blk_frozen BK194.out 0; have hfz22_1 := blk_frozen BK194.out 1; have hfz22_2 := blk_frozen BK194.out 2; have hfz22_3 := blk_frozen BK194.out 3; obtain ⟨Ao23, co23, eo23⟩ := Kd.R_slice HO191.out; subst eo23))
  (try simp only [Act.put, List.setIfInBounds_toArray, List.set_cons_zero, List.set_cons_succ])
  go_cut [40] (fun v40 wc => ∃ (kq : Nat) (x40_6 : Bool), v40 = .bool x40_6 ∧ Aside0 (flash_Write.j0 kq a2 t182 t192 t193 x40_6 l0_0 l0_1 = some (r1, r2, r3, r4)) ∧ Aside0 (kq ≤ k) ∧ Aside0 (Kd.R (Kd.int .u8) 5 wc w.heap.size (fun k_ => some k_ ≠ ((.slice Ao23 t189.length co23) : Value).ownBlock) v183 t182) ∧ Aside0 (Kd.R (Kd.int .u8) 5 wc w.heap.size (fun k_ => some k_ ≠ (v183 : Value).ownBlock) (.slice Ao23 t189.length co23) t189) ∧ Aside0 (wc.heap[gb179]? = some (.cells #[(.slice A0_0 l0_0.length c0_0), (.slice A0_1 l0_1.length c0_1)] 24 (0, 0))) ∧ Aside0 (wc.heap[gb180]? = some (.cells #[.int .i64 a1_0, .int .i64 a1_1, .int .i64 a1_2, (.slice A1_3 l1_3.length c1_3)] 26 (0, 0))) ∧ Aside0 (wc.heap[gb181]? = some (.cells #[(.slice none 0 0), (.slice none 0 0)] 24 (0, 0))) ∧ Aside0 (wc.heap[gb194]? = some (.cells #[.int .i64 t186, .int .i64 t187, .int .i64 t188, (.slice Ao23 t189.length co23)] 26 (0, 0))) ∧ Aside0 (Below w.heap.size w wc))
  case first =>
   have H := HC7.out
   clear HC7
   by_cases c24 : t193 = 0
   ·rw [if_pos c24] at H
    have c24b0 : (t193 == 0) = true := beq_iff_eq.mpr c24
    have c24b1 : (t193 != 0) = false := bne_eq_false_iff_eq.mpr c24
    clear c24
    (first | rw [c24b0] | (simp only [i64_w, i32_w]; rw [c24b0]) | skip)
    have H' := Aside0.mk H
    clear H
    have hnb25 := NB180_179.out
    have hnc25 := NB179_180.out
    have hnb26 := NB180_181.out
    have hnc26 := NB181_180.out
    have hnb27 := NB180_194.out
    have hnc27 := NB194_180.out
    have hcz28_0 : w18.cell? ⟨gb180, 0, none⟩ = some (.int .i64 a1_0) := (blk_cell BK180.out 0).trans rfl
    have hcz28_1 : w18.cell? ⟨gb180, 1, none⟩ = some (.int .i64 a1_1) := (blk_cell BK180.out 1).trans rfl
    have hcz28_2 : w18.cell? ⟨gb180, 2, none⟩ = some (.int .i64 a1_2) := (blk_cell BK180.out 2).trans rfl
    have hcz28_3 : w18.cell? ⟨gb180, 3, none⟩ = some (.slice A1_3 l1_3.length c1_3) := (blk_cell BK180.out 3).trans rfl
    have hfz28_0 := blk_frozen BK180.out 0
    have hfz28_1 := blk_frozen BK180.out 1
    have hfz28_2 := blk_frozen BK180.out 2
    have hfz28_3 := blk_frozen BK180.out 3
    have hnb29 := NB194_179.out
    have hnc29 := NB179_194.out
    have hnb30 := NB194_181.out
    have hnc30 := NB181_194.out
    have hcz31_0 : w18.cell? ⟨gb194, 0, none⟩ = some (.int .i64 0) := (blk_cell BK194.out 0).trans rfl
    have hcz31_1 : w18.cell? ⟨gb194, 1, none⟩ = some (.int .i64 0) := (blk_cell BK194.out 1).trans rfl
    have hcz31_2 : w18.cell? ⟨gb194, 2, none⟩ = some (.int .i64 0) := (blk_cell BK194.out 2).trans rfl
    have hcz31_3 : w18.cell? ⟨gb194, 3, none⟩ = some (.slice none 0 0) := (blk_cell BK194.out 3).trans rfl
    have hfz31_0 := blk_frozen BK194.out 0
    have hfz31_1 := blk_frozen BK194.out 1
    have hfz31_2 := blk_frozen BK194.out 2
    have hfz31_3 := blk_frozen BK194.out 3
    go_wp2
    go_meet
    case rel => exact ⟨_, (decide (a1_0 ≤ t186)), (by first | rfl | (simp; done) | (simp [*]; done)), H', ⟨by first | omega | exact Nat.le_refl _⟩, ⟨by (with_reducible repeat (first | apply Kd.R_alloc | apply Kd.R_drewN | apply Kd.R_drew)); exact Kd.R_mono (Kd.R_far (p := ⟨gb194, 3, none⟩) (Kd.R_far (p := ⟨gb194, 2, none⟩) (Kd.R_far (p := ⟨gb194, 1, none⟩) (Kd.R_far (p := ⟨gb194, 0, none⟩) (Kd.R_types HO184.out BK194.out (by decide)) (fun _ hk => hk.2) (.int .i64 t186)) (fun _ hk => hk.2) (.int .i64 t187)) (fun _ hk => hk.2) (.int .i64 t188)) (fun _ hk => hk.2) (.slice Ao23 t189.length co23)) (fun _ hk => hk.1.2)⟩, ⟨by (with_reducible repeat (first | apply Kd.R_alloc | apply Kd.R_drewN | apply Kd.R_drew)); exact Kd.R_mono (Kd.R_far (p := ⟨gb194, 3, none⟩) (Kd.R_far (p := ⟨gb194, 2, none⟩) (Kd.R_far (p := ⟨gb194, 1, none⟩) (Kd.R_far (p := ⟨gb194, 0, none⟩) (Kd.R_types HO191.out BK194.out (by decide)) (fun _ hk => hk.2) (.int .i64 t186)) (fun _ hk => hk.2) (.int .i64 t187)) (fun _ hk => hk.2) (.int .i64 t188)) (fun _ hk => hk.2) (.slice Ao23 t189.length co23)) (fun _ hk => hk.1.2)⟩, ⟨by (with_reducible repeat (first | refine blk_drewN ?_ _ | refine blk_drew ?_ | refine blk_alloc ?_ _)); refine blk_far ?_ NB179_194.out _; (with_reducible repeat (first | refine blk_drewN ?_ _ | refine blk_drew ?_ | refine blk_alloc ?_ _)); refine blk_far ?_ NB179_194.out _; (with_reducible repeat (first | refine blk_drewN ?_ _ | refine blk_drew ?_ | refine blk_alloc ?_ _)); refine blk_far ?_ NB179_194.out _; (with_reducible repeat (first | refine blk_drewN ?_ _ | refine blk_drew ?_ | refine blk_alloc ?_ _)); refine blk_far ?_ NB179_194.out _; (with_reducible repeat (first | refine blk_drewN ?_ _ | refine blk_drew ?_ | refine blk_alloc ?_ _)); exact BK179.out⟩, ⟨by (with_reducible repeat (first | refine blk_drewN ?_ _ | refine blk_drew ?_ | refine blk_alloc ?_ _)); refine blk_far ?_ NB180_194.out _; (with_reducible repeat (first | refine blk_drewN ?_ _ | refine blk_drew ?_ | refine blk_alloc ?_ _)); refine blk_far ?_ NB180_194.out _; (with_reducible repeat (first | refine blk_drewN ?_ _ | refine blk_drew ?_ | refine blk_alloc ?_ _)); refine blk_far ?_ NB180_194.out _; (with_reducible repeat (first | refine blk_drewN ?_ _ | refine blk_drew ?_ | refine blk_alloc ?_ _)); refine blk_far ?_ NB180_194.out _; (with_reducible repeat (first | refine blk_drewN ?_ _ | refine blk_drew ?_ | refine blk_alloc ?_ _)); exact BK180.out⟩, ⟨by (with_reducible repeat (first | refine blk_drewN ?_ _ | refine blk_drew ?_ | refine blk_alloc ?_ _)); refine blk_far ?_ NB181_194.out _; (with_reducible repeat (first | refine blk_drewN ?_ _ | refine blk_drew ?_ | refine blk_alloc ?_ _)); refine blk_far ?_ NB181_194.out _; (with_reducible repeat (first | refine blk_drewN ?_ _ | refine blk_drew ?_ | refine blk_alloc ?_ _)); refine blk_far ?_ NB181_194.out _; (with_reducible repeat (first | refine blk_drewN ?_ _ | refine blk_drew ?_ | refine blk_alloc ?_ _)); refine blk_far ?_ NB181_194.out _; (with_reducible repeat (first | refine blk_drewN ?_ _ | refine blk_drew ?_ | refine blk_alloc ?_ _)); exact BK181.out⟩, ⟨by (with_reducible repeat (first | refine blk_drewN ?_ _ | refine blk_drew ?_ | refine blk_alloc ?_ _)); refine blk_put (cs := #[.int .i64 t186, .int .i64 t187, .int .i64 t188, .slice none 0 0]) ?_ 3 _ rfl; (with_reducible repeat (first | refine blk_drewN ?_ _ | refine blk_drew ?_ | refine blk_alloc ?_ _)); refine blk_put (cs := #[.int .i64 t186, .int .i64 t187, .int .i64 0, .slice none 0 0]) ?_ 2 _ rfl; (with_reducible repeat (first | refine blk_drewN ?_ _ | refine blk_drew ?_ | refine blk_alloc ?_ _)); refine blk_put (cs := #[.int .i64 t186, .int .i64 0, .int .i64 0, .slice none 0 0]) ?_ 1 _ rfl; (with_reducible repeat (first | refine blk_drewN ?_ _ | refine blk_drew ?_ | refine blk_alloc ?_ _)); refine blk_put (cs := #[.int .i64 0, .int .i64 0, .int .i64 0, .slice none 0 0]) ?_ 0 _ rfl; (with_reducible repeat (first | refine blk_drewN ?_ _ | refine blk_drew ?_ | refine blk_alloc ?_ _)); exact BK194.out⟩, ⟨by repeat (first | (with_reducible first | exact HB.out | apply below_alloc | apply pw_below_drewN | apply below_drew1 | refine below_set ?_ GE179.out | refine below_set ?_ GE180.out | refine below_set ?_ GE181.out | refine below_set ?_ GE194.out) | exact HB.out)⟩⟩
   ·rw [if_neg c24] at H
    have c24b0 : (t193 == 0) = false := beq_eq_false_iff_ne.mpr c24
    have c24b1 : (t193 != 0) = true := bne_iff_ne.mpr c24
    (first | rw [c24b0] | (simp only [i64_w, i32_w]; rw [c24b0]) | skip)
    have H' := Aside0.mk H
    clear H
    go_wp2
    go_meet
    case rel => exact ⟨_, (false), (by first | rfl | (simp; done) | (simp [*]; done)), H', ⟨by first | omega | exact Nat.le_refl _⟩, ⟨by (with_reducible repeat (first | apply Kd.R_alloc | apply Kd.R_drewN | apply Kd.R_drew)); exact Kd.R_mono (Kd.R_far (p := ⟨gb194, 3, none⟩) (Kd.R_far (p := ⟨gb194, 2, none⟩) (Kd.R_far (p := ⟨gb194, 1, none⟩) (Kd.R_far (p := ⟨gb194, 0, none⟩) (Kd.R_types HO184.out BK194.out (by decide)) (fun _ hk => hk.2) (.int .i64 t186)) (fun _ hk => hk.2) (.int .i64 t187)) (fun _ hk => hk.2) (.int .i64 t188)) (fun _ hk => hk.2) (.slice Ao23 t189.length co23)) (fun _ hk => hk.1.2)⟩, ⟨by (with_reducible repeat (first | apply Kd.R_alloc | apply Kd.R_drewN | apply Kd.R_drew)); exact Kd.R_mono (Kd.R_far (p := ⟨gb194, 3, none⟩) (Kd.R_far (p := ⟨gb194, 2, none⟩) (Kd.R_far (p := ⟨gb194, 1, none⟩) (Kd.R_far (p := ⟨gb194, 0, none⟩) (Kd.R_types HO191.out BK194.out (by decide)) (fun _ hk => hk.2) (.int .i64 t186)) (fun _ hk => hk.2) (.int .i64 t187)) (fun _ hk => hk.2) (.int .i64 t188)) (fun _ hk => hk.2) (.slice Ao23 t189.length co23)) (fun _ hk => hk.1.2)⟩, ⟨by (with_reducible repeat (first | refine blk_drewN ?_ _ | refine blk_drew ?_ | refine blk_alloc ?_ _)); refine blk_far ?_ NB179_194.out _; (with_reducible repeat (first | refine blk_drewN ?_ _ | refine blk_drew ?_ | refine blk_alloc ?_ _)); refine blk_far ?_ NB179_194.out _; (with_reducible repeat (first | refine blk_drewN ?_ _ | refine blk_drew ?_ | refine blk_alloc ?_ _)); refine blk_far ?_ NB179_194.out _; (with_reducible repeat (first | refine blk_drewN ?_ _ | refine blk_drew ?_ | refine blk_alloc ?_ _)); refine blk_far ?_ NB179_194.out _; (with_reducible repeat (first | refine blk_drewN ?_ _ | refine blk_drew ?_ | refine blk_alloc ?_ _)); exact BK179.out⟩, ⟨by (with_reducible repeat (first | refine blk_drewN ?_ _ | refine blk_drew ?_ | refine blk_alloc ?_ _)); refine blk_far ?_ NB180_194.out _; (with_reducible repeat (first | refine blk_drewN ?_ _ | refine blk_drew ?_ | refine blk_alloc ?_ _)); refine blk_far ?_ NB180_194.out _; (with_reducible repeat (first | refine blk_drewN ?_ _ | refine blk_drew ?_ | refine blk_alloc ?_ _)); refine blk_far ?_ NB180_194.out _; (with_reducible repeat (first | refine blk_drewN ?_ _ | refine blk_drew ?_ | refine blk_alloc ?_ _)); refine blk_far ?_ NB180_194.out _; (with_reducible repeat (first | refine blk_drewN ?_ _ | refine blk_drew ?_ | refine blk_alloc ?_ _)); exact BK180.out⟩, ⟨by (with_reducible repeat (first | refine blk_drewN ?_ _ | refine blk_drew ?_ | refine blk_alloc ?_ _)); refine blk_far ?_ NB181_194.out _; (with_reducible repeat (first | refine blk_drewN ?_ _ | refine blk_drew ?_ | refine blk_alloc ?_ _)); refine blk_far ?_ NB181_194.out _; (with_reducible repeat (first | refine blk_drewN ?_ _ | refine blk_drew ?_ | refine blk_alloc ?_ _)); refine blk_far ?_ NB181_194.out _; (with_reducible repeat (first | refine blk_drewN ?_ _ | refine blk_drew ?_ | refine blk_alloc ?_ _)); refine blk_far ?_ NB181_194.out _; (with_reducible repeat (first | refine blk_drewN ?_ _ | refine blk_drew ?_ | refine blk_alloc ?_ _)); exact BK181.out⟩, ⟨by (with_reducible repeat (first | refine blk_drewN ?_ _ | refine blk_drew ?_ | refine blk_alloc ?_ _)); refine blk_put (cs := #[.int .i64 t186, .int .i64 t187, .int .i64 t188, .slice none 0 0]) ?_ 3 _ rfl; (with_reducible repeat (first | refine blk_drewN ?_ _ | refine blk_drew ?_ | refine blk_alloc ?_ _)); refine blk_put (cs := #[.int .i64 t186, .int .i64 t187, .int .i64 0, .slice none 0 0]) ?_ 2 _ rfl; (with_reducible repeat (first | refine blk_drewN ?_ _ | refine blk_drew ?_ | refine blk_alloc ?_ _)); refine blk_put (cs := #[.int .i64 t186, .int .i64 0, .int .i64 0, .slice none 0 0]) ?_ 1 _ rfl; (with_reducible repeat (first | refine blk_drewN ?_ _ | refine blk_drew ?_ | refine blk_alloc ?_ _)); refine blk_put (cs := #[.int .i64 0, .int .i64 0, .int .i64 0, .slice none 0 0]) ?_ 0 _ rfl; (with_reducible repeat (first | refine blk_drewN ?_ _ | refine blk_drew ?_ | refine blk_alloc ?_ _)); exact BK194.out⟩, ⟨by repeat (first | (with_reducible first | exact HB.out | apply below_alloc | apply pw_below_drewN | apply below_drew1 | refine below_set ?_ GE179.out | refine below_set ?_ GE180.out | refine below_set ?_ GE181.out | refine below_set ?_ GE194.out) | exact HB.out)⟩⟩
  case rest =>
   clear HC7
   try clear c1
   try clear c2
   try clear p2
   try clear c3
   try clear c5
   try clear c5b0
   try clear c5b1
   try clear c11
   try clear c12
   try clear c14
   try clear c15
   try clear c18
   try clear c19
   try clear c20
   try clear c21
   try clear c24
   try clear c24b0
   try clear c24b1
   try clear c25
   try clear c26
   try clear c27
   try clear c29
   try clear c30
   try clear hcz13_0
   try clear hcz13_1
   try clear hcz13_2
   try clear hcz13_3
   try clear hcz16_0
   try clear hcz16_1
   try clear hcz22_0
   try clear hcz22_1
   try clear hcz22_2
   try clear hcz22_3
   try clear hcz28_0
   try clear hcz28_1
   try clear hcz28_2
   try clear hcz28_3
   try clear hcz31_0
   try clear hcz31_1
   try clear hcz31_2
   try clear hcz31_3
   try clear hfz13_0
   try clear hfz13_1
   try clear hfz13_2
   try clear hfz13_3
   try clear hfz16_0
   try clear hfz16_1
   try clear hfz22_0
   try clear hfz22_1
   try clear hfz22_2
   try clear hfz22_3
   try clear hfz28_0
   try clear hfz28_1
   try clear hfz28_2
   try clear hfz28_3
   try clear hfz31_0
   try clear hfz31_1
   try clear hfz31_2
   try clear hfz31_3
   obtain ⟨kq, x40_6, rfl, HA, HJ6, HO_9, HO_195003, BK179, BK180, BK181, BK194, HB⟩ := hcut
   cases kq with
   | zero => exact absurd HA.out (by simp [flash_Write.j0])
   | succ kj6 =>
    have H := HA.out
    clear HA
    simp only [flash_Write.j0] at H
    by_cases c32 : x40_6 = true
    ·subst c32
     have H1 : (some (([] : List Int), ([] : List Int), false, 124)) = some (r1, r2, r3, r4) := by rw [if_pos rfl] at H; exact H
     clear H
     have H := H1
     clear H1
     simp only [Option.some.injEq, Prod.mk.injEq] at H
     obtain ⟨rfl, rfl, rfl, rfl⟩ := H
     have hnb33 := NB181_179.out
     have hnc33 := NB179_181.out
     have hnb34 := NB181_180.out
     have hnc34 := NB180_181.out
     have hnb35 := NB181_194.out
     have hnc35 := NB194_181.out
     have hcz36_0 : wc.cell? ⟨gb181, 0, none⟩ = some (.slice none 0 0) := (blk_cell BK181.out 0).trans rfl
     have hcz36_1 : wc.cell? ⟨gb181, 1, none⟩ = some (.slice none 0 0) := (blk_cell BK181.out 1).trans rfl
     have hfz36_0 := blk_frozen BK181.out 0
     have hfz36_1 := blk_frozen BK181.out 1
     go_wp2
     refine bodyPost_ret (results_ctt rfl _ _ gb181 24 #[.slice none 0 0, .slice none 0 0] (0, 0) _ rfl (by (with_reducible repeat (first | refine blk_drewN ?_ _ | refine blk_drew ?_ | refine blk_alloc ?_ _)); refine blk_put (cs := #[.slice none 0 0, .slice none 0 0]) ?_ 1 _ rfl; (with_reducible repeat (first | refine blk_drewN ?_ _ | refine blk_drew ?_ | refine blk_alloc ?_ _)); refine blk_put (cs := #[.slice none 0 0, .slice none 0 0]) ?_ 0 _ rfl; (with_reducible repeat (first | refine blk_drewN ?_ _ | refine blk_drew ?_ | refine blk_alloc ?_ _)); exact BK181.out) Tryd.underlying24 rfl (by kernel_rfl)) rfl ?_
     exact ⟨_, _, by first | rfl | (simp [errW_none, errW_some] <;> rfl) | (simp [*, errW_none, errW_some] <;> rfl), by first | exact Kd.R_nil _ _ _ _ _ | exact Kd.N_nil _ _ _ _ _ | exact Kd.V_nil _ _ _ _ _ | exact Kd.Q_nil _ _ _ _ _ | exact Kd.S_nil _ _ _ _ _, by first | exact Kd.R_nil _ _ _ _ _ | exact Kd.N_nil _ _ _ _ _ | exact Kd.V_nil _ _ _ _ _ | exact Kd.Q_nil _ _ _ _ _ | exact Kd.S_nil _ _ _ _ _, by repeat (first | (with_reducible first | exact HB.out | apply below_alloc | apply pw_below_drewN | apply below_drew1 | refine below_set ?_ GE179.out | refine below_set ?_ GE180.out | refine below_set ?_ GE181.out | refine below_set ?_ GE194.out) | exact HB.out)⟩
    ·replace c32 := Bool.eq_false_iff.mpr c32
     subst c32
     have H1 : (if t193 = 0 then (flash_Write.j1 kj6 a2 t182 false t192 l0_0 l0_1) else (flash_Write.j1 kj6 a2 t182 false true l0_0 l0_1)) = some (r1, r2, r3, r4) := by rw [if_neg (show ¬ (false = true) by decide)] at H; exact H
     clear H
     have H := H1
     clear H1
     have HC37 := Aside0.mk H
     clear H
     go_upto_region 8 with (fail)
     go_cut [46] (fun v46 wc => ∃ (kq : Nat) (x46_36 : Bool), v46 = .bool x46_36 ∧ Aside0 (flash_Write.j1 kq a2 t182 false x46_36 l0_0 l0_1 = some (r1, r2, r3, r4)) ∧ Aside0 (kq ≤ kj6) ∧ Aside0 (Kd.R (Kd.int .u8) 5 wc w.heap.size (fun k_ => some k_ ≠ ((.slice Ao23 t189.length co23) : Value).ownBlock) v183 t182) ∧ Aside0 (Kd.R (Kd.int .u8) 5 wc w.heap.size (fun k_ => some k_ ≠ (v183 : Value).ownBlock) (.slice Ao23 t189.length co23) t189) ∧ Aside0 (wc.heap[gb179]? = some (.cells #[(.slice A0_0 l0_0.length c0_0), (.slice A0_1 l0_1.length c0_1)] 24 (0, 0))) ∧ Aside0 (wc.heap[gb180]? = some (.cells #[.int .i64 a1_0, .int .i64 a1_1, .int .i64 a1_2, (.slice A1_3 l1_3.length c1_3)] 26 (0, 0))) ∧ Aside0 (wc.heap[gb181]? = some (.cells #[(.slice none 0 0), (.slice none 0 0)] 24 (0, 0))) ∧ Aside0 (wc.heap[gb194]? = some (.cells #[.int .i64 t186, .int .i64 t187, .int .i64 t188, (.slice Ao23 t189.length co23)] 26 (0, 0))) ∧ Aside0 (Below w.heap.size w wc))
     case first =>
      have H := HC37.out
      clear HC37
      by_cases c38 : t193 = 0
      ·rw [if_pos c38] at H
       have c38b0 : (t193 == 0) = true := beq_iff_eq.mpr c38
       have c38b1 : (t193 != 0) = false := bne_eq_false_iff_eq.mpr c38
       clear c38
       (first | rw [c38b0] | (simp only [i64_w, i32_w]; rw [c38b0]) | skip)
       have H' := Aside0.mk H
       clear H
       go_wp2
       go_meet
       case rel => exact ⟨_, (t192), (by first | rfl | (simp; done) | (simp [*]; done)), H', ⟨by have := HJ6.out; first | omega | exact Nat.le_refl _⟩, ⟨by (with_reducible repeat (first | apply Kd.R_alloc | apply Kd.R_drewN | apply Kd.R_drew)); exact HO_9.out⟩, ⟨by (with_reducible repeat (first | apply Kd.R_alloc | apply Kd.R_drewN | apply Kd.R_drew)); exact HO_195003.out⟩, ⟨by (with_reducible repeat (first | refine blk_drewN ?_ _ | refine blk_drew ?_ | refine blk_alloc ?_ _)); exact BK179.out⟩, ⟨by (with_reducible repeat (first | refine blk_drewN ?_ _ | refine blk_drew ?_ | refine blk_alloc ?_ _)); exact BK180.out⟩, ⟨by (with_reducible repeat (first | refine blk_drewN ?_ _ | refine blk_drew ?_ | refine blk_alloc ?_ _)); exact BK181.out⟩, ⟨by (with_reducible repeat (first | refine blk_drewN ?_ _ | refine blk_drew ?_ | refine blk_alloc ?_ _)); exact BK194.out⟩, ⟨by repeat (first | (with_reducible first | exact HB.out | apply below_alloc | apply pw_below_drewN | apply below_drew1 | refine below_set ?_ GE179.out | refine below_set ?_ GE180.out | refine below_set ?_ GE181.out | refine below_set ?_ GE194.out) | exact HB.out)⟩⟩
      ·rw [if_neg c38] at H
       have c38b0 : (t193 == 0) = false := beq_eq_false_iff_ne.mpr c38
       have c38b1 : (t193 != 0) = true := bne_iff_ne.mpr c38
       (first | rw [c38b0] | (simp only [i64_w, i32_w]; rw [c38b0]) | skip)
       have H' := Aside0.mk H
       clear H
       go_wp2
       go_meet
       case rel => exact ⟨_, (true), (by first | rfl | (simp; done) | (simp [*]; done)), H', ⟨by have := HJ6.out; first | omega | exact Nat.le_refl _⟩, ⟨by (with_reducible repeat (first | apply Kd.R_alloc | apply Kd.R_drewN | apply Kd.R_drew)); exact HO_9.out⟩, ⟨by (with_reducible repeat (first | apply Kd.R_alloc | apply Kd.R_drewN | apply Kd.R_drew)); exact HO_195003.out⟩, ⟨by (with_reducible repeat (first | refine blk_drewN ?_ _ | refine blk_drew ?_ | refine blk_alloc ?_ _)); exact BK179.out⟩, ⟨by (with_reducible repeat (first | refine blk_drewN ?_ _ | refine blk_drew ?_ | refine blk_alloc ?_ _)); exact BK180.out⟩, ⟨by (with_reducible repeat (first | refine blk_drewN ?_ _ | refine blk_drew ?_ | refine blk_alloc ?_ _)); exact BK181.out⟩, ⟨by (with_reducible repeat (first | refine blk_drewN ?_ _ | refine blk_drew ?_ | refine blk_alloc ?_ _)); exact BK194.out⟩, ⟨by repeat (first | (with_reducible first | exact HB.out | apply below_alloc | apply pw_below_drewN | apply below_drew1 | refine below_set ?_ GE179.out | refine below_set ?_ GE180.out | refine below_set ?_ GE181.out | refine below_set ?_ GE194.out) | exact HB.out)⟩⟩
     case rest =>
      clear HC37
      try clear c1
      try clear c2
      try clear p2
      try clear c3
      try clear c5
      try clear c5b0
      try clear c5b1
      try clear c11
      try clear c12
      try clear c14
      try clear c15
      try clear c18
      try clear c19
      try clear c20
      try clear c21
      try clear c24
      try clear c24b0
      try clear c24b1
      try clear c25
      try clear c26
      try clear c27
      try clear c29
      try clear c30
      try clear c32
      try clear c33
      try clear c34
      try clear c35
      try clear c38
      try clear c38b0
      try clear c38b1
      try clear hcz13_0
      try clear hcz13_1
      try clear hcz13_2
      try clear hcz13_3
      try clear hcz16_0
      try clear hcz16_1
      try clear hcz22_0
      try clear hcz22_1
      try clear hcz22_2
      try clear hcz22_3
      try clear hcz28_0
      try clear hcz28_1
      try clear hcz28_2
      try clear hcz28_3
      try clear hcz31_0
      try clear hcz31_1
      try clear hcz31_2
      try clear hcz31_3
      try clear hcz36_0
      try clear hcz36_1
      try clear hfz13_0
      try clear hfz13_1
      try clear hfz13_2
      try clear hfz13_3
      try clear hfz16_0
      try clear hfz16_1
      try clear hfz22_0
      try clear hfz22_1
      try clear hfz22_2
      try clear hfz22_3
      try clear hfz28_0
      try clear hfz28_1
      try clear hfz28_2
      try clear hfz28_3
      try clear hfz31_0
      try clear hfz31_1
      try clear hfz31_2
      try clear hfz31_3
      try clear hfz36_0
      try clear hfz36_1
      try clear p2
      obtain ⟨kq, x46_36, rfl, HA, HJ36, HO_9, HO_195003, BK179, BK180, BK181, BK194, HB⟩ := hcut
      cases kq with
      | zero => exact absurd HA.out (by simp [flash_Write.j1])
      | succ kj36 =>
       have H := HA.out
       clear HA
       simp only [flash_Write.j1] at H
       have HC39 := Aside0.mk H
       clear H
       go_upto_if 46 with (fail)
       go_cut [14] (fun v14 wc => ∃ (kq : Nat) (x14_38 : Bool), v14 = pickF x14_38 ∧ Aside0 (flash_Write.j2 kq a2 t182 x14_38 l0_0 l0_1 = some (r1, r2, r3, r4)) ∧ Aside0 (kq ≤ kj36) ∧ Aside0 (Kd.R (Kd.int .u8) 5 wc w.heap.size (fun k_ => some k_ ≠ ((.slice Ao23 t189.length co23) : Value).ownBlock) v183 t182) ∧ Aside0 (Kd.R (Kd.int .u8) 5 wc w.heap.size (fun k_ => some k_ ≠ (v183 : Value).ownBlock) (.slice Ao23 t189.length co23) t189) ∧ Aside0 (wc.heap[gb179]? = some (.cells #[(.slice A0_0 l0_0.length c0_0), (.slice A0_1 l0_1.length c0_1)] 24 (0, 0))) ∧ Aside0 (wc.heap[gb180]? = some (.cells #[.int .i64 a1_0, .int .i64 a1_1, .int .i64 a1_2, (.slice A1_3 l1_3.length c1_3)] 26 (0, 0))) ∧ Aside0 (wc.heap[gb181]? = some (.cells #[(.slice none 0 0), (.slice none 0 0)] 24 (0, 0))) ∧ Aside0 (wc.heap[gb194]? = some (.cells #[.int .i64 t186, .int .i64 t187, .int .i64 t188, (.slice Ao23 t189.length co23)] 26 (0, 0))) ∧ Aside0 (Below w.heap.size w wc))
       case first =>
        have H := HC39.out
        clear HC39
        by_cases c40 : x46_36 = true
        ·subst c40
         have H1 : (flash_Write.j2 kj36 a2 t182 true l0_0 l0_1) = some (r1, r2, r3, r4) := by rw [if_pos rfl] at H; exact H
         clear H
         have H := H1
         clear H1
         have H' := Aside0.mk H
         clear H
         go_wp2
         go_meet
         case rel => exact ⟨_, (true), (by first | rfl | (simp; done) | (simp [*]; done)), H', ⟨by have := HJ6.out; have := HJ36.out; first | omega | exact Nat.le_refl _⟩, ⟨by (with_reducible repeat (first | apply Kd.R_alloc | apply Kd.R_drewN | apply Kd.R_drew)); exact HO_9.out⟩, ⟨by (with_reducible repeat (first | apply Kd.R_alloc | apply Kd.R_drewN | apply Kd.R_drew)); exact HO_195003.out⟩, ⟨by (with_reducible repeat (first | refine blk_drewN ?_ _ | refine blk_drew ?_ | refine blk_alloc ?_ _)); exact BK179.out⟩, ⟨by (with_reducible repeat (first | refine blk_drewN ?_ _ | refine blk_drew ?_ | refine blk_alloc ?_ _)); exact BK180.out⟩, ⟨by (with_reducible repeat (first | refine blk_drewN ?_ _ | refine blk_drew ?_ | refine blk_alloc ?_ _)); exact BK181.out⟩, ⟨by (with_reducible repeat (first | refine blk_drewN ?_ _ | refine blk_drew ?_ | refine blk_alloc ?_ _)); exact BK194.out⟩, ⟨by repeat (first | (with_reducible first | exact HB.out | apply below_alloc | apply pw_below_drewN | apply below_drew1 | refine below_set ?_ GE179.out | refine below_set ?_ GE180.out | refine below_set ?_ GE181.out | refine below_set ?_ GE194.out) | exact HB.out)⟩⟩
        ·replace c40 := Bool.eq_false_iff.mpr c40
         subst c40
         have H1 : (flash_Write.j2 kj36 a2 t182 false l0_0 l0_1) = some (r1, r2, r3, r4) := by rw [if_neg (show ¬ (false = true) by decide)] at H; exact H
         clear H
         have H := H1
         clear H1
         have H' := Aside0.mk H
         clear H
         go_wp2
         go_meet
         case rel => exact ⟨_, (false), (by first | rfl | (simp; done) | (simp [*]; done)), H', ⟨by have := HJ6.out; have := HJ36.out; first | omega | exact Nat.le_refl _⟩, ⟨by (with_reducible repeat (first | apply Kd.R_alloc | apply Kd.R_drewN | apply Kd.R_drew)); exact HO_9.out⟩, ⟨by (with_reducible repeat (first | apply Kd.R_alloc | apply Kd.R_drewN | apply Kd.R_drew)); exact HO_195003.out⟩, ⟨by (with_reducible repeat (first | refine blk_drewN ?_ _ | refine blk_drew ?_ | refine blk_alloc ?_ _)); exact BK179.out⟩, ⟨by (with_reducible repeat (first | refine blk_drewN ?_ _ | refine blk_drew ?_ | refine blk_alloc ?_ _)); exact BK180.out⟩, ⟨by (with_reducible repeat (first | refine blk_drewN ?_ _ | refine blk_drew ?_ | refine blk_alloc ?_ _)); exact BK181.out⟩, ⟨by (with_reducible repeat (first | refine blk_drewN ?_ _ | refine blk_drew ?_ | refine blk_alloc ?_ _)); exact BK194.out⟩, ⟨by repeat (first | (with_reducible first | exact HB.out | apply below_alloc | apply pw_below_drewN | apply below_drew1 | refine below_set ?_ GE179.out | refine below_set ?_ GE180.out | refine below_set ?_ GE181.out | refine below_set ?_ GE194.out) | exact HB.out)⟩⟩
       case rest =>
        clear HC39
        try clear c1
        try clear c2
        try clear p2
        try clear c3
        try clear c4
        try clear c5
        try clear c5b0
        try clear c5b1
        try clear c11
        try clear c12
        try clear c14
        try clear c15
        try clear c18
        try clear c19
        try clear c20
        try clear c21
        try clear c24
        try clear c24b0
        try clear c24b1
        try clear c25
        try clear c26
        try clear c27
        try clear c29
        try clear c30
        try clear c32
        try clear c33
        try clear c34
        try clear c35
        try clear c38
        try clear c38b0
        try clear c38b1
        try clear c40
        try clear hcz13_0
        try clear hcz13_1
        try clear hcz13_2
        try clear hcz13_3
        try clear hcz16_0
        try clear hcz16_1
        try clear hcz22_0
        try clear hcz22_1
        try clear hcz22_2
        try clear hcz22_3
        try clear hcz28_0
        try clear hcz28_1
        try clear hcz28_2
        try clear hcz28_3
        try clear hcz31_0
        try clear hcz31_1
        try clear hcz31_2
        try clear hcz31_3
        try clear hcz36_0
        try clear hcz36_1
        try clear hfz13_0
        try clear hfz13_1
        try clear hfz13_2
        try clear hfz13_3
        try clear hfz16_0
        try clear hfz16_1
        try clear hfz22_0
        try clear hfz22_1
        try clear hfz22_2
        try clear hfz22_3
        try clear hfz28_0
        try clear hfz28_1
        try clear hfz28_2
        try clear hfz28_3
        try clear hfz31_0
        try clear hfz31_1
        try clear hfz31_2
        try clear hfz31_3
        try clear hfz36_0
        try clear hfz36_1
        try clear p2
        obtain ⟨kq, x14_38, rfl, HA, HJ38, HO_9, HO_195003, BK179, BK180, BK181, BK194, HB⟩ := hcut
        cases kq with
        | zero => exact absurd HA.out (by simp [flash_Write.j2])
        | succ kj38 =>
         have H := HA.out
         clear HA
         simp only [flash_Write.j2] at H
         replace H := Option.bind_eq_some_iff.mp H
         obtain ⟨t195, A410, H⟩ := H
         replace H : ((bytes_Clone.f l0_1).bind fun t198 => (if 0 ≤ (mn (mx a2 0) (t182.length : Int)) then (if (mn (mx a2 0) (t182.length : Int)) ≤ (t182.length : Int) then (some (pickR x14_38 (t182.take ((mn (mx a2 0) (t182.length : Int)) : Int).toNat) t195, pickR x14_38 t198 (t182.take ((mn (mx a2 0) (t182.length : Int)) : Int).toNat), decide (a2 ≥ (t182.length : Int)), 0)) else (none)) else (none))) = some (r1, r2, r3, r4) := H
         have A41 := Aside0.mk A410
         clear A410
         replace H := Option.bind_eq_some_iff.mp H
         obtain ⟨t198, A420, H⟩ := H
         replace H : (if 0 ≤ (mn (mx a2 0) (t182.length : Int)) then (if (mn (mx a2 0) (t182.length : Int)) ≤ (t182.length : Int) then (some (pickR x14_38 (t182.take ((mn (mx a2 0) (t182.length : Int)) : Int).toNat) t195, pickR x14_38 t198 (t182.take ((mn (mx a2 0) (t182.length : Int)) : Int).toNat), decide (a2 ≥ (t182.length : Int)), 0)) else (none)) else (none)) = some (r1, r2, r3, r4) := H
         have A42 := Aside0.mk A420
         clear A420
         obtain ⟨ji43, hji43⟩ : ∃ j_ : Int, (mx a2 0) = j_ := ⟨_, rfl⟩
         replace H : (if 0 ≤ (mn (ji43) (t182.length : Int)) then (if (mn (ji43) (t182.length : Int)) ≤ (t182.length : Int) then (some (pickR x14_38 (t182.take ((mn (ji43) (t182.length : Int)) : Int).toNat) t195, pickR x14_38 t198 (t182.take ((mn (ji43) (t182.length : Int)) : Int).toNat), decide (a2 ≥ (t182.length : Int)), 0)) else (none)) else (none)) = some (r1, r2, r3, r4) := by first | (rw [hji43] at H; exact H) | (simp only [hji43] at H ⊢; exact H)
         (try rw [hji43] at A41)
         (try rw [hji43] at A42)
         have hji43_ : (if a2 < 0 then 0 else a2) = ji43 := hji43
         obtain ⟨ji44, hji44⟩ : ∃ j_ : Int, (mn (ji43) (t182.length : Int)) = j_ := ⟨_, rfl⟩
         replace H : (if 0 ≤ (ji44) then (if (ji44) ≤ (t182.length : Int) then (some (pickR x14_38 (t182.take ((ji44) : Int).toNat) t195, pickR x14_38 t198 (t182.take ((ji44) : Int).toNat), decide (a2 ≥ (t182.length : Int)), 0)) else (none)) else (none)) = some (r1, r2, r3, r4) := by first | (rw [hji44] at H; exact H) | (simp only [hji44] at H ⊢; exact H)
         (try rw [hji44] at A41)
         (try rw [hji44] at A42)
         have hji44_ : (if (t182.length : Int) < (ji43) then (t182.length : Int) else (ji43)) = ji44 := hji44
         by_cases c45 : 0 ≤ (ji44)
         ·rw [if_pos c45] at H
          have c45b0 := eq_true c45
          have c45b1 : decide (0 ≤ (ji44)) = true := decide_eq_true c45
          clear c45
          by_cases c46 : (ji44) ≤ (t182.length : Int)
          ·rw [if_pos c46] at H
           have c46b0 := eq_true c46
           have c46b1 : decide ((ji44) ≤ (t182.length : Int)) = true := decide_eq_true c46
           clear c46
           obtain ⟨y202, hy202⟩ : ∃ y_ : List Int, y_ = (t182.take ((ji44) : Int).toNat) := ⟨_, rfl⟩
           replace H : (some (pickR x14_38 y202 t195, pickR x14_38 t198 y202, decide (a2 ≥ (t182.length : Int)), 0)) = some (r1, r2, r3, r4) := by first | (rw [hy202]; with_reducible exact H) | (have H2_ := (Option.bind_some _ _).symm.trans H; rw [hy202]; with_reducible exact H2_) | (have H2_ := (Option.bind_some _ _).symm.trans H; with_reducible exact H2_) | with_reducible exact H | (rw [hy202]; exact H) | exact H
           have Ny202 := Aside0.mk hy202
           clear hy202
           simp only [Option.some.injEq, Prod.mk.injEq] at H
           obtain ⟨rfl, rfl, rfl, rfl⟩ := H
           try go_wp2
           have n0_ := Aside0.mk (Kd.R_drew HO_9.out)
           have n1_ := Aside0.mk (Kd.R_drew HO_195003.out)
           have n2_ := Aside0.mk (blk_drew BK179.out)
           have n3_ := Aside0.mk (blk_drew BK180.out)
           have n4_ := Aside0.mk (blk_drew BK181.out)
           have n5_ := Aside0.mk (blk_drew BK194.out)
           have n6_ := Aside0.mk (below_drew1 HB.out)
           clear HO_9
           clear HO_195003
           clear BK179
           clear BK180
           clear BK181
           clear BK194
           clear HB
           have HO_9 := n0_
           have HO_195003 := n1_
           have BK179 := n2_
           have BK180 := n3_
           have BK181 := n4_
           have BK194 := n5_
           have HB := n6_
           clear n0_ n1_ n2_ n3_ n4_ n5_ n6_
           refine start_ (n := 9) (S := fun w' => w'.cell? ⟨gb179, 0, none⟩ = some (.slice A0_0 l0_0.length c0_0) ∧ w'.cell? ⟨gb179, 1, none⟩ = some (.slice A0_1 l0_1.length c0_1)) (ds := []) #[false, false, false, false, false, false, false, false, false] (by kernel_rfl) rfl rfl ⟨(blk_cell BK179.out 0).trans rfl, (blk_cell BK179.out 1).trans rfl⟩ (fun hHeld => ?_); refine with_tabW flash_Write.tab10 flash_Write.bits10 (fun HT_ HW_ => ?_)
           generalize wc.drew = w47 at HO_9 HO_195003 BK179 BK180 BK181 BK194 HB hHeld ⊢
           refine pure_ (i := 0) (N := some 47) (v := ?_) (a' := ?_) #[true, false, false, false, false, false, false, false, false] rfl rfl (any_of HT_.out (by kernel_rfl)) (fun _ _ _ h => h) (Or.inl ⟨by rfl, ?_⟩) ?_ ?_
           rotate_left
           ·intro w'
            go_simp
            with_reducible rfl
           rotate_left
           ·simp only [Act.put, List.setIfInBounds_toArray, List.set_cons_zero, List.set_cons_succ, i64_w, i32_w]
            rfl
           refine pure_ (i := 3) (N := some 50) (v := ?_) (a' := ?_) #[true, false, false, true, false, false, false, false, false] rfl rfl (any_of HT_.out (by kernel_rfl)) (fun _ _ _ h => h) (Or.inl ⟨by rfl, ?_⟩) ?_ ?_
           rotate_left
           ·intro w'
            go_simp
            with_reducible rfl
           rotate_left
           ·simp only [Act.put, List.setIfInBounds_toArray, List.set_cons_zero, List.set_cons_succ, i64_w, i32_w]
            rfl
           refine take_ (i := 1) (N := some 48) (v := ?_) (a' := ?_) #[true, true, false, true, false, false, false, false, false] rfl rfl (take_ofW HT_.out HW_.out (by kernel_rfl)) (fun _ _ _ h => h) (Or.inl ⟨by rfl, ?_⟩) hHeld ?_ ?_
           rotate_left
           ·rintro w' ⟨s0, s1⟩
            go_simp
            with_reducible rfl
           rotate_left
           ·simp only [Act.put, List.setIfInBounds_toArray, List.set_cons_zero, List.set_cons_succ, i64_w, i32_w]
            rfl
           refine take_ (i := 4) (N := some 51) (v := ?_) (a' := ?_) #[true, true, false, true, true, false, false, false, false] rfl rfl (take_ofW HT_.out HW_.out (by kernel_rfl)) (fun _ _ _ h => h) (Or.inl ⟨by rfl, ?_⟩) hHeld ?_ ?_
           rotate_left
           ·rintro w' ⟨s0, s1⟩
            go_simp
            with_reducible rfl
           rotate_left
           ·simp only [Act.put, List.setIfInBounds_toArray, List.set_cons_zero, List.set_cons_succ, i64_w, i32_w]
            rfl
           refine join_ (σ := Value × Value × Nat) 1 #[true, true, true, true, true, true, true, true, false] (fun s_ => [(49, s_.1), (52, s_.2.1), (15, .pointer (some ⟨s_.2.2, 0, none⟩)), (53, .agg #[s_.1, s_.2.1])]) (fun s_ w' => (w'.cell? ⟨gb179, 0, none⟩ = some (.slice A0_0 l0_0.length c0_0) ∧ w'.cell? ⟨gb179, 1, none⟩ = some (.slice A0_1 l0_1.length c0_1)) ∧ (Kd.R (Kd.int .u8) 5 w' w.heap.size (fun k_ => some k_ ≠ (s_.2.1 : Value).ownBlock ∧ some k_ ≠ (.slice Ao23 t189.length co23 : Value).ownBlock ∧ some k_ ≠ (v183 : Value).ownBlock) s_.1 t195) ∧ (Kd.R (Kd.int .u8) 5 w' w.heap.size (fun k_ => some k_ ≠ (s_.1 : Value).ownBlock ∧ some k_ ≠ (.slice Ao23 t189.length co23 : Value).ownBlock ∧ some k_ ≠ (v183 : Value).ownBlock) s_.2.1 t198) ∧ (Kd.R (Kd.int .u8) 5 w' w.heap.size (fun k_ => some k_ ≠ (s_.1 : Value).ownBlock ∧ some k_ ≠ (s_.2.1 : Value).ownBlock ∧ some k_ ≠ (v183 : Value).ownBlock) (.slice Ao23 t189.length co23) t189) ∧ (Kd.R (Kd.int .u8) 5 w' w.heap.size (fun k_ => some k_ ≠ (s_.1 : Value).ownBlock ∧ some k_ ≠ (s_.2.1 : Value).ownBlock ∧ some k_ ≠ (.slice Ao23 t189.length co23 : Value).ownBlock) v183 t182) ∧ (w'.heap[gb179]? = some (.cells #[.slice A0_0 l0_0.length c0_0, .slice A0_1 l0_1.length c0_1] 24 (0, 0))) ∧ (w'.heap[gb180]? = some (.cells #[.int .i64 a1_0, .int .i64 a1_1, .int .i64 a1_2, .slice A1_3 l1_3.length c1_3] 26 (0, 0))) ∧ (w'.heap[gb181]? = some (.cells #[.slice none 0 0, .slice none 0 0] 24 (0, 0))) ∧ (w'.heap[gb194]? = some (.cells #[.int .i64 t186, .int .i64 t187, .int .i64 t188, .slice Ao23 t189.length co23] 26 (0, 0))) ∧ (w'.heap[s_.2.2]? = some (.cells #[.slice none 0 0, .slice none 0 0] 58 (0, 0))) ∧ (w.heap.size ≤ s_.2.2) ∧ (w.heap.size ≤ s_.2.2) ∧ (gb179 ≠ s_.2.2) ∧ (s_.2.2 ≠ gb179) ∧ (gb180 ≠ s_.2.2) ∧ (s_.2.2 ≠ gb180) ∧ (gb181 ≠ s_.2.2) ∧ (s_.2.2 ≠ gb181) ∧ (gb194 ≠ s_.2.2) ∧ (s_.2.2 ≠ gb194) ∧ (Below w.heap.size w w')) ?_ ?_
           rotate_left
           ·intro hCont
            refine two_ (i := 2) (j := 7) (Ni := some 49) (Nj := some 15) #[true, true, true, true, true, false, false, false, false] #[true, true, false, true, true, false, false, true, false] rfl rfl rfl rfl (two_of HT_.out (by kernel_rfl)) (by decide) (by decide) (fun K hK => ?_) (fun K hK => ?_)
            ·skip
             refine goes_ Tryd.func24 (by kernel_rfl) rfl #[.slice A0_0 l0_0.length c0_0] (by rfl) rfl rfl (by (try simp only [List.map_toArray, List.map_cons, List.map_nil]); first | done | rfl | (simp only [List.length_drop, List.length_take]; rfl)) ?_
             with_reducible refine (bytes_Clone.calls _ _ l0_0 t195 _ ?side1 ?side2 A41.out).mono ?_
             (case side1 => repeat (first | exact (Kd.C_below HR0_0.out HB.out) | (with_reducible refine Kd.C_alloc ?_ _) | (with_reducible refine Kd.C_drewN ?_ _) | (with_reducible refine Kd.C_drew ?_)))
             (case side2 => exact HC0_0.out)
             rintro e w48 ⟨v196, rfl, ho0, hb⟩
             refine ⟨_, rfl, ?_⟩
             have n0_ := Aside0.mk (Kd.R_elder' (by (with_reducible repeat (first | apply Kd.R_alloc | apply Kd.R_drewN | apply Kd.R_drew)); exact HO_9.out) (Kd.R_base ho0) hb)
             have n1_ := Aside0.mk (Kd.R_elder' (by (with_reducible repeat (first | apply Kd.R_alloc | apply Kd.R_drewN | apply Kd.R_drew)); exact HO_195003.out) (Kd.R_base ho0) hb)
             have n2_ := Aside0.mk (Kd.R_lower (Kd.R_new' (Kd.R_new' ho0 (Kd.R_lt (by (with_reducible repeat (first | apply Kd.R_alloc | apply Kd.R_drewN | apply Kd.R_drew)); exact HO_9.out))) (Kd.R_lt (by (with_reducible repeat (first | apply Kd.R_alloc | apply Kd.R_drewN | apply Kd.R_drew)); exact HO_195003.out))) (below_size (by repeat (first | (with_reducible first | exact HB.out | apply below_alloc | apply pw_below_drewN | apply below_drew1 | refine below_set ?_ GE179.out | refine below_set ?_ GE180.out | refine below_set ?_ GE181.out | refine below_set ?_ GE194.out) | exact HB.out))))
             have n3_ := Aside0.mk (blk_below (g := gb179) (o := .cells #[.slice A0_0 l0_0.length c0_0, .slice A0_1 l0_1.length c0_1] 24 (0, 0)) (by (with_reducible repeat (first | refine blk_drewN ?_ _ | refine blk_drew ?_ | refine blk_alloc ?_ _)); exact BK179.out) hb)
             have n4_ := Aside0.mk (blk_below (g := gb180) (o := .cells #[.int .i64 a1_0, .int .i64 a1_1, .int .i64 a1_2, .slice A1_3 l1_3.length c1_3] 26 (0, 0)) (by (with_reducible repeat (first | refine blk_drewN ?_ _ | refine blk_drew ?_ | refine blk_alloc ?_ _)); exact BK180.out) hb)
             have n5_ := Aside0.mk (blk_below (g := gb181) (o := .cells #[.slice none 0 0, .slice none 0 0] 24 (0, 0)) (by (with_reducible repeat (first | refine blk_drewN ?_ _ | refine blk_drew ?_ | refine blk_alloc ?_ _)); exact BK181.out) hb)
             have n6_ := Aside0.mk (blk_below (g := gb194) (o := .cells #[.int .i64 t186, .int .i64 t187, .int .i64 t188, .slice Ao23 t189.length co23] 26 (0, 0)) (by (with_reducible repeat (first | refine blk_drewN ?_ _ | refine blk_drew ?_ | refine blk_alloc ?_ _)); exact BK194.out) hb)
             have n7_ := Aside0.mk (below_step (by repeat (first | (with_reducible first | exact HB.out | apply below_alloc | apply pw_below_drewN | apply below_drew1 | refine below_set ?_ GE179.out | refine below_set ?_ GE180.out | refine below_set ?_ GE181.out | refine below_set ?_ GE194.out) | exact HB.out)) hb)
             clear HO_9
             clear HO_195003
             clear BK179
             clear BK180
             clear BK181
             clear BK194
             clear HB
             have HO_9 := n0_
             have HO_195003 := n1_
             have HO197 := n2_
             have BK179 := n3_
             have BK180 := n4_
             have BK181 := n5_
             have BK194 := n6_
             have HB := n7_
             clear n0_ n1_ n2_ n3_ n4_ n5_ n6_ n7_
             (try clear hb)
             (try clear hb2)
             (try clear hk)
             (try clear hi)
             (try clear ho0)
             refine hK.out _ _ ⟨(blk_cell BK179.out 0).trans rfl, (blk_cell BK179.out 1).trans rfl⟩ (fun hHeld => ?_)
             clear hK K
             refine norm_ (a' := ?_) ?_ ?_
             rotate_left
             ·show Act.put _ (some 49) _ = _
              simp only [Act.put, List.setIfInBounds_toArray, List.set_cons_zero, List.set_cons_succ, i64_w, i32_w]
              rfl
             refine two_ (i := 5) (j := 7) (Ni := some 52) (Nj := some 15) #[true, true, true, true, true, true, false, false, false] #[true, true, true, true, true, false, false, true, false] rfl rfl rfl rfl (two_of HT_.out (by kernel_rfl)) (by decide) (by decide) (fun K hK => ?_) (fun K hK => ?_)
             ·skip
              refine goes_ Tryd.func24 (by kernel_rfl) rfl #[.slice A0_1 l0_1.length c0_1] (by rfl) rfl rfl (by (try simp only [List.map_toArray, List.map_cons, List.map_nil]); first | done | rfl | (simp only [List.length_drop, List.length_take]; rfl)) ?_
              with_reducible refine (bytes_Clone.calls _ _ l0_1 t198 _ ?side1 ?side2 A42.out).mono ?_
              (case side1 => repeat (first | exact (Kd.C_below HR0_1.out HB.out) | (with_reducible refine Kd.C_alloc ?_ _) | (with_reducible refine Kd.C_drewN ?_ _) | (with_reducible refine Kd.C_drew ?_)))
              (case side2 => exact HC0_1.out)
              rintro e w49 ⟨v199, rfl, ho0, hb⟩
              refine ⟨_, rfl, ?_⟩
              have n0_ := Aside0.mk (Kd.R_elder' (by (with_reducible repeat (first | apply Kd.R_alloc | apply Kd.R_drewN | apply Kd.R_drew)); exact HO_9.out) (Kd.R_base ho0) hb)
              have n1_ := Aside0.mk (Kd.R_elder' (by (with_reducible repeat (first | apply Kd.R_alloc | apply Kd.R_drewN | apply Kd.R_drew)); exact HO_195003.out) (Kd.R_base ho0) hb)
              have n2_ := Aside0.mk (Kd.R_elder' (by (with_reducible repeat (first | apply Kd.R_alloc | apply Kd.R_drewN | apply Kd.R_drew)); exact HO197.out) (Kd.R_base ho0) hb)
              have n3_ := Aside0.mk (Kd.R_lower (Kd.R_new' (Kd.R_new' (Kd.R_new' ho0 (Kd.R_lt (by (with_reducible repeat (first | apply Kd.R_alloc | apply Kd.R_drewN | apply Kd.R_drew)); exact HO_9.out))) (Kd.R_lt (by (with_reducible repeat (first | apply Kd.R_alloc | apply Kd.R_drewN | apply Kd.R_drew)); exact HO_195003.out))) (Kd.R_lt (by (with_reducible repeat (first | apply Kd.R_alloc | apply Kd.R_drewN | apply Kd.R_drew)); exact HO197.out))) (below_size (by repeat (first | (with_reducible first | exact HB.out | apply below_alloc | apply pw_below_drewN | apply below_drew1 | refine below_set ?_ GE179.out | refine below_set ?_ GE180.out | refine below_set ?_ GE181.out | refine below_set ?_ GE194.out) | exact HB.out))))
              have n4_ := Aside0.mk (blk_below (g := gb179) (o := .cells #[.slice A0_0 l0_0.length c0_0, .slice A0_1 l0_1.length c0_1] 24 (0, 0)) (by (with_reducible repeat (first | refine blk_drewN ?_ _ | refine blk_drew ?_ | refine blk_alloc ?_ _)); exact BK179.out) hb)
              have n5_ := Aside0.mk (blk_below (g := gb180) (o := .cells #[.int .i64 a1_0, .int .i64 a1_1, .int .i64 a1_2, .slice A1_3 l1_3.length c1_3] 26 (0, 0)) (by (with_reducible repeat (first | refine blk_drewN ?_ _ | refine blk_drew ?_ | refine blk_alloc ?_ _)); exact BK180.out) hb)
              have n6_ := Aside0.mk (blk_below (g := gb181) (o := .cells #[.slice none 0 0, .slice none 0 0] 24 (0, 0)) (by (with_reducible repeat (first | refine blk_drewN ?_ _ | refine blk_drew ?_ | refine blk_alloc ?_ _)); exact BK181.out) hb)
              have n7_ := Aside0.mk (blk_below (g := gb194) (o := .cells #[.int .i64 t186, .int .i64 t187, .int .i64 t188, .slice Ao23 t189.length co23] 26 (0, 0)) (by (with_reducible repeat (first | refine blk_drewN ?_ _ | refine blk_drew ?_ | refine blk_alloc ?_ _)); exact BK194.out) hb)
              have n8_ := Aside0.mk (below_step (by repeat (first | (with_reducible first | exact HB.out | apply below_alloc | apply pw_below_drewN | apply below_drew1 | refine below_set ?_ GE179.out | refine below_set ?_ GE180.out | refine below_set ?_ GE181.out | refine below_set ?_ GE194.out) | exact HB.out)) hb)
              clear HO_9
              clear HO_195003
              clear HO197
              clear BK179
              clear BK180
              clear BK181
              clear BK194
              clear HB
              have HO_9 := n0_
              have HO_195003 := n1_
              have HO197 := n2_
              have HO200 := n3_
              have BK179 := n4_
              have BK180 := n5_
              have BK181 := n6_
              have BK194 := n7_
              have HB := n8_
              clear n0_ n1_ n2_ n3_ n4_ n5_ n6_ n7_ n8_
              (try clear hb)
              (try clear hb2)
              (try clear hk)
              (try clear hi)
              (try clear ho0)
              obtain ⟨Ao50, co50, eo50⟩ := Kd.R_slice HO200.out
              (first | subst eo50 | (injection eo50 with f1_ f2_ f3_; have f4_ := f1_.symm; have f5_ := f3_.symm; clear f1_ f2_ f3_; subst f4_; subst f5_))
              obtain ⟨Ao51, co51, eo51⟩ := Kd.R_slice HO197.out
              (first | subst eo51 | (injection eo51 with f1_ f2_ f3_; have f4_ := f1_.symm; have f5_ := f3_.symm; clear f1_ f2_ f3_; subst f4_; subst f5_))
              refine hK.out _ _ ⟨(blk_cell BK179.out 0).trans rfl, (blk_cell BK179.out 1).trans rfl⟩ (fun hHeld => ?_)
              clear hK K
              refine norm_ (a' := ?_) ?_ ?_
              rotate_left
              ·show Act.put _ (some 52) _ = _
               simp only [Act.put, List.setIfInBounds_toArray, List.set_cons_zero, List.set_cons_succ, i64_w, i32_w]
               rfl
              refine pure_ (i := 6) (N := some 53) (v := ?_) (a' := ?_) #[true, true, true, true, true, true, true, false, false] rfl rfl (any_of HT_.out (by kernel_rfl)) (fun _ _ _ h => h) (Or.inl ⟨by rfl, ?_⟩) ?_ ?_
              rotate_left
              ·intro w'
               go_simp
               with_reducible rfl
              rotate_left
              ·simp only [Act.put, List.setIfInBounds_toArray, List.set_cons_zero, List.set_cons_succ, i64_w, i32_w]
               rfl
              refine one_ (i := 7) (N := some 15) #[true, true, true, true, true, true, true, true, false] rfl rfl (one_of HT_.out (by kernel_rfl)) (by decide) (fun K hK => ?_)
              refine box_step ?hg (N := 15) ?hd (cs := #[.slice none 0 0, .slice none 0 0]) (t := 58) ?hr ?_; (case hd => rfl); (case hg => rfl); (case hr => first | (go_simp; done) | (go_simp; rfl))
              intro gb201 hg w52 hbox hb
              have n0_ := Aside0.mk (Kd.R_below (by (with_reducible repeat (first | apply Kd.R_alloc | apply Kd.R_drewN | apply Kd.R_drew)); exact HO_9.out) hb)
              have n1_ := Aside0.mk (Kd.R_below (by (with_reducible repeat (first | apply Kd.R_alloc | apply Kd.R_drewN | apply Kd.R_drew)); exact HO_195003.out) hb)
              have n2_ := Aside0.mk (Kd.R_below (by (with_reducible repeat (first | apply Kd.R_alloc | apply Kd.R_drewN | apply Kd.R_drew)); exact HO197.out) hb)
              have n3_ := Aside0.mk (Kd.R_below (by (with_reducible repeat (first | apply Kd.R_alloc | apply Kd.R_drewN | apply Kd.R_drew)); exact HO200.out) hb)
              have n4_ := Aside0.mk (blk_below (g := gb179) (o := .cells #[.slice A0_0 l0_0.length c0_0, .slice A0_1 l0_1.length c0_1] 24 (0, 0)) (by (with_reducible repeat (first | refine blk_drewN ?_ _ | refine blk_drew ?_ | refine blk_alloc ?_ _)); exact BK179.out) hb)
              have n5_ := Aside0.mk (blk_below (g := gb180) (o := .cells #[.int .i64 a1_0, .int .i64 a1_1, .int .i64 a1_2, .slice A1_3 l1_3.length c1_3] 26 (0, 0)) (by (with_reducible repeat (first | refine blk_drewN ?_ _ | refine blk_drew ?_ | refine blk_alloc ?_ _)); exact BK180.out) hb)
              have n6_ := Aside0.mk (blk_below (g := gb181) (o := .cells #[.slice none 0 0, .slice none 0 0] 24 (0, 0)) (by (with_reducible repeat (first | refine blk_drewN ?_ _ | refine blk_drew ?_ | refine blk_alloc ?_ _)); exact BK181.out) hb)
              have n7_ := Aside0.mk (blk_below (g := gb194) (o := .cells #[.int .i64 t186, .int .i64 t187, .int .i64 t188, .slice Ao23 t189.length co23] 26 (0, 0)) (by (with_reducible repeat (first | refine blk_drewN ?_ _ | refine blk_drew ?_ | refine blk_alloc ?_ _)); exact BK194.out) hb)
              have n8_ := Aside0.mk (below_step (by repeat (first | (with_reducible first | exact HB.out | apply below_alloc | apply pw_below_drewN | apply below_drew1 | refine below_set ?_ GE179.out | refine below_set ?_ GE180.out | refine below_set ?_ GE181.out | refine below_set ?_ GE194.out) | exact HB.out)) hb)
              have n9_ := Aside0.mk (hbox)
              have n10_ := Aside0.mk ((by rw [hg]; exact (below_size (by repeat (first | (with_reducible first | exact HB.out | apply below_alloc | apply pw_below_drewN | apply below_drew1 | refine below_set ?_ GE179.out | refine below_set ?_ GE180.out | refine below_set ?_ GE181.out | refine below_set ?_ GE194.out) | exact HB.out))) : w.heap.size ≤ gb201))
              have n11_ := Aside0.mk ((by rw [hg]; exact (below_size (by repeat (first | (with_reducible first | exact HB.out | apply below_alloc | apply pw_below_drewN | apply below_drew1 | refine below_set ?_ GE179.out | refine below_set ?_ GE180.out | refine below_set ?_ GE181.out | refine below_set ?_ GE194.out) | exact HB.out))) : w.heap.size ≤ gb201))
              have n12_ := Aside0.mk ((by rw [hg]; exact Nat.ne_of_lt (blk_lt (g := gb179) (o := .cells #[.slice A0_0 l0_0.length c0_0, .slice A0_1 l0_1.length c0_1] 24 (0, 0)) (by (with_reducible repeat (first | refine blk_drewN ?_ _ | refine blk_drew ?_ | refine blk_alloc ?_ _)); exact BK179.out)) : gb179 ≠ gb201))
              have n13_ := Aside0.mk ((by rw [hg]; exact Nat.ne_of_gt (blk_lt (g := gb179) (o := .cells #[.slice A0_0 l0_0.length c0_0, .slice A0_1 l0_1.length c0_1] 24 (0, 0)) (by (with_reducible repeat (first | refine blk_drewN ?_ _ | refine blk_drew ?_ | refine blk_alloc ?_ _)); exact BK179.out)) : gb201 ≠ gb179))
              have n14_ := Aside0.mk ((by rw [hg]; exact Nat.ne_of_lt (blk_lt (g := gb180) (o := .cells #[.int .i64 a1_0, .int .i64 a1_1, .int .i64 a1_2, .slice A1_3 l1_3.length c1_3] 26 (0, 0)) (by (with_reducible repeat (first | refine blk_drewN ?_ _ | refine blk_drew ?_ | refine blk_alloc ?_ _)); exact BK180.out)) : gb180 ≠ gb201))
              have n15_ := Aside0.mk ((by rw [hg]; exact Nat.ne_of_gt (blk_lt (g := gb180) (o := .cells #[.int .i64 a1_0, .int .i64 a1_1, .int .i64 a1_2, .slice A1_3 l1_3.length c1_3] 26 (0, 0)) (by (with_reducible repeat (first | refine blk_drewN ?_ _ | refine blk_drew ?_ | refine blk_alloc ?_ _)); exact BK180.out)) : gb201 ≠ gb180))
              have n16_ := Aside0.mk ((by rw [hg]; exact Nat.ne_of_lt (blk_lt (g := gb181) (o := .cells #[.slice none 0 0, .slice none 0 0] 24 (0, 0)) (by (with_reducible repeat (first | refine blk_drewN ?_ _ | refine blk_drew ?_ | refine blk_alloc ?_ _)); exact BK181.out)) : gb181 ≠ gb201))
              have n17_ := Aside0.mk ((by rw [hg]; exact Nat.ne_of_gt (blk_lt (g := gb181) (o := .cells #[.slice none 0 0, .slice none 0 0] 24 (0, 0)) (by (with_reducible repeat (first | refine blk_drewN ?_ _ | refine blk_drew ?_ | refine blk_alloc ?_ _)); exact BK181.out)) : gb201 ≠ gb181))
              have n18_ := Aside0.mk ((by rw [hg]; exact Nat.ne_of_lt (blk_lt (g := gb194) (o := .cells #[.int .i64 t186, .int .i64 t187, .int .i64 t188, .slice Ao23 t189.length co23] 26 (0, 0)) (by (with_reducible repeat (first | refine blk_drewN ?_ _ | refine blk_drew ?_ | refine blk_alloc ?_ _)); exact BK194.out)) : gb194 ≠ gb201))
              have n19_ := Aside0.mk ((by rw [hg]; exact Nat.ne_of_gt (blk_lt (g := gb194) (o := .cells #[.int .i64 t186, .int .i64 t187, .int .i64 t188, .slice Ao23 t189.length co23] 26 (0, 0)) (by (with_reducible repeat (first | refine blk_drewN ?_ _ | refine blk_drew ?_ | refine blk_alloc ?_ _)); exact BK194.out)) : gb201 ≠ gb194))
              clear HO_9
              clear HO_195003
              clear HO197
              clear HO200
              clear BK179
              clear BK180
              clear BK181
              clear BK194
              clear HB
              have HO_9 := n0_
              have HO_195003 := n1_
              have HO197 := n2_
              have HO200 := n3_
              have BK179 := n4_
              have BK180 := n5_
              have BK181 := n6_
              have BK194 := n7_
              have HB := n8_
              have BK201 := n9_
              have GW201 := n10_
              have GE201 := n11_
              have NB179_201 := n12_
              have NB201_179 := n13_
              have NB180_201 := n14_
              have NB201_180 := n15_
              have NB181_201 := n16_
              have NB201_181 := n17_
              have NB194_201 := n18_
              have NB201_194 := n19_
              clear n0_ n1_ n2_ n3_ n4_ n5_ n6_ n7_ n8_ n9_ n10_ n11_ n12_ n13_ n14_ n15_ n16_ n17_ n18_ n19_
              clear hb hbox hg
              refine hK.out _ _ ⟨(blk_cell BK179.out 0).trans rfl, (blk_cell BK179.out 1).trans rfl⟩ (fun hHeld => ?_)
              clear hK K
              refine norm_ (a' := ?_) ?_ ?_
              rotate_left
              ·show Act.put _ (some 15) _ = _
               simp only [Act.put, List.setIfInBounds_toArray, List.set_cons_zero, List.set_cons_succ, i64_w, i32_w]
               rfl
              exact norm_ (by simp only [putAll, Act.put, List.setIfInBounds_toArray, List.set_cons_zero, List.set_cons_succ]) (hCont (.slice Ao51 t195.length co51, .slice Ao50 t198.length co50, gb201) _ ⟨hHeld, (by (with_reducible repeat (first | apply Kd.R_alloc | apply Kd.R_drewN | apply Kd.R_drew)); exact Kd.R_mono HO197.out (fun _ hk => ⟨hk.2, ⟨hk.1.2, hk.1.1.2⟩⟩)), (by (with_reducible repeat (first | apply Kd.R_alloc | apply Kd.R_drewN | apply Kd.R_drew)); exact Kd.R_mono HO200.out (fun _ hk => ⟨hk.2, ⟨hk.1.2, hk.1.1.2⟩⟩)), (by (with_reducible repeat (first | apply Kd.R_alloc | apply Kd.R_drewN | apply Kd.R_drew)); exact Kd.R_mono HO_195003.out (fun _ hk => ⟨hk.1.2, ⟨hk.2, hk.1.1⟩⟩)), (by (with_reducible repeat (first | apply Kd.R_alloc | apply Kd.R_drewN | apply Kd.R_drew)); exact Kd.R_mono HO_9.out (fun _ hk => ⟨hk.1.2, ⟨hk.2, hk.1.1⟩⟩)), (by (with_reducible repeat (first | refine blk_drewN ?_ _ | refine blk_drew ?_ | refine blk_alloc ?_ _)); exact BK179.out), (by (with_reducible repeat (first | refine blk_drewN ?_ _ | refine blk_drew ?_ | refine blk_alloc ?_ _)); exact BK180.out), (by (with_reducible repeat (first | refine blk_drewN ?_ _ | refine blk_drew ?_ | refine blk_alloc ?_ _)); exact BK181.out), (by (with_reducible repeat (first | refine blk_drewN ?_ _ | refine blk_drew ?_ | refine blk_alloc ?_ _)); exact BK194.out), (by (with_reducible repeat (first | refine blk_drewN ?_ _ | refine blk_drew ?_ | refine blk_alloc ?_ _)); exact BK201.out), GW201.out, GE201.out, NB179_201.out, NB201_179.out, NB180_201.out, NB201_180.out, NB181_201.out, NB201_181.out, NB194_201.out, NB201_194.out, (by repeat (first | (with_reducible first | exact HB.out | apply below_alloc | apply pw_below_drewN | apply below_drew1 | refine below_set ?_ GE179.out | refine below_set ?_ GE180.out | refine below_set ?_ GE181.out | refine below_set ?_ GE194.out | refine below_set ?_ GE201.out) | exact HB.out))⟩)
             ·skip
              refine box_step ?hg (N := 15) ?hd (cs := #[.slice none 0 0, .slice none 0 0]) (t := 58) ?hr ?_; (case hd => rfl); (case hg => rfl); (case hr => first | (go_simp; done) | (go_simp; rfl))
              intro gb201 hg w49 hbox hb
              have n0_ := Aside0.mk (Kd.R_below (by (with_reducible repeat (first | apply Kd.R_alloc | apply Kd.R_drewN | apply Kd.R_drew)); exact HO_9.out) hb)
              have n1_ := Aside0.mk (Kd.R_below (by (with_reducible repeat (first | apply Kd.R_alloc | apply Kd.R_drewN | apply Kd.R_drew)); exact HO_195003.out) hb)
              have n2_ := Aside0.mk (Kd.R_below (by (with_reducible repeat (first | apply Kd.R_alloc | apply Kd.R_drewN | apply Kd.R_drew)); exact HO197.out) hb)
              have n3_ := Aside0.mk (blk_below (g := gb179) (o := .cells #[.slice A0_0 l0_0.length c0_0, .slice A0_1 l0_1.length c0_1] 24 (0, 0)) (by (with_reducible repeat (first | refine blk_drewN ?_ _ | refine blk_drew ?_ | refine blk_alloc ?_ _)); exact BK179.out) hb)
              have n4_ := Aside0.mk (blk_below (g := gb180) (o := .cells #[.int .i64 a1_0, .int .i64 a1_1, .int .i64 a1_2, .slice A1_3 l1_3.length c1_3] 26 (0, 0)) (by (with_reducible repeat (first | refine blk_drewN ?_ _ | refine blk_drew ?_ | refine blk_alloc ?_ _)); exact BK180.out) hb)
              have n5_ := Aside0.mk (blk_below (g := gb181) (o := .cells #[.slice none 0 0, .slice none 0 0] 24 (0, 0)) (by (with_reducible repeat (first | refine blk_drewN ?_ _ | refine blk_drew ?_ | refine blk_alloc ?_ _)); exact BK181.out) hb)
              have n6_ := Aside0.mk (blk_below (g := gb194) (o := .cells #[.int .i64 t186, .int .i64 t187, .int .i64 t188, .slice Ao23 t189.length co23] 26 (0, 0)) (by (with_reducible repeat (first | refine blk_drewN ?_ _ | refine blk_drew ?_ | refine blk_alloc ?_ _)); exact BK194.out) hb)
              have n7_ := Aside0.mk (below_step (by repeat (first | (with_reducible first | exact HB.out | apply below_alloc | apply pw_below_drewN | apply below_drew1 | refine below_set ?_ GE179.out | refine below_set ?_ GE180.out | refine below_set ?_ GE181.out | refine below_set ?_ GE194.out) | exact HB.out)) hb)
              have n8_ := Aside0.mk (hbox)
              have n9_ := Aside0.mk ((by rw [hg]; exact (below_size (by repeat (first | (with_reducible first | exact HB.out | apply below_alloc | apply pw_below_drewN | apply below_drew1 | refine below_set ?_ GE179.out | refine below_set ?_ GE180.out | refine below_set ?_ GE181.out | refine below_set ?_ GE194.out) | exact HB.out))) : w.heap.size ≤ gb201))
              have n10_ := Aside0.mk ((by rw [hg]; exact (below_size (by repeat (first | (with_reducible first | exact HB.out | apply below_alloc | apply pw_below_drewN | apply below_drew1 | refine below_set ?_ GE179.out | refine below_set ?_ GE180.out | refine below_set ?_ GE181.out | refine below_set ?_ GE194.out) | exact HB.out))) : w.heap.size ≤ gb201))
              have n11_ := Aside0.mk ((by rw [hg]; exact Nat.ne_of_lt (blk_lt (g := gb179) (o := .cells #[.slice A0_0 l0_0.length c0_0, .slice A0_1 l0_1.length c0_1] 24 (0, 0)) (by (with_reducible repeat (first | refine blk_drewN ?_ _ | refine blk_drew ?_ | refine blk_alloc ?_ _)); exact BK179.out)) : gb179 ≠ gb201))
              have n12_ := Aside0.mk ((by rw [hg]; exact Nat.ne_of_gt (blk_lt (g := gb179) (o := .cells #[.slice A0_0 l0_0.length c0_0, .slice A0_1 l0_1.length c0_1] 24 (0, 0)) (by (with_reducible repeat (first | refine blk_drewN ?_ _ | refine blk_drew ?_ | refine blk_alloc ?_ _)); exact BK179.out)) : gb201 ≠ gb179))
              have n13_ := Aside0.mk ((by rw [hg]; exact Nat.ne_of_lt (blk_lt (g := gb180) (o := .cells #[.int .i64 a1_0, .int .i64 a1_1, .int .i64 a1_2, .slice A1_3 l1_3.length c1_3] 26 (0, 0)) (by (with_reducible repeat (first | refine blk_drewN ?_ _ | refine blk_drew ?_ | refine blk_alloc ?_ _)); exact BK180.out)) : gb180 ≠ gb201))
              have n14_ := Aside0.mk ((by rw [hg]; exact Nat.ne_of_gt (blk_lt (g := gb180) (o := .cells #[.int .i64 a1_0, .int .i64 a1_1, .int .i64 a1_2, .slice A1_3 l1_3.length c1_3] 26 (0, 0)) (by (with_reducible repeat (first | refine blk_drewN ?_ _ | refine blk_drew ?_ | refine blk_alloc ?_ _)); exact BK180.out)) : gb201 ≠ gb180))
              have n15_ := Aside0.mk ((by rw [hg]; exact Nat.ne_of_lt (blk_lt (g := gb181) (o := .cells #[.slice none 0 0, .slice none 0 0] 24 (0, 0)) (by (with_reducible repeat (first | refine blk_drewN ?_ _ | refine blk_drew ?_ | refine blk_alloc ?_ _)); exact BK181.out)) : gb181 ≠ gb201))
              have n16_ := Aside0.mk ((by rw [hg]; exact Nat.ne_of_gt (blk_lt (g := gb181) (o := .cells #[.slice none 0 0, .slice none 0 0] 24 (0, 0)) (by (with_reducible repeat (first | refine blk_drewN ?_ _ | refine blk_drew ?_ | refine blk_alloc ?_ _)); exact BK181.out)) : gb201 ≠ gb181))
              have n17_ := Aside0.mk ((by rw [hg]; exact Nat.ne_of_lt (blk_lt (g := gb194) (o := .cells #[.int .i64 t186, .int .i64 t187, .int .i64 t188, .slice Ao23 t189.length co23] 26 (0, 0)) (by (with_reducible repeat (first | refine blk_drewN ?_ _ | refine blk_drew ?_ | refine blk_alloc ?_ _)); exact BK194.out)) : gb194 ≠ gb201))
              have n18_ := Aside0.mk ((by rw [hg]; exact Nat.ne_of_gt (blk_lt (g := gb194) (o := .cells #[.int .i64 t186, .int .i64 t187, .int .i64 t188, .slice Ao23 t189.length co23] 26 (0, 0)) (by (with_reducible repeat (first | refine blk_drewN ?_ _ | refine blk_drew ?_ | refine blk_alloc ?_ _)); exact BK194.out)) : gb201 ≠ gb194))
              clear HO_9
              clear HO_195003
              clear HO197
              clear BK179
              clear BK180
              clear BK181
              clear BK194
              clear HB
              have HO_9 := n0_
              have HO_195003 := n1_
              have HO197 := n2_
              have BK179 := n3_
              have BK180 := n4_
              have BK181 := n5_
              have BK194 := n6_
              have HB := n7_
              have BK201 := n8_
              have GW201 := n9_
              have GE201 := n10_
              have NB179_201 := n11_
              have NB201_179 := n12_
              have NB180_201 := n13_
              have NB201_180 := n14_
              have NB181_201 := n15_
              have NB201_181 := n16_
              have NB194_201 := n17_
              have NB201_194 := n18_
              clear n0_ n1_ n2_ n3_ n4_ n5_ n6_ n7_ n8_ n9_ n10_ n11_ n12_ n13_ n14_ n15_ n16_ n17_ n18_
              clear hb hbox hg
              refine hK.out _ _ ⟨(blk_cell BK179.out 0).trans rfl, (blk_cell BK179.out 1).trans rfl⟩ (fun hHeld => ?_)
              clear hK K
              refine norm_ (a' := ?_) ?_ ?_
              rotate_left
              ·show Act.put _ (some 15) _ = _
               simp only [Act.put, List.setIfInBounds_toArray, List.set_cons_zero, List.set_cons_succ, i64_w, i32_w]
               rfl
              refine one_ (i := 5) (N := some 52) #[true, true, true, true, true, true, false, true, false] rfl rfl (one_of HT_.out (by kernel_rfl)) (by decide) (fun K hK => ?_)
              refine goes_ Tryd.func24 (by kernel_rfl) rfl #[.slice A0_1 l0_1.length c0_1] (by rfl) rfl rfl (by (try simp only [List.map_toArray, List.map_cons, List.map_nil]); first | done | rfl | (simp only [List.length_drop, List.length_take]; rfl)) ?_
              with_reducible refine (bytes_Clone.calls _ _ l0_1 t198 _ ?side1 ?side2 A42.out).mono ?_
              (case side1 => repeat (first | exact (Kd.C_below HR0_1.out HB.out) | (with_reducible refine Kd.C_alloc ?_ _) | (with_reducible refine Kd.C_drewN ?_ _) | (with_reducible refine Kd.C_drew ?_)))
              (case side2 => exact HC0_1.out)
              rintro e w50 ⟨v199, rfl, ho0, hb⟩
              refine ⟨_, rfl, ?_⟩
              have n0_ := Aside0.mk (Kd.R_elder' (by (with_reducible repeat (first | apply Kd.R_alloc | apply Kd.R_drewN | apply Kd.R_drew)); exact HO_9.out) (Kd.R_base ho0) hb)
              have n1_ := Aside0.mk (Kd.R_elder' (by (with_reducible repeat (first | apply Kd.R_alloc | apply Kd.R_drewN | apply Kd.R_drew)); exact HO_195003.out) (Kd.R_base ho0) hb)
              have n2_ := Aside0.mk (Kd.R_elder' (by (with_reducible repeat (first | apply Kd.R_alloc | apply Kd.R_drewN | apply Kd.R_drew)); exact HO197.out) (Kd.R_base ho0) hb)
              have n3_ := Aside0.mk (Kd.R_lower (Kd.R_new' (Kd.R_new' (Kd.R_new' ho0 (Kd.R_lt (by (with_reducible repeat (first | apply Kd.R_alloc | apply Kd.R_drewN | apply Kd.R_drew)); exact HO_9.out))) (Kd.R_lt (by (with_reducible repeat (first | apply Kd.R_alloc | apply Kd.R_drewN | apply Kd.R_drew)); exact HO_195003.out))) (Kd.R_lt (by (with_reducible repeat (first | apply Kd.R_alloc | apply Kd.R_drewN | apply Kd.R_drew)); exact HO197.out))) (below_size (by repeat (first | (with_reducible first | exact HB.out | apply below_alloc | apply pw_below_drewN | apply below_drew1 | refine below_set ?_ GE179.out | refine below_set ?_ GE180.out | refine below_set ?_ GE181.out | refine below_set ?_ GE194.out | refine below_set ?_ GE201.out) | exact HB.out))))
              have n4_ := Aside0.mk (blk_below (g := gb179) (o := .cells #[.slice A0_0 l0_0.length c0_0, .slice A0_1 l0_1.length c0_1] 24 (0, 0)) (by (with_reducible repeat (first | refine blk_drewN ?_ _ | refine blk_drew ?_ | refine blk_alloc ?_ _)); exact BK179.out) hb)
              have n5_ := Aside0.mk (blk_below (g := gb180) (o := .cells #[.int .i64 a1_0, .int .i64 a1_1, .int .i64 a1_2, .slice A1_3 l1_3.length c1_3] 26 (0, 0)) (by (with_reducible repeat (first | refine blk_drewN ?_ _ | refine blk_drew ?_ | refine blk_alloc ?_ _)); exact BK180.out) hb)
              have n6_ := Aside0.mk (blk_below (g := gb181) (o := .cells #[.slice none 0 0, .slice none 0 0] 24 (0, 0)) (by (with_reducible repeat (first | refine blk_drewN ?_ _ | refine blk_drew ?_ | refine blk_alloc ?_ _)); exact BK181.out) hb)
              have n7_ := Aside0.mk (blk_below (g := gb194) (o := .cells #[.int .i64 t186, .int .i64 t187, .int .i64 t188, .slice Ao23 t189.length co23] 26 (0, 0)) (by (with_reducible repeat (first | refine blk_drewN ?_ _ | refine blk_drew ?_ | refine blk_alloc ?_ _)); exact BK194.out) hb)
              have n8_ := Aside0.mk (blk_below (g := gb201) (o := .cells #[.slice none 0 0, .slice none 0 0] 58 (0, 0)) (by (with_reducible repeat (first | refine blk_drewN ?_ _ | refine blk_drew ?_ | refine blk_alloc ?_ _)); exact BK201.out) hb)
              have n9_ := Aside0.mk (below_step (by repeat (first | (with_reducible first | exact HB.out | apply below_alloc | apply pw_below_drewN | apply below_drew1 | refine below_set ?_ GE179.out | refine below_set ?_ GE180.out | refine below_set ?_ GE181.out | refine below_set ?_ GE194.out | refine below_set ?_ GE201.out) | exact HB.out)) hb)
              clear HO_9
              clear HO_195003
              clear HO197
              clear BK179
              clear BK180
              clear BK181
              clear BK194
              clear BK201
              clear HB
              have HO_9 := n0_
              have HO_195003 := n1_
              have HO197 := n2_
              have HO200 := n3_
              have BK179 := n4_
              have BK180 := n5_
              have BK181 := n6_
              have BK194 := n7_
              have BK201 := n8_
              have HB := n9_
              clear n0_ n1_ n2_ n3_ n4_ n5_ n6_ n7_ n8_ n9_
              (try clear hb)
              (try clear hb2)
              (try clear hk)
              (try clear hi)
              (try clear ho0)
              obtain ⟨Ao51, co51, eo51⟩ := Kd.R_slice HO200.out
              (first | subst eo51 | (injection eo51 with f1_ f2_ f3_; have f4_ := f1_.symm; have f5_ := f3_.symm; clear f1_ f2_ f3_; subst f4_; subst f5_))
              obtain ⟨Ao52, co52, eo52⟩ := Kd.R_slice HO197.out
              (first | subst eo52 | (injection eo52 with f1_ f2_ f3_; have f4_ := f1_.symm; have f5_ := f3_.symm; clear f1_ f2_ f3_; subst f4_; subst f5_))
              refine hK.out _ _ ⟨(blk_cell BK179.out 0).trans rfl, (blk_cell BK179.out 1).trans rfl⟩ (fun hHeld => ?_)
              clear hK K
              refine norm_ (a' := ?_) ?_ ?_
              rotate_left
              ·show Act.put _ (some 52) _ = _
               simp only [Act.put, List.setIfInBounds_toArray, List.set_cons_zero, List.set_cons_succ, i64_w, i32_w]
               rfl
              refine pure_ (i := 6) (N := some 53) (v := ?_) (a' := ?_) #[true, true, true, true, true, true, true, true, false] rfl rfl (any_of HT_.out (by kernel_rfl)) (fun _ _ _ h => h) (Or.inl ⟨by rfl, ?_⟩) ?_ ?_
              rotate_left
              ·intro w'
               go_simp
               with_reducible rfl
              rotate_left
              ·simp only [Act.put, List.setIfInBounds_toArray, List.set_cons_zero, List.set_cons_succ, i64_w, i32_w]
               rfl
              exact norm_ (by simp only [putAll, Act.put, List.setIfInBounds_toArray, List.set_cons_zero, List.set_cons_succ]) (hCont (.slice Ao52 t195.length co52, .slice Ao51 t198.length co51, gb201) _ ⟨hHeld, (by (with_reducible repeat (first | apply Kd.R_alloc | apply Kd.R_drewN | apply Kd.R_drew)); exact Kd.R_mono HO197.out (fun _ hk => ⟨hk.2, ⟨hk.1.2, hk.1.1.2⟩⟩)), (by (with_reducible repeat (first | apply Kd.R_alloc | apply Kd.R_drewN | apply Kd.R_drew)); exact Kd.R_mono HO200.out (fun _ hk => ⟨hk.2, ⟨hk.1.2, hk.1.1.2⟩⟩)), (by (with_reducible repeat (first | apply Kd.R_alloc | apply Kd.R_drewN | apply Kd.R_drew)); exact Kd.R_mono HO_195003.out (fun _ hk => ⟨hk.1.2, ⟨hk.2, hk.1.1⟩⟩)), (by (with_reducible repeat (first | apply Kd.R_alloc | apply Kd.R_drewN | apply Kd.R_drew)); exact Kd.R_mono HO_9.out (fun _ hk => ⟨hk.1.2, ⟨hk.2, hk.1.1⟩⟩)), (by (with_reducible repeat (first | refine blk_drewN ?_ _ | refine blk_drew ?_ | refine blk_alloc ?_ _)); exact BK179.out), (by (with_reducible repeat (first | refine blk_drewN ?_ _ | refine blk_drew ?_ | refine blk_alloc ?_ _)); exact BK180.out), (by (with_reducible repeat (first | refine blk_drewN ?_ _ | refine blk_drew ?_ | refine blk_alloc ?_ _)); exact BK181.out), (by (with_reducible repeat (first | refine blk_drewN ?_ _ | refine blk_drew ?_ | refine blk_alloc ?_ _)); exact BK194.out), (by (with_reducible repeat (first | refine blk_drewN ?_ _ | refine blk_drew ?_ | refine blk_alloc ?_ _)); exact BK201.out), GW201.out, GE201.out, NB179_201.out, NB201_179.out, NB180_201.out, NB201_180.out, NB181_201.out, NB201_181.out, NB194_201.out, NB201_194.out, (by repeat (first | (with_reducible first | exact HB.out | apply below_alloc | apply pw_below_drewN | apply below_drew1 | refine below_set ?_ GE179.out | refine below_set ?_ GE180.out | refine below_set ?_ GE181.out | refine below_set ?_ GE194.out | refine below_set ?_ GE201.out) | exact HB.out))⟩)
            ·skip
             refine box_step ?hg (N := 15) ?hd (cs := #[.slice none 0 0, .slice none 0 0]) (t := 58) ?hr ?_; (case hd => rfl); (case hg => rfl); (case hr => first | (go_simp; done) | (go_simp; rfl))
             intro gb201 hg w48 hbox hb
             have n0_ := Aside0.mk (Kd.R_below (by (with_reducible repeat (first | apply Kd.R_alloc | apply Kd.R_drewN | apply Kd.R_drew)); exact HO_9.out) hb)
             have n1_ := Aside0.mk (Kd.R_below (by (with_reducible repeat (first | apply Kd.R_alloc | apply Kd.R_drewN | apply Kd.R_drew)); exact HO_195003.out) hb)
             have n2_ := Aside0.mk (blk_below (g := gb179) (o := .cells #[.slice A0_0 l0_0.length c0_0, .slice A0_1 l0_1.length c0_1] 24 (0, 0)) (by (with_reducible repeat (first | refine blk_drewN ?_ _ | refine blk_drew ?_ | refine blk_alloc ?_ _)); exact BK179.out) hb)
             have n3_ := Aside0.mk (blk_below (g := gb180) (o := .cells #[.int .i64 a1_0, .int .i64 a1_1, .int .i64 a1_2, .slice A1_3 l1_3.length c1_3] 26 (0, 0)) (by (with_reducible repeat (first | refine blk_drewN ?_ _ | refine blk_drew ?_ | refine blk_alloc ?_ _)); exact BK180.out) hb)
             have n4_ := Aside0.mk (blk_below (g := gb181) (o := .cells #[.slice none 0 0, .slice none 0 0] 24 (0, 0)) (by (with_reducible repeat (first | refine blk_drewN ?_ _ | refine blk_drew ?_ | refine blk_alloc ?_ _)); exact BK181.out) hb)
             have n5_ := Aside0.mk (blk_below (g := gb194) (o := .cells #[.int .i64 t186, .int .i64 t187, .int .i64 t188, .slice Ao23 t189.length co23] 26 (0, 0)) (by (with_reducible repeat (first | refine blk_drewN ?_ _ | refine blk_drew ?_ | refine blk_alloc ?_ _)); exact BK194.out) hb)
             have n6_ := Aside0.mk (below_step (by repeat (first | (with_reducible first | exact HB.out | apply below_alloc | apply pw_below_drewN | apply below_drew1 | refine below_set ?_ GE179.out | refine below_set ?_ GE180.out | refine below_set ?_ GE181.out | refine below_set ?_ GE194.out) | exact HB.out)) hb)
             have n7_ := Aside0.mk (hbox)
             have n8_ := Aside0.mk ((by rw [hg]; exact (below_size (by repeat (first | (with_reducible first | exact HB.out | apply below_alloc | apply pw_below_drewN | apply below_drew1 | refine below_set ?_ GE179.out | refine below_set ?_ GE180.out | refine below_set ?_ GE181.out | refine below_set ?_ GE194.out) | exact HB.out))) : w.heap.size ≤ gb201))
             have n9_ := Aside0.mk ((by rw [hg]; exact (below_size (by repeat (first | (with_reducible first | exact HB.out | apply below_alloc | apply pw_below_drewN | apply below_drew1 | refine below_set ?_ GE179.out | refine below_set ?_ GE180.out | refine below_set ?_ GE181.out | refine below_set ?_ GE194.out) | exact HB.out))) : w.heap.size ≤ gb201))
             have n10_ := Aside0.mk ((by rw [hg]; exact Nat.ne_of_lt (blk_lt (g := gb179) (o := .cells #[.slice A0_0 l0_0.length c0_0, .slice A0_1 l0_1.length c0_1] 24 (0, 0)) (by (with_reducible repeat (first | refine blk_drewN ?_ _ | refine blk_drew ?_ | refine blk_alloc ?_ _)); exact BK179.out)) : gb179 ≠ gb201))
             have n11_ := Aside0.mk ((by rw [hg]; exact Nat.ne_of_gt (blk_lt (g := gb179) (o := .cells #[.slice A0_0 l0_0.length c0_0, .slice A0_1 l0_1.length c0_1] 24 (0, 0)) (by (with_reducible repeat (first | refine blk_drewN ?_ _ | refine blk_drew ?_ | refine blk_alloc ?_ _)); exact BK179.out)) : gb201 ≠ gb179))
             have n12_ := Aside0.mk ((by rw [hg]; exact Nat.ne_of_lt (blk_lt (g := gb180) (o := .cells #[.int .i64 a1_0, .int .i64 a1_1, .int .i64 a1_2, .slice A1_3 l1_3.length c1_3] 26 (0, 0)) (by (with_reducible repeat (first | refine blk_drewN ?_ _ | refine blk_drew ?_ | refine blk_alloc ?_ _)); exact BK180.out)) : gb180 ≠ gb201))
             have n13_ := Aside0.mk ((by rw [hg]; exact Nat.ne_of_gt (blk_lt (g := gb180) (o := .cells #[.int .i64 a1_0, .int .i64 a1_1, .int .i64 a1_2, .slice A1_3 l1_3.length c1_3] 26 (0, 0)) (by (with_reducible repeat (first | refine blk_drewN ?_ _ | refine blk_drew ?_ | refine blk_alloc ?_ _)); exact BK180.out)) : gb201 ≠ gb180))
             have n14_ := Aside0.mk ((by rw [hg]; exact Nat.ne_of_lt (blk_lt (g := gb181) (o := .cells #[.slice none 0 0, .slice none 0 0] 24 (0, 0)) (by (with_reducible repeat (first | refine blk_drewN ?_ _ | refine blk_drew ?_ | refine blk_alloc ?_ _)); exact BK181.out)) : gb181 ≠ gb201))
             have n15_ := Aside0.mk ((by rw [hg]; exact Nat.ne_of_gt (blk_lt (g := gb181) (o := .cells #[.slice none 0 0, .slice none 0 0] 24 (0, 0)) (by (with_reducible repeat (first | refine blk_drewN ?_ _ | refine blk_drew ?_ | refine blk_alloc ?_ _)); exact BK181.out)) : gb201 ≠ gb181))
             have n16_ := Aside0.mk ((by rw [hg]; exact Nat.ne_of_lt (blk_lt (g := gb194) (o := .cells #[.int .i64 t186, .int .i64 t187, .int .i64 t188, .slice Ao23 t189.length co23] 26 (0, 0)) (by (with_reducible repeat (first | refine blk_drewN ?_ _ | refine blk_drew ?_ | refine blk_alloc ?_ _)); exact BK194.out)) : gb194 ≠ gb201))
             have n17_ := Aside0.mk ((by rw [hg]; exact Nat.ne_of_gt (blk_lt (g := gb194) (o := .cells #[.int .i64 t186, .int .i64 t187, .int .i64 t188, .slice Ao23 t189.length co23] 26 (0, 0)) (by (with_reducible repeat (first | refine blk_drewN ?_ _ | refine blk_drew ?_ | refine blk_alloc ?_ _)); exact BK194.out)) : gb201 ≠ gb194))
             clear HO_9
             clear HO_195003
             clear BK179
             clear BK180
             clear BK181
             clear BK194
             clear HB
             have HO_9 := n0_
             have HO_195003 := n1_
             have BK179 := n2_
             have BK180 := n3_
             have BK181 := n4_
             have BK194 := n5_
             have HB := n6_
             have BK201 := n7_
             have GW201 := n8_
             have GE201 := n9_
             have NB179_201 := n10_
             have NB201_179 := n11_
             have NB180_201 := n12_
             have NB201_180 := n13_
             have NB181_201 := n14_
             have NB201_181 := n15_
             have NB194_201 := n16_
             have NB201_194 := n17_
             clear n0_ n1_ n2_ n3_ n4_ n5_ n6_ n7_ n8_ n9_ n10_ n11_ n12_ n13_ n14_ n15_ n16_ n17_
             clear hb hbox hg
             refine hK.out _ _ ⟨(blk_cell BK179.out 0).trans rfl, (blk_cell BK179.out 1).trans rfl⟩ (fun hHeld => ?_)
             clear hK K
             refine norm_ (a' := ?_) ?_ ?_
             rotate_left
             ·show Act.put _ (some 15) _ = _
              simp only [Act.put, List.setIfInBounds_toArray, List.set_cons_zero, List.set_cons_succ, i64_w, i32_w]
              rfl
             refine one_ (i := 2) (N := some 49) #[true, true, true, true, true, false, false, true, false] rfl rfl (one_of HT_.out (by kernel_rfl)) (by decide) (fun K hK => ?_)
             refine goes_ Tryd.func24 (by kernel_rfl) rfl #[.slice A0_0 l0_0.length c0_0] (by rfl) rfl rfl (by (try simp only [List.map_toArray, List.map_cons, List.map_nil]); first | done | rfl | (simp only [List.length_drop, List.length_take]; rfl)) ?_
             with_reducible refine (bytes_Clone.calls _ _ l0_0 t195 _ ?side1 ?side2 A41.out).mono ?_
             (case side1 => repeat (first | exact (Kd.C_below HR0_0.out HB.out) | (with_reducible refine Kd.C_alloc ?_ _) | (with_reducible refine Kd.C_drewN ?_ _) | (with_reducible refine Kd.C_drew ?_)))
             (case side2 => exact HC0_0.out)
             rintro e w49 ⟨v196, rfl, ho0, hb⟩
             refine ⟨_, rfl, ?_⟩
             have n0_ := Aside0.mk (Kd.R_elder' (by (with_reducible repeat (first | apply Kd.R_alloc | apply Kd.R_drewN | apply Kd.R_drew)); exact HO_9.out) (Kd.R_base ho0) hb)
             have n1_ := Aside0.mk (Kd.R_elder' (by (with_reducible repeat (first | apply Kd.R_alloc | apply Kd.R_drewN | apply Kd.R_drew)); exact HO_195003.out) (Kd.R_base ho0) hb)
             have n2_ := Aside0.mk (Kd.R_lower (Kd.R_new' (Kd.R_new' ho0 (Kd.R_lt (by (with_reducible repeat (first | apply Kd.R_alloc | apply Kd.R_drewN | apply Kd.R_drew)); exact HO_9.out))) (Kd.R_lt (by (with_reducible repeat (first | apply Kd.R_alloc | apply Kd.R_drewN | apply Kd.R_drew)); exact HO_195003.out))) (below_size (by repeat (first | (with_reducible first | exact HB.out | apply below_alloc | apply pw_below_drewN | apply below_drew1 | refine below_set ?_ GE179.out | refine below_set ?_ GE180.out | refine below_set ?_ GE181.out | refine below_set ?_ GE194.out | refine below_set ?_ GE201.out) | exact HB.out))))
             have n3_ := Aside0.mk (blk_below (g := gb179) (o := .cells #[.slice A0_0 l0_0.length c0_0, .slice A0_1 l0_1.length c0_1] 24 (0, 0)) (by (with_reducible repeat (first | refine blk_drewN ?_ _ | refine blk_drew ?_ | refine blk_alloc ?_ _)); exact BK179.out) hb)
             have n4_ := Aside0.mk (blk_below (g := gb180) (o := .cells #[.int .i64 a1_0, .int .i64 a1_1, .int .i64 a1_2, .slice A1_3 l1_3.length c1_3] 26 (0, 0)) (by (with_reducible repeat (first | refine blk_drewN ?_ _ | refine blk_drew ?_ | refine blk_alloc ?_ _)); exact BK180.out) hb)
             have n5_ := Aside0.mk (blk_below (g := gb181) (o := .cells #[.slice none 0 0, .slice none 0 0] 24 (0, 0)) (by (with_reducible repeat (first | refine blk_drewN ?_ _ | refine blk_drew ?_ | refine blk_alloc ?_ _)); exact BK181.out) hb)
             have n6_ := Aside0.mk (blk_below (g := gb194) (o := .cells #[.int .i64 t186, .int .i64 t187, .int .i64 t188, .slice Ao23 t189.length co23] 26 (0, 0)) (by (with_reducible repeat (first | refine blk_drewN ?_ _ | refine blk_drew ?_ | refine blk_alloc ?_ _)); exact BK194.out) hb)
             have n7_ := Aside0.mk (blk_below (g := gb201) (o := .cells #[.slice none 0 0, .slice none 0 0] 58 (0, 0)) (by (with_reducible repeat (first | refine blk_drewN ?_ _ | refine blk_drew ?_ | refine blk_alloc ?_ _)); exact BK201.out) hb)
             have n8_ := Aside0.mk (below_step (by repeat (first | (with_reducible first | exact HB.out | apply below_alloc | apply pw_below_drewN | apply below_drew1 | refine below_set ?_ GE179.out | refine below_set ?_ GE180.out | refine below_set ?_ GE181.out | refine below_set ?_ GE194.out | refine below_set ?_ GE201.out) | exact HB.out)) hb)
             clear HO_9
             clear HO_195003
             clear BK179
             clear BK180
             clear BK181
             clear BK194
             clear BK201
             clear HB
             have HO_9 := n0_
             have HO_195003 := n1_
             have HO197 := n2_
             have BK179 := n3_
             have BK180 := n4_
             have BK181 := n5_
             have BK194 := n6_
             have BK201 := n7_
             have HB := n8_
             clear n0_ n1_ n2_ n3_ n4_ n5_ n6_ n7_ n8_
             (try clear hb)
             (try clear hb2)
             (try clear hk)
             (try clear hi)
             (try clear ho0)
             refine hK.out _ _ ⟨(blk_cell BK179.out 0).trans rfl, (blk_cell BK179.out 1).trans rfl⟩ (fun hHeld => ?_)
             clear hK K
             refine norm_ (a' := ?_) ?_ ?_
             rotate_left
             ·show Act.put _ (some 49) _ = _
              simp only [Act.put, List.setIfInBounds_toArray, List.set_cons_zero, List.set_cons_succ, i64_w, i32_w]
              rfl
             refine one_ (i := 5) (N := some 52) #[true, true, true, true, true, true, false, true, false] rfl rfl (one_of HT_.out (by kernel_rfl)) (by decide) (fun K hK => ?_)
             refine goes_ Tryd.func24 (by kernel_rfl) rfl #[.slice A0_1 l0_1.length c0_1] (by rfl) rfl rfl (by (try simp only [List.map_toArray, List.map_cons, List.map_nil]); first | done | rfl | (simp only [List.length_drop, List.length_take]; rfl)) ?_
             with_reducible refine (bytes_Clone.calls _ _ l0_1 t198 _ ?side1 ?side2 A42.out).mono ?_
             (case side1 => repeat (first | exact (Kd.C_below HR0_1.out HB.out) | (with_reducible refine Kd.C_alloc ?_ _) | (with_reducible refine Kd.C_drewN ?_ _) | (with_reducible refine Kd.C_drew ?_)))
             (case side2 => exact HC0_1.out)
             rintro e w50 ⟨v199, rfl, ho0, hb⟩
             refine ⟨_, rfl, ?_⟩
             have n0_ := Aside0.mk (Kd.R_elder' (by (with_reducible repeat (first | apply Kd.R_alloc | apply Kd.R_drewN | apply Kd.R_drew)); exact HO_9.out) (Kd.R_base ho0) hb)
             have n1_ := Aside0.mk (Kd.R_elder' (by (with_reducible repeat (first | apply Kd.R_alloc | apply Kd.R_drewN | apply Kd.R_drew)); exact HO_195003.out) (Kd.R_base ho0) hb)
             have n2_ := Aside0.mk (Kd.R_elder' (by (with_reducible repeat (first | apply Kd.R_alloc | apply Kd.R_drewN | apply Kd.R_drew)); exact HO197.out) (Kd.R_base ho0) hb)
             have n3_ := Aside0.mk (Kd.R_lower (Kd.R_new' (Kd.R_new' (Kd.R_new' ho0 (Kd.R_lt (by (with_reducible repeat (first | apply Kd.R_alloc | apply Kd.R_drewN | apply Kd.R_drew)); exact HO_9.out))) (Kd.R_lt (by (with_reducible repeat (first | apply Kd.R_alloc | apply Kd.R_drewN | apply Kd.R_drew)); exact HO_195003.out))) (Kd.R_lt (by (with_reducible repeat (first | apply Kd.R_alloc | apply Kd.R_drewN | apply Kd.R_drew)); exact HO197.out))) (below_size (by repeat (first | (with_reducible first | exact HB.out | apply below_alloc | apply pw_below_drewN | apply below_drew1 | refine below_set ?_ GE179.out | refine below_set ?_ GE180.out | refine below_set ?_ GE181.out | refine below_set ?_ GE194.out | refine below_set ?_ GE201.out) | exact HB.out))))
             have n4_ := Aside0.mk (blk_below (g := gb179) (o := .cells #[.slice A0_0 l0_0.length c0_0, .slice A0_1 l0_1.length c0_1] 24 (0, 0)) (by (with_reducible repeat (first | refine blk_drewN ?_ _ | refine blk_drew ?_ | refine blk_alloc ?_ _)); exact BK179.out) hb)
             have n5_ := Aside0.mk (blk_below (g := gb180) (o := .cells #[.int .i64 a1_0, .int .i64 a1_1, .int .i64 a1_2, .slice A1_3 l1_3.length c1_3] 26 (0, 0)) (by (with_reducible repeat (first | refine blk_drewN ?_ _ | refine blk_drew ?_ | refine blk_alloc ?_ _)); exact BK180.out) hb)
             have n6_ := Aside0.mk (blk_below (g := gb181) (o := .cells #[.slice none 0 0, .slice none 0 0] 24 (0, 0)) (by (with_reducible repeat (first | refine blk_drewN ?_ _ | refine blk_drew ?_ | refine blk_alloc ?_ _)); exact BK181.out) hb)
             have n7_ := Aside0.mk (blk_below (g := gb194) (o := .cells #[.int .i64 t186, .int .i64 t187, .int .i64 t188, .slice Ao23 t189.length co23] 26 (0, 0)) (by (with_reducible repeat (first | refine blk_drewN ?_ _ | refine blk_drew ?_ | refine blk_alloc ?_ _)); exact BK194.out) hb)
             have n8_ := Aside0.mk (blk_below (g := gb201) (o := .cells #[.slice none 0 0, .slice none 0 0] 58 (0, 0)) (by (with_reducible repeat (first | refine blk_drewN ?_ _ | refine blk_drew ?_ | refine blk_alloc ?_ _)); exact BK201.out) hb)
             have n9_ := Aside0.mk (below_step (by repeat (first | (with_reducible first | exact HB.out | apply below_alloc | apply pw_below_drewN | apply below_drew1 | refine below_set ?_ GE179.out | refine below_set ?_ GE180.out | refine below_set ?_ GE181.out | refine below_set ?_ GE194.out | refine below_set ?_ GE201.out) | exact HB.out)) hb)
             clear HO_9
             clear HO_195003
             clear HO197
             clear BK179
             clear BK180
             clear BK181
             clear BK194
             clear BK201
             clear HB
             have HO_9 := n0_
             have HO_195003 := n1_
             have HO197 := n2_
             have HO200 := n3_
             have BK179 := n4_
             have BK180 := n5_
             have BK181 := n6_
             have BK194 := n7_
             have BK201 := n8_
             have HB := n9_
             clear n0_ n1_ n2_ n3_ n4_ n5_ n6_ n7_ n8_ n9_
             (try clear hb)
             (try clear hb2)
             (try clear hk)
             (try clear hi)
             (try clear ho0)
             obtain ⟨Ao51, co51, eo51⟩ := Kd.R_slice HO200.out
             (first | subst eo51 | (injection eo51 with f1_ f2_ f3_; have f4_ := f1_.symm; have f5_ := f3_.symm; clear f1_ f2_ f3_; subst f4_; subst f5_))
             obtain ⟨Ao52, co52, eo52⟩ := Kd.R_slice HO197.out
             (first | subst eo52 | (injection eo52 with f1_ f2_ f3_; have f4_ := f1_.symm; have f5_ := f3_.symm; clear f1_ f2_ f3_; subst f4_; subst f5_))
             refine hK.out _ _ ⟨(blk_cell BK179.out 0).trans rfl, (blk_cell BK179.out 1).trans rfl⟩ (fun hHeld => ?_)
             clear hK K
             refine norm_ (a' := ?_) ?_ ?_
             rotate_left
             ·show Act.put _ (some 52) _ = _
              simp only [Act.put, List.setIfInBounds_toArray, List.set_cons_zero, List.set_cons_succ, i64_w, i32_w]
              rfl
             refine pure_ (i := 6) (N := some 53) (v := ?_) (a' := ?_) #[true, true, true, true, true, true, true, true, false] rfl rfl (any_of HT_.out (by kernel_rfl)) (fun _ _ _ h => h) (Or.inl ⟨by rfl, ?_⟩) ?_ ?_
             rotate_left
             ·intro w'
              go_simp
              with_reducible rfl
             rotate_left
             ·simp only [Act.put, List.setIfInBounds_toArray, List.set_cons_zero, List.set_cons_succ, i64_w, i32_w]
              rfl
             exact norm_ (by simp only [putAll, Act.put, List.setIfInBounds_toArray, List.set_cons_zero, List.set_cons_succ]) (hCont (.slice Ao52 t195.length co52, .slice Ao51 t198.length co51, gb201) _ ⟨hHeld, (by (with_reducible repeat (first | apply Kd.R_alloc | apply Kd.R_drewN | apply Kd.R_drew)); exact Kd.R_mono HO197.out (fun _ hk => ⟨hk.2, ⟨hk.1.2, hk.1.1.2⟩⟩)), (by (with_reducible repeat (first | apply Kd.R_alloc | apply Kd.R_drewN | apply Kd.R_drew)); exact Kd.R_mono HO200.out (fun _ hk => ⟨hk.2, ⟨hk.1.2, hk.1.1.2⟩⟩)), (by (with_reducible repeat (first | apply Kd.R_alloc | apply Kd.R_drewN | apply Kd.R_drew)); exact Kd.R_mono HO_195003.out (fun _ hk => ⟨hk.1.2, ⟨hk.2, hk.1.1⟩⟩)), (by (with_reducible repeat (first | apply Kd.R_alloc | apply Kd.R_drewN | apply Kd.R_drew)); exact Kd.R_mono HO_9.out (fun _ hk => ⟨hk.1.2, ⟨hk.2, hk.1.1⟩⟩)), (by (with_reducible repeat (first | refine blk_drewN ?_ _ | refine blk_drew ?_ | refine blk_alloc ?_ _)); exact BK179.out), (by (with_reducible repeat (first | refine blk_drewN ?_ _ | refine blk_drew ?_ | refine blk_alloc ?_ _)); exact BK180.out), (by (with_reducible repeat (first | refine blk_drewN ?_ _ | refine blk_drew ?_ | refine blk_alloc ?_ _)); exact BK181.out), (by (with_reducible repeat (first | refine blk_drewN ?_ _ | refine blk_drew ?_ | refine blk_alloc ?_ _)); exact BK194.out), (by (with_reducible repeat (first | refine blk_drewN ?_ _ | refine blk_drew ?_ | refine blk_alloc ?_ _)); exact BK201.out), GW201.out, GE201.out, NB179_201.out, NB201_179.out, NB180_201.out, NB201_180.out, NB181_201.out, NB201_181.out, NB194_201.out, NB201_194.out, (by repeat (first | (with_reducible first | exact HB.out | apply below_alloc | apply pw_below_drewN | apply below_drew1 | refine below_set ?_ GE179.out | refine below_set ?_ GE180.out | refine below_set ?_ GE181.out | refine below_set ?_ GE194.out | refine below_set ?_ GE201.out) | exact HB.out))⟩)
           rintro ⟨v196, v199, gb201⟩ w53 ⟨hS_, h0_, h1_, h2_, h3_, h4_, h5_, h6_, h7_, h8_, h9_, h10_, h11_, h12_, h13_, h14_, h15_, h16_, h17_, h18_, h19_⟩
           have n0_ : Aside0 (Kd.R (Kd.int .u8) 5 w53 w.heap.size (fun k_ => some k_ ≠ (v199 : Value).ownBlock ∧ some k_ ≠ (.slice Ao23 t189.length co23 : Value).ownBlock ∧ some k_ ≠ (v183 : Value).ownBlock) v196 t195) := ⟨h0_⟩
           have n1_ : Aside0 (Kd.R (Kd.int .u8) 5 w53 w.heap.size (fun k_ => some k_ ≠ (v196 : Value).ownBlock ∧ some k_ ≠ (.slice Ao23 t189.length co23 : Value).ownBlock ∧ some k_ ≠ (v183 : Value).ownBlock) v199 t198) := ⟨h1_⟩
           have n2_ : Aside0 (Kd.R (Kd.int .u8) 5 w53 w.heap.size (fun k_ => some k_ ≠ (v196 : Value).ownBlock ∧ some k_ ≠ (v199 : Value).ownBlock ∧ some k_ ≠ (v183 : Value).ownBlock) (.slice Ao23 t189.length co23) t189) := ⟨h2_⟩
           have n3_ : Aside0 (Kd.R (Kd.int .u8) 5 w53 w.heap.size (fun k_ => some k_ ≠ (v196 : Value).ownBlock ∧ some k_ ≠ (v199 : Value).ownBlock ∧ some k_ ≠ (.slice Ao23 t189.length co23 : Value).ownBlock) v183 t182) := ⟨h3_⟩
           have n4_ : Aside0 (w53.heap[gb179]? = some (.cells #[.slice A0_0 l0_0.length c0_0, .slice A0_1 l0_1.length c0_1] 24 (0, 0))) := ⟨h4_⟩
           have n5_ : Aside0 (w53.heap[gb180]? = some (.cells #[.int .i64 a1_0, .int .i64 a1_1, .int .i64 a1_2, .slice A1_3 l1_3.length c1_3] 26 (0, 0))) := ⟨h5_⟩
           have n6_ : Aside0 (w53.heap[gb181]? = some (.cells #[.slice none 0 0, .slice none 0 0] 24 (0, 0))) := ⟨h6_⟩
           have n7_ : Aside0 (w53.heap[gb194]? = some (.cells #[.int .i64 t186, .int .i64 t187, .int .i64 t188, .slice Ao23 t189.length co23] 26 (0, 0))) := ⟨h7_⟩
           have n8_ : Aside0 (w53.heap[gb201]? = some (.cells #[.slice none 0 0, .slice none 0 0] 58 (0, 0))) := ⟨h8_⟩
           have n9_ : Aside0 (w.heap.size ≤ gb201) := ⟨h9_⟩
           have n10_ : Aside0 (w.heap.size ≤ gb201) := ⟨h10_⟩
           have n11_ : Aside0 (gb179 ≠ gb201) := ⟨h11_⟩
           have n12_ : Aside0 (gb201 ≠ gb179) := ⟨h12_⟩
           have n13_ : Aside0 (gb180 ≠ gb201) := ⟨h13_⟩
           have n14_ : Aside0 (gb201 ≠ gb180) := ⟨h14_⟩
           have n15_ : Aside0 (gb181 ≠ gb201) := ⟨h15_⟩
           have n16_ : Aside0 (gb201 ≠ gb181) := ⟨h16_⟩
           have n17_ : Aside0 (gb194 ≠ gb201) := ⟨h17_⟩
           have n18_ : Aside0 (gb201 ≠ gb194) := ⟨h18_⟩
           have n19_ : Aside0 (Below w.heap.size w w53) := ⟨h19_⟩
           clear HO_9
           clear HO_195003
           clear BK179
           clear BK180
           clear BK181
           clear BK194
           clear HB
           clear h0_ h1_ h2_ h3_ h4_ h5_ h6_ h7_ h8_ h9_ h10_ h11_ h12_ h13_ h14_ h15_ h16_ h17_ h18_ h19_
           have HO197 := n0_
           have HO200 := n1_
           have HO_195003 := n2_
           have HO_9 := n3_
           have BK179 := n4_
           have BK180 := n5_
           have BK181 := n6_
           have BK194 := n7_
           have BK201 := n8_
           have GW201 := n9_
           have GE201 := n10_
           have NB179_201 := n11_
           have NB201_179 := n12_
           have NB180_201 := n13_
           have NB201_180 := n14_
           have NB181_201 := n15_
           have NB201_181 := n16_
           have NB194_201 := n17_
           have NB201_194 := n18_
           have HB := n19_
           clear n0_ n1_ n2_ n3_ n4_ n5_ n6_ n7_ n8_ n9_ n10_ n11_ n12_ n13_ n14_ n15_ n16_ n17_ n18_ n19_
           have hHeld : w53.cell? ⟨gb179, 0, none⟩ = some (.slice A0_0 l0_0.length c0_0) ∧ w53.cell? ⟨gb179, 1, none⟩ = some (.slice A0_1 l0_1.length c0_1) := hS_
           obtain ⟨Ao54, co54, eo54⟩ := Kd.R_slice HO200.out
           (first | subst eo54 | (injection eo54 with f1_ f2_ f3_; have f4_ := f1_.symm; have f5_ := f3_.symm; clear f1_ f2_ f3_; subst f4_; subst f5_))
           obtain ⟨Ao55, co55, eo55⟩ := Kd.R_slice HO197.out
           (first | subst eo55 | (injection eo55 with f1_ f2_ f3_; have f4_ := f1_.symm; have f5_ := f3_.symm; clear f1_ f2_ f3_; subst f4_; subst f5_))
           refine norm_ (a' := ?_) ?_ ?_
           rotate_left
           ·simp only [putAll, Act.put, List.setIfInBounds_toArray, List.set_cons_zero, List.set_cons_succ]
            rfl
           refine one_ (i := 8) (N := none) #[true, true, true, true, true, true, true, true, true] rfl rfl (one_of HT_.out (by kernel_rfl)) (by decide) (fun K hK => ?_)
           have hs56 : w53.cell? ⟨gb201, 0, none⟩ = some (.slice none 0 0) := (blk_cell BK201.out 0).trans rfl
           have hfs56 := blk_frozen BK201.out 0
           have hns56_0 := NB179_201.out
           have hns56_1 := NB180_201.out
           have hns56_2 := NB181_201.out
           have hns56_3 := NB194_201.out
           have hms56_0 := NB201_179.out
           have hms56_1 := NB201_180.out
           have hms56_2 := NB201_181.out
           have hms56_3 := NB201_194.out
           have hs57 : w53.cell? ⟨gb201, 1, none⟩ = some (.slice none 0 0) := (blk_cell BK201.out 1).trans rfl
           have hfs57 := blk_frozen BK201.out 1
           have hns57_0 := NB179_201.out
           have hns57_1 := NB180_201.out
           have hns57_2 := NB181_201.out
           have hns57_3 := NB194_201.out
           have hms57_0 := NB201_179.out
           have hms57_1 := NB201_180.out
           have hms57_2 := NB201_181.out
           have hms57_3 := NB201_194.out
           refine skip_ (w1 := ?_) (by rfl) rfl ?_ ?_
           rotate_left
           ·go_simp
            rfl
           refine hK.out _ _ ⟨(by rw [cell_far, cell_far]; all_goals (first | (with_reducible exact hHeld.1) | (with_reducible exact NB179_201.out))), (by rw [cell_far, cell_far]; all_goals (first | (with_reducible exact hHeld.2) | (with_reducible exact NB179_201.out)))⟩ (fun hHeld => ?_)
           clear hK K
           refine done_ (done_of HT_.out (by kernel_rfl)) ?_
           obtain ⟨Ao58, co58, eo58⟩ := Kd.R_slice HO_9.out
           subst eo58
           try go_wp2
           have n0_ : Aside0 (Kd.R (Kd.int .u8) 5 ((w53.setCell ⟨gb201, 0, none⟩ (.slice Ao55 t195.length co55)).setCell ⟨gb201, 1, none⟩ (.slice Ao54 t198.length co54)) w.heap.size (fun k_ => some k_ ≠ (.slice Ao23 t189.length co23 : Value).ownBlock ∧ some k_ ≠ (.slice Ao55 t195.length co55 : Value).ownBlock ∧ some k_ ≠ (.slice Ao54 t198.length co54 : Value).ownBlock) (.slice Ao58 t182.length co58) t182) := ⟨by (with_reducible repeat (first | apply Kd.R_alloc | apply Kd.R_drewN | apply Kd.R_drew)); exact Kd.R_mono (Kd.R_far (p := ⟨gb201, 1, none⟩) (Kd.R_far (p := ⟨gb201, 0, none⟩) (Kd.R_types HO_9.out BK201.out (by decide)) (fun _ hk => hk.2) (.slice Ao55 t195.length co55)) (fun _ hk => hk.2) (.slice Ao54 t198.length co54)) (fun _ hk => ⟨hk.1.2.2, ⟨hk.1.1, hk.1.2.1⟩⟩)⟩
           have n1_ : Aside0 (Kd.R (Kd.int .u8) 5 ((w53.setCell ⟨gb201, 0, none⟩ (.slice Ao55 t195.length co55)).setCell ⟨gb201, 1, none⟩ (.slice Ao54 t198.length co54)) w.heap.size (fun k_ => some k_ ≠ (.slice Ao58 t182.length co58 : Value).ownBlock ∧ some k_ ≠ (.slice Ao55 t195.length co55 : Value).ownBlock ∧ some k_ ≠ (.slice Ao54 t198.length co54 : Value).ownBlock) (.slice Ao23 t189.length co23) t189) := ⟨by (with_reducible repeat (first | apply Kd.R_alloc | apply Kd.R_drewN | apply Kd.R_drew)); exact Kd.R_mono (Kd.R_far (p := ⟨gb201, 1, none⟩) (Kd.R_far (p := ⟨gb201, 0, none⟩) (Kd.R_types HO_195003.out BK201.out (by decide)) (fun _ hk => hk.2) (.slice Ao55 t195.length co55)) (fun _ hk => hk.2) (.slice Ao54 t198.length co54)) (fun _ hk => ⟨hk.1.2.2, ⟨hk.1.1, hk.1.2.1⟩⟩)⟩
           have n2_ : Aside0 (Kd.R (Kd.int .u8) 5 ((w53.setCell ⟨gb201, 0, none⟩ (.slice Ao55 t195.length co55)).setCell ⟨gb201, 1, none⟩ (.slice Ao54 t198.length co54)) w.heap.size (fun k_ => some k_ ≠ (.slice Ao58 t182.length co58 : Value).ownBlock ∧ some k_ ≠ (.slice Ao23 t189.length co23 : Value).ownBlock ∧ some k_ ≠ (.slice Ao54 t198.length co54 : Value).ownBlock) (.slice Ao55 t195.length co55) t195) := ⟨by (with_reducible repeat (first | apply Kd.R_alloc | apply Kd.R_drewN | apply Kd.R_drew)); exact Kd.R_mono (Kd.R_far (p := ⟨gb201, 1, none⟩) (Kd.R_far (p := ⟨gb201, 0, none⟩) (Kd.R_types HO197.out BK201.out (by decide)) (fun _ hk => hk.2) (.slice Ao55 t195.length co55)) (fun _ hk => hk.2) (.slice Ao54 t198.length co54)) (fun _ hk => ⟨hk.1.2.2, ⟨hk.1.2.1, hk.1.1⟩⟩)⟩
           have n3_ : Aside0 (Kd.R (Kd.int .u8) 5 ((w53.setCell ⟨gb201, 0, none⟩ (.slice Ao55 t195.length co55)).setCell ⟨gb201, 1, none⟩ (.slice Ao54 t198.length co54)) w.heap.size (fun k_ => some k_ ≠ (.slice Ao58 t182.length co58 : Value).ownBlock ∧ some k_ ≠ (.slice Ao23 t189.length co23 : Value).ownBlock ∧ some k_ ≠ (.slice Ao55 t195.length co55 : Value).ownBlock) (.slice Ao54 t198.length co54) t198) := ⟨by (with_reducible repeat (first | apply Kd.R_alloc | apply Kd.R_drewN | apply Kd.R_drew)); exact Kd.R_mono (Kd.R_far (p := ⟨gb201, 1, none⟩) (Kd.R_far (p := ⟨gb201, 0, none⟩) (Kd.R_types HO200.out BK201.out (by decide)) (fun _ hk => hk.2) (.slice Ao55 t195.length co55)) (fun _ hk => hk.2) (.slice Ao54 t198.length co54)) (fun _ hk => ⟨hk.1.2.2, ⟨hk.1.2.1, hk.1.1⟩⟩)⟩
           have n4_ : Aside0 (((w53.setCell ⟨gb201, 0, none⟩ (.slice Ao55 t195.length co55)).setCell ⟨gb201, 1, none⟩ (.slice Ao54 t198.length co54)).heap[gb179]? = some (.cells #[.slice A0_0 l0_0.length c0_0, .slice A0_1 l0_1.length c0_1] 24 (0, 0))) := ⟨by (with_reducible repeat (first | refine blk_drewN ?_ _ | refine blk_drew ?_ | refine blk_alloc ?_ _)); refine blk_far ?_ NB179_201.out _; (with_reducible repeat (first | refine blk_drewN ?_ _ | refine blk_drew ?_ | refine blk_alloc ?_ _)); refine blk_far ?_ NB179_201.out _; (with_reducible repeat (first | refine blk_drewN ?_ _ | refine blk_drew ?_ | refine blk_alloc ?_ _)); exact BK179.out⟩
           have n5_ : Aside0 (((w53.setCell ⟨gb201, 0, none⟩ (.slice Ao55 t195.length co55)).setCell ⟨gb201, 1, none⟩ (.slice Ao54 t198.length co54)).heap[gb180]? = some (.cells #[.int .i64 a1_0, .int .i64 a1_1, .int .i64 a1_2, .slice A1_3 l1_3.length c1_3] 26 (0, 0))) := ⟨by (with_reducible repeat (first | refine blk_drewN ?_ _ | refine blk_drew ?_ | refine blk_alloc ?_ _)); refine blk_far ?_ NB180_201.out _; (with_reducible repeat (first | refine blk_drewN ?_ _ | refine blk_drew ?_ | refine blk_alloc ?_ _)); refine blk_far ?_ NB180_201.out _; (with_reducible repeat (first | refine blk_drewN ?_ _ | refine blk_drew ?_ | refine blk_alloc ?_ _)); exact BK180.out⟩
           have n6_ : Aside0 (((w53.setCell ⟨gb201, 0, none⟩ (.slice Ao55 t195.length co55)).setCell ⟨gb201, 1, none⟩ (.slice Ao54 t198.length co54)).heap[gb181]? = some (.cells #[.slice none 0 0, .slice none 0 0] 24 (0, 0))) := ⟨by (with_reducible repeat (first | refine blk_drewN ?_ _ | refine blk_drew ?_ | refine blk_alloc ?_ _)); refine blk_far ?_ NB181_201.out _; (with_reducible repeat (first | refine blk_drewN ?_ _ | refine blk_drew ?_ | refine blk_alloc ?_ _)); refine blk_far ?_ NB181_201.out _; (with_reducible repeat (first | refine blk_drewN ?_ _ | refine blk_drew ?_ | refine blk_alloc ?_ _)); exact BK181.out⟩
           have n7_ : Aside0 (((w53.setCell ⟨gb201, 0, none⟩ (.slice Ao55 t195.length co55)).setCell ⟨gb201, 1, none⟩ (.slice Ao54 t198.length co54)).heap[gb194]? = some (.cells #[.int .i64 t186, .int .i64 t187, .int .i64 t188, .slice Ao23 t189.length co23] 26 (0, 0))) := ⟨by (with_reducible repeat (first | refine blk_drewN ?_ _ | refine blk_drew ?_ | refine blk_alloc ?_ _)); refine blk_far ?_ NB194_201.out _; (with_reducible repeat (first | refine blk_drewN ?_ _ | refine blk_drew ?_ | refine blk_alloc ?_ _)); refine blk_far ?_ NB194_201.out _; (with_reducible repeat (first | refine blk_drewN ?_ _ | refine blk_drew ?_ | refine blk_alloc ?_ _)); exact BK194.out⟩
           have n8_ : Aside0 (((w53.setCell ⟨gb201, 0, none⟩ (.slice Ao55 t195.length co55)).setCell ⟨gb201, 1, none⟩ (.slice Ao54 t198.length co54)).heap[gb201]? = some (.cells #[.slice Ao55 t195.length co55, .slice Ao54 t198.length co54] 58 (0, 0))) := ⟨by (with_reducible repeat (first | refine blk_drewN ?_ _ | refine blk_drew ?_ | refine blk_alloc ?_ _)); refine blk_put (cs := #[.slice Ao55 t195.length co55, .slice none 0 0]) ?_ 1 _ rfl; (with_reducible repeat (first | refine blk_drewN ?_ _ | refine blk_drew ?_ | refine blk_alloc ?_ _)); refine blk_put (cs := #[.slice none 0 0, .slice none 0 0]) ?_ 0 _ rfl; (with_reducible repeat (first | refine blk_drewN ?_ _ | refine blk_drew ?_ | refine blk_alloc ?_ _)); exact BK201.out⟩
           have n9_ : Aside0 (Below w.heap.size w ((w53.setCell ⟨gb201, 0, none⟩ (.slice Ao55 t195.length co55)).setCell ⟨gb201, 1, none⟩ (.slice Ao54 t198.length co54))) := ⟨by repeat (first | (with_reducible first | exact HB.out | apply below_alloc | apply pw_below_drewN | apply below_drew1 | refine below_set ?_ GE179.out | refine below_set ?_ GE180.out | refine below_set ?_ GE181.out | refine below_set ?_ GE194.out | refine below_set ?_ GE201.out) | exact HB.out)⟩
           (try clear HO_9)
           (try clear HO_195003)
           (try clear HO197)
           (try clear HO200)
           (try clear BK179)
           (try clear BK180)
           (try clear BK181)
           (try clear BK194)
           (try clear BK201)
           (try clear HB)
           generalize ((w53.setCell ⟨gb201, 0, none⟩ (.slice Ao55 t195.length co55)).setCell ⟨gb201, 1, none⟩ (.slice Ao54 t198.length co54)) = w59 at n0_ n1_ n2_ n3_ n4_ n5_ n6_ n7_ n8_ n9_ ⊢
           have HO_9 := n0_
           have HO_195003 := n1_
           have HO197 := n2_
           have HO200 := n3_
           have BK179 := n4_
           have BK180 := n5_
           have BK181 := n6_
           have BK194 := n7_
           have BK201 := n8_
           have HB := n9_
           clear n0_ n1_ n2_ n3_ n4_ n5_ n6_ n7_ n8_ n9_
           have n0_ := Aside0.mk (Kd.R_drew HO_9.out)
           have n1_ := Aside0.mk (Kd.R_drew HO_195003.out)
           have n2_ := Aside0.mk (Kd.R_drew HO197.out)
           have n3_ := Aside0.mk (Kd.R_drew HO200.out)
           have n4_ := Aside0.mk (blk_drew BK179.out)
           have n5_ := Aside0.mk (blk_drew BK180.out)
           have n6_ := Aside0.mk (blk_drew BK181.out)
           have n7_ := Aside0.mk (blk_drew BK194.out)
           have n8_ := Aside0.mk (blk_drew BK201.out)
           have n9_ := Aside0.mk (below_drew1 HB.out)
           clear HO_9
           clear HO_195003
           clear HO197
           clear HO200
           clear BK179
           clear BK180
           clear BK181
           clear BK194
           clear BK201
           clear HB
           have HO_9 := n0_
           have HO_195003 := n1_
           have HO197 := n2_
           have HO200 := n3_
           have BK179 := n4_
           have BK180 := n5_
           have BK181 := n6_
           have BK194 := n7_
           have BK201 := n8_
           have HB := n9_
           clear n0_ n1_ n2_ n3_ n4_ n5_ n6_ n7_ n8_ n9_
           have q61 : ((ji44) : Int) ≤ ((t182.length : Int) : Int) := of_decide_eq_true (by first | (with_reducible assumption) | assumption)
           obtain ⟨i061, hi061, _, hsz61, _⟩ := info_parts info5
           have hroom61 : t182.length ≤ co58 := (Kd.R_reads' HO_9.out).2.1
           have hC61 : Kd.C (Kd.int .u8) _ Ao58 t182.length t182 := (Kd.R_reads' HO_9.out).2.2
           have hcut61 := cut_to (P := Tryd.prog) 22 5 .i64 Tryd.underlying22 hi061 Ao58 t182.length co58 (ji44) (of_decide_eq_true (by first | (with_reducible assumption) | assumption)) q61 hroom61
           have hr61 := Kd.C_take (m := ((ji44) : Int).toNat) hC61 (by omega)
           have hy61 : y202.length = ((ji44) : Int).toNat := (by rw [Ny202.out, List.length_take]; omega)
           rw [← Ny202.out] at hr61
           rw [← hy61] at hcut61
           have HR205 := Aside0.mk hr61
           have HC205 := Aside0.mk (show y202.length ≤ co58 from by omega)
           clear hr61 hC61 hroom61 hi061 hsz61
           have KY61 := Aside0.mk hy61
           clear hy61
           have KL61 := Aside0.mk (show ((ji44) : Int).toNat ≤ t182.length from by omega)
           replace q61 := eq_true q61
           cases x14_38
           ·skip
            refine start_ (n := 11) (S := fun w' => True) (ds := []) #[false, false, false, false, false, false, false, false, false, false, false] (by kernel_rfl) rfl rfl trivial (fun hHeld => ?_); refine with_tabW flash_Write.tab12 flash_Write.bits12 (fun HT_ HW_ => ?_)
            generalize w59.drew = w60 at HO_9 HO_195003 HO197 HO200 BK179 BK180 BK181 BK194 BK201 HB HR205 hHeld ⊢
            refine pure_ (i := 0) (N := some 58) (v := ?_) (a' := ?_) #[true, false, false, false, false, false, false, false, false, false, false] rfl rfl (any_of HT_.out (by kernel_rfl)) (fun _ _ _ h => h) (Or.inl ⟨by rfl, ?_⟩) ?_ ?_
            rotate_left
            ·intro w'
             go_simp
             with_reducible rfl
            rotate_left
            ·simp only [Act.put, List.setIfInBounds_toArray, List.set_cons_zero, List.set_cons_succ, i64_w, i32_w]
             rfl
            refine pure_ (i := 2) (N := some 60) (v := ?_) (a' := ?_) #[true, false, true, false, false, false, false, false, false, false, false] rfl rfl (any_of HT_.out (by kernel_rfl)) (fun _ _ _ h => h) (Or.inl ⟨by rfl, ?_⟩) ?_ ?_
            rotate_left
            ·intro w'
             go_simp
             with_reducible rfl
            rotate_left
            ·simp only [Act.put, List.setIfInBounds_toArray, List.set_cons_zero, List.set_cons_succ, i64_w, i32_w]
             rfl
            refine pure_ (i := 3) (N := some 61) (v := ?_) (a' := ?_) #[true, false, true, true, false, false, false, false, false, false, false] rfl rfl (any_of HT_.out (by kernel_rfl)) (fun _ _ _ h => h) (Or.inl ⟨by rfl, ?_⟩) ?_ ?_
            rotate_left
            ·intro w'
             go_simp
             with_reducible rfl
            rotate_left
            ·simp only [Act.put, List.setIfInBounds_toArray, List.set_cons_zero, List.set_cons_succ, i64_w, i32_w]
             rfl
            refine pure_ (i := 4) (N := some 62) (v := ?_) (a' := ?_) #[true, false, true, true, true, false, false, false, false, false, false] rfl rfl (any_of HT_.out (by kernel_rfl)) (fun _ _ _ h => h) (Or.inl ⟨by rfl, ?_⟩) ?_ ?_
            rotate_left
            ·intro w'
             go_simp
             with_reducible rfl
            rotate_left
            ·simp only [Act.put, List.setIfInBounds_toArray, List.set_cons_zero, List.set_cons_succ, i64_w, i32_w]
             rfl
            refine pure_ (i := 5) (N := some 63) (v := ?_) (a' := ?_) #[true, false, true, true, true, true, false, false, false, false, false] rfl rfl (any_of HT_.out (by kernel_rfl)) (fun _ _ _ h => h) (Or.inl ⟨by rfl, ?_⟩) ?_ ?_
            rotate_left
            ·intro w'
             go_simp
             with_reducible rfl
            rotate_left
            ·simp only [Act.put, List.setIfInBounds_toArray, List.set_cons_zero, List.set_cons_succ, i64_w, i32_w]
             rfl
            refine pure_ (i := 6) (N := some 64) (v := ?_) (a' := ?_) #[true, false, true, true, true, true, true, false, false, false, false] rfl rfl (any_of HT_.out (by kernel_rfl)) (fun _ _ _ h => h) (Or.inl ⟨by rfl, ?_⟩) ?_ ?_
            rotate_left
            ·intro w'
             go_simp
             with_reducible rfl
            rotate_left
            ·simp only [Act.put, List.setIfInBounds_toArray, List.set_cons_zero, List.set_cons_succ, i64_w, i32_w]
             rfl
            refine pure_ (i := 7) (N := some 65) (v := ?_) (a' := ?_) #[true, false, true, true, true, true, true, true, false, false, false] rfl rfl (any_of HT_.out (by kernel_rfl)) (fun _ _ _ h => h) (Or.inl ⟨by rfl, ?_⟩) ?_ ?_
            rotate_left
            ·intro w'
             go_simp
             with_reducible rfl
            rotate_left
            ·simp only [Act.put, List.setIfInBounds_toArray, List.set_cons_zero, List.set_cons_succ, i64_w, i32_w]
             rfl
            refine pure_ (i := 8) (N := some 66) (v := ?_) (a' := ?_) #[true, false, true, true, true, true, true, true, true, false, false] rfl rfl (any_of HT_.out (by kernel_rfl)) (fun _ _ _ h => h) (Or.inl ⟨by rfl, ?_⟩) ?_ ?_
            rotate_left
            ·intro w'
             go_simp
             with_reducible rfl
            rotate_left
            ·simp only [Act.put, List.setIfInBounds_toArray, List.set_cons_zero, List.set_cons_succ, i64_w, i32_w]
             rfl
            refine one_ (i := 1) (N := some 59) #[true, true, true, true, true, true, true, true, true, false, false] rfl rfl (one_of HT_.out (by kernel_rfl)) (by decide) (fun K hK => ?_)
            refine goesV_ Tryd.func22 (by kernel_rfl) rfl #[.pointer (some ⟨gb201, 0, none⟩)] (by rfl) rfl rfl rfl (by (try simp only [List.map_toArray, List.map_cons, List.map_nil]); first | done | rfl) ?_
            refine (slot1_calls gb201 _).mono ?_
            rintro e w' ⟨rfl, hw'⟩
            rw [hw']
            clear hw'
            refine ⟨_, rfl, ?_⟩
            refine hK.out _ _ trivial (fun hHeld => ?_)
            clear hK K
            refine norm_ (a' := ?_) ?_ ?_
            rotate_left
            ·show Act.put _ (some 59) _ = _
             simp only [Act.put, List.setIfInBounds_toArray, List.set_cons_zero, List.set_cons_succ, i64_w, i32_w]
             rfl
            refine pure_ (i := 9) (N := some 67) (v := ?_) (a' := ?_) #[true, true, true, true, true, true, true, true, true, true, false] rfl rfl (any_of HT_.out (by kernel_rfl)) (fun _ _ _ h => h) (Or.inl ⟨by rfl, ?_⟩) ?_ ?_
            rotate_left
            ·intro w'
             go_simp
             with_reducible rfl
            rotate_left
            ·simp only [Act.put, List.setIfInBounds_toArray, List.set_cons_zero, List.set_cons_succ, i64_w, i32_w]
             rfl
            refine one_ (i := 10) (N := none) #[true, true, true, true, true, true, true, true, true, true, true] rfl rfl (one_of HT_.out (by kernel_rfl)) (by decide) (fun K hK => ?_)
            have hs900 : w60.cell? ⟨gb201, 1, none⟩ = some (.slice Ao54 t198.length co54) := (blk_cell BK201.out 1).trans rfl
            have hfs900 := blk_frozen BK201.out 1
            refine skip_ (w1 := ?_) (by rfl) rfl ?_ ?_
            rotate_left
            ·go_simp
             rfl
            refine hK.out _ _ trivial (fun hHeld => ?_)
            clear hK K
            refine done_ (done_of HT_.out (by kernel_rfl)) ?_
            have m0_ := Aside0.mk (Kd.R_far (p := ⟨gb201, 1, none⟩) (Kd.R_types HO_9.out BK201.out (by decide)) (fun _ hk => hk.2) (.slice Ao58 y202.length co58))
            have m1_ := Aside0.mk (Kd.R_far (p := ⟨gb201, 1, none⟩) (Kd.R_types HO197.out BK201.out (by decide)) (fun _ hk => hk.2) (.slice Ao58 y202.length co58))
            have m2_ : Aside0 ((w60.setCell ⟨gb201, 1, none⟩ (.slice Ao58 y202.length co58)).heap[gb201]? = some (.cells #[.slice Ao55 t195.length co55, .slice Ao58 y202.length co58] 58 (0, 0))) := ⟨blk_put (cs := #[.slice Ao55 t195.length co55, .slice Ao54 t198.length co54]) BK201.out 1 _ rfl⟩
            have m3_ : Aside0 ((w60.setCell ⟨gb201, 1, none⟩ (.slice Ao58 y202.length co58)).heap[gb181]? = some (.cells #[.slice none 0 0, .slice none 0 0] 24 (0, 0))) := ⟨blk_far BK181.out NB181_201.out _⟩
            have m4_ : Aside0 (Below w.heap.size w (w60.setCell ⟨gb201, 1, none⟩ (.slice Ao58 y202.length co58))) := ⟨below_set HB.out GE201.out⟩
            clear hs900 hfs900
            clear HO_9
            clear HO_195003
            clear HO197
            clear HO200
            clear BK179
            clear BK180
            clear BK181
            clear BK194
            clear BK201
            clear HB
            (try clear HR205)
            generalize (w60.setCell ⟨gb201, 1, none⟩ (.slice Ao58 y202.length co58)) = w901 at m0_ m1_ m2_ m3_ m4_ ⊢
            have hnb901 := NB181_201.out
            have hnc901 := NB201_181.out
            have hc900 : w901.cell? ⟨gb201, 0, none⟩ = some (.slice Ao55 t195.length co55) := (blk_cell m2_.out 0).trans rfl
            have hf900 := blk_frozen m2_.out 0
            have hc910 : w901.cell? ⟨gb181, 0, none⟩ = some (.slice none 0 0) := (blk_cell m3_.out 0).trans rfl
            have hf910 := blk_frozen m3_.out 0
            have hc901 : w901.cell? ⟨gb201, 1, none⟩ = some (.slice Ao58 y202.length co58) := (blk_cell m2_.out 1).trans rfl
            have hf901 := blk_frozen m2_.out 1
            have hc911 : w901.cell? ⟨gb181, 1, none⟩ = some (.slice none 0 0) := (blk_cell m3_.out 1).trans rfl
            have hf911 := blk_frozen m3_.out 1
            try go_wp2
            refine bodyPost_ret (results_ctt rfl _ _ gb181 24 #[.slice Ao55 t195.length co55, .slice Ao58 y202.length co58] (0, 0) _ rfl (by refine blk_put (cs := #[.slice Ao55 t195.length co55, .slice none 0 0]) ?_ 1 _ rfl; refine blk_put (cs := #[.slice none 0 0, .slice none 0 0]) ?_ 0 _ rfl; exact m3_.out) Tryd.underlying24 rfl (by kernel_rfl)) rfl ?_
            have hlen : y202.length ≤ t182.length := by rw [Ny202.out, List.length_take]; omega
            have hR := Kd.R_take m0_.out hlen
            have hq : t182.take y202.length = y202 := by rw [Ny202.out, List.length_take]; exact (List.take_eq_take_iff.2 (by omega))
            rw [hq] at hR
            refine ⟨.slice Ao55 t195.length co55, .slice Ao58 y202.length co58, by first | rfl | (simp [*]; done), Kd.R_mono (Kd.R_far (p := ⟨gb181, 1, none⟩) (Kd.R_far (p := ⟨gb181, 0, none⟩) (Kd.R_types m1_.out m3_.out (by decide)) (fun _ hk => hk.2) (.slice Ao55 t195.length co55)) (fun _ hk => hk.2) (.slice Ao58 y202.length co58)) (fun k_ hk => ?_), Kd.R_mono (Kd.R_far (p := ⟨gb181, 1, none⟩) (Kd.R_far (p := ⟨gb181, 0, none⟩) (Kd.R_types hR m3_.out (by decide)) (fun _ hk => hk.2) (.slice Ao55 t195.length co55)) (fun _ hk => hk.2) (.slice Ao58 y202.length co58)) (fun k_ hk => ?_), below_set (below_set m4_.out GE181.out) GE181.out⟩
            ·(try rw [own_len Ao58 y202.length t182.length co58])
             first | exact hk.1.1.1.1.1 | exact hk.1.1.1.1.2.1 | exact hk.1.1.1.1.2.2 | exact hk.1.1.1.1 | exact hk.1.1.1.2.1 | exact hk.1.1.1.2.2 | exact hk.1.1.1.2 | exact hk.1.1.1 | exact hk.1.1.2.1 | exact hk.1.1.2.2 | exact hk.1.1.2 | exact hk.1.1 | exact hk.1.2.1 | exact hk.1.2.2 | exact hk.1 | exact hk.2
            ·(try rw [own_len Ao58 y202.length t182.length co58])
             first | exact hk.1.1.1.1.1 | exact hk.1.1.1.1.2.1 | exact hk.1.1.1.1.2.2 | exact hk.1.1.1.1 | exact hk.1.1.1.2.1 | exact hk.1.1.1.2.2 | exact hk.1.1.1.2 | exact hk.1.1.1 | exact hk.1.1.2.1 | exact hk.1.1.2.2 | exact hk.1.1.2 | exact hk.1.1 | exact hk.1.2.1 | exact hk.1.2.2 | exact hk.1 | exact hk.2
           ·skip
            refine start_ (n := 11) (S := fun w' => True) (ds := []) #[false, false, false, false, false, false, false, false, false, false, false] (by kernel_rfl) rfl rfl trivial (fun hHeld => ?_); refine with_tabW flash_Write.tab12 flash_Write.bits12 (fun HT_ HW_ => ?_)
            generalize w59.drew = w60 at HO_9 HO_195003 HO197 HO200 BK179 BK180 BK181 BK194 BK201 HB HR205 hHeld ⊢
            refine pure_ (i := 0) (N := some 58) (v := ?_) (a' := ?_) #[true, false, false, false, false, false, false, false, false, false, false] rfl rfl (any_of HT_.out (by kernel_rfl)) (fun _ _ _ h => h) (Or.inl ⟨by rfl, ?_⟩) ?_ ?_
            rotate_left
            ·intro w'
             go_simp
             with_reducible rfl
            rotate_left
            ·simp only [Act.put, List.setIfInBounds_toArray, List.set_cons_zero, List.set_cons_succ, i64_w, i32_w]
             rfl
            refine pure_ (i := 2) (N := some 60) (v := ?_) (a' := ?_) #[true, false, true, false, false, false, false, false, false, false, false] rfl rfl (any_of HT_.out (by kernel_rfl)) (fun _ _ _ h => h) (Or.inl ⟨by rfl, ?_⟩) ?_ ?_
            rotate_left
            ·intro w'
             go_simp
             with_reducible rfl
            rotate_left
            ·simp only [Act.put, List.setIfInBounds_toArray, List.set_cons_zero, List.set_cons_succ, i64_w, i32_w]
             rfl
            refine pure_ (i := 3) (N := some 61) (v := ?_) (a' := ?_) #[true, false, true, true, false, false, false, false, false, false, false] rfl rfl (any_of HT_.out (by kernel_rfl)) (fun _ _ _ h => h) (Or.inl ⟨by rfl, ?_⟩) ?_ ?_
            rotate_left
            ·intro w'
             go_simp
             with_reducible rfl
            rotate_left
            ·simp only [Act.put, List.setIfInBounds_toArray, List.set_cons_zero, List.set_cons_succ, i64_w, i32_w]
             rfl
            refine pure_ (i := 4) (N := some 62) (v := ?_) (a' := ?_) #[true, false, true, true, true, false, false, false, false, false, false] rfl rfl (any_of HT_.out (by kernel_rfl)) (fun _ _ _ h => h) (Or.inl ⟨by rfl, ?_⟩) ?_ ?_
            rotate_left
            ·intro w'
             go_simp
             with_reducible rfl
            rotate_left
            ·simp only [Act.put, List.setIfInBounds_toArray, List.set_cons_zero, List.set_cons_succ, i64_w, i32_w]
             rfl
            refine pure_ (i := 5) (N := some 63) (v := ?_) (a' := ?_) #[true, false, true, true, true, true, false, false, false, false, false] rfl rfl (any_of HT_.out (by kernel_rfl)) (fun _ _ _ h => h) (Or.inl ⟨by rfl, ?_⟩) ?_ ?_
            rotate_left
            ·intro w'
             go_simp
             with_reducible rfl
            rotate_left
            ·simp only [Act.put, List.setIfInBounds_toArray, List.set_cons_zero, List.set_cons_succ, i64_w, i32_w]
             rfl
            refine pure_ (i := 6) (N := some 64) (v := ?_) (a' := ?_) #[true, false, true, true, true, true, true, false, false, false, false] rfl rfl (any_of HT_.out (by kernel_rfl)) (fun _ _ _ h => h) (Or.inl ⟨by rfl, ?_⟩) ?_ ?_
            rotate_left
            ·intro w'
             go_simp
             with_reducible rfl
            rotate_left
            ·simp only [Act.put, List.setIfInBounds_toArray, List.set_cons_zero, List.set_cons_succ, i64_w, i32_w]
             rfl
            refine pure_ (i := 7) (N := some 65) (v := ?_) (a' := ?_) #[true, false, true, true, true, true, true, true, false, false, false] rfl rfl (any_of HT_.out (by kernel_rfl)) (fun _ _ _ h => h) (Or.inl ⟨by rfl, ?_⟩) ?_ ?_
            rotate_left
            ·intro w'
             go_simp
             with_reducible rfl
            rotate_left
            ·simp only [Act.put, List.setIfInBounds_toArray, List.set_cons_zero, List.set_cons_succ, i64_w, i32_w]
             rfl
            refine pure_ (i := 8) (N := some 66) (v := ?_) (a' := ?_) #[true, false, true, true, true, true, true, true, true, false, false] rfl rfl (any_of HT_.out (by kernel_rfl)) (fun _ _ _ h => h) (Or.inl ⟨by rfl, ?_⟩) ?_ ?_
            rotate_left
            ·intro w'
             go_simp
             with_reducible rfl
            rotate_left
            ·simp only [Act.put, List.setIfInBounds_toArray, List.set_cons_zero, List.set_cons_succ, i64_w, i32_w]
             rfl
            refine one_ (i := 1) (N := some 59) #[true, true, true, true, true, true, true, true, true, false, false] rfl rfl (one_of HT_.out (by kernel_rfl)) (by decide) (fun K hK => ?_)
            refine goesV_ Tryd.func23 (by kernel_rfl) rfl #[.pointer (some ⟨gb201, 0, none⟩)] (by rfl) rfl rfl rfl (by (try simp only [List.map_toArray, List.map_cons, List.map_nil]); first | done | rfl) ?_
            refine (slot0_calls gb201 _).mono ?_
            rintro e w' ⟨rfl, hw'⟩
            rw [hw']
            clear hw'
            refine ⟨_, rfl, ?_⟩
            refine hK.out _ _ trivial (fun hHeld => ?_)
            clear hK K
            refine norm_ (a' := ?_) ?_ ?_
            rotate_left
            ·show Act.put _ (some 59) _ = _
             simp only [Act.put, List.setIfInBounds_toArray, List.set_cons_zero, List.set_cons_succ, i64_w, i32_w]
             rfl
            refine pure_ (i := 9) (N := some 67) (v := ?_) (a' := ?_) #[true, true, true, true, true, true, true, true, true, true, false] rfl rfl (any_of HT_.out (by kernel_rfl)) (fun _ _ _ h => h) (Or.inl ⟨by rfl, ?_⟩) ?_ ?_
            rotate_left
            ·intro w'
             go_simp
             with_reducible rfl
            rotate_left
            ·simp only [Act.put, List.setIfInBounds_toArray, List.set_cons_zero, List.set_cons_succ, i64_w, i32_w]
             rfl
            refine one_ (i := 10) (N := none) #[true, true, true, true, true, true, true, true, true, true, true] rfl rfl (one_of HT_.out (by kernel_rfl)) (by decide) (fun K hK => ?_)
            have hs900 : w60.cell? ⟨gb201, 0, none⟩ = some (.slice Ao55 t195.length co55) := (blk_cell BK201.out 0).trans rfl
            have hfs900 := blk_frozen BK201.out 0
            refine skip_ (w1 := ?_) (by rfl) rfl ?_ ?_
            rotate_left
            ·go_simp
             rfl
            refine hK.out _ _ trivial (fun hHeld => ?_)
            clear hK K
            refine done_ (done_of HT_.out (by kernel_rfl)) ?_
            have m0_ := Aside0.mk (Kd.R_far (p := ⟨gb201, 0, none⟩) (Kd.R_types HO_9.out BK201.out (by decide)) (fun _ hk => hk.2) (.slice Ao58 y202.length co58))
            have m1_ := Aside0.mk (Kd.R_far (p := ⟨gb201, 0, none⟩) (Kd.R_types HO200.out BK201.out (by decide)) (fun _ hk => hk.2) (.slice Ao58 y202.length co58))
            have m2_ : Aside0 ((w60.setCell ⟨gb201, 0, none⟩ (.slice Ao58 y202.length co58)).heap[gb201]? = some (.cells #[.slice Ao58 y202.length co58, .slice Ao54 t198.length co54] 58 (0, 0))) := ⟨blk_put (cs := #[.slice Ao55 t195.length co55, .slice Ao54 t198.length co54]) BK201.out 0 _ rfl⟩
            have m3_ : Aside0 ((w60.setCell ⟨gb201, 0, none⟩ (.slice Ao58 y202.length co58)).heap[gb181]? = some (.cells #[.slice none 0 0, .slice none 0 0] 24 (0, 0))) := ⟨blk_far BK181.out NB181_201.out _⟩
            have m4_ : Aside0 (Below w.heap.size w (w60.setCell ⟨gb201, 0, none⟩ (.slice Ao58 y202.length co58))) := ⟨below_set HB.out GE201.out⟩
            clear hs900 hfs900
            clear HO_9
            clear HO_195003
            clear HO197
            clear HO200
            clear BK179
            clear BK180
            clear BK181
            clear BK194
            clear BK201
            clear HB
            (try clear HR205)
            generalize (w60.setCell ⟨gb201, 0, none⟩ (.slice Ao58 y202.length co58)) = w901 at m0_ m1_ m2_ m3_ m4_ ⊢
            have hnb901 := NB181_201.out
            have hnc901 := NB201_181.out
            have hc900 : w901.cell? ⟨gb201, 0, none⟩ = some (.slice Ao58 y202.length co58) := (blk_cell m2_.out 0).trans rfl
            have hf900 := blk_frozen m2_.out 0
            have hc910 : w901.cell? ⟨gb181, 0, none⟩ = some (.slice none 0 0) := (blk_cell m3_.out 0).trans rfl
            have hf910 := blk_frozen m3_.out 0
            have hc901 : w901.cell? ⟨gb201, 1, none⟩ = some (.slice Ao54 t198.length co54) := (blk_cell m2_.out 1).trans rfl
            have hf901 := blk_frozen m2_.out 1
            have hc911 : w901.cell? ⟨gb181, 1, none⟩ = some (.slice none 0 0) := (blk_cell m3_.out 1).trans rfl
            have hf911 := blk_frozen m3_.out 1
            try go_wp2
            refine bodyPost_ret (results_ctt rfl _ _ gb181 24 #[.slice Ao58 y202.length co58, .slice Ao54 t198.length co54] (0, 0) _ rfl (by refine blk_put (cs := #[.slice Ao58 y202.length co58, .slice none 0 0]) ?_ 1 _ rfl; refine blk_put (cs := #[.slice none 0 0, .slice none 0 0]) ?_ 0 _ rfl; exact m3_.out) Tryd.underlying24 rfl (by kernel_rfl)) rfl ?_
            have hlen : y202.length ≤ t182.length := by rw [Ny202.out, List.length_take]; omega
            have hR := Kd.R_take m0_.out hlen
            have hq : t182.take y202.length = y202 := by rw [Ny202.out, List.length_take]; exact (List.take_eq_take_iff.2 (by omega))
            rw [hq] at hR
            refine ⟨.slice Ao58 y202.length co58, .slice Ao54 t198.length co54, by first | rfl | (simp [*]; done), Kd.R_mono (Kd.R_far (p := ⟨gb181, 1, none⟩) (Kd.R_far (p := ⟨gb181, 0, none⟩) (Kd.R_types hR m3_.out (by decide)) (fun _ hk => hk.2) (.slice Ao58 y202.length co58)) (fun _ hk => hk.2) (.slice Ao54 t198.length co54)) (fun k_ hk => ?_), Kd.R_mono (Kd.R_far (p := ⟨gb181, 1, none⟩) (Kd.R_far (p := ⟨gb181, 0, none⟩) (Kd.R_types m1_.out m3_.out (by decide)) (fun _ hk => hk.2) (.slice Ao58 y202.length co58)) (fun _ hk => hk.2) (.slice Ao54 t198.length co54)) (fun k_ hk => ?_), below_set (below_set m4_.out GE181.out) GE181.out⟩
            ·(try rw [own_len Ao58 y202.length t182.length co58])
             first | exact hk.1.1.1.1.1 | exact hk.1.1.1.1.2.1 | exact hk.1.1.1.1.2.2 | exact hk.1.1.1.1 | exact hk.1.1.1.2.1 | exact hk.1.1.1.2.2 | exact hk.1.1.1.2 | exact hk.1.1.1 | exact hk.1.1.2.1 | exact hk.1.1.2.2 | exact hk.1.1.2 | exact hk.1.1 | exact hk.1.2.1 | exact hk.1.2.2 | exact hk.1 | exact hk.2
            ·(try rw [own_len Ao58 y202.length t182.length co58])
             first | exact hk.1.1.1.1.1 | exact hk.1.1.1.1.2.1 | exact hk.1.1.1.1.2.2 | exact hk.1.1.1.1 | exact hk.1.1.1.2.1 | exact hk.1.1.1.2.2 | exact hk.1.1.1.2 | exact hk.1.1.1 | exact hk.1.1.2.1 | exact hk.1.1.2.2 | exact hk.1.1.2 | exact hk.1.1 | exact hk.1.2.1 | exact hk.1.2.2 | exact hk.1 | exact hk.2
          ·rw [if_neg c46] at H
           exact absurd H (by simp)
         ·rw [if_neg c45] at H
          exact absurd H (by simp)
 ·rw [if_neg c5] at H
  have c5b0 : (t185 == 0) = false := beq_eq_false_iff_ne.mpr c5
  have c5b1 : (t185 != 0) = true := bne_iff_ne.mpr c5
  simp only [Option.some.injEq, Prod.mk.injEq] at H
  obtain ⟨rfl, rfl, rfl, rfl⟩ := H
  go_enter Tryd.func11, Tryd.ntmps11
  go_wp2_with (first | ((with_reducible refine gate_dst (N := 3) rfl ?_); refine box_event ?hg (N := 3) ?hd (cs := #[.slice A0_0 l0_0.length c0_0, .slice A0_1 l0_1.length c0_1]) (t := 24) ?hr ?_; (case hd => rfl); (case hg => rfl); (case hr => first | (go_simp; done) | (go_simp; rfl)); intro gb179 hg w71 hbox hb; have n0_ := Aside0.mk (below_step (by repeat (first | (with_reducible first | exact HB.out | apply below_alloc | apply pw_below_drewN | apply below_drew1) | exact HB.out)) hb); have n1_ := Aside0.mk (hbox); have n2_ := Aside0.mk ((by rw [hg]; exact (below_size (by repeat (first | (with_reducible first | exact HB.out | apply below_alloc | apply pw_below_drewN | apply below_drew1) | exact HB.out))) : w.heap.size ≤ gb179)); have n3_ := Aside0.mk ((by rw [hg]; exact (below_size (by repeat (first | (with_reducible first | exact HB.out | apply below_alloc | apply pw_below_drewN | apply below_drew1) | exact HB.out))) : w.heap.size ≤ gb179)); clear HB; have HB := n0_; have BK179 := n1_; have GW179 := n2_; have GE179 := n3_; clear n0_ n1_ n2_ n3_; clear hb hbox hg) | ((with_reducible refine gate_dst (N := 4) rfl ?_); refine box_event ?hg (N := 4) ?hd (cs := #[.int .i64 a1_0, .int .i64 a1_1, .int .i64 a1_2, .slice A1_3 l1_3.length c1_3]) (t := 26) ?hr ?_; (case hd => rfl); (case hg => rfl); (case hr => first | (go_simp; done) | (go_simp; rfl)); intro gb180 hg w72 hbox hb; have n0_ := Aside0.mk (blk_below (g := gb179) (o := .cells #[.slice A0_0 l0_0.length c0_0, .slice A0_1 l0_1.length c0_1] 24 (0, 0)) (by (with_reducible repeat (first | refine blk_drewN ?_ _ | refine blk_drew ?_ | refine blk_alloc ?_ _)); exact BK179.out) hb); have n1_ := Aside0.mk (below_step (by repeat (first | (with_reducible first | exact HB.out | apply below_alloc | apply pw_below_drewN | apply below_drew1 | refine below_set ?_ GE179.out) | exact HB.out)) hb); have n2_ := Aside0.mk (hbox); have n3_ := Aside0.mk ((by rw [hg]; exact (below_size (by repeat (first | (with_reducible first | exact HB.out | apply below_alloc | apply pw_below_drewN | apply below_drew1 | refine below_set ?_ GE179.out) | exact HB.out))) : w.heap.size ≤ gb180)); have n4_ := Aside0.mk ((by rw [hg]; exact (below_size (by repeat (first | (with_reducible first | exact HB.out | apply below_alloc | apply pw_below_drewN | apply below_drew1 | refine below_set ?_ GE179.out) | exact HB.out))) : w.heap.size ≤ gb180)); have n5_ := Aside0.mk ((by rw [hg]; exact Nat.ne_of_lt (blk_lt (g := gb179) (o := .cells #[.slice A0_0 l0_0.length c0_0, .slice A0_1 l0_1.length c0_1] 24 (0, 0)) (by (with_reducible repeat (first | refine blk_drewN ?_ _ | refine blk_drew ?_ | refine blk_alloc ?_ _)); exact BK179.out)) : gb179 ≠ gb180)); have n6_ := Aside0.mk ((by rw [hg]; exact Nat.ne_of_gt (blk_lt (g := gb179) (o := .cells #[.slice A0_0 l0_0.length c0_0, .slice A0_1 l0_1.length c0_1] 24 (0, 0)) (by (with_reducible repeat (first | refine blk_drewN ?_ _ | refine blk_drew ?_ | refine blk_alloc ?_ _)); exact BK179.out)) : gb180 ≠ gb179)); clear BK179; clear HB; have BK179 := n0_; have HB := n1_; have BK180 := n2_; have GW180 := n3_; have GE180 := n4_; have NB179_180 := n5_; have NB180_179 := n6_; clear n0_ n1_ n2_ n3_ n4_ n5_ n6_; clear hb hbox hg) | ((with_reducible refine gate_dst (N := 6) rfl ?_); refine box_event ?hg (N := 6) ?hd (cs := #[.slice none 0 0, .slice none 0 0]) (t := 24) ?hr ?_; (case hd => rfl); (case hg => rfl); (case hr => first | (go_simp; done) | (go_simp; rfl)); intro gb181 hg w73 hbox hb; have n0_ := Aside0.mk (blk_below (g := gb179) (o := .cells #[.slice A0_0 l0_0.length c0_0, .slice A0_1 l0_1.length c0_1] 24 (0, 0)) (by (with_reducible repeat (first | refine blk_drewN ?_ _ | refine blk_drew ?_ | refine blk_alloc ?_ _)); exact BK179.out) hb); have n1_ := Aside0.mk (blk_below (g := gb180) (o := .cells #[.int .i64 a1_0, .int .i64 a1_1, .int .i64 a1_2, .slice A1_3 l1_3.length c1_3] 26 (0, 0)) (by (with_reducible repeat (first | refine blk_drewN ?_ _ | refine blk_drew ?_ | refine blk_alloc ?_ _)); exact BK180.out) hb); have n2_ := Aside0.mk (below_step (by repeat (first | (with_reducible first | exact HB.out | apply below_alloc | apply pw_below_drewN | apply below_drew1 | refine below_set ?_ GE179.out | refine below_set ?_ GE180.out) | exact HB.out)) hb); have n3_ := Aside0.mk (hbox); have n4_ := Aside0.mk ((by rw [hg]; exact (below_size (by repeat (first | (with_reducible first | exact HB.out | apply below_alloc | apply pw_below_drewN | apply below_drew1 | refine below_set ?_ GE179.out | refine below_set ?_ GE180.out) | exact HB.out))) : w.heap.size ≤ gb181)); have n5_ := Aside0.mk ((by rw [hg]; exact (below_size (by repeat (first | (with_reducible first | exact HB.out | apply below_alloc | apply pw_below_drewN | apply below_drew1 | refine below_set ?_ GE179.out | refine below_set ?_ GE180.out) | exact HB.out))) : w.heap.size ≤ gb181)); have n6_ := Aside0.mk ((by rw [hg]; exact Nat.ne_of_lt (blk_lt (g := gb179) (o := .cells #[.slice A0_0 l0_0.length c0_0, .slice A0_1 l0_1.length c0_1] 24 (0, 0)) (by (with_reducible repeat (first | refine blk_drewN ?_ _ | refine blk_drew ?_ | refine blk_alloc ?_ _)); exact BK179.out)) : gb179 ≠ gb181)); have n7_ := Aside0.mk ((by rw [hg]; exact Nat.ne_of_gt (blk_lt (g := gb179) (o := .cells #[.slice A0_0 l0_0.length c0_0, .slice A0_1 l0_1.length c0_1] 24 (0, 0)) (by (with_reducible repeat (first | refine blk_drewN ?_ _ | refine blk_drew ?_ | refine blk_alloc ?_ _)); exact BK179.out)) : gb181 ≠ gb179)); have n8_ := Aside0.mk ((by rw [hg]; exact Nat.ne_of_lt (blk_lt (g := gb180) (o := .cells #[.int .i64 a1_0, .int .i64 a1_1, .int .i64 a1_2, .slice A1_3 l1_3.length c1_3] 26 (0, 0)) (by (with_reducible repeat (first | refine blk_drewN ?_ _ | refine blk_drew ?_ | refine blk_alloc ?_ _)); exact BK180.out)) : gb180 ≠ gb181)); have n9_ := Aside0.mk ((by rw [hg]; exact Nat.ne_of_gt (blk_lt (g := gb180) (o := .cells #[.int .i64 a1_0, .int .i64 a1_1, .int .i64 a1_2, .slice A1_3 l1_3.length c1_3] 26 (0, 0)) (by (with_reducible repeat (first | refine blk_drewN ?_ _ | refine blk_drew ?_ | refine blk_alloc ?_ _)); exact BK180.out)) : gb181 ≠ gb180)); clear BK179; clear BK180; clear HB; have BK179 := n0_; have BK180 := n1_; have HB := n2_; have BK181 := n3_; have GW181 := n4_; have GE181 := n5_; have NB179_181 := n6_; have NB181_179 := n7_; have NB180_181 := n8_; have NB181_180 := n9_; clear n0_ n1_ n2_ n3_ n4_ n5_ n6_ n7_ n8_ n9_; clear hb hbox hg; have hnb74 := NB180_179.out; have hnc74 := NB179_180.out; have hnb75 := NB180_181.out; have hnc75 := NB181_180.out; have hcz76_0 : w73.cell? ⟨gb180, 0, none⟩ = some (.int .i64 a1_0) := (blk_cell BK180.out 0).trans rfl; have hcz76_1 : w73.cell? ⟨gb180, 1, none⟩ = some (.int .i64 a1_1) := (blk_cell BK180.out 1).trans rfl; have hcz76_2 : w73.cell? ⟨gb180, 2, none⟩ = some (.int .i64 a1_2) := (blk_cell BK180.out 2).trans rfl; have hcz76_3 : w73.cell? ⟨gb180, 3, none⟩ = some (.slice A1_3 l1_3.length c1_3) := (blk_cell BK180.out 3).trans rfl; have hfz76_0 := blk_frozen BK180.out 0; have hfz76_1 := blk_frozen BK180.out 1; have hfz76_2 := blk_frozen BK180.out 2; have hfz76_3 := blk_frozen BK180.out 3) | ((with_reducible refine gate_callee (f := 18) rfl ?_); refine goesL_ (some 19) rfl rfl Tryd.func18 (by kernel_rfl) rfl #[.agg #[.int .i64 a1_0, .int .i64 a1_1, .int .i64 a1_2, .slice A1_3 l1_3.length c1_3]] rfl (by (try simp only [List.map_toArray, List.map_cons, List.map_nil]); first | done | rfl | (simp only [List.length_drop, List.length_take]; rfl)) ?_; (with_reducible refine (flash_Code.calls k a1_0 a1_1 a1_2 _ _ l1_3 t182 t185 _ ?side1 ?side2 A4.out (by first | exact HTAB.out | ((repeat (first | exact HTAB.out | (with_reducible refine Laid.tab_alloc ?_ _) | (with_reducible refine Laid.tab_drewN ?_ _) | (with_reducible refine Laid.tab_drew ?_))); done) | (refine Laid.tab_below' HTAB.out ?_; (repeat (first | (with_reducible first | exact HB.out | apply below_alloc | apply pw_below_drewN | apply below_drew1) | exact HB.out | (refine below_set ?_ (Aside0.out (by assumption)))))))).mono ?_); (case side1 => repeat (first | exact (Kd.C_below HR1_3.out HB.out) | (with_reducible refine Kd.C_alloc ?_ _) | (with_reducible refine Kd.C_drewN ?_ _) | (with_reducible refine Kd.C_drew ?_))); (case side2 => exact HC1_3.out); rintro e w77 ⟨v183, rfl, ho0, hb⟩; refine ⟨_, rfl, ?_⟩; have n0_ := Aside0.mk (Kd.R_lower ho0 (below_size (by repeat (first | (with_reducible first | exact HB.out | apply below_alloc | apply pw_below_drewN | apply below_drew1 | refine below_set ?_ GE179.out | refine below_set ?_ GE180.out | refine below_set ?_ GE181.out) | exact HB.out)))); have n1_ := Aside0.mk (blk_below (g := gb179) (o := .cells #[.slice A0_0 l0_0.length c0_0, .slice A0_1 l0_1.length c0_1] 24 (0, 0)) (by (with_reducible repeat (first | refine blk_drewN ?_ _ | refine blk_drew ?_ | refine blk_alloc ?_ _)); exact BK179.out) hb); have n2_ := Aside0.mk (blk_below (g := gb180) (o := .cells #[.int .i64 a1_0, .int .i64 a1_1, .int .i64 a1_2, .slice A1_3 l1_3.length c1_3] 26 (0, 0)) (by (with_reducible repeat (first | refine blk_drewN ?_ _ | refine blk_drew ?_ | refine blk_alloc ?_ _)); exact BK180.out) hb); have n3_ := Aside0.mk (blk_below (g := gb181) (o := .cells #[.slice none 0 0, .slice none 0 0] 24 (0, 0)) (by (with_reducible repeat (first | refine blk_drewN ?_ _ | refine blk_drew ?_ | refine blk_alloc ?_ _)); exact BK181.out) hb); have n4_ := Aside0.mk (below_step (by repeat (first | (with_reducible first | exact HB.out | apply below_alloc | apply pw_below_drewN | apply below_drew1 | refine below_set ?_ GE179.out | refine below_set ?_ GE180.out | refine below_set ?_ GE181.out) | exact HB.out)) hb); clear BK179; clear BK180; clear BK181; clear HB; have HO184 := n0_; have BK179 := n1_; have BK180 := n2_; have BK181 := n3_; have HB := n4_; clear n0_ n1_ n2_ n3_ n4_; (try clear hb); (try clear hb2); (try clear hk); (try clear hi); (try clear ho0); have hnb78 := NB181_179.out; have hnc78 := NB179_181.out; have hcz79_0 : w77.cell? ⟨gb181, 0, none⟩ = some (.slice none 0 0) := (blk_cell BK181.out 0).trans rfl; have hcz79_1 : w77.cell? ⟨gb181, 1, none⟩ = some (.slice none 0 0) := (blk_cell BK181.out 1).trans rfl; have hfz79_0 := blk_frozen BK181.out 0; have hfz79_1 := blk_frozen BK181.out 1))
  refine bodyPost_ret (results_ctt rfl _ _ gb181 24 #[.slice none 0 0, .slice none 0 0] (0, 0) _ rfl (by (with_reducible repeat (first | refine blk_drewN ?_ _ | refine blk_drew ?_ | refine blk_alloc ?_ _)); refine blk_put (cs := #[.slice none 0 0, .slice none 0 0]) ?_ 1 _ rfl; (with_reducible repeat (first | refine blk_drewN ?_ _ | refine blk_drew ?_ | refine blk_alloc ?_ _)); refine blk_put (cs := #[.slice none 0 0, .slice none 0 0]) ?_ 0 _ rfl; (with_reducible repeat (first | refine blk_drewN ?_ _ | refine blk_drew ?_ | refine blk_alloc ?_ _)); exact BK181.out) Tryd.underlying24 rfl (by kernel_rfl)) rfl ?_
  exact ⟨_, _, by first | rfl | (simp [errW_none, errW_some] <;> rfl) | (simp [*, errW_none, errW_some] <;> rfl), by first | exact Kd.R_nil _ _ _ _ _ | exact Kd.N_nil _ _ _ _ _ | exact Kd.V_nil _ _ _ _ _ | exact Kd.Q_nil _ _ _ _ _ | exact Kd.S_nil _ _ _ _ _, by first | exact Kd.R_nil _ _ _ _ _ | exact Kd.N_nil _ _ _ _ _ | exact Kd.V_nil _ _ _ _ _ | exact Kd.Q_nil _ _ _ _ _ | exact Kd.S_nil _ _ _ _ _, by repeat (first | (with_reducible first | exact HB.out | apply below_alloc | apply pw_below_drewN | apply below_drew1 | refine below_set ?_ GE179.out | refine below_set ?_ GE180.out | refine below_set ?_ GE181.out) | exact HB.out)⟩

end Go.Proofs.YtickbejailcehaaDoor.C

-- Written by a program of this session (wip/pp: the kit's print, changed), out of the translation. Lean checks it.
namespace Go.Proofs.YtickbejailcehaaDoor.C
open Go.RowKit Go.Proofs.YtickbejailcehaaDoorW.PrintWords Go.Proofs.YtickbejailcehaaDoorW.PrintLast Go.Proofs.YtickbejailcehaaDoorW.PrintMore
attribute [local go_sem] max2_int min2_int max_two min_two max_three min_three max_four min_four   -- for this text's walks alone
set_option linter.unusedVariables false
set_option linter.unusedSimpArgs false

/-! ### newelref12_Same: function 16 -/
def newelref12_Same.f (k : Nat) (a0_0 : Int) (a0_1 : Int) (a0_2 : Int) (l0_3 : List Int) (a1_0 : Int) (a1_1 : Int) (a1_2 : Int) (l1_3 : List Int) : Option (Bool) := if a0_0 = a1_0 then (if a0_1 = a1_1 then (if a0_2 = a1_2 then ((newelref08_Same.f k l0_3 l1_3).bind fun t367 => (some t367)) else (some false)) else (some false)) else (some false)
theorem newelref12_Same.mono : ∀ a0 a1 a2 a3 a4 a5 a6 a7 k, LeO (newelref12_Same.f k a0 a1 a2 a3 a4 a5 a6 a7) (newelref12_Same.f (k + 1) a0 a1 a2 a3 a4 a5 a6 a7) := by
 intro a0 a1 a2 a3 a4 a5 a6 a7 k
 unfold newelref12_Same.f
 repeat' first
   | (with_reducible exact newelref08_Same.mono _ _ _)
   | (with_reducible exact LeO.refl _)
   | (with_reducible exact LeO.none _)
   | (with_reducible refine LeO.ite ?_ ?_)
   | (with_reducible refine LeO.bind ?_ (fun _ => ?_))
   | exact newelref08_Same.mono _ _ _
   | exact LeO.none _
   | refine LeO.ite ?_ ?_
   | refine LeO.bind ?_ (fun _ => ?_)
set_option maxHeartbeats 8000000 in
set_option maxRecDepth 100000 in
theorem newelref12_Same.calls (k : Nat) (a0_0 : Int) (a0_1 : Int) (a0_2 : Int) (A0_3 : Option Addr) (c0_3 : Nat) (l0_3 : List Int) (a1_0 : Int) (a1_1 : Int) (a1_2 : Int) (A1_3 : Option Addr) (c1_3 : Nat) (l1_3 : List Int) (r : Bool) (w : World) (hr0_3 : Kd.C (Kd.int .u8) w A0_3 l0_3.length l0_3) (hc0_3 : l0_3.length ≤ c0_3) (hr1_3 : Kd.C (Kd.int .u8) w A1_3 l1_3.length l1_3) (hc1_3 : l1_3.length ≤ c1_3) (h : newelref12_Same.f k a0_0 a0_1 a0_2 l0_3 a1_0 a1_1 a1_2 l1_3 = some r) :
  Calls Tryd.prog 16 #[.agg #[.int .i64 a0_0, .int .i64 a0_1, .int .i64 a0_2, .slice A0_3 l0_3.length c0_3], .agg #[.int .i64 a1_0, .int .i64 a1_1, .int .i64 a1_2, .slice A1_3 l1_3.length c1_3]] w fun e w' => e = .returned (.bool r) ∧ Below w.heap.size w w' := by
 have hu26 := Tryd.underlying26
 have HR0_3 := Aside0.mk hr0_3
 have HC0_3 := Aside0.mk hc0_3
 clear hr0_3 hc0_3
 have HR1_3 := Aside0.mk hr1_3
 have HC1_3 := Aside0.mk hc1_3
 clear hr1_3 hc1_3
 have HB := Aside0.mk (Below.refl w.heap.size w)
 have H : (if a0_0 = a1_0 then (if a0_1 = a1_1 then (if a0_2 = a1_2 then ((newelref08_Same.f k l0_3 l1_3).bind fun t367 => (some t367)) else (some false)) else (some false)) else (some false)) = some r := h
 clear h
 by_cases c3 : a0_0 = a1_0
 ·rw [if_pos c3] at H
  have c3b0 : (a0_0 == a1_0) = true := beq_iff_eq.mpr c3
  have c3b1 : (a0_0 != a1_0) = false := bne_eq_false_iff_eq.mpr c3
  clear c3
  by_cases c4 : a0_1 = a1_1
  ·rw [if_pos c4] at H
   have c4b0 : (a0_1 == a1_1) = true := beq_iff_eq.mpr c4
   have c4b1 : (a0_1 != a1_1) = false := bne_eq_false_iff_eq.mpr c4
   clear c4
   by_cases c5 : a0_2 = a1_2
   ·rw [if_pos c5] at H
    have c5b0 : (a0_2 == a1_2) = true := beq_iff_eq.mpr c5
    have c5b1 : (a0_2 != a1_2) = false := bne_eq_false_iff_eq.mpr c5
    clear c5
    replace H := Option.bind_eq_some_iff.mp H
    obtain ⟨t367, A60, H⟩ := H
    replace H : (some t367) = some r := H
    have A6 := Aside0.mk A60
    clear A60
    obtain rfl := Option.some.inj H
    go_enter Tryd.func16, Tryd.ntmps16
    go_wp2_with (first | ((with_reducible refine gate_dst (N := 2) rfl ?_); refine box_event ?hg (N := 2) ?hd (cs := #[.int .i64 a0_0, .int .i64 a0_1, .int .i64 a0_2, .slice A0_3 l0_3.length c0_3]) (t := 26) ?hr ?_; (case hd => rfl); (case hg => rfl); (case hr => first | (go_simp; done) | (go_simp; rfl)); intro gb365 hg w7 hbox hb; have n0_ := Aside0.mk (below_step (by repeat (first | (with_reducible first | exact HB.out | apply below_alloc | apply pw_below_drewN | apply below_drew1) | exact HB.out)) hb); have n1_ := Aside0.mk (hbox); have n2_ := Aside0.mk ((by rw [hg]; exact (below_size (by repeat (first | (with_reducible first | exact HB.out | apply below_alloc | apply pw_below_drewN | apply below_drew1) | exact HB.out))) : w.heap.size ≤ gb365)); have n3_ := Aside0.mk ((by rw [hg]; exact (below_size (by repeat (first | (with_reducible first | exact HB.out | apply below_alloc | apply pw_below_drewN | apply below_drew1) | exact HB.out))) : w.heap.size ≤ gb365)); clear HB; have HB := n0_; have BK365 := n1_; have GW365 := n2_; have GE365 := n3_; clear n0_ n1_ n2_ n3_; clear hb hbox hg) | ((with_reducible refine gate_dst (N := 3) rfl ?_); refine box_event ?hg (N := 3) ?hd (cs := #[.int .i64 a1_0, .int .i64 a1_1, .int .i64 a1_2, .slice A1_3 l1_3.length c1_3]) (t := 26) ?hr ?_; (case hd => rfl); (case hg => rfl); (case hr => first | (go_simp; done) | (go_simp; rfl)); intro gb366 hg w8 hbox hb; have n0_ := Aside0.mk (blk_below (g := gb365) (o := .cells #[.int .i64 a0_0, .int .i64 a0_1, .int .i64 a0_2, .slice A0_3 l0_3.length c0_3] 26 (0, 0)) (by (with_reducible repeat (first | refine blk_drewN ?_ _ | refine blk_drew ?_ | refine blk_alloc ?_ _)); exact BK365.out) hb); have n1_ := Aside0.mk (below_step (by repeat (first | (with_reducible first | exact HB.out | apply below_alloc | apply pw_below_drewN | apply below_drew1 | refine below_set ?_ GE365.out) | exact HB.out)) hb); have n2_ := Aside0.mk (hbox); have n3_ := Aside0.mk ((by rw [hg]; exact (below_size (by repeat (first | (with_reducible first | exact HB.out | apply below_alloc | apply pw_below_drewN | apply below_drew1 | refine below_set ?_ GE365.out) | exact HB.out))) : w.heap.size ≤ gb366)); have n4_ := Aside0.mk ((by rw [hg]; exact (below_size (by repeat (first | (with_reducible first | exact HB.out | apply below_alloc | apply pw_below_drewN | apply below_drew1 | refine below_set ?_ GE365.out) | exact HB.out))) : w.heap.size ≤ gb366)); have n5_ := Aside0.mk ((by rw [hg]; exact Nat.ne_of_lt (blk_lt (g := gb365) (o := .cells #[.int .i64 a0_0, .int .i64 a0_1, .int .i64 a0_2, .slice A0_3 l0_3.length c0_3] 26 (0, 0)) (by (with_reducible repeat (first | refine blk_drewN ?_ _ | refine blk_drew ?_ | refine blk_alloc ?_ _)); exact BK365.out)) : gb365 ≠ gb366)); have n6_ := Aside0.mk ((by rw [hg]; exact Nat.ne_of_gt (blk_lt (g := gb365) (o := .cells #[.int .i64 a0_0, .int .i64 a0_1, .int .i64 a0_2, .slice A0_3 l0_3.length c0_3] 26 (0, 0)) (by (with_reducible repeat (first | refine blk_drewN ?_ _ | refine blk_drew ?_ | refine blk_alloc ?_ _)); exact BK365.out)) : gb366 ≠ gb365)); clear BK365; clear HB; have BK365 := n0_; have HB := n1_; have BK366 := n2_; have GW366 := n3_; have GE366 := n4_; have NB365_366 := n5_; have NB366_365 := n6_; clear n0_ n1_ n2_ n3_ n4_ n5_ n6_; clear hb hbox hg; have hnb9 := NB365_366.out; have hnc9 := NB366_365.out; have hcz10_0 : w8.cell? ⟨gb365, 0, none⟩ = some (.int .i64 a0_0) := (blk_cell BK365.out 0).trans rfl; have hcz10_1 : w8.cell? ⟨gb365, 1, none⟩ = some (.int .i64 a0_1) := (blk_cell BK365.out 1).trans rfl; have hcz10_2 : w8.cell? ⟨gb365, 2, none⟩ = some (.int .i64 a0_2) := (blk_cell BK365.out 2).trans rfl; have hcz10_3 : w8.cell? ⟨gb365, 3, none⟩ = some (.slice A0_3 l0_3.length c0_3) := (blk_cell BK365.out 3).trans rfl; have hfz10_0 := blk_frozen BK365.out 0; have hfz10_1 := blk_frozen BK365.out 1; have hfz10_2 := blk_frozen BK365.out 2; have hfz10_3 := blk_frozen BK365.out 3; have hcz11_0 : w8.cell? ⟨gb366, 0, none⟩ = some (.int .i64 a1_0) := (blk_cell BK366.out 0).trans rfl; have hcz11_1 : w8.cell? ⟨gb366, 1, none⟩ = some (.int .i64 a1_1) := (blk_cell BK366.out 1).trans rfl; have hcz11_2 : w8.cell? ⟨gb366, 2, none⟩ = some (.int .i64 a1_2) := (blk_cell BK366.out 2).trans rfl; have hcz11_3 : w8.cell? ⟨gb366, 3, none⟩ = some (.slice A1_3 l1_3.length c1_3) := (blk_cell BK366.out 3).trans rfl; have hfz11_0 := blk_frozen BK366.out 0; have hfz11_1 := blk_frozen BK366.out 1; have hfz11_2 := blk_frozen BK366.out 2; have hfz11_3 := blk_frozen BK366.out 3) | (go_at_call 17; (with_reducible refine (newelref08_Same.calls k _ _ l0_3 _ _ l1_3 t367 _ ?side1 ?side2 ?side3 ?side4 A6.out).mono ?_); (case side1 => repeat (first | exact (Kd.C_below HR0_3.out HB.out) | (with_reducible refine Kd.C_alloc ?_ _) | (with_reducible refine Kd.C_drewN ?_ _) | (with_reducible refine Kd.C_drew ?_))); (case side2 => exact HC0_3.out); (case side3 => repeat (first | exact (Kd.C_below HR1_3.out HB.out) | (with_reducible refine Kd.C_alloc ?_ _) | (with_reducible refine Kd.C_drewN ?_ _) | (with_reducible refine Kd.C_drew ?_))); (case side4 => exact HC1_3.out); rintro e w' ⟨rfl, ⟨nd, rfl⟩⟩))
    go_ret
    exact ⟨by first | rfl | (simp [errW_none, errW_some] <;> rfl) | (simp [*, errW_none, errW_some] <;> rfl), by repeat (first | (with_reducible first | exact HB.out | apply below_alloc | apply pw_below_drewN | apply below_drew1 | refine below_set ?_ GE365.out | refine below_set ?_ GE366.out) | exact HB.out)⟩
   ·rw [if_neg c5] at H
    have c5b0 : (a0_2 == a1_2) = false := beq_eq_false_iff_ne.mpr c5
    have c5b1 : (a0_2 != a1_2) = true := bne_iff_ne.mpr c5
    obtain rfl := Option.some.inj H
    go_enter Tryd.func16, Tryd.ntmps16
    go_wp2_with (first | ((with_reducible refine gate_dst (N := 2) rfl ?_); refine box_event ?hg (N := 2) ?hd (cs := #[.int .i64 a0_0, .int .i64 a0_1, .int .i64 a0_2, .slice A0_3 l0_3.length c0_3]) (t := 26) ?hr ?_; (case hd => rfl); (case hg => rfl); (case hr => first | (go_simp; done) | (go_simp; rfl)); intro gb365 hg w12 hbox hb; have n0_ := Aside0.mk (below_step (by repeat (first | (with_reducible first | exact HB.out | apply below_alloc | apply pw_below_drewN | apply below_drew1) | exact HB.out)) hb); have n1_ := Aside0.mk (hbox); have n2_ := Aside0.mk ((by rw [hg]; exact (below_size (by repeat (first | (with_reducible first | exact HB.out | apply below_alloc | apply pw_below_drewN | apply below_drew1) | exact HB.out))) : w.heap.size ≤ gb365)); have n3_ := Aside0.mk ((by rw [hg]; exact (below_size (by repeat (first | (with_reducible first | exact HB.out | apply below_alloc | apply pw_below_drewN | apply below_drew1) | exact HB.out))) : w.heap.size ≤ gb365)); clear HB; have HB := n0_; have BK365 := n1_; have GW365 := n2_; have GE365 := n3_; clear n0_ n1_ n2_ n3_; clear hb hbox hg) | ((with_reducible refine gate_dst (N := 3) rfl ?_); refine box_event ?hg (N := 3) ?hd (cs := #[.int .i64 a1_0, .int .i64 a1_1, .int .i64 a1_2, .slice A1_3 l1_3.length c1_3]) (t := 26) ?hr ?_; (case hd => rfl); (case hg => rfl); (case hr => first | (go_simp; done) | (go_simp; rfl)); intro gb366 hg w13 hbox hb; have n0_ := Aside0.mk (blk_below (g := gb365) (o := .cells #[.int .i64 a0_0, .int .i64 a0_1, .int .i64 a0_2, .slice A0_3 l0_3.length c0_3] 26 (0, 0)) (by (with_reducible repeat (first | refine blk_drewN ?_ _ | refine blk_drew ?_ | refine blk_alloc ?_ _)); exact BK365.out) hb); have n1_ := Aside0.mk (below_step (by repeat (first | (with_reducible first | exact HB.out | apply below_alloc | apply pw_below_drewN | apply below_drew1 | refine below_set ?_ GE365.out) | exact HB.out)) hb); have n2_ := Aside0.mk (hbox); have n3_ := Aside0.mk ((by rw [hg]; exact (below_size (by repeat (first | (with_reducible first | exact HB.out | apply below_alloc | apply pw_below_drewN | apply below_drew1 | refine below_set ?_ GE365.out) | exact HB.out))) : w.heap.size ≤ gb366)); have n4_ := Aside0.mk ((by rw [hg]; exact (below_size (by repeat (first | (with_reducible first | exact HB.out | apply below_alloc | apply pw_below_drewN | apply below_drew1 | refine below_set ?_ GE365.out) | exact HB.out))) : w.heap.size ≤ gb366)); have n5_ := Aside0.mk ((by rw [hg]; exact Nat.ne_of_lt (blk_lt (g := gb365) (o := .cells #[.int .i64 a0_0, .int .i64 a0_1, .int .i64 a0_2, .slice A0_3 l0_3.length c0_3] 26 (0, 0)) (by (with_reducible repeat (first | refine blk_drewN ?_ _ | refine blk_drew ?_ | refine blk_alloc ?_ _)); exact BK365.out)) : gb365 ≠ gb366)); have n6_ := Aside0.mk ((by rw [hg]; exact Nat.ne_of_gt (blk_lt (g := gb365) (o := .cells #[.int .i64 a0_0, .int .i64 a0_1, .int .i64 a0_2, .slice A0_3 l0_3.length c0_3] 26 (0, 0)) (by (with_reducible repeat (first | refine blk_drewN ?_ _ | refine blk_drew ?_ | refine blk_alloc ?_ _)); exact BK365.out)) : gb366 ≠ gb365)); clear BK365; clear HB; have BK365 := n0_; have HB := n1_; have BK366 := n2_; have GW366 := n3_; have GE366 := n4_; have NB365_366 := n5_; have NB366_365 := n6_; clear n0_ n1_ n2_ n3_ n4_ n5_ n6_; clear hb hbox hg; have hnb14 := NB365_366.out; have hnc14 := NB366_365.out; have hcz15_0 : w13.cell? ⟨gb365, 0, none⟩ = some (.int .i64 a0_0) := (blk_cell BK365.out 0).trans rfl; have hcz15_1 : w13.cell? ⟨gb365, 1, none⟩ = some (.int .i64 a0_1) := (blk_cell BK365.out 1).trans rfl; have hcz15_2 : w13.cell? ⟨gb365, 2, none⟩ = some (.int .i64 a0_2) := (blk_cell BK365.out 2).trans rfl; have hcz15_3 : w13.cell? ⟨gb365, 3, none⟩ = some (.slice A0_3 l0_3.length c0_3) := (blk_cell BK365.out 3).trans rfl; have hfz15_0 := blk_frozen BK365.out 0; have hfz15_1 := blk_frozen BK365.out 1; have hfz15_2 := blk_frozen BK365.out 2; have hfz15_3 := blk_frozen BK365.out 3; have hcz16_0 : w13.cell? ⟨gb366, 0, none⟩ = some (.int .i64 a1_0) := (blk_cell BK366.out 0).trans rfl; have hcz16_1 : w13.cell? ⟨gb366, 1, none⟩ = some (.int .i64 a1_1) := (blk_cell BK366.out 1).trans rfl; have hcz16_2 : w13.cell? ⟨gb366, 2, none⟩ = some (.int .i64 a1_2) := (blk_cell BK366.out 2).trans rfl; have hcz16_3 : w13.cell? ⟨gb366, 3, none⟩ = some (.slice A1_3 l1_3.length c1_3) := (blk_cell BK366.out 3).trans rfl; have hfz16_0 := blk_frozen BK366.out 0; have hfz16_1 := blk_frozen BK366.out 1; have hfz16_2 := blk_frozen BK366.out 2; have hfz16_3 := blk_frozen BK366.out 3))
    go_ret
    exact ⟨by first | rfl | (simp [errW_none, errW_some] <;> rfl) | (simp [*, errW_none, errW_some] <;> rfl), by repeat (first | (with_reducible first | exact HB.out | apply below_alloc | apply pw_below_drewN | apply below_drew1 | refine below_set ?_ GE365.out | refine below_set ?_ GE366.out) | exact HB.out)⟩
  ·rw [if_neg c4] at H
   have c4b0 : (a0_1 == a1_1) = false := beq_eq_false_iff_ne.mpr c4
   have c4b1 : (a0_1 != a1_1) = true := bne_iff_ne.mpr c4
   obtain rfl := Option.some.inj H
   go_enter Tryd.func16, Tryd.ntmps16
   go_wp2_with (first | ((with_reducible refine gate_dst (N := 2) rfl ?_); refine box_event ?hg (N := 2) ?hd (cs := #[.int .i64 a0_0, .int .i64 a0_1, .int .i64 a0_2, .slice A0_3 l0_3.length c0_3]) (t := 26) ?hr ?_; (case hd => rfl); (case hg => rfl); (case hr => first | (go_simp; done) | (go_simp; rfl)); intro gb365 hg w17 hbox hb; have n0_ := Aside0.mk (below_step (by repeat (first | (with_reducible first | exact HB.out | apply below_alloc | apply pw_below_drewN | apply below_drew1) | exact HB.out)) hb); have n1_ := Aside0.mk (hbox); have n2_ := Aside0.mk ((by rw [hg]; exact (below_size (by repeat (first | (with_reducible first | exact HB.out | apply below_alloc | apply pw_below_drewN | apply below_drew1) | exact HB.out))) : w.heap.size ≤ gb365)); have n3_ := Aside0.mk ((by rw [hg]; exact (below_size (by repeat (first | (with_reducible first | exact HB.out | apply below_alloc | apply pw_below_drewN | apply below_drew1) | exact HB.out))) : w.heap.size ≤ gb365)); clear HB; have HB := n0_; have BK365 := n1_; have GW365 := n2_; have GE365 := n3_; clear n0_ n1_ n2_ n3_; clear hb hbox hg) | ((with_reducible refine gate_dst (N := 3) rfl ?_); refine box_event ?hg (N := 3) ?hd (cs := #[.int .i64 a1_0, .int .i64 a1_1, .int .i64 a1_2, .slice A1_3 l1_3.length c1_3]) (t := 26) ?hr ?_; (case hd => rfl); (case hg => rfl); (case hr => first | (go_simp; done) | (go_simp; rfl)); intro gb366 hg w18 hbox hb; have n0_ := Aside0.mk (blk_below (g := gb365) (o := .cells #[.int .i64 a0_0, .int .i64 a0_1, .int .i64 a0_2, .slice A0_3 l0_3.length c0_3] 26 (0, 0)) (by (with_reducible repeat (first | refine blk_drewN ?_ _ | refine blk_drew ?_ | refine blk_alloc ?_ _)); exact BK365.out) hb); have n1_ := Aside0.mk (below_step (by repeat (first | (with_reducible first | exact HB.out | apply below_alloc | apply pw_below_drewN | apply below_drew1 | refine below_set ?_ GE365.out) | exact HB.out)) hb); have n2_ := Aside0.mk (hbox); have n3_ := Aside0.mk ((by rw [hg]; exact (below_size (by repeat (first | (with_reducible first | exact HB.out | apply below_alloc | apply pw_below_drewN | apply below_drew1 | refine below_set ?_ GE365.out) | exact HB.out))) : w.heap.size ≤ gb366)); have n4_ := Aside0.mk ((by rw [hg]; exact (below_size (by repeat (first | (with_reducible first | exact HB.out | apply below_alloc | apply pw_below_drewN | apply below_drew1 | refine below_set ?_ GE365.out) | exact HB.out))) : w.heap.size ≤ gb366)); have n5_ := Aside0.mk ((by rw [hg]; exact Nat.ne_of_lt (blk_lt (g := gb365) (o := .cells #[.int .i64 a0_0, .int .i64 a0_1, .int .i64 a0_2, .slice A0_3 l0_3.length c0_3] 26 (0, 0)) (by (with_reducible repeat (first | refine blk_drewN ?_ _ | refine blk_drew ?_ | refine blk_alloc ?_ _)); exact BK365.out)) : gb365 ≠ gb366)); have n6_ := Aside0.mk ((by rw [hg]; exact Nat.ne_of_gt (blk_lt (g := gb365) (o := .cells #[.int .i64 a0_0, .int .i64 a0_1, .int .i64 a0_2, .slice A0_3 l0_3.length c0_3] 26 (0, 0)) (by (with_reducible repeat (first | refine blk_drewN ?_ _ | refine blk_drew ?_ | refine blk_alloc ?_ _)); exact BK365.out)) : gb366 ≠ gb365)); clear BK365; clear HB; have BK365 := n0_; have HB := n1_; have BK366 := n2_; have GW366 := n3_; have GE366 := n4_; have NB365_366 := n5_; have NB366_365 := n6_; clear n0_ n1_ n2_ n3_ n4_ n5_ n6_; clear hb hbox hg; have hnb19 := NB365_366.out; have hnc19 := NB366_365.out; have hcz20_0 : w18.cell? ⟨gb365, 0, none⟩ = some (.int .i64 a0_0) := (blk_cell BK365.out 0).trans rfl; have hcz20_1 : w18.cell? ⟨gb365, 1, none⟩ = some (.int .i64 a0_1) := (blk_cell BK365.out 1).trans rfl; have hcz20_2 : w18.cell? ⟨gb365, 2, none⟩ = some (.int .i64 a0_2) := (blk_cell BK365.out 2).trans rfl; have hcz20_3 : w18.cell? ⟨gb365, 3, none⟩ = some (.slice A0_3 l0_3.length c0_3) := (blk_cell BK365.out 3).trans rfl; have hfz20_0 := blk_frozen BK365.out 0; have hfz20_1 := blk_frozen BK365.out 1; have hfz20_2 := blk_frozen BK365.out 2; have hfz20_3 := blk_frozen BK365.out 3; have hcz21_0 : w18.cell? ⟨gb366, 0, none⟩ = some (.int .i64 a1_0) := (blk_cell BK366.out 0).trans rfl; have hcz21_1 : w18.cell? ⟨gb366, 1, none⟩ = some (.int .i64 a1_1) := (blk_cell BK366.out 1).trans rfl; have hcz21_2 : w18.cell? ⟨gb366, 2, none⟩ = some (.int .i64 a1_2) := (blk_cell BK366.out 2).trans rfl; have hcz21_3 : w18.cell? ⟨gb366, 3, none⟩ = some (.slice A1_3 l1_3.length c1_3) := (blk_cell BK366.out 3).trans rfl; have hfz21_0 := blk_frozen BK366.out 0; have hfz21_1 := blk_frozen BK366.out 1; have hfz21_2 := blk_frozen BK366.out 2; have hfz21_3 := blk_frozen BK366.out 3))
   go_ret
   exact ⟨by first | rfl | (simp [errW_none, errW_some] <;> rfl) | (simp [*, errW_none, errW_some] <;> rfl), by repeat (first | (with_reducible first | exact HB.out | apply below_alloc | apply pw_below_drewN | apply below_drew1 | refine below_set ?_ GE365.out | refine below_set ?_ GE366.out) | exact HB.out)⟩
 ·rw [if_neg c3] at H
  have c3b0 : (a0_0 == a1_0) = false := beq_eq_false_iff_ne.mpr c3
  have c3b1 : (a0_0 != a1_0) = true := bne_iff_ne.mpr c3
  obtain rfl := Option.some.inj H
  go_enter Tryd.func16, Tryd.ntmps16
  go_wp2_with (first | ((with_reducible refine gate_dst (N := 2) rfl ?_); refine box_event ?hg (N := 2) ?hd (cs := #[.int .i64 a0_0, .int .i64 a0_1, .int .i64 a0_2, .slice A0_3 l0_3.length c0_3]) (t := 26) ?hr ?_; (case hd => rfl); (case hg => rfl); (case hr => first | (go_simp; done) | (go_simp; rfl)); intro gb365 hg w22 hbox hb; have n0_ := Aside0.mk (below_step (by repeat (first | (with_reducible first | exact HB.out | apply below_alloc | apply pw_below_drewN | apply below_drew1) | exact HB.out)) hb); have n1_ := Aside0.mk (hbox); have n2_ := Aside0.mk ((by rw [hg]; exact (below_size (by repeat (first | (with_reducible first | exact HB.out | apply below_alloc | apply pw_below_drewN | apply below_drew1) | exact HB.out))) : w.heap.size ≤ gb365)); have n3_ := Aside0.mk ((by rw [hg]; exact (below_size (by repeat (first | (with_reducible first | exact HB.out | apply below_alloc | apply pw_below_drewN | apply below_drew1) | exact HB.out))) : w.heap.size ≤ gb365)); clear HB; have HB := n0_; have BK365 := n1_; have GW365 := n2_; have GE365 := n3_; clear n0_ n1_ n2_ n3_; clear hb hbox hg) | ((with_reducible refine gate_dst (N := 3) rfl ?_); refine box_event ?hg (N := 3) ?hd (cs := #[.int .i64 a1_0, .int .i64 a1_1, .int .i64 a1_2, .slice A1_3 l1_3.length c1_3]) (t := 26) ?hr ?_; (case hd => rfl); (case hg => rfl); (case hr => first | (go_simp; done) | (go_simp; rfl)); intro gb366 hg w23 hbox hb; have n0_ := Aside0.mk (blk_below (g := gb365) (o := .cells #[.int .i64 a0_0, .int .i64 a0_1, .int .i64 a0_2, .slice A0_3 l0_3.length c0_3] 26 (0, 0)) (by (with_reducible repeat (first | refine blk_drewN ?_ _ | refine blk_drew ?_ | refine blk_alloc ?_ _)); exact BK365.out) hb); have n1_ := Aside0.mk (below_step (by repeat (first | (with_reducible first | exact HB.out | apply below_alloc | apply pw_below_drewN | apply below_drew1 | refine below_set ?_ GE365.out) | exact HB.out)) hb); have n2_ := Aside0.mk (hbox); have n3_ := Aside0.mk ((by rw [hg]; exact (below_size (by repeat (first | (with_reducible first | exact HB.out | apply below_alloc | apply pw_below_drewN | apply below_drew1 | refine below_set ?_ GE365.out) | exact HB.out))) : w.heap.size ≤ gb366)); have n4_ := Aside0.mk ((by rw [hg]; exact (below_size (by repeat (first | (with_reducible first | exact HB.out | apply below_alloc | apply pw_below_drewN | apply below_drew1 | refine below_set ?_ GE365.out) | exact HB.out))) : w.heap.size ≤ gb366)); have n5_ := Aside0.mk ((by rw [hg]; exact Nat.ne_of_lt (blk_lt (g := gb365) (o := .cells #[.int .i64 a0_0, .int .i64 a0_1, .int .i64 a0_2, .slice A0_3 l0_3.length c0_3] 26 (0, 0)) (by (with_reducible repeat (first | refine blk_drewN ?_ _ | refine blk_drew ?_ | refine blk_alloc ?_ _)); exact BK365.out)) : gb365 ≠ gb366)); have n6_ := Aside0.mk ((by rw [hg]; exact Nat.ne_of_gt (blk_lt (g := gb365) (o := .cells #[.int .i64 a0_0, .int .i64 a0_1, .int .i64 a0_2, .slice A0_3 l0_3.length c0_3] 26 (0, 0)) (by (with_reducible repeat (first | refine blk_drewN ?_ _ | refine blk_drew ?_ | refine blk_alloc ?_ _)); exact BK365.out)) : gb366 ≠ gb365)); clear BK365; clear HB; have BK365 := n0_; have HB := n1_; have BK366 := n2_; have GW366 := n3_; have GE366 := n4_; have NB365_366 := n5_; have NB366_365 := n6_; clear n0_ n1_ n2_ n3_ n4_ n5_ n6_; clear hb hbox hg; have hnb24 := NB365_366.out; have hnc24 := NB366_365.out; have hcz25_0 : w23.cell? ⟨gb365, 0, none⟩ = some (.int .i64 a0_0) := (blk_cell BK365.out 0).trans rfl; have hcz25_1 : w23.cell? ⟨gb365, 1, none⟩ = some (.int .i64 a0_1) := (blk_cell BK365.out 1).trans rfl; have hcz25_2 : w23.cell? ⟨gb365, 2, none⟩ = some (.int .i64 a0_2) := (blk_cell BK365.out 2).trans rfl; have hcz25_3 : w23.cell? ⟨gb365, 3, none⟩ = some (.slice A0_3 l0_3.length c0_3) := (blk_cell BK365.out 3).trans rfl; have hfz25_0 := blk_frozen BK365.out 0; have hfz25_1 := blk_frozen BK365.out 1; have hfz25_2 := blk_frozen BK365.out 2; have hfz25_3 := blk_frozen BK365.out 3; have hcz26_0 : w23.cell? ⟨gb366, 0, none⟩ = some (.int .i64 a1_0) := (blk_cell BK366.out 0).trans rfl; have hcz26_1 : w23.cell? ⟨gb366, 1, none⟩ = some (.int .i64 a1_1) := (blk_cell BK366.out 1).trans rfl; have hcz26_2 : w23.cell? ⟨gb366, 2, none⟩ = some (.int .i64 a1_2) := (blk_cell BK366.out 2).trans rfl; have hcz26_3 : w23.cell? ⟨gb366, 3, none⟩ = some (.slice A1_3 l1_3.length c1_3) := (blk_cell BK366.out 3).trans rfl; have hfz26_0 := blk_frozen BK366.out 0; have hfz26_1 := blk_frozen BK366.out 1; have hfz26_2 := blk_frozen BK366.out 2; have hfz26_3 := blk_frozen BK366.out 3))
  go_ret
  exact ⟨by first | rfl | (simp [errW_none, errW_some] <;> rfl) | (simp [*, errW_none, errW_some] <;> rfl), by repeat (first | (with_reducible first | exact HB.out | apply below_alloc | apply pw_below_drewN | apply below_drew1 | refine below_set ?_ GE365.out | refine below_set ?_ GE366.out) | exact HB.out)⟩

end Go.Proofs.YtickbejailcehaaDoor.C

-- Written by a program of this session (wip/pp: the kit's print, changed), out of the translation. Lean checks it.
namespace Go.Proofs.YtickbejailcehaaDoor.C
open Go.RowKit Go.Proofs.YtickbejailcehaaDoorW.PrintWords Go.Proofs.YtickbejailcehaaDoorW.PrintLast Go.Proofs.YtickbejailcehaaDoorW.PrintMore
attribute [local go_sem] max2_int min2_int max_two min_two max_three min_three max_four min_four   -- for this text's walks alone
set_option linter.unusedVariables false
set_option linter.unusedSimpArgs false

/-! ### bytes_Equal: function 34 -/
def bytes_Equal.f (l0 : List Int) (l1 : List Int) : Option (Bool) := some ((strOfNums l0).toList == (strOfNums l1).toList)
set_option maxHeartbeats 8000000 in
set_option maxRecDepth 100000 in
theorem bytes_Equal.calls (A0 : Option Addr) (c0 : Nat) (l0 : List Int) (A1 : Option Addr) (c1 : Nat) (l1 : List Int) (r : Bool) (w : World) (hr0 : Kd.C (Kd.int .u8) w A0 l0.length l0) (hc0 : l0.length ≤ c0) (hr1 : Kd.C (Kd.int .u8) w A1 l1.length l1) (hc1 : l1.length ≤ c1) (h : bytes_Equal.f l0 l1 = some r) :
  Calls Tryd.prog 34 #[.slice A0 l0.length c0, .slice A1 l1.length c1] w fun e w' => e = .returned (.bool r) ∧ Drawn0 w w' := by
 have HR0 := Aside0.mk hr0
 have HC0 := Aside0.mk hc0
 clear hr0 hc0
 have HR1 := Aside0.mk hr1
 have HC1 := Aside0.mk hc1
 clear hr1 hc1
 have H : (some ((strOfNums l0).toList == (strOfNums l1).toList)) = some r := h
 clear h
 obtain rfl := Option.some.inj H
 have hcv3 := Kd.C_string (P := Tryd.prog) (A := A0) (c := c0) Tryd.underlying22 Tryd.underlying5 Tryd.underlying9 HR0.out
 have hcv4 := Kd.C_string (P := Tryd.prog) (A := A1) (c := c1) Tryd.underlying22 Tryd.underlying5 Tryd.underlying9 HR1.out
 go_enter Tryd.func34, Tryd.ntmps34
 go_wp2
 go_ret
 exact ⟨by first | rfl | (simp; done) | (simp [*]; done), by repeat (first | exact Drawn0.refl _ | apply Drawn0.step)⟩

end Go.Proofs.YtickbejailcehaaDoor.C

-- Written by a program of this session (wip/pp: the kit's print, changed), out of the translation. Lean checks it.
namespace Go.Proofs.YtickbejailcehaaDoor.C
open Go.RowKit Go.Proofs.YtickbejailcehaaDoorW.PrintWords Go.Proofs.YtickbejailcehaaDoorW.PrintLast Go.Proofs.YtickbejailcehaaDoorW.PrintMore
attribute [local go_sem] max2_int min2_int max_two min_two max_three min_three max_four min_four   -- for this text's walks alone
set_option linter.unusedVariables false
set_option linter.unusedSimpArgs false

/-! ### flash_Same: function 20 -/
def flash_Same.f (a0_0 : Int) (a0_1 : Int) (a0_2 : Int) (l0_3 : List Int) (a1_0 : Int) (a1_1 : Int) (a1_2 : Int) (l1_3 : List Int) : Option (Bool) := if a0_0 = a1_0 then (if a0_1 = a1_1 then (if a0_2 = a1_2 then ((bytes_Equal.f l0_3 l1_3).bind fun t184 => (some t184)) else (some false)) else (some false)) else (some false)
set_option maxHeartbeats 8000000 in
set_option maxRecDepth 100000 in
theorem flash_Same.calls (a0_0 : Int) (a0_1 : Int) (a0_2 : Int) (A0_3 : Option Addr) (c0_3 : Nat) (l0_3 : List Int) (a1_0 : Int) (a1_1 : Int) (a1_2 : Int) (A1_3 : Option Addr) (c1_3 : Nat) (l1_3 : List Int) (r : Bool) (w : World) (hr0_3 : Kd.C (Kd.int .u8) w A0_3 l0_3.length l0_3) (hc0_3 : l0_3.length ≤ c0_3) (hr1_3 : Kd.C (Kd.int .u8) w A1_3 l1_3.length l1_3) (hc1_3 : l1_3.length ≤ c1_3) (h : flash_Same.f a0_0 a0_1 a0_2 l0_3 a1_0 a1_1 a1_2 l1_3 = some r) :
  Calls Tryd.prog 20 #[.agg #[.int .i64 a0_0, .int .i64 a0_1, .int .i64 a0_2, .slice A0_3 l0_3.length c0_3], .agg #[.int .i64 a1_0, .int .i64 a1_1, .int .i64 a1_2, .slice A1_3 l1_3.length c1_3]] w fun e w' => e = .returned (.bool r) ∧ Below w.heap.size w w' := by
 have hu26 := Tryd.underlying26
 have HR0_3 := Aside0.mk hr0_3
 have HC0_3 := Aside0.mk hc0_3
 clear hr0_3 hc0_3
 have HR1_3 := Aside0.mk hr1_3
 have HC1_3 := Aside0.mk hc1_3
 clear hr1_3 hc1_3
 have HB := Aside0.mk (Below.refl w.heap.size w)
 have H : (if a0_0 = a1_0 then (if a0_1 = a1_1 then (if a0_2 = a1_2 then ((bytes_Equal.f l0_3 l1_3).bind fun t184 => (some t184)) else (some false)) else (some false)) else (some false)) = some r := h
 clear h
 by_cases c3 : a0_0 = a1_0
 ·rw [if_pos c3] at H
  have c3b0 : (a0_0 == a1_0) = true := beq_iff_eq.mpr c3
  have c3b1 : (a0_0 != a1_0) = false := bne_eq_false_iff_eq.mpr c3
  clear c3
  by_cases c4 : a0_1 = a1_1
  ·rw [if_pos c4] at H
   have c4b0 : (a0_1 == a1_1) = true := beq_iff_eq.mpr c4
   have c4b1 : (a0_1 != a1_1) = false := bne_eq_false_iff_eq.mpr c4
   clear c4
   by_cases c5 : a0_2 = a1_2
   ·rw [if_pos c5] at H
    have c5b0 : (a0_2 == a1_2) = true := beq_iff_eq.mpr c5
    have c5b1 : (a0_2 != a1_2) = false := bne_eq_false_iff_eq.mpr c5
    clear c5
    replace H := Option.bind_eq_some_iff.mp H
    obtain ⟨t184, A60, H⟩ := H
    replace H : (some t184) = some r := H
    have A6 := Aside0.mk A60
    clear A60
    obtain rfl := Option.some.inj H
    go_enter Tryd.func20, Tryd.ntmps20
    go_wp2_with (first | ((with_reducible refine gate_dst (N := 2) rfl ?_); refine box_event ?hg (N := 2) ?hd (cs := #[.int .i64 a0_0, .int .i64 a0_1, .int .i64 a0_2, .slice A0_3 l0_3.length c0_3]) (t := 26) ?hr ?_; (case hd => rfl); (case hg => rfl); (case hr => first | (go_simp; done) | (go_simp; rfl)); intro gb182 hg w7 hbox hb; have n0_ := Aside0.mk (below_step (by repeat (first | (with_reducible first | exact HB.out | apply below_alloc | apply pw_below_drewN | apply below_drew1) | exact HB.out)) hb); have n1_ := Aside0.mk (hbox); have n2_ := Aside0.mk ((by rw [hg]; exact (below_size (by repeat (first | (with_reducible first | exact HB.out | apply below_alloc | apply pw_below_drewN | apply below_drew1) | exact HB.out))) : w.heap.size ≤ gb182)); have n3_ := Aside0.mk ((by rw [hg]; exact (below_size (by repeat (first | (with_reducible first | exact HB.out | apply below_alloc | apply pw_below_drewN | apply below_drew1) | exact HB.out))) : w.heap.size ≤ gb182)); clear HB; have HB := n0_; have BK182 := n1_; have GW182 := n2_; have GE182 := n3_; clear n0_ n1_ n2_ n3_; clear hb hbox hg) | ((with_reducible refine gate_dst (N := 3) rfl ?_); refine box_event ?hg (N := 3) ?hd (cs := #[.int .i64 a1_0, .int .i64 a1_1, .int .i64 a1_2, .slice A1_3 l1_3.length c1_3]) (t := 26) ?hr ?_; (case hd => rfl); (case hg => rfl); (case hr => first | (go_simp; done) | (go_simp; rfl)); intro gb183 hg w8 hbox hb; have n0_ := Aside0.mk (blk_below (g := gb182) (o := .cells #[.int .i64 a0_0, .int .i64 a0_1, .int .i64 a0_2, .slice A0_3 l0_3.length c0_3] 26 (0, 0)) (by (with_reducible repeat (first | refine blk_drewN ?_ _ | refine blk_drew ?_ | refine blk_alloc ?_ _)); exact BK182.out) hb); have n1_ := Aside0.mk (below_step (by repeat (first | (with_reducible first | exact HB.out | apply below_alloc | apply pw_below_drewN | apply below_drew1 | refine below_set ?_ GE182.out) | exact HB.out)) hb); have n2_ := Aside0.mk (hbox); have n3_ := Aside0.mk ((by rw [hg]; exact (below_size (by repeat (first | (with_reducible first | exact HB.out | apply below_alloc | apply pw_below_drewN | apply below_drew1 | refine below_set ?_ GE182.out) | exact HB.out))) : w.heap.size ≤ gb183)); have n4_ := Aside0.mk ((by rw [hg]; exact (below_size (by repeat (first | (with_reducible first | exact HB.out | apply below_alloc | apply pw_below_drewN | apply below_drew1 | refine below_set ?_ GE182.out) | exact HB.out))) : w.heap.size ≤ gb183)); have n5_ := Aside0.mk ((by rw [hg]; exact Nat.ne_of_lt (blk_lt (g := gb182) (o := .cells #[.int .i64 a0_0, .int .i64 a0_1, .int .i64 a0_2, .slice A0_3 l0_3.length c0_3] 26 (0, 0)) (by (with_reducible repeat (first | refine blk_drewN ?_ _ | refine blk_drew ?_ | refine blk_alloc ?_ _)); exact BK182.out)) : gb182 ≠ gb183)); have n6_ := Aside0.mk ((by rw [hg]; exact Nat.ne_of_gt (blk_lt (g := gb182) (o := .cells #[.int .i64 a0_0, .int .i64 a0_1, .int .i64 a0_2, .slice A0_3 l0_3.length c0_3] 26 (0, 0)) (by (with_reducible repeat (first | refine blk_drewN ?_ _ | refine blk_drew ?_ | refine blk_alloc ?_ _)); exact BK182.out)) : gb183 ≠ gb182)); clear BK182; clear HB; have BK182 := n0_; have HB := n1_; have BK183 := n2_; have GW183 := n3_; have GE183 := n4_; have NB182_183 := n5_; have NB183_182 := n6_; clear n0_ n1_ n2_ n3_ n4_ n5_ n6_; clear hb hbox hg; have hnb9 := NB182_183.out; have hnc9 := NB183_182.out; have hcz10_0 : w8.cell? ⟨gb182, 0, none⟩ = some (.int .i64 a0_0) := (blk_cell BK182.out 0).trans rfl; have hcz10_1 : w8.cell? ⟨gb182, 1, none⟩ = some (.int .i64 a0_1) := (blk_cell BK182.out 1).trans rfl; have hcz10_2 : w8.cell? ⟨gb182, 2, none⟩ = some (.int .i64 a0_2) := (blk_cell BK182.out 2).trans rfl; have hcz10_3 : w8.cell? ⟨gb182, 3, none⟩ = some (.slice A0_3 l0_3.length c0_3) := (blk_cell BK182.out 3).trans rfl; have hfz10_0 := blk_frozen BK182.out 0; have hfz10_1 := blk_frozen BK182.out 1; have hfz10_2 := blk_frozen BK182.out 2; have hfz10_3 := blk_frozen BK182.out 3; have hcz11_0 : w8.cell? ⟨gb183, 0, none⟩ = some (.int .i64 a1_0) := (blk_cell BK183.out 0).trans rfl; have hcz11_1 : w8.cell? ⟨gb183, 1, none⟩ = some (.int .i64 a1_1) := (blk_cell BK183.out 1).trans rfl; have hcz11_2 : w8.cell? ⟨gb183, 2, none⟩ = some (.int .i64 a1_2) := (blk_cell BK183.out 2).trans rfl; have hcz11_3 : w8.cell? ⟨gb183, 3, none⟩ = some (.slice A1_3 l1_3.length c1_3) := (blk_cell BK183.out 3).trans rfl; have hfz11_0 := blk_frozen BK183.out 0; have hfz11_1 := blk_frozen BK183.out 1; have hfz11_2 := blk_frozen BK183.out 2; have hfz11_3 := blk_frozen BK183.out 3) | (go_at_call 34; (with_reducible refine (bytes_Equal.calls _ _ l0_3 _ _ l1_3 t184 _ ?side1 ?side2 ?side3 ?side4 A6.out).mono ?_); (case side1 => repeat (first | exact (Kd.C_below HR0_3.out HB.out) | (with_reducible refine Kd.C_alloc ?_ _) | (with_reducible refine Kd.C_drewN ?_ _) | (with_reducible refine Kd.C_drew ?_))); (case side2 => exact HC0_3.out); (case side3 => repeat (first | exact (Kd.C_below HR1_3.out HB.out) | (with_reducible refine Kd.C_alloc ?_ _) | (with_reducible refine Kd.C_drewN ?_ _) | (with_reducible refine Kd.C_drew ?_))); (case side4 => exact HC1_3.out); rintro e w' ⟨rfl, ⟨nd, rfl⟩⟩))
    go_ret
    exact ⟨by first | rfl | (simp [errW_none, errW_some] <;> rfl) | (simp [*, errW_none, errW_some] <;> rfl), by repeat (first | (with_reducible first | exact HB.out | apply below_alloc | apply pw_below_drewN | apply below_drew1 | refine below_set ?_ GE182.out | refine below_set ?_ GE183.out) | exact HB.out)⟩
   ·rw [if_neg c5] at H
    have c5b0 : (a0_2 == a1_2) = false := beq_eq_false_iff_ne.mpr c5
    have c5b1 : (a0_2 != a1_2) = true := bne_iff_ne.mpr c5
    obtain rfl := Option.some.inj H
    go_enter Tryd.func20, Tryd.ntmps20
    go_wp2_with (first | ((with_reducible refine gate_dst (N := 2) rfl ?_); refine box_event ?hg (N := 2) ?hd (cs := #[.int .i64 a0_0, .int .i64 a0_1, .int .i64 a0_2, .slice A0_3 l0_3.length c0_3]) (t := 26) ?hr ?_; (case hd => rfl); (case hg => rfl); (case hr => first | (go_simp; done) | (go_simp; rfl)); intro gb182 hg w12 hbox hb; have n0_ := Aside0.mk (below_step (by repeat (first | (with_reducible first | exact HB.out | apply below_alloc | apply pw_below_drewN | apply below_drew1) | exact HB.out)) hb); have n1_ := Aside0.mk (hbox); have n2_ := Aside0.mk ((by rw [hg]; exact (below_size (by repeat (first | (with_reducible first | exact HB.out | apply below_alloc | apply pw_below_drewN | apply below_drew1) | exact HB.out))) : w.heap.size ≤ gb182)); have n3_ := Aside0.mk ((by rw [hg]; exact (below_size (by repeat (first | (with_reducible first | exact HB.out | apply below_alloc | apply pw_below_drewN | apply below_drew1) | exact HB.out))) : w.heap.size ≤ gb182)); clear HB; have HB := n0_; have BK182 := n1_; have GW182 := n2_; have GE182 := n3_; clear n0_ n1_ n2_ n3_; clear hb hbox hg) | ((with_reducible refine gate_dst (N := 3) rfl ?_); refine box_event ?hg (N := 3) ?hd (cs := #[.int .i64 a1_0, .int .i64 a1_1, .int .i64 a1_2, .slice A1_3 l1_3.length c1_3]) (t := 26) ?hr ?_; (case hd => rfl); (case hg => rfl); (case hr => first | (go_simp; done) | (go_simp; rfl)); intro gb183 hg w13 hbox hb; have n0_ := Aside0.mk (blk_below (g := gb182) (o := .cells #[.int .i64 a0_0, .int .i64 a0_1, .int .i64 a0_2, .slice A0_3 l0_3.length c0_3] 26 (0, 0)) (by (with_reducible repeat (first | refine blk_drewN ?_ _ | refine blk_drew ?_ | refine blk_alloc ?_ _)); exact BK182.out) hb); have n1_ := Aside0.mk (below_step (by repeat (first | (with_reducible first | exact HB.out | apply below_alloc | apply pw_below_drewN | apply below_drew1 | refine below_set ?_ GE182.out) | exact HB.out)) hb); have n2_ := Aside0.mk (hbox); have n3_ := Aside0.mk ((by rw [hg]; exact (below_size (by repeat (first | (with_reducible first | exact HB.out | apply below_alloc | apply pw_below_drewN | apply below_drew1 | refine below_set ?_ GE182.out) | exact HB.out))) : w.heap.size ≤ gb183)); have n4_ := Aside0.mk ((by rw [hg]; exact (below_size (by repeat (first | (with_reducible first | exact HB.out | apply below_alloc | apply pw_below_drewN | apply below_drew1 | refine below_set ?_ GE182.out) | exact HB.out))) : w.heap.size ≤ gb183)); have n5_ := Aside0.mk ((by rw [hg]; exact Nat.ne_of_lt (blk_lt (g := gb182) (o := .cells #[.int .i64 a0_0, .int .i64 a0_1, .int .i64 a0_2, .slice A0_3 l0_3.length c0_3] 26 (0, 0)) (by (with_reducible repeat (first | refine blk_drewN ?_ _ | refine blk_drew ?_ | refine blk_alloc ?_ _)); exact BK182.out)) : gb182 ≠ gb183)); have n6_ := Aside0.mk ((by rw [hg]; exact Nat.ne_of_gt (blk_lt (g := gb182) (o := .cells #[.int .i64 a0_0, .int .i64 a0_1, .int .i64 a0_2, .slice A0_3 l0_3.length c0_3] 26 (0, 0)) (by (with_reducible repeat (first | refine blk_drewN ?_ _ | refine blk_drew ?_ | refine blk_alloc ?_ _)); exact BK182.out)) : gb183 ≠ gb182)); clear BK182; clear HB; have BK182 := n0_; have HB := n1_; have BK183 := n2_; have GW183 := n3_; have GE183 := n4_; have NB182_183 := n5_; have NB183_182 := n6_; clear n0_ n1_ n2_ n3_ n4_ n5_ n6_; clear hb hbox hg; have hnb14 := NB182_183.out; have hnc14 := NB183_182.out; have hcz15_0 : w13.cell? ⟨gb182, 0, none⟩ = some (.int .i64 a0_0) := (blk_cell BK182.out 0).trans rfl; have hcz15_1 : w13.cell? ⟨gb182, 1, none⟩ = some (.int .i64 a0_1) := (blk_cell BK182.out 1).trans rfl; have hcz15_2 : w13.cell? ⟨gb182, 2, none⟩ = some (.int .i64 a0_2) := (blk_cell BK182.out 2).trans rfl; have hcz15_3 : w13.cell? ⟨gb182, 3, none⟩ = some (.slice A0_3 l0_3.length c0_3) := (blk_cell BK182.out 3).trans rfl; have hfz15_0 := blk_frozen BK182.out 0; have hfz15_1 := blk_frozen BK182.out 1; have hfz15_2 := blk_frozen BK182.out 2; have hfz15_3 := blk_frozen BK182.out 3; have hcz16_0 : w13.cell? ⟨gb183, 0, none⟩ = some (.int .i64 a1_0) := (blk_cell BK183.out 0).trans rfl; have hcz16_1 : w13.cell? ⟨gb183, 1, none⟩ = some (.int .i64 a1_1) := (blk_cell BK183.out 1).trans rfl; have hcz16_2 : w13.cell? ⟨gb183, 2, none⟩ = some (.int .i64 a1_2) := (blk_cell BK183.out 2).trans rfl; have hcz16_3 : w13.cell? ⟨gb183, 3, none⟩ = some (.slice A1_3 l1_3.length c1_3) := (blk_cell BK183.out 3).trans rfl; have hfz16_0 := blk_frozen BK183.out 0; have hfz16_1 := blk_frozen BK183.out 1; have hfz16_2 := blk_frozen BK183.out 2; have hfz16_3 := blk_frozen BK183.out 3))
    go_ret
    exact ⟨by first | rfl | (simp [errW_none, errW_some] <;> rfl) | (simp [*, errW_none, errW_some] <;> rfl), by repeat (first | (with_reducible first | exact HB.out | apply below_alloc | apply pw_below_drewN | apply below_drew1 | refine below_set ?_ GE182.out | refine below_set ?_ GE183.out) | exact HB.out)⟩
  ·rw [if_neg c4] at H
   have c4b0 : (a0_1 == a1_1) = false := beq_eq_false_iff_ne.mpr c4
   have c4b1 : (a0_1 != a1_1) = true := bne_iff_ne.mpr c4
   obtain rfl := Option.some.inj H
   go_enter Tryd.func20, Tryd.ntmps20
   go_wp2_with (first | ((with_reducible refine gate_dst (N := 2) rfl ?_); refine box_event ?hg (N := 2) ?hd (cs := #[.int .i64 a0_0, .int .i64 a0_1, .int .i64 a0_2, .slice A0_3 l0_3.length c0_3]) (t := 26) ?hr ?_; (case hd => rfl); (case hg => rfl); (case hr => first | (go_simp; done) | (go_simp; rfl)); intro gb182 hg w17 hbox hb; have n0_ := Aside0.mk (below_step (by repeat (first | (with_reducible first | exact HB.out | apply below_alloc | apply pw_below_drewN | apply below_drew1) | exact HB.out)) hb); have n1_ := Aside0.mk (hbox); have n2_ := Aside0.mk ((by rw [hg]; exact (below_size (by repeat (first | (with_reducible first | exact HB.out | apply below_alloc | apply pw_below_drewN | apply below_drew1) | exact HB.out))) : w.heap.size ≤ gb182)); have n3_ := Aside0.mk ((by rw [hg]; exact (below_size (by repeat (first | (with_reducible first | exact HB.out | apply below_alloc | apply pw_below_drewN | apply below_drew1) | exact HB.out))) : w.heap.size ≤ gb182)); clear HB; have HB := n0_; have BK182 := n1_; have GW182 := n2_; have GE182 := n3_; clear n0_ n1_ n2_ n3_; clear hb hbox hg) | ((with_reducible refine gate_dst (N := 3) rfl ?_); refine box_event ?hg (N := 3) ?hd (cs := #[.int .i64 a1_0, .int .i64 a1_1, .int .i64 a1_2, .slice A1_3 l1_3.length c1_3]) (t := 26) ?hr ?_; (case hd => rfl); (case hg => rfl); (case hr => first | (go_simp; done) | (go_simp; rfl)); intro gb183 hg w18 hbox hb; have n0_ := Aside0.mk (blk_below (g := gb182) (o := .cells #[.int .i64 a0_0, .int .i64 a0_1, .int .i64 a0_2, .slice A0_3 l0_3.length c0_3] 26 (0, 0)) (by (with_reducible repeat (first | refine blk_drewN ?_ _ | refine blk_drew ?_ | refine blk_alloc ?_ _)); exact BK182.out) hb); have n1_ := Aside0.mk (below_step (by repeat (first | (with_reducible first | exact HB.out | apply below_alloc | apply pw_below_drewN | apply below_drew1 | refine below_set ?_ GE182.out) | exact HB.out)) hb); have n2_ := Aside0.mk (hbox); have n3_ := Aside0.mk ((by rw [hg]; exact (below_size (by repeat (first | (with_reducible first | exact HB.out | apply below_alloc | apply pw_below_drewN | apply below_drew1 | refine below_set ?_ GE182.out) | exact HB.out))) : w.heap.size ≤ gb183)); have n4_ := Aside0.mk ((by rw [hg]; exact (below_size (by repeat (first | (with_reducible first | exact HB.out | apply below_alloc | apply pw_below_drewN | apply below_drew1 | refine below_set ?_ GE182.out) | exact HB.out))) : w.heap.size ≤ gb183)); have n5_ := Aside0.mk ((by rw [hg]; exact Nat.ne_of_lt (blk_lt (g := gb182) (o := .cells #[.int .i64 a0_0, .int .i64 a0_1, .int .i64 a0_2, .slice A0_3 l0_3.length c0_3] 26 (0, 0)) (by (with_reducible repeat (first | refine blk_drewN ?_ _ | refine blk_drew ?_ | refine blk_alloc ?_ _)); exact BK182.out)) : gb182 ≠ gb183)); have n6_ := Aside0.mk ((by rw [hg]; exact Nat.ne_of_gt (blk_lt (g := gb182) (o := .cells #[.int .i64 a0_0, .int .i64 a0_1, .int .i64 a0_2, .slice A0_3 l0_3.length c0_3] 26 (0, 0)) (by (with_reducible repeat (first | refine blk_drewN ?_ _ | refine blk_drew ?_ | refine blk_alloc ?_ _)); exact BK182.out)) : gb183 ≠ gb182)); clear BK182; clear HB; have BK182 := n0_; have HB := n1_; have BK183 := n2_; have GW183 := n3_; have GE183 := n4_; have NB182_183 := n5_; have NB183_182 := n6_; clear n0_ n1_ n2_ n3_ n4_ n5_ n6_; clear hb hbox hg; have hnb19 := NB182_183.out; have hnc19 := NB183_182.out; have hcz20_0 : w18.cell? ⟨gb182, 0, none⟩ = some (.int .i64 a0_0) := (blk_cell BK182.out 0).trans rfl; have hcz20_1 : w18.cell? ⟨gb182, 1, none⟩ = some (.int .i64 a0_1) := (blk_cell BK182.out 1).trans rfl; have hcz20_2 : w18.cell? ⟨gb182, 2, none⟩ = some (.int .i64 a0_2) := (blk_cell BK182.out 2).trans rfl; have hcz20_3 : w18.cell? ⟨gb182, 3, none⟩ = some (.slice A0_3 l0_3.length c0_3) := (blk_cell BK182.out 3).trans rfl; have hfz20_0 := blk_frozen BK182.out 0; have hfz20_1 := blk_frozen BK182.out 1; have hfz20_2 := blk_frozen BK182.out 2; have hfz20_3 := blk_frozen BK182.out 3; have hcz21_0 : w18.cell? ⟨gb183, 0, none⟩ = some (.int .i64 a1_0) := (blk_cell BK183.out 0).trans rfl; have hcz21_1 : w18.cell? ⟨gb183, 1, none⟩ = some (.int .i64 a1_1) := (blk_cell BK183.out 1).trans rfl; have hcz21_2 : w18.cell? ⟨gb183, 2, none⟩ = some (.int .i64 a1_2) := (blk_cell BK183.out 2).trans rfl; have hcz21_3 : w18.cell? ⟨gb183, 3, none⟩ = some (.slice A1_3 l1_3.length c1_3) := (blk_cell BK183.out 3).trans rfl; have hfz21_0 := blk_frozen BK183.out 0; have hfz21_1 := blk_frozen BK183.out 1; have hfz21_2 := blk_frozen BK183.out 2; have hfz21_3 := blk_frozen BK183.out 3))
   go_ret
   exact ⟨by first | rfl | (simp [errW_none, errW_some] <;> rfl) | (simp [*, errW_none, errW_some] <;> rfl), by repeat (first | (with_reducible first | exact HB.out | apply below_alloc | apply pw_below_drewN | apply below_drew1 | refine below_set ?_ GE182.out | refine below_set ?_ GE183.out) | exact HB.out)⟩
 ·rw [if_neg c3] at H
  have c3b0 : (a0_0 == a1_0) = false := beq_eq_false_iff_ne.mpr c3
  have c3b1 : (a0_0 != a1_0) = true := bne_iff_ne.mpr c3
  obtain rfl := Option.some.inj H
  go_enter Tryd.func20, Tryd.ntmps20
  go_wp2_with (first | ((with_reducible refine gate_dst (N := 2) rfl ?_); refine box_event ?hg (N := 2) ?hd (cs := #[.int .i64 a0_0, .int .i64 a0_1, .int .i64 a0_2, .slice A0_3 l0_3.length c0_3]) (t := 26) ?hr ?_; (case hd => rfl); (case hg => rfl); (case hr => first | (go_simp; done) | (go_simp; rfl)); intro gb182 hg w22 hbox hb; have n0_ := Aside0.mk (below_step (by repeat (first | (with_reducible first | exact HB.out | apply below_alloc | apply pw_below_drewN | apply below_drew1) | exact HB.out)) hb); have n1_ := Aside0.mk (hbox); have n2_ := Aside0.mk ((by rw [hg]; exact (below_size (by repeat (first | (with_reducible first | exact HB.out | apply below_alloc | apply pw_below_drewN | apply below_drew1) | exact HB.out))) : w.heap.size ≤ gb182)); have n3_ := Aside0.mk ((by rw [hg]; exact (below_size (by repeat (first | (with_reducible first | exact HB.out | apply below_alloc | apply pw_below_drewN | apply below_drew1) | exact HB.out))) : w.heap.size ≤ gb182)); clear HB; have HB := n0_; have BK182 := n1_; have GW182 := n2_; have GE182 := n3_; clear n0_ n1_ n2_ n3_; clear hb hbox hg) | ((with_reducible refine gate_dst (N := 3) rfl ?_); refine box_event ?hg (N := 3) ?hd (cs := #[.int .i64 a1_0, .int .i64 a1_1, .int .i64 a1_2, .slice A1_3 l1_3.length c1_3]) (t := 26) ?hr ?_; (case hd => rfl); (case hg => rfl); (case hr => first | (go_simp; done) | (go_simp; rfl)); intro gb183 hg w23 hbox hb; have n0_ := Aside0.mk (blk_below (g := gb182) (o := .cells #[.int .i64 a0_0, .int .i64 a0_1, .int .i64 a0_2, .slice A0_3 l0_3.length c0_3] 26 (0, 0)) (by (with_reducible repeat (first | refine blk_drewN ?_ _ | refine blk_drew ?_ | refine blk_alloc ?_ _)); exact BK182.out) hb); have n1_ := Aside0.mk (below_step (by repeat (first | (with_reducible first | exact HB.out | apply below_alloc | apply pw_below_drewN | apply below_drew1 | refine below_set ?_ GE182.out) | exact HB.out)) hb); have n2_ := Aside0.mk (hbox); have n3_ := Aside0.mk ((by rw [hg]; exact (below_size (by repeat (first | (with_reducible first | exact HB.out | apply below_alloc | apply pw_below_drewN | apply below_drew1 | refine below_set ?_ GE182.out) | exact HB.out))) : w.heap.size ≤ gb183)); have n4_ := Aside0.mk ((by rw [hg]; exact (below_size (by repeat (first | (with_reducible first | exact HB.out | apply below_alloc | apply pw_below_drewN | apply below_drew1 | refine below_set ?_ GE182.out) | exact HB.out))) : w.heap.size ≤ gb183)); have n5_ := Aside0.mk ((by rw [hg]; exact Nat.ne_of_lt (blk_lt (g := gb182) (o := .cells #[.int .i64 a0_0, .int .i64 a0_1, .int .i64 a0_2, .slice A0_3 l0_3.length c0_3] 26 (0, 0)) (by (with_reducible repeat (first | refine blk_drewN ?_ _ | refine blk_drew ?_ | refine blk_alloc ?_ _)); exact BK182.out)) : gb182 ≠ gb183)); have n6_ := Aside0.mk ((by rw [hg]; exact Nat.ne_of_gt (blk_lt (g := gb182) (o := .cells #[.int .i64 a0_0, .int .i64 a0_1, .int .i64 a0_2, .slice A0_3 l0_3.length c0_3] 26 (0, 0)) (by (with_reducible repeat (first | refine blk_drewN ?_ _ | refine blk_drew ?_ | refine blk_alloc ?_ _)); exact BK182.out)) : gb183 ≠ gb182)); clear BK182; clear HB; have BK182 := n0_; have HB := n1_; have BK183 := n2_; have GW183 := n3_; have GE183 := n4_; have NB182_183 := n5_; have NB183_182 := n6_; clear n0_ n1_ n2_ n3_ n4_ n5_ n6_; clear hb hbox hg; have hnb24 := NB182_183.out; have hnc24 := NB183_182.out; have hcz25_0 : w23.cell? ⟨gb182, 0, none⟩ = some (.int .i64 a0_0) := (blk_cell BK182.out 0).trans rfl; have hcz25_1 : w23.cell? ⟨gb182, 1, none⟩ = some (.int .i64 a0_1) := (blk_cell BK182.out 1).trans rfl; have hcz25_2 : w23.cell? ⟨gb182, 2, none⟩ = some (.int .i64 a0_2) := (blk_cell BK182.out 2).trans rfl; have hcz25_3 : w23.cell? ⟨gb182, 3, none⟩ = some (.slice A0_3 l0_3.length c0_3) := (blk_cell BK182.out 3).trans rfl; have hfz25_0 := blk_frozen BK182.out 0; have hfz25_1 := blk_frozen BK182.out 1; have hfz25_2 := blk_frozen BK182.out 2; have hfz25_3 := blk_frozen BK182.out 3; have hcz26_0 : w23.cell? ⟨gb183, 0, none⟩ = some (.int .i64 a1_0) := (blk_cell BK183.out 0).trans rfl; have hcz26_1 : w23.cell? ⟨gb183, 1, none⟩ = some (.int .i64 a1_1) := (blk_cell BK183.out 1).trans rfl; have hcz26_2 : w23.cell? ⟨gb183, 2, none⟩ = some (.int .i64 a1_2) := (blk_cell BK183.out 2).trans rfl; have hcz26_3 : w23.cell? ⟨gb183, 3, none⟩ = some (.slice A1_3 l1_3.length c1_3) := (blk_cell BK183.out 3).trans rfl; have hfz26_0 := blk_frozen BK183.out 0; have hfz26_1 := blk_frozen BK183.out 1; have hfz26_2 := blk_frozen BK183.out 2; have hfz26_3 := blk_frozen BK183.out 3))
  go_ret
  exact ⟨by first | rfl | (simp [errW_none, errW_some] <;> rfl) | (simp [*, errW_none, errW_some] <;> rfl), by repeat (first | (with_reducible first | exact HB.out | apply below_alloc | apply pw_below_drewN | apply below_drew1 | refine below_set ?_ GE182.out | refine below_set ?_ GE183.out) | exact HB.out)⟩

end Go.Proofs.YtickbejailcehaaDoor.C

-- Written by a program of this session (wip/pp: the kit's print, changed), out of the translation. Lean checks it.
namespace Go.Proofs.YtickbejailcehaaDoor.C
open Go.RowKit Go.Proofs.YtickbejailcehaaDoorW.PrintWords Go.Proofs.YtickbejailcehaaDoorW.PrintLast Go.Proofs.YtickbejailcehaaDoorW.PrintMore
attribute [local go_sem] max2_int min2_int max_two min_two max_three min_three max_four min_four   -- for this text's walks alone
set_option linter.unusedVariables false
set_option linter.unusedSimpArgs false

/-! ### newelref12_May: function 21 -/
def newelref12_May.f (a0_0 : Int) (a0_1 : Int) (a0_2 : Int) (l0_3 : List Int) : Option (Bool) := if a0_0 ≥ 1 then (if a0_0 ≤ 1099511627776 then (if a0_2 ≥ 0 then (if a0_2 ≤ 5 then (some (decide ((l0_3.length : Int) ≤ 4096))) else (some false)) else (some false)) else (some false)) else (some false)
set_option maxHeartbeats 8000000 in
set_option maxRecDepth 100000 in
theorem newelref12_May.calls (a0_0 : Int) (a0_1 : Int) (a0_2 : Int) (A0_3 : Option Addr) (c0_3 : Nat) (l0_3 : List Int) (r : Bool) (w : World) (hr0_3 : Kd.C (Kd.int .u8) w A0_3 l0_3.length l0_3) (hc0_3 : l0_3.length ≤ c0_3) (h : newelref12_May.f a0_0 a0_1 a0_2 l0_3 = some r) :
  Calls Tryd.prog 21 #[.agg #[.int .i64 a0_0, .int .i64 a0_1, .int .i64 a0_2, .slice A0_3 l0_3.length c0_3]] w fun e w' => e = .returned (.bool r) ∧ Below w.heap.size w w' := by
 have hu26 := Tryd.underlying26
 have HR0_3 := Aside0.mk hr0_3
 have HC0_3 := Aside0.mk hc0_3
 clear hr0_3 hc0_3
 have HB := Aside0.mk (Below.refl w.heap.size w)
 have H : (if a0_0 ≥ 1 then (if a0_0 ≤ 1099511627776 then (if a0_2 ≥ 0 then (if a0_2 ≤ 5 then (some (decide ((l0_3.length : Int) ≤ 4096))) else (some false)) else (some false)) else (some false)) else (some false)) = some r := h
 clear h
 by_cases c2 : a0_0 ≥ 1
 ·rw [if_pos c2] at H
  have c2b0 : decide (1 ≤ a0_0) = true := decide_eq_true c2
  clear c2
  by_cases c3 : a0_0 ≤ 1099511627776
  ·rw [if_pos c3] at H
   have c3b0 : decide (a0_0 ≤ 1099511627776) = true := decide_eq_true c3
   clear c3
   by_cases c4 : a0_2 ≥ 0
   ·rw [if_pos c4] at H
    have c4b0 : decide (0 ≤ a0_2) = true := decide_eq_true c4
    clear c4
    by_cases c5 : a0_2 ≤ 5
    ·rw [if_pos c5] at H
     have c5b0 : decide (a0_2 ≤ 5) = true := decide_eq_true c5
     clear c5
     obtain rfl := Option.some.inj H
     go_enter Tryd.func21, Tryd.ntmps21
     go_wp2_with (first | ((with_reducible refine gate_dst (N := 1) rfl ?_); (try (refine gate_guard (by rfl) ?_; dsimp only)); refine box_event ?hg (N := 1) ?hd (cs := #[.int .i64 a0_0, .int .i64 a0_1, .int .i64 a0_2, .slice A0_3 l0_3.length c0_3]) (t := 26) ?hr ?_; (case hd => rfl); (case hg => rfl); (case hr => first | (go_simp; done) | (go_simp; rfl)); intro gb241 hg w6 hbox hb; have n0_ := Aside0.mk (below_step (by repeat (first | (with_reducible first | exact HB.out | apply below_alloc | apply pw_below_drewN | apply below_drew1) | exact HB.out)) hb); have n1_ := Aside0.mk (hbox); have n2_ := Aside0.mk ((by rw [hg]; exact (below_size (by repeat (first | (with_reducible first | exact HB.out | apply below_alloc | apply pw_below_drewN | apply below_drew1) | exact HB.out))) : w.heap.size ≤ gb241)); have n3_ := Aside0.mk ((by rw [hg]; exact (below_size (by repeat (first | (with_reducible first | exact HB.out | apply below_alloc | apply pw_below_drewN | apply below_drew1) | exact HB.out))) : w.heap.size ≤ gb241)); clear HB; have HB := n0_; have BK241 := n1_; have GW241 := n2_; have GE241 := n3_; clear n0_ n1_ n2_ n3_; clear hb hbox hg; have hcz7_0 : w6.cell? ⟨gb241, 0, none⟩ = some (.int .i64 a0_0) := (blk_cell BK241.out 0).trans rfl; have hcz7_1 : w6.cell? ⟨gb241, 1, none⟩ = some (.int .i64 a0_1) := (blk_cell BK241.out 1).trans rfl; have hcz7_2 : w6.cell? ⟨gb241, 2, none⟩ = some (.int .i64 a0_2) := (blk_cell BK241.out 2).trans rfl; have hcz7_3 : w6.cell? ⟨gb241, 3, none⟩ = some (.slice A0_3 l0_3.length c0_3) := (blk_cell BK241.out 3).trans rfl; have hfz7_0 := blk_frozen BK241.out 0; have hfz7_1 := blk_frozen BK241.out 1; have hfz7_2 := blk_frozen BK241.out 2; have hfz7_3 := blk_frozen BK241.out 3))
     go_ret
     exact ⟨by first | rfl | (simp [errW_none, errW_some] <;> rfl) | (simp [*, errW_none, errW_some] <;> rfl), by repeat (first | (with_reducible first | exact HB.out | apply below_alloc | apply pw_below_drewN | apply below_drew1 | refine below_set ?_ GE241.out) | exact HB.out)⟩
    ·rw [if_neg c5] at H
     have c5b0 : decide (a0_2 ≤ 5) = false := decide_eq_false c5
     clear c5
     obtain rfl := Option.some.inj H
     go_enter Tryd.func21, Tryd.ntmps21
     go_wp2_with (first | ((with_reducible refine gate_dst (N := 1) rfl ?_); (try (refine gate_guard (by rfl) ?_; dsimp only)); refine box_event ?hg (N := 1) ?hd (cs := #[.int .i64 a0_0, .int .i64 a0_1, .int .i64 a0_2, .slice A0_3 l0_3.length c0_3]) (t := 26) ?hr ?_; (case hd => rfl); (case hg => rfl); (case hr => first | (go_simp; done) | (go_simp; rfl)); intro gb241 hg w8 hbox hb; have n0_ := Aside0.mk (below_step (by repeat (first | (with_reducible first | exact HB.out | apply below_alloc | apply pw_below_drewN | apply below_drew1) | exact HB.out)) hb); have n1_ := Aside0.mk (hbox); have n2_ := Aside0.mk ((by rw [hg]; exact (below_size (by repeat (first | (with_reducible first | exact HB.out | apply below_alloc | apply pw_below_drewN | apply below_drew1) | exact HB.out))) : w.heap.size ≤ gb241)); have n3_ := Aside0.mk ((by rw [hg]; exact (below_size (by repeat (first | (with_reducible first | exact HB.out | apply below_alloc | apply pw_below_drewN | apply below_drew1) | exact HB.out))) : w.heap.size ≤ gb241)); clear HB; have HB := n0_; have BK241 := n1_; have GW241 := n2_; have GE241 := n3_; clear n0_ n1_ n2_ n3_; clear hb hbox hg; have hcz9_0 : w8.cell? ⟨gb241, 0, none⟩ = some (.int .i64 a0_0) := (blk_cell BK241.out 0).trans rfl; have hcz9_1 : w8.cell? ⟨gb241, 1, none⟩ = some (.int .i64 a0_1) := (blk_cell BK241.out 1).trans rfl; have hcz9_2 : w8.cell? ⟨gb241, 2, none⟩ = some (.int .i64 a0_2) := (blk_cell BK241.out 2).trans rfl; have hcz9_3 : w8.cell? ⟨gb241, 3, none⟩ = some (.slice A0_3 l0_3.length c0_3) := (blk_cell BK241.out 3).trans rfl; have hfz9_0 := blk_frozen BK241.out 0; have hfz9_1 := blk_frozen BK241.out 1; have hfz9_2 := blk_frozen BK241.out 2; have hfz9_3 := blk_frozen BK241.out 3))
     go_ret
     exact ⟨by first | rfl | (simp [errW_none, errW_some] <;> rfl) | (simp [*, errW_none, errW_some] <;> rfl), by repeat (first | (with_reducible first | exact HB.out | apply below_alloc | apply pw_below_drewN | apply below_drew1 | refine below_set ?_ GE241.out) | exact HB.out)⟩
   ·rw [if_neg c4] at H
    have c4b0 : decide (0 ≤ a0_2) = false := decide_eq_false c4
    clear c4
    obtain rfl := Option.some.inj H
    go_enter Tryd.func21, Tryd.ntmps21
    go_wp2_with (first | ((with_reducible refine gate_dst (N := 1) rfl ?_); (try (refine gate_guard (by rfl) ?_; dsimp only)); refine box_event ?hg (N := 1) ?hd (cs := #[.int .i64 a0_0, .int .i64 a0_1, .int .i64 a0_2, .slice A0_3 l0_3.length c0_3]) (t := 26) ?hr ?_; (case hd => rfl); (case hg => rfl); (case hr => first | (go_simp; done) | (go_simp; rfl)); intro gb241 hg w10 hbox hb; have n0_ := Aside0.mk (below_step (by repeat (first | (with_reducible first | exact HB.out | apply below_alloc | apply pw_below_drewN | apply below_drew1) | exact HB.out)) hb); have n1_ := Aside0.mk (hbox); have n2_ := Aside0.mk ((by rw [hg]; exact (below_size (by repeat (first | (with_reducible first | exact HB.out | apply below_alloc | apply pw_below_drewN | apply below_drew1) | exact HB.out))) : w.heap.size ≤ gb241)); have n3_ := Aside0.mk ((by rw [hg]; exact (below_size (by repeat (first | (with_reducible first | exact HB.out | apply below_alloc | apply pw_below_drewN | apply below_drew1) | exact HB.out))) : w.heap.size ≤ gb241)); clear HB; have HB := n0_; have BK241 := n1_; have GW241 := n2_; have GE241 := n3_; clear n0_ n1_ n2_ n3_; clear hb hbox hg; have hcz11_0 : w10.cell? ⟨gb241, 0, none⟩ = some (.int .i64 a0_0) := (blk_cell BK241.out 0).trans rfl; have hcz11_1 : w10.cell? ⟨gb241, 1, none⟩ = some (.int .i64 a0_1) := (blk_cell BK241.out 1).trans rfl; have hcz11_2 : w10.cell? ⟨gb241, 2, none⟩ = some (.int .i64 a0_2) := (blk_cell BK241.out 2).trans rfl; have hcz11_3 : w10.cell? ⟨gb241, 3, none⟩ = some (.slice A0_3 l0_3.length c0_3) := (blk_cell BK241.out 3).trans rfl; have hfz11_0 := blk_frozen BK241.out 0; have hfz11_1 := blk_frozen BK241.out 1; have hfz11_2 := blk_frozen BK241.out 2; have hfz11_3 := blk_frozen BK241.out 3))
    go_ret
    exact ⟨by first | rfl | (simp [errW_none, errW_some] <;> rfl) | (simp [*, errW_none, errW_some] <;> rfl), by repeat (first | (with_reducible first | exact HB.out | apply below_alloc | apply pw_below_drewN | apply below_drew1 | refine below_set ?_ GE241.out) | exact HB.out)⟩
  ·rw [if_neg c3] at H
   have c3b0 : decide (a0_0 ≤ 1099511627776) = false := decide_eq_false c3
   clear c3
   obtain rfl := Option.some.inj H
   go_enter Tryd.func21, Tryd.ntmps21
   go_wp2_with (first | ((with_reducible refine gate_dst (N := 1) rfl ?_); (try (refine gate_guard (by rfl) ?_; dsimp only)); refine box_event ?hg (N := 1) ?hd (cs := #[.int .i64 a0_0, .int .i64 a0_1, .int .i64 a0_2, .slice A0_3 l0_3.length c0_3]) (t := 26) ?hr ?_; (case hd => rfl); (case hg => rfl); (case hr => first | (go_simp; done) | (go_simp; rfl)); intro gb241 hg w12 hbox hb; have n0_ := Aside0.mk (below_step (by repeat (first | (with_reducible first | exact HB.out | apply below_alloc | apply pw_below_drewN | apply below_drew1) | exact HB.out)) hb); have n1_ := Aside0.mk (hbox); have n2_ := Aside0.mk ((by rw [hg]; exact (below_size (by repeat (first | (with_reducible first | exact HB.out | apply below_alloc | apply pw_below_drewN | apply below_drew1) | exact HB.out))) : w.heap.size ≤ gb241)); have n3_ := Aside0.mk ((by rw [hg]; exact (below_size (by repeat (first | (with_reducible first | exact HB.out | apply below_alloc | apply pw_below_drewN | apply below_drew1) | exact HB.out))) : w.heap.size ≤ gb241)); clear HB; have HB := n0_; have BK241 := n1_; have GW241 := n2_; have GE241 := n3_; clear n0_ n1_ n2_ n3_; clear hb hbox hg; have hcz13_0 : w12.cell? ⟨gb241, 0, none⟩ = some (.int .i64 a0_0) := (blk_cell BK241.out 0).trans rfl; have hcz13_1 : w12.cell? ⟨gb241, 1, none⟩ = some (.int .i64 a0_1) := (blk_cell BK241.out 1).trans rfl; have hcz13_2 : w12.cell? ⟨gb241, 2, none⟩ = some (.int .i64 a0_2) := (blk_cell BK241.out 2).trans rfl; have hcz13_3 : w12.cell? ⟨gb241, 3, none⟩ = some (.slice A0_3 l0_3.length c0_3) := (blk_cell BK241.out 3).trans rfl; have hfz13_0 := blk_frozen BK241.out 0; have hfz13_1 := blk_frozen BK241.out 1; have hfz13_2 := blk_frozen BK241.out 2; have hfz13_3 := blk_frozen BK241.out 3))
   go_ret
   exact ⟨by first | rfl | (simp [errW_none, errW_some] <;> rfl) | (simp [*, errW_none, errW_some] <;> rfl), by repeat (first | (with_reducible first | exact HB.out | apply below_alloc | apply pw_below_drewN | apply below_drew1 | refine below_set ?_ GE241.out) | exact HB.out)⟩
 ·rw [if_neg c2] at H
  have c2b0 : decide (1 ≤ a0_0) = false := decide_eq_false c2
  clear c2
  obtain rfl := Option.some.inj H
  go_enter Tryd.func21, Tryd.ntmps21
  go_wp2_with (first | ((with_reducible refine gate_dst (N := 1) rfl ?_); (try (refine gate_guard (by rfl) ?_; dsimp only)); refine box_event ?hg (N := 1) ?hd (cs := #[.int .i64 a0_0, .int .i64 a0_1, .int .i64 a0_2, .slice A0_3 l0_3.length c0_3]) (t := 26) ?hr ?_; (case hd => rfl); (case hg => rfl); (case hr => first | (go_simp; done) | (go_simp; rfl)); intro gb241 hg w14 hbox hb; have n0_ := Aside0.mk (below_step (by repeat (first | (with_reducible first | exact HB.out | apply below_alloc | apply pw_below_drewN | apply below_drew1) | exact HB.out)) hb); have n1_ := Aside0.mk (hbox); have n2_ := Aside0.mk ((by rw [hg]; exact (below_size (by repeat (first | (with_reducible first | exact HB.out | apply below_alloc | apply pw_below_drewN | apply below_drew1) | exact HB.out))) : w.heap.size ≤ gb241)); have n3_ := Aside0.mk ((by rw [hg]; exact (below_size (by repeat (first | (with_reducible first | exact HB.out | apply below_alloc | apply pw_below_drewN | apply below_drew1) | exact HB.out))) : w.heap.size ≤ gb241)); clear HB; have HB := n0_; have BK241 := n1_; have GW241 := n2_; have GE241 := n3_; clear n0_ n1_ n2_ n3_; clear hb hbox hg; have hcz15_0 : w14.cell? ⟨gb241, 0, none⟩ = some (.int .i64 a0_0) := (blk_cell BK241.out 0).trans rfl; have hcz15_1 : w14.cell? ⟨gb241, 1, none⟩ = some (.int .i64 a0_1) := (blk_cell BK241.out 1).trans rfl; have hcz15_2 : w14.cell? ⟨gb241, 2, none⟩ = some (.int .i64 a0_2) := (blk_cell BK241.out 2).trans rfl; have hcz15_3 : w14.cell? ⟨gb241, 3, none⟩ = some (.slice A0_3 l0_3.length c0_3) := (blk_cell BK241.out 3).trans rfl; have hfz15_0 := blk_frozen BK241.out 0; have hfz15_1 := blk_frozen BK241.out 1; have hfz15_2 := blk_frozen BK241.out 2; have hfz15_3 := blk_frozen BK241.out 3))
  go_ret
  exact ⟨by first | rfl | (simp [errW_none, errW_some] <;> rfl) | (simp [*, errW_none, errW_some] <;> rfl), by repeat (first | (with_reducible first | exact HB.out | apply below_alloc | apply pw_below_drewN | apply below_drew1 | refine below_set ?_ GE241.out) | exact HB.out)⟩

end Go.Proofs.YtickbejailcehaaDoor.C
