/- Texts of this claim, one behind the other: what the law's functions come to, walked (printed by a program, with the words that the print uses), and what that is, in plain Lean. No conditions of their own. -/
import Derived.Test.YtickbejailcehaaDoorQFlashGoes9
namespace Go.Proofs.YtickbejailcehaaDoor.C
open Go.RowKit Go.Proofs.YtickbejailcehaaDoorW.PrintWords Go.Proofs.YtickbejailcehaaDoorW.PrintLast Go.Proofs.YtickbejailcehaaDoorW.PrintMore
attribute [local go_sem] max2_int min2_int max_two min_two max_three min_three max_four min_four
set_option linter.unusedVariables false
set_option linter.unusedSimpArgs false
mutual
def flash_Write.j0 : Nat → Int → List Int → Bool → Int → Bool → List Int → List Int → Option (List Int × List Int × Bool × Int)
 | 0, _, _, _, _, _, _, _ => none
 | k + 1, x2, x9, x12, x13, x40, x180000, x180001 => if x40 = true then (some (([] : List Int), ([] : List Int), false, 124)) else (if x13 = 0 then (flash_Write.j1 k x2 x9 false x12 x180000 x180001) else (flash_Write.j1 k x2 x9 false true x180000 x180001))
def flash_Write.j1 : Nat → Int → List Int → Bool → Bool → List Int → List Int → Option (List Int × List Int × Bool × Int)
 | 0, _, _, _, _, _, _ => none
 | k + 1, x2, x9, x14, x46, x180000, x180001 => if x46 = true then (flash_Write.j2 k x2 x9 true x180000 x180001) else (flash_Write.j2 k x2 x9 x14 x180000 x180001)
def flash_Write.j2 : Nat → Int → List Int → Bool → List Int → List Int → Option (List Int × List Int × Bool × Int)
 | 0, _, _, _, _, _ => none
 | k + 1, x2, x9, x14, x180000, x180001 => (bytes_Clone.f x180000).bind fun t195 => ((bytes_Clone.f x180001).bind fun t198 => (if 0 ≤ (mn (mx x2 0) (x9.length : Int)) then (if (mn (mx x2 0) (x9.length : Int)) ≤ (x9.length : Int) then (some (pickR x14 (x9.take ((mn (mx x2 0) (x9.length : Int)) : Int).toNat) t195, pickR x14 t198 (x9.take ((mn (mx x2 0) (x9.length : Int)) : Int).toNat), decide (x2 ≥ (x9.length : Int)), 0)) else (none)) else (none)))
end
def flash_Write.f (k : Nat) (l0_0 : List Int) (l0_1 : List Int) (a1_0 : Int) (a1_1 : Int) (a1_2 : Int) (l1_3 : List Int) (a2 : Int) : Option (List Int × List Int × Bool × Int) := (flash_Code.f k a1_0 a1_1 a1_2 l1_3).bind fun bt182 => (if bt182.2 = 0 then ((flash_Recover.f k l0_0 l0_1).bind fun bt186 => (if bt186.2.2.2.2.2 = 0 then (flash_Write.j0 k a2 bt182.1 bt186.2.2.2.2.1 bt186.2.2.2.2.2 (decide (a1_0 ≤ bt186.1)) l0_0 l0_1) else (flash_Write.j0 k a2 bt182.1 bt186.2.2.2.2.1 bt186.2.2.2.2.2 false l0_0 l0_1))) else (some (([] : List Int), ([] : List Int), false, bt182.2)))
def flash_Write.T10 : Bool × List (List Nat × List Nat) := (true, [([], []), ([0], [0]), ([1], [1]), ([], []), ([3], [3]), ([4, 2], [4]), ([2, 5], [2, 5]), ([], []), ([7, 6, 5, 0, 1, 2, 3, 4, 5, 6, 7], [6, 7])])
def flash_Write.B10 : List Nat := [0, 1, 3, 0, 8, 31, 63, 0, 255]
theorem flash_Write.tab10 : rtab .any (opsOf Tryd.f11 10) = flash_Write.T10 := by kernel_rfl
theorem flash_Write.bits10 : waitsOk flash_Write.T10.2 flash_Write.B10 = true := by kernel_rfl
def flash_Write.T12 : Bool × List (List Nat × List Nat) := (true, [([], []), ([0], [0]), ([], []), ([], []), ([3], [3]), ([], []), ([5], [5]), ([4, 6], [4, 6]), ([2, 7], [2, 7]), ([1, 0, 1, 2, 3, 4, 5, 6, 7, 8], [1]), ([9, 8, 1, 0, 1, 2, 3, 4, 5, 6, 7, 8], [8, 9])])
def flash_Write.B12 : List Nat := [0, 1, 0, 0, 8, 0, 32, 120, 252, 511, 1023]
theorem flash_Write.tab12 : rtab .any (opsOf Tryd.f11 12) = flash_Write.T12 := by kernel_rfl
theorem flash_Write.bits12 : waitsOk flash_Write.T12.2 flash_Write.B12 = true := by kernel_rfl
set_option maxHeartbeats 8000000 in
set_option maxRecDepth 100000 in
theorem flash_Write.calls (k : Nat) (A0_0 : Option Addr) (c0_0 : Nat) (l0_0 : List Int) (A0_1 : Option Addr) (c0_1 : Nat) (l0_1 : List Int) (a1_0 : Int) (a1_1 : Int) (a1_2 : Int) (A1_3 : Option Addr) (c1_3 : Nat) (l1_3 : List Int) (a2 : Int) (r1 : List Int) (r2 : List Int) (r3 : Bool) (r4 : Int) (w : World) (hr0_0 : Kd.C (Kd.int .u8) w A0_0 l0_0.length l0_0) (hc0_0 : l0_0.length ≤ c0_0) (hr0_1 : Kd.C (Kd.int .u8) w A0_1 l0_1.length l0_1) (hc0_1 : l0_1.length ≤ c0_1) (hr1_3 : Kd.C (Kd.int .u8) w A1_3 l1_3.length l1_3) (hc1_3 : l1_3.length ≤ c1_3) (h : flash_Write.f k l0_0 l0_1 a1_0 a1_1 a1_2 l1_3 a2 = some (r1, r2, r3, r4)) (ht_ : Laid.TabAt w) :
  Calls Tryd.prog 11 #[.agg #[.slice A0_0 l0_0.length c0_0, .slice A0_1 l0_1.length c0_1], .agg #[.int .i64 a1_0, .int .i64 a1_1, .int .i64 a1_2, .slice A1_3 l1_3.length c1_3], .int .i64 a2] w fun e w' => ∃ v0_ v1_ : Value, e = .returned (.tuple #[.agg #[v0_, v1_], .bool r3, .int .i64 r4]) ∧ Kd.R (Kd.int .u8) 5 w' w.heap.size (fun k_ => some k_ ≠ (v1_ : Value).ownBlock) v0_ r1 ∧ Kd.R (Kd.int .u8) 5 w' w.heap.size (fun k_ => some k_ ≠ (v0_ : Value).ownBlock) v1_ r2 ∧ Below w.heap.size w w' := by
 have HTAB := Aside0.mk ht_
 clear ht_
 have hu24 := Tryd.underlying24
 have hu26 := Tryd.underlying26
 have hu58 := Tryd.underlying58
 have HR0_0 := Aside0.mk hr0_0
 have HC0_0 := Aside0.mk hc0_0
 clear hr0_0 hc0_0
 have HR0_1 := Aside0.mk hr0_1
 have HC0_1 := Aside0.mk hc0_1
 clear hr0_1 hc0_1
 have HR1_3 := Aside0.mk hr1_3
 have HC1_3 := Aside0.mk hc1_3
 clear hr1_3 hc1_3
 have HB := Aside0.mk (Below.refl w.heap.size w)
 have H : ((flash_Code.f k a1_0 a1_1 a1_2 l1_3).bind fun bt182 => (if bt182.2 = 0 then ((flash_Recover.f k l0_0 l0_1).bind fun bt186 => (if bt186.2.2.2.2.2 = 0 then (flash_Write.j0 k a2 bt182.1 bt186.2.2.2.2.1 bt186.2.2.2.2.2 (decide (a1_0 ≤ bt186.1)) l0_0 l0_1) else (flash_Write.j0 k a2 bt182.1 bt186.2.2.2.2.1 bt186.2.2.2.2.2 false l0_0 l0_1))) else (some (([] : List Int), ([] : List Int), false, bt182.2)))) = some (r1, r2, r3, r4) := h
 clear h
 replace H := Option.bind_eq_some_iff.mp H
 obtain ⟨⟨t182, t185⟩, A40, H⟩ := H
 replace H : (if t185 = 0 then ((flash_Recover.f k l0_0 l0_1).bind fun bt186 => (if bt186.2.2.2.2.2 = 0 then (flash_Write.j0 k a2 t182 bt186.2.2.2.2.1 bt186.2.2.2.2.2 (decide (a1_0 ≤ bt186.1)) l0_0 l0_1) else (flash_Write.j0 k a2 t182 bt186.2.2.2.2.1 bt186.2.2.2.2.2 false l0_0 l0_1))) else (some (([] : List Int), ([] : List Int), false, t185))) = some (r1, r2, r3, r4) := H
 have A4 := Aside0.mk A40
 clear A40
 by_cases c5 : t185 = 0
 ·rw [if_pos c5] at H
  have c5b0 : (t185 == 0) = true := beq_iff_eq.mpr c5
  have c5b1 : (t185 != 0) = false := bne_eq_false_iff_eq.mpr c5
  clear c5
  replace H := Option.bind_eq_some_iff.mp H
  obtain ⟨⟨t186, t187, t188, t189, t192, t193⟩, A60, H⟩ := H
  replace H : (if t193 = 0 then (flash_Write.j0 k a2 t182 t192 t193 (decide (a1_0 ≤ t186)) l0_0 l0_1) else (flash_Write.j0 k a2 t182 t192 t193 false l0_0 l0_1)) = some (r1, r2, r3, r4) := H
  have A6 := Aside0.mk A60
  clear A60
  have HC7 := Aside0.mk H
  clear H
  go_enter Tryd.func11, Tryd.ntmps11
  go_upto_region 5 with (first | ((with_reducible refine gate_dst (N := 3) rfl ?_); refine box_event ?hg (N := 3) ?hd (cs := #[.slice A0_0 l0_0.length c0_0, .slice A0_1 l0_1.length c0_1]) (t := 24) ?hr ?_; (case hd => rfl); (case hg => rfl); (case hr => first | (go_simp; done) | (go_simp; rfl)); intro gb179 hg w8 hbox hb; have n0_ := Aside0.mk (below_step (by repeat (first | (with_reducible first | exact HB.out | apply below_alloc | apply pw_below_drewN | apply below_drew1) | exact HB.out)) hb); have n1_ := Aside0.mk (hbox); have n2_ := Aside0.mk ((by rw [hg]; exact (below_size (by repeat (first | (with_reducible first | exact HB.out | apply below_alloc | apply pw_below_drewN | apply below_drew1) | exact HB.out))) : w.heap.size ≤ gb179)); have n3_ := Aside0.mk ((by rw [hg]; exact (below_size (by repeat (first | (with_reducible first | exact HB.out | apply below_alloc | apply pw_below_drewN | apply below_drew1) | exact HB.out))) : w.heap.size ≤ gb179)); clear HB; have HB := n0_; have BK179 := n1_; have GW179 := n2_; have GE179 := n3_; clear n0_ n1_ n2_ n3_; clear hb hbox hg) | ((with_reducible refine gate_dst (N := 4) rfl ?_); refine box_event ?hg (N := 4) ?hd (cs := #[.int .i64 a1_0, .int .i64 a1_1, .int .i64 a1_2, .slice A1_3 l1_3.length c1_3]) (t := 26) ?hr ?_; (case hd => rfl); (case hg => rfl); (case hr => first | (go_simp; done) | (go_simp; rfl)); intro gb180 hg w9 hbox hb; have n0_ := Aside0.mk (blk_below (g := gb179) (o := .cells #[.slice A0_0 l0_0.length c0_0, .slice A0_1 l0_1.length c0_1] 24 (0, 0)) (by (with_reducible repeat (first | refine blk_drewN ?_ _ | refine blk_drew ?_ | refine blk_alloc ?_ _)); exact BK179.out) hb); have n1_ := Aside0.mk (below_step (by repeat (first | (with_reducible first | exact HB.out | apply below_alloc | apply pw_below_drewN | apply below_drew1 | refine below_set ?_ GE179.out) | exact HB.out)) hb); have n2_ := Aside0.mk (hbox); have n3_ := Aside0.mk ((by rw [hg]; exact (below_size (by repeat (first | (with_reducible first | exact HB.out | apply below_alloc | apply pw_below_drewN | apply below_drew1 | refine below_set ?_ GE179.out) | exact HB.out))) : w.heap.size ≤ gb180)); have n4_ := Aside0.mk ((by rw [hg]; exact (below_size (by repeat (first | (with_reducible first | exact HB.out | apply below_alloc | apply pw_below_drewN | apply below_drew1 | refine below_set ?_ GE179.out) | exact HB.out))) : w.heap.size ≤ gb180)); have n5_ := Aside0.mk ((by rw [hg]; exact Nat.ne_of_lt (blk_lt (g := gb179) (o := .cells #[.slice A0_0 l0_0.length c0_0, .slice A0_1 l0_1.length c0_1] 24 (0, 0)) (by (with_reducible repeat (first | refine blk_drewN ?_ _ | refine blk_drew ?_ | refine blk_alloc ?_ _)); exact BK179.out)) : gb179 ≠ gb180)); have n6_ := Aside0.mk ((by rw [hg]; exact Nat.ne_of_gt (blk_lt (g := gb179) (o := .cells #[.slice A0_0 l0_0.length c0_0, .slice A0_1 l0_1.length c0_1] 24 (0, 0)) (by (with_reducible repeat (first | refine blk_drewN ?_ _ | refine blk_drew ?_ | refine blk_alloc ?_ _)); exact BK179.out)) : gb180 ≠ gb179)); clear BK179; clear HB; have BK179 := n0_; have HB := n1_; have BK180 := n2_; have GW180 := n3_; have GE180 := n4_; have NB179_180 := n5_; have NB180_179 := n6_; clear n0_ n1_ n2_ n3_ n4_ n5_ n6_; clear hb hbox hg) | ((with_reducible refine gate_dst (N := 6) rfl ?_); refine box_event ?hg (N := 6) ?hd (cs := #[.slice none 0 0, .slice none 0 0]) (t := 24) ?hr ?_; (case hd => rfl); (case hg => rfl); (case hr => first | (go_simp; done) | (go_simp; rfl)); intro gb181 hg w10 hbox hb; have n0_ := Aside0.mk (blk_below (g := gb179) (o := .cells #[.slice A0_0 l0_0.length c0_0, .slice A0_1 l0_1.length c0_1] 24 (0, 0)) (by (with_reducible repeat (first | refine blk_drewN ?_ _ | refine blk_drew ?_ | refine blk_alloc ?_ _)); exact BK179.out) hb); have n1_ := Aside0.mk (blk_below (g := gb180) (o := .cells #[.int .i64 a1_0, .int .i64 a1_1, .int .i64 a1_2, .slice A1_3 l1_3.length c1_3] 26 (0, 0)) (by (with_reducible repeat (first | refine blk_drewN ?_ _ | refine blk_drew ?_ | refine blk_alloc ?_ _)); exact BK180.out) hb); have n2_ := Aside0.mk (below_step (by repeat (first | (with_reducible first | exact HB.out | apply below_alloc | apply pw_below_drewN | apply below_drew1 | refine below_set ?_ GE179.out | refine below_set ?_ GE180.out) | exact HB.out)) hb); have n3_ := Aside0.mk (hbox); have n4_ := Aside0.mk ((by rw [hg]; exact (below_size (by repeat (first | (with_reducible first | exact HB.out | apply below_alloc | apply pw_below_drewN | apply below_drew1 | refine below_set ?_ GE179.out | refine below_set ?_ GE180.out) | exact HB.out))) : w.heap.size ≤ gb181)); have n5_ := Aside0.mk ((by rw [hg]; exact (below_size (by repeat (first | (with_reducible first | exact HB.out | apply below_alloc | apply pw_below_drewN | apply below_drew1 | refine below_set ?_ GE179.out | refine below_set ?_ GE180.out) | exact HB.out))) : w.heap.size ≤ gb181)); have n6_ := Aside0.mk ((by rw [hg]; exact Nat.ne_of_lt (blk_lt (g := gb179) (o := .cells #[.slice A0_0 l0_0.length c0_0, .slice A0_1 l0_1.length c0_1] 24 (0, 0)) (by (with_reducible repeat (first | refine blk_drewN ?_ _ | refine blk_drew ?_ | refine blk_alloc ?_ _)); exact BK179.out)) : gb179 ≠ gb181)); have n7_ := Aside0.mk ((by rw [hg]; exact Nat.ne_of_gt (blk_lt (g := gb179) (o := .cells #[.slice A0_0 l0_0.length c0_0, .slice A0_1 l0_1.length c0_1] 24 (0, 0)) (by (with_reducible repeat (first | refine blk_drewN ?_ _ | refine blk_drew ?_ | refine blk_alloc ?_ _)); exact BK179.out)) : gb181 ≠ gb179)); have n8_ := Aside0.mk ((by rw [hg]; exact Nat.ne_of_lt (blk_lt (g := gb180) (o := .cells #[.int .i64 a1_0, .int .i64 a1_1, .int .i64 a1_2, .slice A1_3 l1_3.length c1_3] 26 (0, 0)) (by (with_reducible repeat (first | refine blk_drewN ?_ _ | refine blk_drew ?_ | refine blk_alloc ?_ _)); exact BK180.out)) : gb180 ≠ gb181)); have n9_ := Aside0.mk ((by rw [hg]; exact Nat.ne_of_gt (blk_lt (g := gb180) (o := .cells #[.int .i64 a1_0, .int .i64 a1_1, .int .i64 a1_2, .slice A1_3 l1_3.length c1_3] 26 (0, 0)) (by (with_reducible repeat (first | refine blk_drewN ?_ _ | refine blk_drew ?_ | refine blk_alloc ?_ _)); exact BK180.out)) : gb181 ≠ gb180)); clear BK179; clear BK180; clear HB; have BK179 := n0_; have BK180 := n1_; have HB := n2_; have BK181 := n3_; have GW181 := n4_; have GE181 := n5_; have NB179_181 := n6_; have NB181_179 := n7_; have NB180_181 := n8_; have NB181_180 := n9_; clear n0_ n1_ n2_ n3_ n4_ n5_ n6_ n7_ n8_ n9_; clear hb hbox hg; have hnb11 := NB180_179.out; have hnc11 := NB179_180.out; have hnb12 := NB180_181.out; have hnc12 := NB181_180.out; have hcz13_0 : w10.cell? ⟨gb180, 0, none⟩ = some (.int .i64 a1_0) := (blk_cell BK180.out 0).trans rfl; have hcz13_1 : w10.cell? ⟨gb180, 1, none⟩ = some (.int .i64 a1_1) := (blk_cell BK180.out 1).trans rfl; have hcz13_2 : w10.cell? ⟨gb180, 2, none⟩ = some (.int .i64 a1_2) := (blk_cell BK180.out 2).trans rfl; have hcz13_3 : w10.cell? ⟨gb180, 3, none⟩ = some (.slice A1_3 l1_3.length c1_3) := (blk_cell BK180.out 3).trans rfl; have hfz13_0 := blk_frozen BK180.out 0; have hfz13_1 := blk_frozen BK180.out 1; have hfz13_2 := blk_frozen BK180.out 2; have hfz13_3 := blk_frozen BK180.out 3) | ((with_reducible refine gate_callee (f := 18) rfl ?_); refine goesL_ (some 19) rfl rfl Tryd.func18 (by kernel_rfl) rfl #[.agg #[.int .i64 a1_0, .int .i64 a1_1, .int .i64 a1_2, .slice A1_3 l1_3.length c1_3]] rfl (by (try simp only [List.map_toArray, List.map_cons, List.map_nil]); first | done | rfl | (simp only [List.length_drop, List.length_take]; rfl)) ?_; (with_reducible refine (flash_Code.calls k a1_0 a1_1 a1_2 _ _ l1_3 t182 t185 _ ?side1 ?side2 A4.out (by first | exact HTAB.out | ((repeat (first | exact HTAB.out | (with_reducible refine Laid.tab_alloc ?_ _) | (with_reducible refine Laid.tab_drewN ?_ _) | (with_reducible refine Laid.tab_drew ?_))); done) | (refine Laid.tab_below' HTAB.out ?_; (repeat (first | (with_reducible first | exact HB.out | apply below_alloc | apply pw_below_drewN | apply below_drew1) | exact HB.out | (refine below_set ?_ (Aside0.out (by assumption)))))))).mono ?_); (case side1 => repeat (first | exact (Kd.C_below HR1_3.out HB.out) | (with_reducible refine Kd.C_alloc ?_ _) | (with_reducible refine Kd.C_drewN ?_ _) | (with_reducible refine Kd.C_drew ?_))); (case side2 => exact HC1_3.out); rintro e w14 ⟨v183, rfl, ho0, hb⟩; refine ⟨_, rfl, ?_⟩; have n0_ := Aside0.mk (Kd.R_lower ho0 (below_size (by repeat (first | (with_reducible first | exact HB.out | apply below_alloc | apply pw_below_drewN | apply below_drew1 | refine below_set ?_ GE179.out | refine below_set ?_ GE180.out | refine below_set ?_ GE181.out) | exact HB.out)))); have n1_ := Aside0.mk (blk_below (g := gb179) (o := .cells #[.slice A0_0 l0_0.length c0_0, .slice A0_1 l0_1.length c0_1] 24 (0, 0)) (by (with_reducible repeat (first | refine blk_drewN ?_ _ | refine blk_drew ?_ | refine blk_alloc ?_ _)); exact BK179.out) hb); have n2_ := Aside0.mk (blk_below (g := gb180) (o := .cells #[.int .i64 a1_0, .int .i64 a1_1, .int .i64 a1_2, .slice A1_3 l1_3.length c1_3] 26 (0, 0)) (by (with_reducible repeat (first | refine blk_drewN ?_ _ | refine blk_drew ?_ | refine blk_alloc ?_ _)); exact BK180.out) hb); have n3_ := Aside0.mk (blk_below (g := gb181) (o := .cells #[.slice none 0 0, .slice none 0 0] 24 (0, 0)) (by (with_reducible repeat (first | refine blk_drewN ?_ _ | refine blk_drew ?_ | refine blk_alloc ?_ _)); exact BK181.out) hb); have n4_ := Aside0.mk (below_step (by repeat (first | (with_reducible first | exact HB.out | apply below_alloc | apply pw_below_drewN | apply below_drew1 | refine below_set ?_ GE179.out | refine below_set ?_ GE180.out | refine below_set ?_ GE181.out) | exact HB.out)) hb); clear BK179; clear BK180; clear BK181; clear HB; have HO184 := n0_; have BK179 := n1_; have BK180 := n2_; have BK181 := n3_; have HB := n4_; clear n0_ n1_ n2_ n3_ n4_; (try clear hb); (try clear hb2); (try clear hk); (try clear hi); (try clear ho0); have hnb15 := NB179_181.out; have hnc15 := NB181_179.out; have hcz16_0 : w14.cell? ⟨gb179, 0, none⟩ = some (.slice A0_0 l0_0.length c0_0) := (blk_cell BK179.out 0).trans rfl; have hcz16_1 : w14.cell? ⟨gb179, 1, none⟩ = some (.slice A0_1 l0_1.length c0_1) := (blk_cell BK179.out 1).trans rfl; have hfz16_0 := blk_frozen BK179.out 0; have hfz16_1 := blk_frozen BK179.out 1) | ((with_reducible refine gate_callee (f := 14) rfl ?_); refine goesL_ (some 28) rfl rfl Tryd.func14 (by kernel_rfl) rfl #[.agg #[.slice A0_0 l0_0.length c0_0, .slice A0_1 l0_1.length c0_1]] rfl (by (try simp only [List.map_toArray, List.map_cons, List.map_nil]); first | done | rfl | (simp only [List.length_drop, List.length_take]; rfl)) ?_; (with_reducible refine (flash_Recover.calls k _ _ l0_0 _ _ l0_1 t186 t187 t188 t189 t192 t193 _ ?side1 ?side2 ?side3 ?side4 A6.out (by first | exact HTAB.out | ((repeat (first | exact HTAB.out | (with_reducible refine Laid.tab_alloc ?_ _) | (with_reducible refine Laid.tab_drewN ?_ _) | (with_reducible refine Laid.tab_drew ?_))); done) | (refine Laid.tab_below' HTAB.out ?_; (repeat (first | (with_reducible first | exact HB.out | apply below_alloc | apply pw_below_drewN | apply below_drew1) | exact HB.out | (refine below_set ?_ (Aside0.out (by assumption)))))))).mono ?_); (case side1 => repeat (first | exact (Kd.C_below HR0_0.out HB.out) | (with_reducible refine Kd.C_alloc ?_ _) | (with_reducible refine Kd.C_drewN ?_ _) | (with_reducible refine Kd.C_drew ?_))); (case side2 => exact HC0_0.out); (case side3 => repeat (first | exact (Kd.C_below HR0_1.out HB.out) | (with_reducible refine Kd.C_alloc ?_ _) | (with_reducible refine Kd.C_drewN ?_ _) | (with_reducible refine Kd.C_drew ?_))); (case side4 => exact HC0_1.out); rintro e w17 ⟨v190, rfl, ho0, hb⟩; refine ⟨_, rfl, ?_⟩; have n0_ := Aside0.mk (Kd.R_elder' (by (with_reducible repeat (first | apply Kd.R_alloc | apply Kd.R_drewN | apply Kd.R_drew)); exact HO184.out) (Kd.R_base ho0) hb); have n1_ := Aside0.mk (Kd.R_lower (Kd.R_new' ho0 (Kd.R_lt (by (with_reducible repeat (first | apply Kd.R_alloc | apply Kd.R_drewN | apply Kd.R_drew)); exact HO184.out))) (below_size (by repeat (first | (with_reducible first | exact HB.out | apply below_alloc | apply pw_below_drewN | apply below_drew1 | refine below_set ?_ GE179.out | refine below_set ?_ GE180.out | refine below_set ?_ GE181.out) | exact HB.out)))); have n2_ := Aside0.mk (blk_below (g := gb179) (o := .cells #[.slice A0_0 l0_0.length c0_0, .slice A0_1 l0_1.length c0_1] 24 (0, 0)) (by (with_reducible repeat (first | refine blk_drewN ?_ _ | refine blk_drew ?_ | refine blk_alloc ?_ _)); exact BK179.out) hb); have n3_ := Aside0.mk (blk_below (g := gb180) (o := .cells #[.int .i64 a1_0, .int .i64 a1_1, .int .i64 a1_2, .slice A1_3 l1_3.length c1_3] 26 (0, 0)) (by (with_reducible repeat (first | refine blk_drewN ?_ _ | refine blk_drew ?_ | refine blk_alloc ?_ _)); exact BK180.out) hb); have n4_ := Aside0.mk (blk_below (g := gb181) (o := .cells #[.slice none 0 0, .slice none 0 0] 24 (0, 0)) (by (with_reducible repeat (first | refine blk_drewN ?_ _ | refine blk_drew ?_ | refine blk_alloc ?_ _)); exact BK181.out) hb); have n5_ := Aside0.mk (below_step (by repeat (first | (with_reducible first | exact HB.out | apply below_alloc | apply pw_below_drewN | apply below_drew1 | refine below_set ?_ GE179.out | refine below_set ?_ GE180.out | refine below_set ?_ GE181.out) | exact HB.out)) hb); clear HO184; clear BK179; clear BK180; clear BK181; clear HB; have HO184 := n0_; have HO191 := n1_; have BK179 := n2_; have BK180 := n3_; have BK181 := n4_; have HB := n5_; clear n0_ n1_ n2_ n3_ n4_ n5_; (try clear hb); (try clear hb2); (try clear hk); (try clear hi); (try clear ho0)) | ((with_reducible refine gate_dst (N := 11) rfl ?_); refine box_event ?hg (N := 11) ?hd (cs := #[.int .i64 0, .int .i64 0, .int .i64 0, .slice none 0 0]) (t := 26) ?hr ?_; (case hd => rfl); (case hg => rfl); (case hr => first | (go_simp; done) | (go_simp; rfl)); intro gb194 hg w18 hbox hb; have n0_ := Aside0.mk (Kd.R_below (by (with_reducible repeat (first | apply Kd.R_alloc | apply Kd.R_drewN | apply Kd.R_drew)); exact HO184.out) hb); have n1_ := Aside0.mk (Kd.R_below (by (with_reducible repeat (first | apply Kd.R_alloc | apply Kd.R_drewN | apply Kd.R_drew)); exact HO191.out) hb); have n2_ := Aside0.mk (blk_below (g := gb179) (o := .cells #[.slice A0_0 l0_0.length c0_0, .slice A0_1 l0_1.length c0_1] 24 (0, 0)) (by (with_reducible repeat (first | refine blk_drewN ?_ _ | refine blk_drew ?_ | refine blk_alloc ?_ _)); exact BK179.out) hb); have n3_ := Aside0.mk (blk_below (g := gb180) (o := .cells #[.int .i64 a1_0, .int .i64 a1_1, .int .i64 a1_2, .slice A1_3 l1_3.length c1_3] 26 (0, 0)) (by (with_reducible repeat (first | refine blk_drewN ?_ _ | refine blk_drew ?_ | refine blk_alloc ?_ _)); exact BK180.out) hb); have n4_ := Aside0.mk (blk_below (g := gb181) (o := .cells #[.slice none 0 0, .slice none 0 0] 24 (0, 0)) (by (with_reducible repeat (first | refine blk_drewN ?_ _ | refine blk_drew ?_ | refine blk_alloc ?_ _)); exact BK181.out) hb); have n5_ := Aside0.mk (below_step (by repeat (first | (with_reducible first | exact HB.out | apply below_alloc | apply pw_below_drewN | apply below_drew1 | refine below_set ?_ GE179.out | refine below_set ?_ GE180.out | refine below_set ?_ GE181.out) | exact HB.out)) hb); have n6_ := Aside0.mk (hbox); have n7_ := Aside0.mk ((by rw [hg]; exact (below_size (by repeat (first | (with_reducible first | exact HB.out | apply below_alloc | apply pw_below_drewN | apply below_drew1 | refine below_set ?_ GE179.out | refine below_set ?_ GE180.out | refine below_set ?_ GE181.out) | exact HB.out))) : w.heap.size ≤ gb194)); have n8_ := Aside0.mk ((by rw [hg]; exact (below_size (by repeat (first | (with_reducible first | exact HB.out | apply below_alloc | apply pw_below_drewN | apply below_drew1 | refine below_set ?_ GE179.out | refine below_set ?_ GE180.out | refine below_set ?_ GE181.out) | exact HB.out))) : w.heap.size ≤ gb194)); have n9_ := Aside0.mk ((by rw [hg]; exact Nat.ne_of_lt (blk_lt (g := gb179) (o := .cells #[.slice A0_0 l0_0.length c0_0, .slice A0_1 l0_1.length c0_1] 24 (0, 0)) (by (with_reducible repeat (first | refine blk_drewN ?_ _ | refine blk_drew ?_ | refine blk_alloc ?_ _)); exact BK179.out)) : gb179 ≠ gb194)); have n10_ := Aside0.mk ((by rw [hg]; exact Nat.ne_of_gt (blk_lt (g := gb179) (o := .cells #[.slice A0_0 l0_0.length c0_0, .slice A0_1 l0_1.length c0_1] 24 (0, 0)) (by (with_reducible repeat (first | refine blk_drewN ?_ _ | refine blk_drew ?_ | refine blk_alloc ?_ _)); exact BK179.out)) : gb194 ≠ gb179)); have n11_ := Aside0.mk ((by rw [hg]; exact Nat.ne_of_lt (blk_lt (g := gb180) (o := .cells #[.int .i64 a1_0, .int .i64 a1_1, .int .i64 a1_2, .slice A1_3 l1_3.length c1_3] 26 (0, 0)) (by (with_reducible repeat (first | refine blk_drewN ?_ _ | refine blk_drew ?_ | refine blk_alloc ?_ _)); exact BK180.out)) : gb180 ≠ gb194)); have n12_ := Aside0.mk ((by rw [hg]; exact Nat.ne_of_gt (blk_lt (g := gb180) (o := .cells #[.int .i64 a1_0, .int .i64 a1_1, .int .i64 a1_2, .slice A1_3 l1_3.length c1_3] 26 (0, 0)) (by (with_reducible repeat (first | refine blk_drewN ?_ _ | refine blk_drew ?_ | refine blk_alloc ?_ _)); exact BK180.out)) : gb194 ≠ gb180)); have n13_ := Aside0.mk ((by rw [hg]; exact Nat.ne_of_lt (blk_lt (g := gb181) (o := .cells #[.slice none 0 0, .slice none 0 0] 24 (0, 0)) (by (with_reducible repeat (first | refine blk_drewN ?_ _ | refine blk_drew ?_ | refine blk_alloc ?_ _)); exact BK181.out)) : gb181 ≠ gb194)); have n14_ := Aside0.mk ((by rw [hg]; exact Nat.ne_of_gt (blk_lt (g := gb181) (o := .cells #[.slice none 0 0, .slice none 0 0] 24 (0, 0)) (by (with_reducible repeat (first | refine blk_drewN ?_ _ | refine blk_drew ?_ | refine blk_alloc ?_ _)); exact BK181.out)) : gb194 ≠ gb181)); clear HO184; clear HO191; clear BK179; clear BK180; clear BK181; clear HB; have HO184 := n0_; have HO191 := n1_; have BK179 := n2_; have BK180 := n3_; have BK181 := n4_; have HB := n5_; have BK194 := n6_; have GW194 := n7_; have GE194 := n8_; have NB179_194 := n9_; have NB194_179 := n10_; have NB180_194 := n11_; have NB194_180 := n12_; have NB181_194 := n13_; have NB194_181 := n14_; clear n0_ n1_ n2_ n3_ n4_ n5_ n6_ n7_ n8_ n9_ n10_ n11_ n12_ n13_ n14_; clear hb hbox hg; have hnb19 := NB194_179.out; have hnc19 := NB179_194.out; have hnb20 := NB194_180.out; have hnc20 := NB180_194.out; have hnb21 := NB194_181.out; have hnc21 := NB181_194.out; have hcz22_0 : w18.cell? ⟨gb194, 0, none⟩ = some (.int .i64 0) := (blk_cell BK194.out 0).trans rfl; have hcz22_1 : w18.cell? ⟨gb194, 1, none⟩ = some (.int .i64 0) := (blk_cell BK194.out 1).trans rfl; have hcz22_2 : w18.cell? ⟨gb194, 2, none⟩ = some (.int .i64 0) := (blk_cell BK194.out 2).trans rfl; have hcz22_3 : w18.cell? ⟨gb194, 3, none⟩ = some (.slice none 0 0) := (blk_cell BK194.out 3).trans rfl; have hfz22_0 := blk_frozen BK194.out 0; have hfz22_1 := blk_frozen BK194.out 1; have hfz22_2 := blk_frozen BK194.out 2; have hfz22_3 := blk_frozen BK194.out 3; obtain ⟨Ao23, co23, eo23⟩ := Kd.R_slice HO191.out; subst eo23))
  (try simp only [Act.put, List.setIfInBounds_toArray, List.set_cons_zero, List.set_cons_succ])
  go_cut [40] (fun v40 wc => ∃ (kq : Nat) (x40_6 : Bool), v40 = .bool x40_6 ∧ Aside0 (flash_Write.j0 kq a2 t182 t192 t193 x40_6 l0_0 l0_1 = some (r1, r2, r3, r4)) ∧ Aside0 (kq ≤ k) ∧ Aside0 (Kd.R (Kd.int .u8) 5 wc w.heap.size (fun k_ => some k_ ≠ ((.slice Ao23 t189.length co23) : Value).ownBlock) v183 t182) ∧ Aside0 (Kd.R (Kd.int .u8) 5 wc w.heap.size (fun k_ => some k_ ≠ (v183 : Value).ownBlock) (.slice Ao23 t189.length co23) t189) ∧ Aside0 (wc.heap[gb179]? = some (.cells #[(.slice A0_0 l0_0.length c0_0), (.slice A0_1 l0_1.length c0_1)] 24 (0, 0))) ∧ Aside0 (wc.heap[gb180]? = some (.cells #[.int .i64 a1_0, .int .i64 a1_1, .int .i64 a1_2, (.slice A1_3 l1_3.length c1_3)] 26 (0, 0))) ∧ Aside0 (wc.heap[gb181]? = some (.cells #[(.slice none 0 0), (.slice none 0 0)] 24 (0, 0))) ∧ Aside0 (wc.heap[gb194]? = some (.cells #[.int .i64 t186, .int .i64 t187, .int .i64 t188, (.slice Ao23 t189.length co23)] 26 (0, 0))) ∧ Aside0 (Below w.heap.size w wc))
  case first =>
   have H := HC7.out
   clear HC7
   by_cases c24 : t193 = 0
   ·rw [if_pos c24] at H
    have c24b0 : (t193 == 0) = true := beq_iff_eq.mpr c24
    have c24b1 : (t193 != 0) = false := bne_eq_false_iff_eq.mpr c24
    clear c24
    (first | rw [c24b0] | (simp only [i64_w, i32_w]; rw [c24b0]) | skip)
    have H' := Aside0.mk H
    clear H
    have hnb25 := NB180_179.out
    have hnc25 := NB179_180.out
    have hnb26 := NB180_181.out
    have hnc26 := NB181_180.out
    have hnb27 := NB180_194.out
    have hnc27 := NB194_180.out
    have hcz28_0 : w18.cell? ⟨gb180, 0, none⟩ = some (.int .i64 a1_0) := (blk_cell BK180.out 0).trans rfl
    have hcz28_1 : w18.cell? ⟨gb180, 1, none⟩ = some (.int .i64 a1_1) := (blk_cell BK180.out 1).trans rfl
    have hcz28_2 : w18.cell? ⟨gb180, 2, none⟩ = some (.int .i64 a1_2) := (blk_cell BK180.out 2).trans rfl
    have hcz28_3 : w18.cell? ⟨gb180, 3, none⟩ = some (.slice A1_3 l1_3.length c1_3) := (blk_cell BK180.out 3).trans rfl
    have hfz28_0 := blk_frozen BK180.out 0
    have hfz28_1 := blk_frozen BK180.out 1
    have hfz28_2 := blk_frozen BK180.out 2
    have hfz28_3 := blk_frozen BK180.out 3
    have hnb29 := NB194_179.out
    have hnc29 := NB179_194.out
    have hnb30 := NB194_181.out
    have hnc30 := NB181_194.out
    have hcz31_0 : w18.cell? ⟨gb194, 0, none⟩ = some (.int .i64 0) := (blk_cell BK194.out 0).trans rfl
    have hcz31_1 : w18.cell? ⟨gb194, 1, none⟩ = some (.int .i64 0) := (blk_cell BK194.out 1).trans rfl
    have hcz31_2 : w18.cell? ⟨gb194, 2, none⟩ = some (.int .i64 0) := (blk_cell BK194.out 2).trans rfl
    have hcz31_3 : w18.cell? ⟨gb194, 3, none⟩ = some (.slice none 0 0) := (blk_cell BK194.out 3).trans rfl
    have hfz31_0 := blk_frozen BK194.out 0
    have hfz31_1 := blk_frozen BK194.out 1
    have hfz31_2 := blk_frozen BK194.out 2
    have hfz31_3 := blk_frozen BK194.out 3
    go_wp2
    go_meet
    case rel => exact ⟨_, (decide (a1_0 ≤ t186)), (by first | rfl | (simp; done) | (simp [*]; done)), H', ⟨by first | omega | exact Nat.le_refl _⟩, ⟨by (with_reducible repeat (first | apply Kd.R_alloc | apply Kd.R_drewN | apply Kd.R_drew)); exact Kd.R_mono (Kd.R_far (p := ⟨gb194, 3, none⟩) (Kd.R_far (p := ⟨gb194, 2, none⟩) (Kd.R_far (p := ⟨gb194, 1, none⟩) (Kd.R_far (p := ⟨gb194, 0, none⟩) (Kd.R_types HO184.out BK194.out (by decide)) (fun _ hk => hk.2) (.int .i64 t186)) (fun _ hk => hk.2) (.int .i64 t187)) (fun _ hk => hk.2) (.int .i64 t188)) (fun _ hk => hk.2) (.slice Ao23 t189.length co23)) (fun _ hk => hk.1.2)⟩, ⟨by (with_reducible repeat (first | apply Kd.R_alloc | apply Kd.R_drewN | apply Kd.R_drew)); exact Kd.R_mono (Kd.R_far (p := ⟨gb194, 3, none⟩) (Kd.R_far (p := ⟨gb194, 2, none⟩) (Kd.R_far (p := ⟨gb194, 1, none⟩) (Kd.R_far (p := ⟨gb194, 0, none⟩) (Kd.R_types HO191.out BK194.out (by decide)) (fun _ hk => hk.2) (.int .i64 t186)) (fun _ hk => hk.2) (.int .i64 t187)) (fun _ hk => hk.2) (.int .i64 t188)) (fun _ hk => hk.2) (.slice Ao23 t189.length co23)) (fun _ hk => hk.1.2)⟩, ⟨by (with_reducible repeat (first | refine blk_drewN ?_ _ | refine blk_drew ?_ | refine blk_alloc ?_ _)); refine blk_far ?_ NB179_194.out _; (with_reducible repeat (first | refine blk_drewN ?_ _ | refine blk_drew ?_ | refine blk_alloc ?_ _)); refine blk_far ?_ NB179_194.out _; (with_reducible repeat (first | refine blk_drewN ?_ _ | refine blk_drew ?_ | refine blk_alloc ?_ _)); refine blk_far ?_ NB179_194.out _; (with_reducible repeat (first | refine blk_drewN ?_ _ | refine blk_drew ?_ | refine blk_alloc ?_ _)); refine blk_far ?_ NB179_194.out _; (with_reducible repeat (first | refine blk_drewN ?_ _ | refine blk_drew ?_ | refine blk_alloc ?_ _)); exact BK179.out⟩, ⟨by (with_reducible repeat (first | refine blk_drewN ?_ _ | refine blk_drew ?_ | refine blk_alloc ?_ _)); refine blk_far ?_ NB180_194.out _; (with_reducible repeat (first | refine blk_drewN ?_ _ | refine blk_drew ?_ | refine blk_alloc ?_ _)); refine blk_far ?_ NB180_194.out _; (with_reducible repeat (first | refine blk_drewN ?_ _ | refine blk_drew ?_ | refine blk_alloc ?_ _)); refine blk_far ?_ NB180_194.out _; (with_reducible repeat (first | refine blk_drewN ?_ _ | refine blk_drew ?_ | refine blk_alloc ?_ _)); refine blk_far ?_ NB180_194.out _; (with_reducible repeat (first | refine blk_drewN ?_ _ | refine blk_drew ?_ | refine blk_alloc ?_ _)); exact BK180.out⟩, ⟨by (with_reducible repeat (first | refine blk_drewN ?_ _ | refine blk_drew ?_ | refine blk_alloc ?_ _)); refine blk_far ?_ NB181_194.out _; (with_reducible repeat (first | refine blk_drewN ?_ _ | refine blk_drew ?_ | refine blk_alloc ?_ _)); refine blk_far ?_ NB181_194.out _; (with_reducible repeat (first | refine blk_drewN ?_ _ | refine blk_drew ?_ | refine blk_alloc ?_ _)); refine blk_far ?_ NB181_194.out _; (with_reducible repeat (first | refine blk_drewN ?_ _ | refine blk_drew ?_ | refine blk_alloc ?_ _)); refine blk_far ?_ NB181_194.out _; (with_reducible repeat (first | refine blk_drewN ?_ _ | refine blk_drew ?_ | refine blk_alloc ?_ _)); exact BK181.out⟩, ⟨by (with_reducible repeat (first | refine blk_drewN ?_ _ | refine blk_drew ?_ | refine blk_alloc ?_ _)); refine blk_put (cs := #[.int .i64 t186, .int .i64 t187, .int .i64 t188, .slice none 0 0]) ?_ 3 _ rfl; (with_reducible repeat (first | refine blk_drewN ?_ _ | refine blk_drew ?_ | refine blk_alloc ?_ _)); refine blk_put (cs := #[.int .i64 t186, .int .i64 t187, .int .i64 0, .slice none 0 0]) ?_ 2 _ rfl; (with_reducible repeat (first | refine blk_drewN ?_ _ | refine blk_drew ?_ | refine blk_alloc ?_ _)); refine blk_put (cs := #[.int .i64 t186, .int .i64 0, .int .i64 0, .slice none 0 0]) ?_ 1 _ rfl; (with_reducible repeat (first | refine blk_drewN ?_ _ | refine blk_drew ?_ | refine blk_alloc ?_ _)); refine blk_put (cs := #[.int .i64 0, .int .i64 0, .int .i64 0, .slice none 0 0]) ?_ 0 _ rfl; (with_reducible repeat (first | refine blk_drewN ?_ _ | refine blk_drew ?_ | refine blk_alloc ?_ _)); exact BK194.out⟩, ⟨by repeat (first | (with_reducible first | exact HB.out | apply below_alloc | apply pw_below_drewN | apply below_drew1 | refine below_set ?_ GE179.out | refine below_set ?_ GE180.out | refine below_set ?_ GE181.out | refine below_set ?_ GE194.out) | exact HB.out)⟩⟩
   ·rw [if_neg c24] at H
    have c24b0 : (t193 == 0) = false := beq_eq_false_iff_ne.mpr c24
    have c24b1 : (t193 != 0) = true := bne_iff_ne.mpr c24
    (first | rw [c24b0] | (simp only [i64_w, i32_w]; rw [c24b0]) | skip)
    have H' := Aside0.mk H
    clear H
    go_wp2
    go_meet
    case rel => exact ⟨_, (false), (by first | rfl | (simp; done) | (simp [*]; done)), H', ⟨by first | omega | exact Nat.le_refl _⟩, ⟨by (with_reducible repeat (first | apply Kd.R_alloc | apply Kd.R_drewN | apply Kd.R_drew)); exact Kd.R_mono (Kd.R_far (p := ⟨gb194, 3, none⟩) (Kd.R_far (p := ⟨gb194, 2, none⟩) (Kd.R_far (p := ⟨gb194, 1, none⟩) (Kd.R_far (p := ⟨gb194, 0, none⟩) (Kd.R_types HO184.out BK194.out (by decide)) (fun _ hk => hk.2) (.int .i64 t186)) (fun _ hk => hk.2) (.int .i64 t187)) (fun _ hk => hk.2) (.int .i64 t188)) (fun _ hk => hk.2) (.slice Ao23 t189.length co23)) (fun _ hk => hk.1.2)⟩, ⟨by (with_reducible repeat (first | apply Kd.R_alloc | apply Kd.R_drewN | apply Kd.R_drew)); exact Kd.R_mono (Kd.R_far (p := ⟨gb194, 3, none⟩) (Kd.R_far (p := ⟨gb194, 2, none⟩) (Kd.R_far (p := ⟨gb194, 1, none⟩) (Kd.R_far (p := ⟨gb194, 0, none⟩) (Kd.R_types HO191.out BK194.out (by decide)) (fun _ hk => hk.2) (.int .i64 t186)) (fun _ hk => hk.2) (.int .i64 t187)) (fun _ hk => hk.2) (.int .i64 t188)) (fun _ hk => hk.2) (.slice Ao23 t189.length co23)) (fun _ hk => hk.1.2)⟩, ⟨by (with_reducible repeat (first | refine blk_drewN ?_ _ | refine blk_drew ?_ | refine blk_alloc ?_ _)); refine blk_far ?_ NB179_194.out _; (with_reducible repeat (first | refine blk_drewN ?_ _ | refine blk_drew ?_ | refine blk_alloc ?_ _)); refine blk_far ?_ NB179_194.out _; (with_reducible repeat (first | refine blk_drewN ?_ _ | refine blk_drew ?_ | refine blk_alloc ?_ _)); refine blk_far ?_ NB179_194.out _; (with_reducible repeat (first | refine blk_drewN ?_ _ | refine blk_drew ?_ | refine blk_alloc ?_ _)); refine blk_far ?_ NB179_194.out _; (with_reducible repeat (first | refine blk_drewN ?_ _ | refine blk_drew ?_ | refine blk_alloc ?_ _)); exact BK179.out⟩, ⟨by (with_reducible repeat (first | refine blk_drewN ?_ _ | refine blk_drew ?_ | refine blk_alloc ?_ _)); refine blk_far ?_ NB180_194.out _; (with_reducible repeat (first | refine blk_drewN ?_ _ | refine blk_drew ?_ | refine blk_alloc ?_ _)); refine blk_far ?_ NB180_194.out _; (with_reducible repeat (first | refine blk_drewN ?_ _ | refine blk_drew ?_ | refine blk_alloc ?_ _)); refine blk_far ?_ NB180_194.out _; (with_reducible repeat (first | refine blk_drewN ?_ _ | refine blk_drew ?_ | refine blk_alloc ?_ _)); refine blk_far ?_ NB180_194.out _; (with_reducible repeat (first | refine blk_drewN ?_ _ | refine blk_drew ?_ | refine blk_alloc ?_ _)); exact BK180.out⟩, ⟨by (with_reducible repeat (first | refine blk_drewN ?_ _ | refine blk_drew ?_ | refine blk_alloc ?_ _)); refine blk_far ?_ NB181_194.out _; (with_reducible repeat (first | refine blk_drewN ?_ _ | refine blk_drew ?_ | refine blk_alloc ?_ _)); refine blk_far ?_ NB181_194.out _; (with_reducible repeat (first | refine blk_drewN ?_ _ | refine blk_drew ?_ | refine blk_alloc ?_ _)); refine blk_far ?_ NB181_194.out _; (with_reducible repeat (first | refine blk_drewN ?_ _ | refine blk_drew ?_ | refine blk_alloc ?_ _)); refine blk_far ?_ NB181_194.out _; (with_reducible repeat (first | refine blk_drewN ?_ _ | refine blk_drew ?_ | refine blk_alloc ?_ _)); exact BK181.out⟩, ⟨by (with_reducible repeat (first | refine blk_drewN ?_ _ | refine blk_drew ?_ | refine blk_alloc ?_ _)); refine blk_put (cs := #[.int .i64 t186, .int .i64 t187, .int .i64 t188, .slice none 0 0]) ?_ 3 _ rfl; (with_reducible repeat (first | refine blk_drewN ?_ _ | refine blk_drew ?_ | refine blk_alloc ?_ _)); refine blk_put (cs := #[.int .i64 t186, .int .i64 t187, .int .i64 0, .slice none 0 0]) ?_ 2 _ rfl; (with_reducible repeat (first | refine blk_drewN ?_ _ | refine blk_drew ?_ | refine blk_alloc ?_ _)); refine blk_put (cs := #[.int .i64 t186, .int .i64 0, .int .i64 0, .slice none 0 0]) ?_ 1 _ rfl; (with_reducible repeat (first | refine blk_drewN ?_ _ | refine blk_drew ?_ | refine blk_alloc ?_ _)); refine blk_put (cs := #[.int .i64 0, .int .i64 0, .int .i64 0, .slice none 0 0]) ?_ 0 _ rfl; (with_reducible repeat (first | refine blk_drewN ?_ _ | refine blk_drew ?_ | refine blk_alloc ?_ _)); exact BK194.out⟩, ⟨by repeat (first | (with_reducible first | exact HB.out | apply below_alloc | apply pw_below_drewN | apply below_drew1 | refine below_set ?_ GE179.out | refine below_set ?_ GE180.out | refine below_set ?_ GE181.out | refine below_set ?_ GE194.out) | exact HB.out)⟩⟩
  case rest =>
   clear HC7
   try clear c1
   try clear c2
   try clear p2
   try clear c3
   try clear c5
   try clear c5b0
   try clear c5b1
   try clear c11
   try clear c12
   try clear c14
   try clear c15
   try clear c18
   try clear c19
   try clear c20
   try clear c21
   try clear c24
   try clear c24b0
   try clear c24b1
   try clear c25
   try clear c26
   try clear c27
   try clear c29
   try clear c30
   try clear hcz13_0
   try clear hcz13_1
   try clear hcz13_2
   try clear hcz13_3
   try clear hcz16_0
   try clear hcz16_1
   try clear hcz22_0
   try clear hcz22_1
   try clear hcz22_2
   try clear hcz22_3
   try clear hcz28_0
   try clear hcz28_1
   try clear hcz28_2
   try clear hcz28_3
   try clear hcz31_0
   try clear hcz31_1
   try clear hcz31_2
   try clear hcz31_3
   try clear hfz13_0
   try clear hfz13_1
   try clear hfz13_2
   try clear hfz13_3
   try clear hfz16_0
   try clear hfz16_1
   try clear hfz22_0
   try clear hfz22_1
   try clear hfz22_2
   try clear hfz22_3
   try clear hfz28_0
   try clear hfz28_1
   try clear hfz28_2
   try clear hfz28_3
   try clear hfz31_0
   try clear hfz31_1
   try clear hfz31_2
   try clear hfz31_3
   obtain ⟨kq, x40_6, rfl, HA, HJ6, HO_9, HO_195003, BK179, BK180, BK181, BK194, HB⟩ := hcut
   cases kq with
   | zero => exact absurd HA.out (by simp [flash_Write.j0])
   | succ kj6 =>
    have H := HA.out
    clear HA
    simp only [flash_Write.j0] at H
    by_cases c32 : x40_6 = true
    ·subst c32
     have H1 : (some (([] : List Int), ([] : List Int), false, 124)) = some (r1, r2, r3, r4) := by rw [if_pos rfl] at H; exact H
     clear H
     have H := H1
     clear H1
     simp only [Option.some.injEq, Prod.mk.injEq] at H
     obtain ⟨rfl, rfl, rfl, rfl⟩ := H
     have hnb33 := NB181_179.out
     have hnc33 := NB179_181.out
     have hnb34 := NB181_180.out
     have hnc34 := NB180_181.out
     have hnb35 := NB181_194.out
     have hnc35 := NB194_181.out
     have hcz36_0 : wc.cell? ⟨gb181, 0, none⟩ = some (.slice none 0 0) := (blk_cell BK181.out 0).trans rfl
     have hcz36_1 : wc.cell? ⟨gb181, 1, none⟩ = some (.slice none 0 0) := (blk_cell BK181.out 1).trans rfl
     have hfz36_0 := blk_frozen BK181.out 0
     have hfz36_1 := blk_frozen BK181.out 1
     go_wp2
     refine bodyPost_ret (results_ctt rfl _ _ gb181 24 #[.slice none 0 0, .slice none 0 0] (0, 0) _ rfl (by (with_reducible repeat (first | refine blk_drewN ?_ _ | refine blk_drew ?_ | refine blk_alloc ?_ _)); refine blk_put (cs := #[.slice none 0 0, .slice none 0 0]) ?_ 1 _ rfl; (with_reducible repeat (first | refine blk_drewN ?_ _ | refine blk_drew ?_ | refine blk_alloc ?_ _)); refine blk_put (cs := #[.slice none 0 0, .slice none 0 0]) ?_ 0 _ rfl; (with_reducible repeat (first | refine blk_drewN ?_ _ | refine blk_drew ?_ | refine blk_alloc ?_ _)); exact BK181.out) Tryd.underlying24 rfl (by kernel_rfl)) rfl ?_
     exact ⟨_, _, by first | rfl | (simp [errW_none, errW_some] <;> rfl) | (simp [*, errW_none, errW_some] <;> rfl), by first | exact Kd.R_nil _ _ _ _ _ | exact Kd.N_nil _ _ _ _ _ | exact Kd.V_nil _ _ _ _ _ | exact Kd.Q_nil _ _ _ _ _ | exact Kd.S_nil _ _ _ _ _, by first | exact Kd.R_nil _ _ _ _ _ | exact Kd.N_nil _ _ _ _ _ | exact Kd.V_nil _ _ _ _ _ | exact Kd.Q_nil _ _ _ _ _ | exact Kd.S_nil _ _ _ _ _, by repeat (first | (with_reducible first | exact HB.out | apply below_alloc | apply pw_below_drewN | apply below_drew1 | refine below_set ?_ GE179.out | refine below_set ?_ GE180.out | refine below_set ?_ GE181.out | refine below_set ?_ GE194.out) | exact HB.out)⟩
    ·replace c32 := Bool.eq_false_iff.mpr c32
     subst c32
     have H1 : (if t193 = 0 then (flash_Write.j1 kj6 a2 t182 false t192 l0_0 l0_1) else (flash_Write.j1 kj6 a2 t182 false true l0_0 l0_1)) = some (r1, r2, r3, r4) := by rw [if_neg (show ¬ (false = true) by decide)] at H; exact H
     clear H
     have H := H1
     clear H1
     have HC37 := Aside0.mk H
     clear H
     go_upto_region 8 with (fail)
     go_cut [46] (fun v46 wc => ∃ (kq : Nat) (x46_36 : Bool), v46 = .bool x46_36 ∧ Aside0 (flash_Write.j1 kq a2 t182 false x46_36 l0_0 l0_1 = some (r1, r2, r3, r4)) ∧ Aside0 (kq ≤ kj6) ∧ Aside0 (Kd.R (Kd.int .u8) 5 wc w.heap.size (fun k_ => some k_ ≠ ((.slice Ao23 t189.length co23) : Value).ownBlock) v183 t182) ∧ Aside0 (Kd.R (Kd.int .u8) 5 wc w.heap.size (fun k_ => some k_ ≠ (v183 : Value).ownBlock) (.slice Ao23 t189.length co23) t189) ∧ Aside0 (wc.heap[gb179]? = some (.cells #[(.slice A0_0 l0_0.length c0_0), (.slice A0_1 l0_1.length c0_1)] 24 (0, 0))) ∧ Aside0 (wc.heap[gb180]? = some (.cells #[.int .i64 a1_0, .int .i64 a1_1, .int .i64 a1_2, (.slice A1_3 l1_3.length c1_3)] 26 (0, 0))) ∧ Aside0 (wc.heap[gb181]? = some (.cells #[(.slice none 0 0), (.slice none 0 0)] 24 (0, 0))) ∧ Aside0 (wc.heap[gb194]? = some (.cells #[.int .i64 t186, .int .i64 t187, .int .i64 t188, (.slice Ao23 t189.length co23)] 26 (0, 0))) ∧ Aside0 (Below w.heap.size w wc))
     case first =>
      have H := HC37.out
      clear HC37
      by_cases c38 : t193 = 0
      ·rw [if_pos c38] at H
       have c38b0 : (t193 == 0) = true := beq_iff_eq.mpr c38
       have c38b1 : (t193 != 0) = false := bne_eq_false_iff_eq.mpr c38
       clear c38
       (first | rw [c38b0] | (simp only [i64_w, i32_w]; rw [c38b0]) | skip)
       have H' := Aside0.mk H
       clear H
       go_wp2
       go_meet
       case rel => exact ⟨_, (t192), (by first | rfl | (simp; done) | (simp [*]; done)), H', ⟨by have := HJ6.out; first | omega | exact Nat.le_refl _⟩, ⟨by (with_reducible repeat (first | apply Kd.R_alloc | apply Kd.R_drewN | apply Kd.R_drew)); exact HO_9.out⟩, ⟨by (with_reducible repeat (first | apply Kd.R_alloc | apply Kd.R_drewN | apply Kd.R_drew)); exact HO_195003.out⟩, ⟨by (with_reducible repeat (first | refine blk_drewN ?_ _ | refine blk_drew ?_ | refine blk_alloc ?_ _)); exact BK179.out⟩, ⟨by (with_reducible repeat (first | refine blk_drewN ?_ _ | refine blk_drew ?_ | refine blk_alloc ?_ _)); exact BK180.out⟩, ⟨by (with_reducible repeat (first | refine blk_drewN ?_ _ | refine blk_drew ?_ | refine blk_alloc ?_ _)); exact BK181.out⟩, ⟨by (with_reducible repeat (first | refine blk_drewN ?_ _ | refine blk_drew ?_ | refine blk_alloc ?_ _)); exact BK194.out⟩, ⟨by repeat (first | (with_reducible first | exact HB.out | apply below_alloc | apply pw_below_drewN | apply below_drew1 | refine below_set ?_ GE179.out | refine below_set ?_ GE180.out | refine below_set ?_ GE181.out | refine below_set ?_ GE194.out) | exact HB.out)⟩⟩
      ·rw [if_neg c38] at H
       have c38b0 : (t193 == 0) = false := beq_eq_false_iff_ne.mpr c38
       have c38b1 : (t193 != 0) = true := bne_iff_ne.mpr c38
       (first | rw [c38b0] | (simp only [i64_w, i32_w]; rw [c38b0]) | skip)
       have H' := Aside0.mk H
       clear H
       go_wp2
       go_meet
       case rel => exact ⟨_, (true), (by first | rfl | (simp; done) | (simp [*]; done)), H', ⟨by have := HJ6.out; first | omega | exact Nat.le_refl _⟩, ⟨by (with_reducible repeat (first | apply Kd.R_alloc | apply Kd.R_drewN | apply Kd.R_drew)); exact HO_9.out⟩, ⟨by (with_reducible repeat (first | apply Kd.R_alloc | apply Kd.R_drewN | apply Kd.R_drew)); exact HO_195003.out⟩, ⟨by (with_reducible repeat (first | refine blk_drewN ?_ _ | refine blk_drew ?_ | refine blk_alloc ?_ _)); exact BK179.out⟩, ⟨by (with_reducible repeat (first | refine blk_drewN ?_ _ | refine blk_drew ?_ | refine blk_alloc ?_ _)); exact BK180.out⟩, ⟨by (with_reducible repeat (first | refine blk_drewN ?_ _ | refine blk_drew ?_ | refine blk_alloc ?_ _)); exact BK181.out⟩, ⟨by (with_reducible repeat (first | refine blk_drewN ?_ _ | refine blk_drew ?_ | refine blk_alloc ?_ _)); exact BK194.out⟩, ⟨by repeat (first | (with_reducible first | exact HB.out | apply below_alloc | apply pw_below_drewN | apply below_drew1 | refine below_set ?_ GE179.out | refine below_set ?_ GE180.out | refine below_set ?_ GE181.out | refine below_set ?_ GE194.out) | exact HB.out)⟩⟩
     case rest =>
      clear HC37
      try clear c1
      try clear c2
      try clear p2
      try clear c3
      try clear c5
      try clear c5b0
      try clear c5b1
      try clear c11
      try clear c12
      try clear c14
      try clear c15
      try clear c18
      try clear c19
      try clear c20
      try clear c21
      try clear c24
      try clear c24b0
      try clear c24b1
      try clear c25
      try clear c26
      try clear c27
      try clear c29
      try clear c30
      try clear c32
      try clear c33
      try clear c34
      try clear c35
      try clear c38
      try clear c38b0
      try clear c38b1
      try clear hcz13_0
      try clear hcz13_1
      try clear hcz13_2
      try clear hcz13_3
      try clear hcz16_0
      try clear hcz16_1
      try clear hcz22_0
      try clear hcz22_1
      try clear hcz22_2
      try clear hcz22_3
      try clear hcz28_0
      try clear hcz28_1
      try clear hcz28_2
      try clear hcz28_3
      try clear hcz31_0
      try clear hcz31_1
      try clear hcz31_2
      try clear hcz31_3
      try clear hcz36_0
      try clear hcz36_1
      try clear hfz13_0
      try clear hfz13_1
      try clear hfz13_2
      try clear hfz13_3
      try clear hfz16_0
      try clear hfz16_1
      try clear hfz22_0
      try clear hfz22_1
      try clear hfz22_2
      try clear hfz22_3
      try clear hfz28_0
      try clear hfz28_1
      try clear hfz28_2
      try clear hfz28_3
      try clear hfz31_0
      try clear hfz31_1
      try clear hfz31_2
      try clear hfz31_3
      try clear hfz36_0
      try clear hfz36_1
      try clear p2
      obtain ⟨kq, x46_36, rfl, HA, HJ36, HO_9, HO_195003, BK179, BK180, BK181, BK194, HB⟩ := hcut
      cases kq with
      | zero => exact absurd HA.out (by simp [flash_Write.j1])
      | succ kj36 =>
       have H := HA.out
       clear HA
       simp only [flash_Write.j1] at H
       have HC39 := Aside0.mk H
       clear H
       go_upto_if 46 with (fail)
       go_cut [14] (fun v14 wc => ∃ (kq : Nat) (x14_38 : Bool), v14 = pickF x14_38 ∧ Aside0 (flash_Write.j2 kq a2 t182 x14_38 l0_0 l0_1 = some (r1, r2, r3, r4)) ∧ Aside0 (kq ≤ kj36) ∧ Aside0 (Kd.R (Kd.int .u8) 5 wc w.heap.size (fun k_ => some k_ ≠ ((.slice Ao23 t189.length co23) : Value).ownBlock) v183 t182) ∧ Aside0 (Kd.R (Kd.int .u8) 5 wc w.heap.size (fun k_ => some k_ ≠ (v183 : Value).ownBlock) (.slice Ao23 t189.length co23) t189) ∧ Aside0 (wc.heap[gb179]? = some (.cells #[(.slice A0_0 l0_0.length c0_0), (.slice A0_1 l0_1.length c0_1)] 24 (0, 0))) ∧ Aside0 (wc.heap[gb180]? = some (.cells #[.int .i64 a1_0, .int .i64 a1_1, .int .i64 a1_2, (.slice A1_3 l1_3.length c1_3)] 26 (0, 0))) ∧ Aside0 (wc.heap[gb181]? = some (.cells #[(.slice none 0 0), (.slice none 0 0)] 24 (0, 0))) ∧ Aside0 (wc.heap[gb194]? = some (.cells #[.int .i64 t186, .int .i64 t187, .int .i64 t188, (.slice Ao23 t189.length co23)] 26 (0, 0))) ∧ Aside0 (Below w.heap.size w wc))
       case first =>
        have H := HC39.out
        clear HC39
        by_cases c40 : x46_36 = true
        ·subst c40
         have H1 : (flash_Write.j2 kj36 a2 t182 true l0_0 l0_1) = some (r1, r2, r3, r4) := by rw [if_pos rfl] at H; exact H
         clear H
         have H := H1
         clear H1
         have H' := Aside0.mk H
         clear H
         go_wp2
         go_meet
         case rel => exact ⟨_, (true), (by first | rfl | (simp; done) | (simp [*]; done)), H', ⟨by have := HJ6.out; have := HJ36.out; first | omega | exact Nat.le_refl _⟩, ⟨by (with_reducible repeat (first | apply Kd.R_alloc | apply Kd.R_drewN | apply Kd.R_drew)); exact HO_9.out⟩, ⟨by (with_reducible repeat (first | apply Kd.R_alloc | apply Kd.R_drewN | apply Kd.R_drew)); exact HO_195003.out⟩, ⟨by (with_reducible repeat (first | refine blk_drewN ?_ _ | refine blk_drew ?_ | refine blk_alloc ?_ _)); exact BK179.out⟩, ⟨by (with_reducible repeat (first | refine blk_drewN ?_ _ | refine blk_drew ?_ | refine blk_alloc ?_ _)); exact BK180.out⟩, ⟨by (with_reducible repeat (first | refine blk_drewN ?_ _ | refine blk_drew ?_ | refine blk_alloc ?_ _)); exact BK181.out⟩, ⟨by (with_reducible repeat (first | refine blk_drewN ?_ _ | refine blk_drew ?_ | refine blk_alloc ?_ _)); exact BK194.out⟩, ⟨by repeat (first | (with_reducible first | exact HB.out | apply below_alloc | apply pw_below_drewN | apply below_drew1 | refine below_set ?_ GE179.out | refine below_set ?_ GE180.out | refine below_set ?_ GE181.out | refine below_set ?_ GE194.out) | exact HB.out)⟩⟩
        ·replace c40 := Bool.eq_false_iff.mpr c40
         subst c40
         have H1 : (flash_Write.j2 kj36 a2 t182 false l0_0 l0_1) = some (r1, r2, r3, r4) := by rw [if_neg (show ¬ (false = true) by decide)] at H; exact H
         clear H
         have H := H1
         clear H1
         have H' := Aside0.mk H
         clear H
         go_wp2
         go_meet
         case rel => exact ⟨_, (false), (by first | rfl | (simp; done) | (simp [*]; done)), H', ⟨by have := HJ6.out; have := HJ36.out; first | omega | exact Nat.le_refl _⟩, ⟨by (with_reducible repeat (first | apply Kd.R_alloc | apply Kd.R_drewN | apply Kd.R_drew)); exact HO_9.out⟩, ⟨by (with_reducible repeat (first | apply Kd.R_alloc | apply Kd.R_drewN | apply Kd.R_drew)); exact HO_195003.out⟩, ⟨by (with_reducible repeat (first | refine blk_drewN ?_ _ | refine blk_drew ?_ | refine blk_alloc ?_ _)); exact BK179.out⟩, ⟨by (with_reducible repeat (first | refine blk_drewN ?_ _ | refine blk_drew ?_ | refine blk_alloc ?_ _)); exact BK180.out⟩, ⟨by (with_reducible repeat (first | refine blk_drewN ?_ _ | refine blk_drew ?_ | refine blk_alloc ?_ _)); exact BK181.out⟩, ⟨by (with_reducible repeat (first | refine blk_drewN ?_ _ | refine blk_drew ?_ | refine blk_alloc ?_ _)); exact BK194.out⟩, ⟨by repeat (first | (with_reducible first | exact HB.out | apply below_alloc | apply pw_below_drewN | apply below_drew1 | refine below_set ?_ GE179.out | refine below_set ?_ GE180.out | refine below_set ?_ GE181.out | refine below_set ?_ GE194.out) | exact HB.out)⟩⟩
       case rest =>
        clear HC39
        try clear c1
        try clear c2
        try clear p2
        try clear c3
        try clear c4
        try clear c5
        try clear c5b0
        try clear c5b1
        try clear c11
        try clear c12
        try clear c14
        try clear c15
        try clear c18
        try clear c19
        try clear c20
        try clear c21
        try clear c24
        try clear c24b0
        try clear c24b1
        try clear c25
        try clear c26
        try clear c27
        try clear c29
        try clear c30
        try clear c32
        try clear c33
        try clear c34
        try clear c35
        try clear c38
        try clear c38b0
        try clear c38b1
        try clear c40
        try clear hcz13_0
        try clear hcz13_1
        try clear hcz13_2
        try clear hcz13_3
        try clear hcz16_0
        try clear hcz16_1
        try clear hcz22_0
        try clear hcz22_1
        try clear hcz22_2
        try clear hcz22_3
        try clear hcz28_0
        try clear hcz28_1
        try clear hcz28_2
        try clear hcz28_3
        try clear hcz31_0
        try clear hcz31_1
        try clear hcz31_2
        try clear hcz31_3
        try clear hcz36_0
        try clear hcz36_1
        try clear hfz13_0
        try clear hfz13_1
        try clear hfz13_2
        try clear hfz13_3
        try clear hfz16_0
        try clear hfz16_1
        try clear hfz22_0
        try clear hfz22_1
        try clear hfz22_2
        try clear hfz22_3
        try clear hfz28_0
        try clear hfz28_1
        try clear hfz28_2
        try clear hfz28_3
        try clear hfz31_0
        try clear hfz31_1
        try clear hfz31_2
        try clear hfz31_3
        try clear hfz36_0
        try clear hfz36_1
        try clear p2
        obtain ⟨kq, x14_38, rfl, HA, HJ38, HO_9, HO_195003, BK179, BK180, BK181, BK194, HB⟩ := hcut
        cases kq with
        | zero => exact absurd HA.out (by simp [flash_Write.j2])
        | succ kj38 =>
         have H := HA.out
         clear HA
         simp only [flash_Write.j2] at H
         replace H := Option.bind_eq_some_iff.mp H
         obtain ⟨t195, A410, H⟩ := H
         replace H : ((bytes_Clone.f l0_1).bind fun t198 => (if 0 ≤ (mn (mx a2 0) (t182.length : Int)) then (if (mn (mx a2 0) (t182.length : Int)) ≤ (t182.length : Int) then (some (pickR x14_38 (t182.take ((mn (mx a2 0) (t182.length : Int)) : Int).toNat) t195, pickR x14_38 t198 (t182.take ((mn (mx a2 0) (t182.length : Int)) : Int).toNat), decide (a2 ≥ (t182.length : Int)), 0)) else (none)) else (none))) = some (r1, r2, r3, r4) := H
         have A41 := Aside0.mk A410
         clear A410
         replace H := Option.bind_eq_some_iff.mp H
         obtain ⟨t198, A420, H⟩ := H
         replace H : (if 0 ≤ (mn (mx a2 0) (t182.length : Int)) then (if (mn (mx a2 0) (t182.length : Int)) ≤ (t182.length : Int) then (some (pickR x14_38 (t182.take ((mn (mx a2 0) (t182.length : Int)) : Int).toNat) t195, pickR x14_38 t198 (t182.take ((mn (mx a2 0) (t182.length : Int)) : Int).toNat), decide (a2 ≥ (t182.length : Int)), 0)) else (none)) else (none)) = some (r1, r2, r3, r4) := H
         have A42 := Aside0.mk A420
         clear A420
         obtain ⟨ji43, hji43⟩ : ∃ j_ : Int, (mx a2 0) = j_ := ⟨_, rfl⟩
         replace H : (if 0 ≤ (mn (ji43) (t182.length : Int)) then (if (mn (ji43) (t182.length : Int)) ≤ (t182.length : Int) then (some (pickR x14_38 (t182.take ((mn (ji43) (t182.length : Int)) : Int).toNat) t195, pickR x14_38 t198 (t182.take ((mn (ji43) (t182.length : Int)) : Int).toNat), decide (a2 ≥ (t182.length : Int)), 0)) else (none)) else (none)) = some (r1, r2, r3, r4) := by first | (rw [hji43] at H; exact H) | (simp only [hji43] at H ⊢; exact H)
         (try rw [hji43] at A41)
         (try rw [hji43] at A42)
         have hji43_ : (if a2 < 0 then 0 else a2) = ji43 := hji43
         obtain ⟨ji44, hji44⟩ : ∃ j_ : Int, (mn (ji43) (t182.length : Int)) = j_ := ⟨_, rfl⟩
         replace H : (if 0 ≤ (ji44) then (if (ji44) ≤ (t182.length : Int) then (some (pickR x14_38 (t182.take ((ji44) : Int).toNat) t195, pickR x14_38 t198 (t182.take ((ji44) : Int).toNat), decide (a2 ≥ (t182.length : Int)), 0)) else (none)) else (none)) = some (r1, r2, r3, r4) := by first | (rw [hji44] at H; exact H) | (simp only [hji44] at H ⊢; exact H)
         (try rw [hji44] at A41)
         (try rw [hji44] at A42)
         have hji44_ : (if (t182.length : Int) < (ji43) then (t182.length : Int) else (ji43)) = ji44 := hji44
         by_cases c45 : 0 ≤ (ji44)
         ·rw [if_pos c45] at H
          have c45b0 := eq_true c45
          have c45b1 : decide (0 ≤ (ji44)) = true := decide_eq_true c45
          clear c45
          by_cases c46 : (ji44) ≤ (t182.length : Int)
          ·rw [if_pos c46] at H
           have c46b0 := eq_true c46
           have c46b1 : decide ((ji44) ≤ (t182.length : Int)) = true := decide_eq_true c46
           clear c46
           obtain ⟨y202, hy202⟩ : ∃ y_ : List Int, y_ = (t182.take ((ji44) : Int).toNat) := ⟨_, rfl⟩
           replace H : (some (pickR x14_38 y202 t195, pickR x14_38 t198 y202, decide (a2 ≥ (t182.length : Int)), 0)) = some (r1, r2, r3, r4) := by first | (rw [hy202]; with_reducible exact H) | (have H2_ := (Option.bind_some _ _).symm.trans H; rw [hy202]; with_reducible exact H2_) | (have H2_ := (Option.bind_some _ _).symm.trans H; with_reducible exact H2_) | with_reducible exact H | (rw [hy202]; exact H) | exact H
           have Ny202 := Aside0.mk hy202
           clear hy202
           simp only [Option.some.injEq, Prod.mk.injEq] at H
           obtain ⟨rfl, rfl, rfl, rfl⟩ := H
           try go_wp2
           have n0_ := Aside0.mk (Kd.R_drew HO_9.out)
           have n1_ := Aside0.mk (Kd.R_drew HO_195003.out)
           have n2_ := Aside0.mk (blk_drew BK179.out)
           have n3_ := Aside0.mk (blk_drew BK180.out)
           have n4_ := Aside0.mk (blk_drew BK181.out)
           have n5_ := Aside0.mk (blk_drew BK194.out)
           have n6_ := Aside0.mk (below_drew1 HB.out)
           clear HO_9
           clear HO_195003
           clear BK179
           clear BK180
           clear BK181
           clear BK194
           clear HB
           have HO_9 := n0_
           have HO_195003 := n1_
           have BK179 := n2_
           have BK180 := n3_
           have BK181 := n4_
           have BK194 := n5_
           have HB := n6_
           clear n0_ n1_ n2_ n3_ n4_ n5_ n6_
           refine start_ (n := 9) (S := fun w' => w'.cell? ⟨gb179, 0, none⟩ = some (.slice A0_0 l0_0.length c0_0) ∧ w'.cell? ⟨gb179, 1, none⟩ = some (.slice A0_1 l0_1.length c0_1)) (ds := []) #[false, false, false, false, false, false, false, false, false] (by kernel_rfl) rfl rfl ⟨(blk_cell BK179.out 0).trans rfl, (blk_cell BK179.out 1).trans rfl⟩ (fun hHeld => ?_); refine with_tabW flash_Write.tab10 flash_Write.bits10 (fun HT_ HW_ => ?_)
           generalize wc.drew = w47 at HO_9 HO_195003 BK179 BK180 BK181 BK194 HB hHeld ⊢
           refine pure_ (i := 0) (N := some 47) (v := ?_) (a' := ?_) #[true, false, false, false, false, false, false, false, false] rfl rfl (any_of HT_.out (by kernel_rfl)) (fun _ _ _ h => h) (Or.inl ⟨by rfl, ?_⟩) ?_ ?_
           rotate_left
           ·intro w'
            go_simp
            with_reducible rfl
           rotate_left
           ·simp only [Act.put, List.setIfInBounds_toArray, List.set_cons_zero, List.set_cons_succ, i64_w, i32_w]
            rfl
           refine pure_ (i := 3) (N := some 50) (v := ?_) (a' := ?_) #[true, false, false, true, false, false, false, false, false] rfl rfl (any_of HT_.out (by kernel_rfl)) (fun _ _ _ h => h) (Or.inl ⟨by rfl, ?_⟩) ?_ ?_
           rotate_left
           ·intro w'
            go_simp
            with_reducible rfl
           rotate_left
           ·simp only [Act.put, List.setIfInBounds_toArray, List.set_cons_zero, List.set_cons_succ, i64_w, i32_w]
            rfl
           refine take_ (i := 1) (N := some 48) (v := ?_) (a' := ?_) #[true, true, false, true, false, false, false, false, false] rfl rfl (take_ofW HT_.out HW_.out (by kernel_rfl)) (fun _ _ _ h => h) (Or.inl ⟨by rfl, ?_⟩) hHeld ?_ ?_
           rotate_left
           ·rintro w' ⟨s0, s1⟩
            go_simp
            with_reducible rfl
           rotate_left
           ·simp only [Act.put, List.setIfInBounds_toArray, List.set_cons_zero, List.set_cons_succ, i64_w, i32_w]
            rfl
           refine take_ (i := 4) (N := some 51) (v := ?_) (a' := ?_) #[true, true, false, true, true, false, false, false, false] rfl rfl (take_ofW HT_.out HW_.out (by kernel_rfl)) (fun _ _ _ h => h) (Or.inl ⟨by rfl, ?_⟩) hHeld ?_ ?_
           rotate_left
           ·rintro w' ⟨s0, s1⟩
            go_simp
            with_reducible rfl
           rotate_left
           ·simp only [Act.put, List.setIfInBounds_toArray, List.set_cons_zero, List.set_cons_succ, i64_w, i32_w]
            rfl
           refine join_ (σ := Value × Value × Nat) 1 #[true, true, true, true, true, true, true, true, false] (fun s_ => [(49, s_.1), (52, s_.2.1), (15, .pointer (some ⟨s_.2.2, 0, none⟩)), (53, .agg #[s_.1, s_.2.1])]) (fun s_ w' => (w'.cell? ⟨gb179, 0, none⟩ = some (.slice A0_0 l0_0.length c0_0) ∧ w'.cell? ⟨gb179, 1, none⟩ = some (.slice A0_1 l0_1.length c0_1)) ∧ (Kd.R (Kd.int .u8) 5 w' w.heap.size (fun k_ => some k_ ≠ (s_.2.1 : Value).ownBlock ∧ some k_ ≠ (.slice Ao23 t189.length co23 : Value).ownBlock ∧ some k_ ≠ (v183 : Value).ownBlock) s_.1 t195) ∧ (Kd.R (Kd.int .u8) 5 w' w.heap.size (fun k_ => some k_ ≠ (s_.1 : Value).ownBlock ∧ some k_ ≠ (.slice Ao23 t189.length co23 : Value).ownBlock ∧ some k_ ≠ (v183 : Value).ownBlock) s_.2.1 t198) ∧ (Kd.R (Kd.int .u8) 5 w' w.heap.size (fun k_ => some k_ ≠ (s_.1 : Value).ownBlock ∧ some k_ ≠ (s_.2.1 : Value).ownBlock ∧ some k_ ≠ (v183 : Value).ownBlock) (.slice Ao23 t189.length co23) t189) ∧ (Kd.R (Kd.int .u8) 5 w' w.heap.size (fun k_ => some k_ ≠ (s_.1 : Value).ownBlock ∧ some k_ ≠ (s_.2.1 : Value).ownBlock ∧ some k_ ≠ (.slice Ao23 t189.length co23 : Value).ownBlock) v183 t182) ∧ (w'.heap[gb179]? = some (.cells #[.slice A0_0 l0_0.length c0_0, .slice A0_1 l0_1.length c0_1] 24 (0, 0))) ∧ (w'.heap[gb180]? = some (.cells #[.int .i64 a1_0, .int .i64 a1_1, .int .i64 a1_2, .slice A1_3 l1_3.length c1_3] 26 (0, 0))) ∧ (w'.heap[gb181]? = some (.cells #[.slice none 0 0, .slice none 0 0] 24 (0, 0))) ∧ (w'.heap[gb194]? = some (.cells #[.int .i64 t186, .int .i64 t187, .int .i64 t188, .slice Ao23 t189.length co23] 26 (0, 0))) ∧ (w'.heap[s_.2.2]? = some (.cells #[.slice none 0 0, .slice none 0 0] 58 (0, 0))) ∧ (w.heap.size ≤ s_.2.2) ∧ (w.heap.size ≤ s_.2.2) ∧ (gb179 ≠ s_.2.2) ∧ (s_.2.2 ≠ gb179) ∧ (gb180 ≠ s_.2.2) ∧ (s_.2.2 ≠ gb180) ∧ (gb181 ≠ s_.2.2) ∧ (s_.2.2 ≠ gb181) ∧ (gb194 ≠ s_.2.2) ∧ (s_.2.2 ≠ gb194) ∧ (Below w.heap.size w w')) ?_ ?_
           rotate_left
           ·intro hCont
            refine two_ (i := 2) (j := 7) (Ni := some 49) (Nj := some 15) #[true, true, true, true, true, false, false, false, false] #[true, true, false, true, true, false, false, true, false] rfl rfl rfl rfl (two_of HT_.out (by kernel_rfl)) (by decide) (by decide) (fun K hK => ?_) (fun K hK => ?_)
            ·skip
             refine goes_ Tryd.func24 (by kernel_rfl) rfl #[.slice A0_0 l0_0.length c0_0] (by rfl) rfl rfl (by (try simp only [List.map_toArray, List.map_cons, List.map_nil]); first | done | rfl | (simp only [List.length_drop, List.length_take]; rfl)) ?_
             with_reducible refine (bytes_Clone.calls _ _ l0_0 t195 _ ?side1 ?side2 A41.out).mono ?_
             (case side1 => repeat (first | exact (Kd.C_below HR0_0.out HB.out) | (with_reducible refine Kd.C_alloc ?_ _) | (with_reducible refine Kd.C_drewN ?_ _) | (with_reducible refine Kd.C_drew ?_)))
             (case side2 => exact HC0_0.out)
             rintro e w48 ⟨v196, rfl, ho0, hb⟩
             refine ⟨_, rfl, ?_⟩
             have n0_ := Aside0.mk (Kd.R_elder' (by (with_reducible repeat (first | apply Kd.R_alloc | apply Kd.R_drewN | apply Kd.R_drew)); exact HO_9.out) (Kd.R_base ho0) hb)
             have n1_ := Aside0.mk (Kd.R_elder' (by (with_reducible repeat (first | apply Kd.R_alloc | apply Kd.R_drewN | apply Kd.R_drew)); exact HO_195003.out) (Kd.R_base ho0) hb)
             have n2_ := Aside0.mk (Kd.R_lower (Kd.R_new' (Kd.R_new' ho0 (Kd.R_lt (by (with_reducible repeat (first | apply Kd.R_alloc | apply Kd.R_drewN | apply Kd.R_drew)); exact HO_9.out))) (Kd.R_lt (by (with_reducible repeat (first | apply Kd.R_alloc | apply Kd.R_drewN | apply Kd.R_drew)); exact HO_195003.out))) (below_size (by repeat (first | (with_reducible first | exact HB.out | apply below_alloc | apply pw_below_drewN | apply below_drew1 | refine below_set ?_ GE179.out | refine below_set ?_ GE180.out | refine below_set ?_ GE181.out | refine below_set ?_ GE194.out) | exact HB.out))))
             have n3_ := Aside0.mk (blk_below (g := gb179) (o := .cells #[.slice A0_0 l0_0.length c0_0, .slice A0_1 l0_1.length c0_1] 24 (0, 0)) (by (with_reducible repeat (first | refine blk_drewN ?_ _ | refine blk_drew ?_ | refine blk_alloc ?_ _)); exact BK179.out) hb)
             have n4_ := Aside0.mk (blk_below (g := gb180) (o := .cells #[.int .i64 a1_0, .int .i64 a1_1, .int .i64 a1_2, .slice A1_3 l1_3.length c1_3] 26 (0, 0)) (by (with_reducible repeat (first | refine blk_drewN ?_ _ | refine blk_drew ?_ | refine blk_alloc ?_ _)); exact BK180.out) hb)
             have n5_ := Aside0.mk (blk_below (g := gb181) (o := .cells #[.slice none 0 0, .slice none 0 0] 24 (0, 0)) (by (with_reducible repeat (first | refine blk_drewN ?_ _ | refine blk_drew ?_ | refine blk_alloc ?_ _)); exact BK181.out) hb)
             have n6_ := Aside0.mk (blk_below (g := gb194) (o := .cells #[.int .i64 t186, .int .i64 t187, .int .i64 t188, .slice Ao23 t189.length co23] 26 (0, 0)) (by (with_reducible repeat (first | refine blk_drewN ?_ _ | refine blk_drew ?_ | refine blk_alloc ?_ _)); exact BK194.out) hb)
             have n7_ := Aside0.mk (below_step (by repeat (first | (with_reducible first | exact HB.out | apply below_alloc | apply pw_below_drewN | apply below_drew1 | refine below_set ?_ GE179.out | refine below_set ?_ GE180.out | refine below_set ?_ GE181.out | refine below_set ?_ GE194.out) | exact HB.out)) hb)
             clear HO_9
             clear HO_195003
             clear BK179
             clear BK180
             clear BK181
             clear BK194
             clear HB
             have HO_9 := n0_
             have HO_195003 := n1_
             have HO197 := n2_
             have BK179 := n3_
             have BK180 := n4_
             have BK181 := n5_
             have BK194 := n6_
             have HB := n7_
             clear n0_ n1_ n2_ n3_ n4_ n5_ n6_ n7_
             (try clear hb)
             (try clear hb2)
             (try clear hk)
             (try clear hi)
             (try clear ho0)
             refine hK.out _ _ ⟨(blk_cell BK179.out 0).trans rfl, (blk_cell BK179.out 1).trans rfl⟩ (fun hHeld => ?_)
             clear hK K
             refine norm_ (a' := ?_) ?_ ?_
             rotate_left
             ·show Act.put _ (some 49) _ = _
              simp only [Act.put, List.setIfInBounds_toArray, List.set_cons_zero, List.set_cons_succ, i64_w, i32_w]
              rfl
             refine two_ (i := 5) (j := 7) (Ni := some 52) (Nj := some 15) #[true, true, true, true, true, true, false, false, false] #[true, true, true, true, true, false, false, true, false] rfl rfl rfl rfl (two_of HT_.out (by kernel_rfl)) (by decide) (by decide) (fun K hK => ?_) (fun K hK => ?_)
             ·skip
              refine goes_ Tryd.func24 (by kernel_rfl) rfl #[.slice A0_1 l0_1.length c0_1] (by rfl) rfl rfl (by (try simp only [List.map_toArray, List.map_cons, List.map_nil]); first | done | rfl | (simp only [List.length_drop, List.length_take]; rfl)) ?_
              with_reducible refine (bytes_Clone.calls _ _ l0_1 t198 _ ?side1 ?side2 A42.out).mono ?_
              (case side1 => repeat (first | exact (Kd.C_below HR0_1.out HB.out) | (with_reducible refine Kd.C_alloc ?_ _) | (with_reducible refine Kd.C_drewN ?_ _) | (with_reducible refine Kd.C_drew ?_)))
              (case side2 => exact HC0_1.out)
              rintro e w49 ⟨v199, rfl, ho0, hb⟩
              refine ⟨_, rfl, ?_⟩
              have n0_ := Aside0.mk (Kd.R_elder' (by (with_reducible repeat (first | apply Kd.R_alloc | apply Kd.R_drewN | apply Kd.R_drew)); exact HO_9.out) (Kd.R_base ho0) hb)
              have n1_ := Aside0.mk (Kd.R_elder' (by (with_reducible repeat (first | apply Kd.R_alloc | apply Kd.R_drewN | apply Kd.R_drew)); exact HO_195003.out) (Kd.R_base ho0) hb)
              have n2_ := Aside0.mk (Kd.R_elder' (by (with_reducible repeat (first | apply Kd.R_alloc | apply Kd.R_drewN | apply Kd.R_drew)); exact HO197.out) (Kd.R_base ho0) hb)
              have n3_ := Aside0.mk (Kd.R_lower (Kd.R_new' (Kd.R_new' (Kd.R_new' ho0 (Kd.R_lt (by (with_reducible repeat (first | apply Kd.R_alloc | apply Kd.R_drewN | apply Kd.R_drew)); exact HO_9.out))) (Kd.R_lt (by (with_reducible repeat (first | apply Kd.R_alloc | apply Kd.R_drewN | apply Kd.R_drew)); exact HO_195003.out))) (Kd.R_lt (by (with_reducible repeat (first | apply Kd.R_alloc | apply Kd.R_drewN | apply Kd.R_drew)); exact HO197.out))) (below_size (by repeat (first | (with_reducible first | exact HB.out | apply below_alloc | apply pw_below_drewN | apply below_drew1 | refine below_set ?_ GE179.out | refine below_set ?_ GE180.out | refine below_set ?_ GE181.out | refine below_set ?_ GE194.out) | exact HB.out))))
              have n4_ := Aside0.mk (blk_below (g := gb179) (o := .cells #[.slice A0_0 l0_0.length c0_0, .slice A0_1 l0_1.length c0_1] 24 (0, 0)) (by (with_reducible repeat (first | refine blk_drewN ?_ _ | refine blk_drew ?_ | refine blk_alloc ?_ _)); exact BK179.out) hb)
              have n5_ := Aside0.mk (blk_below (g := gb180) (o := .cells #[.int .i64 a1_0, .int .i64 a1_1, .int .i64 a1_2, .slice A1_3 l1_3.length c1_3] 26 (0, 0)) (by (with_reducible repeat (first | refine blk_drewN ?_ _ | refine blk_drew ?_ | refine blk_alloc ?_ _)); exact BK180.out) hb)
              have n6_ := Aside0.mk (blk_below (g := gb181) (o := .cells #[.slice none 0 0, .slice none 0 0] 24 (0, 0)) (by (with_reducible repeat (first | refine blk_drewN ?_ _ | refine blk_drew ?_ | refine blk_alloc ?_ _)); exact BK181.out) hb)
              have n7_ := Aside0.mk (blk_below (g := gb194) (o := .cells #[.int .i64 t186, .int .i64 t187, .int .i64 t188, .slice Ao23 t189.length co23] 26 (0, 0)) (by (with_reducible repeat (first | refine blk_drewN ?_ _ | refine blk_drew ?_ | refine blk_alloc ?_ _)); exact BK194.out) hb)
              have n8_ := Aside0.mk (below_step (by repeat (first | (with_reducible first | exact HB.out | apply below_alloc | apply pw_below_drewN | apply below_drew1 | refine below_set ?_ GE179.out | refine below_set ?_ GE180.out | refine below_set ?_ GE181.out | refine below_set ?_ GE194.out) | exact HB.out)) hb)
              clear HO_9
              clear HO_195003
              clear HO197
              clear BK179
              clear BK180
              clear BK181
              clear BK194
              clear HB
              have HO_9 := n0_
              have HO_195003 := n1_
              have HO197 := n2_
              have HO200 := n3_
              have BK179 := n4_
              have BK180 := n5_
              have BK181 := n6_
              have BK194 := n7_
              have HB := n8_
              clear n0_ n1_ n2_ n3_ n4_ n5_ n6_ n7_ n8_
              (try clear hb)
              (try clear hb2)
              (try clear hk)
              (try clear hi)
              (try clear ho0)
              obtain ⟨Ao50, co50, eo50⟩ := Kd.R_slice HO200.out
              (first | subst eo50 | (injection eo50 with f1_ f2_ f3_; have f4_ := f1_.symm; have f5_ := f3_.symm; clear f1_ f2_ f3_; subst f4_; subst f5_))
              obtain ⟨Ao51, co51, eo51⟩ := Kd.R_slice HO197.out
              (first | subst eo51 | (injection eo51 with f1_ f2_ f3_; have f4_ := f1_.symm; have f5_ := f3_.symm; clear f1_ f2_ f3_; subst f4_; subst f5_))
              refine hK.out _ _ ⟨(blk_cell BK179.out 0).trans rfl, (blk_cell BK179.out 1).trans rfl⟩ (fun hHeld => ?_)
              clear hK K
              refine norm_ (a' := ?_) ?_ ?_
              rotate_left
              ·show Act.put _ (some 52) _ = _
               simp only [Act.put, List.setIfInBounds_toArray, List.set_cons_zero, List.set_cons_succ, i64_w, i32_w]
               rfl
              refine pure_ (i := 6) (N := some 53) (v := ?_) (a' := ?_) #[true, true, true, true, true, true, true, false, false] rfl rfl (any_of HT_.out (by kernel_rfl)) (fun _ _ _ h => h) (Or.inl ⟨by rfl, ?_⟩) ?_ ?_
              rotate_left
              ·intro w'
               go_simp
               with_reducible rfl
              rotate_left
              ·simp only [Act.put, List.setIfInBounds_toArray, List.set_cons_zero, List.set_cons_succ, i64_w, i32_w]
               rfl
              refine one_ (i := 7) (N := some 15) #[true, true, true, true, true, true, true, true, false] rfl rfl (one_of HT_.out (by kernel_rfl)) (by decide) (fun K hK => ?_)
              refine box_step ?hg (N := 15) ?hd (cs := #[.slice none 0 0, .slice none 0 0]) (t := 58) ?hr ?_; (case hd => rfl); (case hg => rfl); (case hr => first | (go_simp; done) | (go_simp; rfl))
              intro gb201 hg w52 hbox hb
              have n0_ := Aside0.mk (Kd.R_below (by (with_reducible repeat (first | apply Kd.R_alloc | apply Kd.R_drewN | apply Kd.R_drew)); exact HO_9.out) hb)
              have n1_ := Aside0.mk (Kd.R_below (by (with_reducible repeat (first | apply Kd.R_alloc | apply Kd.R_drewN | apply Kd.R_drew)); exact HO_195003.out) hb)
              have n2_ := Aside0.mk (Kd.R_below (by (with_reducible repeat (first | apply Kd.R_alloc | apply Kd.R_drewN | apply Kd.R_drew)); exact HO197.out) hb)
              have n3_ := Aside0.mk (Kd.R_below (by (with_reducible repeat (first | apply Kd.R_alloc | apply Kd.R_drewN | apply Kd.R_drew)); exact HO200.out) hb)
              have n4_ := Aside0.mk (blk_below (g := gb179) (o := .cells #[.slice A0_0 l0_0.length c0_0, .slice A0_1 l0_1.length c0_1] 24 (0, 0)) (by (with_reducible repeat (first | refine blk_drewN ?_ _ | refine blk_drew ?_ | refine blk_alloc ?_ _)); exact BK179.out) hb)
              have n5_ := Aside0.mk (blk_below (g := gb180) (o := .cells #[.int .i64 a1_0, .int .i64 a1_1, .int .i64 a1_2, .slice A1_3 l1_3.length c1_3] 26 (0, 0)) (by (with_reducible repeat (first | refine blk_drewN ?_ _ | refine blk_drew ?_ | refine blk_alloc ?_ _)); exact BK180.out) hb)
              have n6_ := Aside0.mk (blk_below (g := gb181) (o := .cells #[.slice none 0 0, .slice none 0 0] 24 (0, 0)) (by (with_reducible repeat (first | refine blk_drewN ?_ _ | refine blk_drew ?_ | refine blk_alloc ?_ _)); exact BK181.out) hb)
              have n7_ := Aside0.mk (blk_below (g := gb194) (o := .cells #[.int .i64 t186, .int .i64 t187, .int .i64 t188, .slice Ao23 t189.length co23] 26 (0, 0)) (by (with_reducible repeat (first | refine blk_drewN ?_ _ | refine blk_drew ?_ | refine blk_alloc ?_ _)); exact BK194.out) hb)
              have n8_ := Aside0.mk (below_step (by repeat (first | (with_reducible first | exact HB.out | apply below_alloc | apply pw_below_drewN | apply below_drew1 | refine below_set ?_ GE179.out | refine below_set ?_ GE180.out | refine below_set ?_ GE181.out | refine below_set ?_ GE194.out) | exact HB.out)) hb)
              have n9_ := Aside0.mk (hbox)
              have n10_ := Aside0.mk ((by rw [hg]; exact (below_size (by repeat (first | (with_reducible first | exact HB.out | apply below_alloc | apply pw_below_drewN | apply below_drew1 | refine below_set ?_ GE179.out | refine below_set ?_ GE180.out | refine below_set ?_ GE181.out | refine below_set ?_ GE194.out) | exact HB.out))) : w.heap.size ≤ gb201))
              have n11_ := Aside0.mk ((by rw [hg]; exact (below_size (by repeat (first | (with_reducible first | exact HB.out | apply below_alloc | apply pw_below_drewN | apply below_drew1 | refine below_set ?_ GE179.out | refine below_set ?_ GE180.out | refine below_set ?_ GE181.out | refine below_set ?_ GE194.out) | exact HB.out))) : w.heap.size ≤ gb201))
              have n12_ := Aside0.mk ((by rw [hg]; exact Nat.ne_of_lt (blk_lt (g := gb179) (o := .cells #[.slice A0_0 l0_0.length c0_0, .slice A0_1 l0_1.length c0_1] 24 (0, 0)) (by (with_reducible repeat (first | refine blk_drewN ?_ _ | refine blk_drew ?_ | refine blk_alloc ?_ _)); exact BK179.out)) : gb179 ≠ gb201))
              have n13_ := Aside0.mk ((by rw [hg]; exact Nat.ne_of_gt (blk_lt (g := gb179) (o := .cells #[.slice A0_0 l0_0.length c0_0, .slice A0_1 l0_1.length c0_1] 24 (0, 0)) (by (with_reducible repeat (first | refine blk_drewN ?_ _ | refine blk_drew ?_ | refine blk_alloc ?_ _)); exact BK179.out)) : gb201 ≠ gb179))
              have n14_ := Aside0.mk ((by rw [hg]; exact Nat.ne_of_lt (blk_lt (g := gb180) (o := .cells #[.int .i64 a1_0, .int .i64 a1_1, .int .i64 a1_2, .slice A1_3 l1_3.length c1_3] 26 (0, 0)) (by (with_reducible repeat (first | refine blk_drewN ?_ _ | refine blk_drew ?_ | refine blk_alloc ?_ _)); exact BK180.out)) : gb180 ≠ gb201))
              have n15_ := Aside0.mk ((by rw [hg]; exact Nat.ne_of_gt (blk_lt (g := gb180) (o := .cells #[.int .i64 a1_0, .int .i64 a1_1, .int .i64 a1_2, .slice A1_3 l1_3.length c1_3] 26 (0, 0)) (by (with_reducible repeat (first | refine blk_drewN ?_ _ | refine blk_drew ?_ | refine blk_alloc ?_ _)); exact BK180.out)) : gb201 ≠ gb180))
              have n16_ := Aside0.mk ((by rw [hg]; exact Nat.ne_of_lt (blk_lt (g := gb181) (o := .cells #[.slice none 0 0, .slice none 0 0] 24 (0, 0)) (by (with_reducible repeat (first | refine blk_drewN ?_ _ | refine blk_drew ?_ | refine blk_alloc ?_ _)); exact BK181.out)) : gb181 ≠ gb201))
              have n17_ := Aside0.mk ((by rw [hg]; exact Nat.ne_of_gt (blk_lt (g := gb181) (o := .cells #[.slice none 0 0, .slice none 0 0] 24 (0, 0)) (by (with_reducible repeat (first | refine blk_drewN ?_ _ | refine blk_drew ?_ | refine blk_alloc ?_ _)); exact BK181.out)) : gb201 ≠ gb181))
              have n18_ := Aside0.mk ((by rw [hg]; exact Nat.ne_of_lt (blk_lt (g := gb194) (o := .cells #[.int .i64 t186, .int .i64 t187, .int .i64 t188, .slice Ao23 t189.length co23] 26 (0, 0)) (by (with_reducible repeat (first | refine blk_drewN ?_ _ | refine blk_drew ?_ | refine blk_alloc ?_ _)); exact BK194.out)) : gb194 ≠ gb201))
              have n19_ := Aside0.mk ((by rw [hg]; exact Nat.ne_of_gt (blk_lt (g := gb194) (o := .cells #[.int .i64 t186, .int .i64 t187, .int .i64 t188, .slice Ao23 t189.length co23] 26 (0, 0)) (by (with_reducible repeat (first | refine blk_drewN ?_ _ | refine blk_drew ?_ | refine blk_alloc ?_ _)); exact BK194.out)) : gb201 ≠ gb194))
              clear HO_9
              clear HO_195003
              clear HO197
              clear HO200
              clear BK179
              clear BK180
              clear BK181
              clear BK194
              clear HB
              have HO_9 := n0_
              have HO_195003 := n1_
              have HO197 := n2_
              have HO200 := n3_
              have BK179 := n4_
              have BK180 := n5_
              have BK181 := n6_
              have BK194 := n7_
              have HB := n8_
              have BK201 := n9_
              have GW201 := n10_
              have GE201 := n11_
              have NB179_201 := n12_
              have NB201_179 := n13_
              have NB180_201 := n14_
              have NB201_180 := n15_
              have NB181_201 := n16_
              have NB201_181 := n17_
              have NB194_201 := n18_
              have NB201_194 := n19_
              clear n0_ n1_ n2_ n3_ n4_ n5_ n6_ n7_ n8_ n9_ n10_ n11_ n12_ n13_ n14_ n15_ n16_ n17_ n18_ n19_
              clear hb hbox hg
              refine hK.out _ _ ⟨(blk_cell BK179.out 0).trans rfl, (blk_cell BK179.out 1).trans rfl⟩ (fun hHeld => ?_)
              clear hK K
              refine norm_ (a' := ?_) ?_ ?_
              rotate_left
              ·show Act.put _ (some 15) _ = _
               simp only [Act.put, List.setIfInBounds_toArray, List.set_cons_zero, List.set_cons_succ, i64_w, i32_w]
               rfl
              exact norm_ (by simp only [putAll, Act.put, List.setIfInBounds_toArray, List.set_cons_zero, List.set_cons_succ]) (hCont (.slice Ao51 t195.length co51, .slice Ao50 t198.length co50, gb201) _ ⟨hHeld, (by (with_reducible repeat (first | apply Kd.R_alloc | apply Kd.R_drewN | apply Kd.R_drew)); exact Kd.R_mono HO197.out (fun _ hk => ⟨hk.2, ⟨hk.1.2, hk.1.1.2⟩⟩)), (by (with_reducible repeat (first | apply Kd.R_alloc | apply Kd.R_drewN | apply Kd.R_drew)); exact Kd.R_mono HO200.out (fun _ hk => ⟨hk.2, ⟨hk.1.2, hk.1.1.2⟩⟩)), (by (with_reducible repeat (first | apply Kd.R_alloc | apply Kd.R_drewN | apply Kd.R_drew)); exact Kd.R_mono HO_195003.out (fun _ hk => ⟨hk.1.2, ⟨hk.2, hk.1.1⟩⟩)), (by (with_reducible repeat (first | apply Kd.R_alloc | apply Kd.R_drewN | apply Kd.R_drew)); exact Kd.R_mono HO_9.out (fun _ hk => ⟨hk.1.2, ⟨hk.2, hk.1.1⟩⟩)), (by (with_reducible repeat (first | refine blk_drewN ?_ _ | refine blk_drew ?_ | refine blk_alloc ?_ _)); exact BK179.out), (by (with_reducible repeat (first | refine blk_drewN ?_ _ | refine blk_drew ?_ | refine blk_alloc ?_ _)); exact BK180.out), (by (with_reducible repeat (first | refine blk_drewN ?_ _ | refine blk_drew ?_ | refine blk_alloc ?_ _)); exact BK181.out), (by (with_reducible repeat (first | refine blk_drewN ?_ _ | refine blk_drew ?_ | refine blk_alloc ?_ _)); exact BK194.out), (by (with_reducible repeat (first | refine blk_drewN ?_ _ | refine blk_drew ?_ | refine blk_alloc ?_ _)); exact BK201.out), GW201.out, GE201.out, NB179_201.out, NB201_179.out, NB180_201.out, NB201_180.out, NB181_201.out, NB201_181.out, NB194_201.out, NB201_194.out, (by repeat (first | (with_reducible first | exact HB.out | apply below_alloc | apply pw_below_drewN | apply below_drew1 | refine below_set ?_ GE179.out | refine below_set ?_ GE180.out | refine below_set ?_ GE181.out | refine below_set ?_ GE194.out | refine below_set ?_ GE201.out) | exact HB.out))⟩)
             ·skip
              refine box_step ?hg (N := 15) ?hd (cs := #[.slice none 0 0, .slice none 0 0]) (t := 58) ?hr ?_; (case hd => rfl); (case hg => rfl); (case hr => first | (go_simp; done) | (go_simp; rfl))
              intro gb201 hg w49 hbox hb
              have n0_ := Aside0.mk (Kd.R_below (by (with_reducible repeat (first | apply Kd.R_alloc | apply Kd.R_drewN | apply Kd.R_drew)); exact HO_9.out) hb)
              have n1_ := Aside0.mk (Kd.R_below (by (with_reducible repeat (first | apply Kd.R_alloc | apply Kd.R_drewN | apply Kd.R_drew)); exact HO_195003.out) hb)
              have n2_ := Aside0.mk (Kd.R_below (by (with_reducible repeat (first | apply Kd.R_alloc | apply Kd.R_drewN | apply Kd.R_drew)); exact HO197.out) hb)
              have n3_ := Aside0.mk (blk_below (g := gb179) (o := .cells #[.slice A0_0 l0_0.length c0_0, .slice A0_1 l0_1.length c0_1] 24 (0, 0)) (by (with_reducible repeat (first | refine blk_drewN ?_ _ | refine blk_drew ?_ | refine blk_alloc ?_ _)); exact BK179.out) hb)
              have n4_ := Aside0.mk (blk_below (g := gb180) (o := .cells #[.int .i64 a1_0, .int .i64 a1_1, .int .i64 a1_2, .slice A1_3 l1_3.length c1_3] 26 (0, 0)) (by (with_reducible repeat (first | refine blk_drewN ?_ _ | refine blk_drew ?_ | refine blk_alloc ?_ _)); exact BK180.out) hb)
              have n5_ := Aside0.mk (blk_below (g := gb181) (o := .cells #[.slice none 0 0, .slice none 0 0] 24 (0, 0)) (by (with_reducible repeat (first | refine blk_drewN ?_ _ | refine blk_drew ?_ | refine blk_alloc ?_ _)); exact BK181.out) hb)
              have n6_ := Aside0.mk (blk_below (g := gb194) (o := .cells #[.int .i64 t186, .int .i64 t187, .int .i64 t188, .slice Ao23 t189.length co23] 26 (0, 0)) (by (with_reducible repeat (first | refine blk_drewN ?_ _ | refine blk_drew ?_ | refine blk_alloc ?_ _)); exact BK194.out) hb)
              have n7_ := Aside0.mk (below_step (by repeat (first | (with_reducible first | exact HB.out | apply below_alloc | apply pw_below_drewN | apply below_drew1 | refine below_set ?_ GE179.out | refine below_set ?_ GE180.out | refine below_set ?_ GE181.out | refine below_set ?_ GE194.out) | exact HB.out)) hb)
              have n8_ := Aside0.mk (hbox)
              have n9_ := Aside0.mk ((by rw [hg]; exact (below_size (by repeat (first | (with_reducible first | exact HB.out | apply below_alloc | apply pw_below_drewN | apply below_drew1 | refine below_set ?_ GE179.out | refine below_set ?_ GE180.out | refine below_set ?_ GE181.out | refine below_set ?_ GE194.out) | exact HB.out))) : w.heap.size ≤ gb201))
              have n10_ := Aside0.mk ((by rw [hg]; exact (below_size (by repeat (first | (with_reducible first | exact HB.out | apply below_alloc | apply pw_below_drewN | apply below_drew1 | refine below_set ?_ GE179.out | refine below_set ?_ GE180.out | refine below_set ?_ GE181.out | refine below_set ?_ GE194.out) | exact HB.out))) : w.heap.size ≤ gb201))
              have n11_ := Aside0.mk ((by rw [hg]; exact Nat.ne_of_lt (blk_lt (g := gb179) (o := .cells #[.slice A0_0 l0_0.length c0_0, .slice A0_1 l0_1.length c0_1] 24 (0, 0)) (by (with_reducible repeat (first | refine blk_drewN ?_ _ | refine blk_drew ?_ | refine blk_alloc ?_ _)); exact BK179.out)) : gb179 ≠ gb201))
              have n12_ := Aside0.mk ((by rw [hg]; exact Nat.ne_of_gt (blk_lt (g := gb179) (o := .cells #[.slice A0_0 l0_0.length c0_0, .slice A0_1 l0_1.length c0_1] 24 (0, 0)) (by (with_reducible repeat (first | refine blk_drewN ?_ _ | refine blk_drew ?_ | refine blk_alloc ?_ _)); exact BK179.out)) : gb201 ≠ gb179))
              have n13_ := Aside0.mk ((by rw [hg]; exact Nat.ne_of_lt (blk_lt (g := gb180) (o := .cells #[.int .i64 a1_0, .int .i64 a1_1, .int .i64 a1_2, .slice A1_3 l1_3.length c1_3] 26 (0, 0)) (by (with_reducible repeat (first | refine blk_drewN ?_ _ | refine blk_drew ?_ | refine blk_alloc ?_ _)); exact BK180.out)) : gb180 ≠ gb201))
              have n14_ := Aside0.mk ((by rw [hg]; exact Nat.ne_of_gt (blk_lt (g := gb180) (o := .cells #[.int .i64 a1_0, .int .i64 a1_1, .int .i64 a1_2, .slice A1_3 l1_3.length c1_3] 26 (0, 0)) (by (with_reducible repeat (first | refine blk_drewN ?_ _ | refine blk_drew ?_ | refine blk_alloc ?_ _)); exact BK180.out)) : gb201 ≠ gb180))
              have n15_ := Aside0.mk ((by rw [hg]; exact Nat.ne_of_lt (blk_lt (g := gb181) (o := .cells #[.slice none 0 0, .slice none 0 0] 24 (0, 0)) (by (with_reducible repeat (first | refine blk_drewN ?_ _ | refine blk_drew ?_ | refine blk_alloc ?_ _)); exact BK181.out)) : gb181 ≠ gb201))
              have n16_ := Aside0.mk ((by rw [hg]; exact Nat.ne_of_gt (blk_lt (g := gb181) (o := .cells #[.slice none 0 0, .slice none 0 0] 24 (0, 0)) (by (with_reducible repeat (first | refine blk_drewN ?_ _ | refine blk_drew ?_ | refine blk_alloc ?_ _)); exact BK181.out)) : gb201 ≠ gb181))
              have n17_ := Aside0.mk ((by rw [hg]; exact Nat.ne_of_lt (blk_lt (g := gb194) (o := .cells #[.int .i64 t186, .int .i64 t187, .int .i64 t188, .slice Ao23 t189.length co23] 26 (0, 0)) (by (with_reducible repeat (first | refine blk_drewN ?_ _ | refine blk_drew ?_ | refine blk_alloc ?_ _)); exact BK194.out)) : gb194 ≠ gb201))
              have n18_ := Aside0.mk ((by rw [hg]; exact Nat.ne_of_gt (blk_lt (g := gb194) (o := .cells #[.int .i64 t186, .int .i64 t187, .int .i64 t188, .slice Ao23 t189.length co23] 26 (0, 0)) (by (with_reducible repeat (first | refine blk_drewN ?_ _ | refine blk_drew ?_ | refine blk_alloc ?_ _)); exact BK194.out)) : gb201 ≠ gb194))
              clear HO_9
              clear HO_195003
              clear HO197
              clear BK179
              clear BK180
              clear BK181
              clear BK194
              clear HB
              have HO_9 := n0_
              have HO_195003 := n1_
              have HO197 := n2_
              have BK179 := n3_
              have BK180 := n4_
              have BK181 := n5_
              have BK194 := n6_
              have HB := n7_
              have BK201 := n8_
              have GW201 := n9_
              have GE201 := n10_
              have NB179_201 := n11_
              have NB201_179 := n12_
              have NB180_201 := n13_
              have NB201_180 := n14_
              have NB181_201 := n15_
              have NB201_181 := n16_
              have NB194_201 := n17_
              have NB201_194 := n18_
              clear n0_ n1_ n2_ n3_ n4_ n5_ n6_ n7_ n8_ n9_ n10_ n11_ n12_ n13_ n14_ n15_ n16_ n17_ n18_
              clear hb hbox hg
              refine hK.out _ _ ⟨(blk_cell BK179.out 0).trans rfl, (blk_cell BK179.out 1).trans rfl⟩ (fun hHeld => ?_)
              clear hK K
              refine norm_ (a' := ?_) ?_ ?_
              rotate_left
              ·show Act.put _ (some 15) _ = _
               simp only [Act.put, List.setIfInBounds_toArray, List.set_cons_zero, List.set_cons_succ, i64_w, i32_w]
               rfl
              refine one_ (i := 5) (N := some 52) #[true, true, true, true, true, true, false, true, false] rfl rfl (one_of HT_.out (by kernel_rfl)) (by decide) (fun K hK => ?_)
              refine goes_ Tryd.func24 (by kernel_rfl) rfl #[.slice A0_1 l0_1.length c0_1] (by rfl) rfl rfl (by (try simp only [List.map_toArray, List.map_cons, List.map_nil]); first | done | rfl | (simp only [List.length_drop, List.length_take]; rfl)) ?_
              with_reducible refine (bytes_Clone.calls _ _ l0_1 t198 _ ?side1 ?side2 A42.out).mono ?_
              (case side1 => repeat (first | exact (Kd.C_below HR0_1.out HB.out) | (with_reducible refine Kd.C_alloc ?_ _) | (with_reducible refine Kd.C_drewN ?_ _) | (with_reducible refine Kd.C_drew ?_)))
              (case side2 => exact HC0_1.out)
              rintro e w50 ⟨v199, rfl, ho0, hb⟩
              refine ⟨_, rfl, ?_⟩
              have n0_ := Aside0.mk (Kd.R_elder' (by (with_reducible repeat (first | apply Kd.R_alloc | apply Kd.R_drewN | apply Kd.R_drew)); exact HO_9.out) (Kd.R_base ho0) hb)
              have n1_ := Aside0.mk (Kd.R_elder' (by (with_reducible repeat (first | apply Kd.R_alloc | apply Kd.R_drewN | apply Kd.R_drew)); exact HO_195003.out) (Kd.R_base ho0) hb)
              have n2_ := Aside0.mk (Kd.R_elder' (by (with_reducible repeat (first | apply Kd.R_alloc | apply Kd.R_drewN | apply Kd.R_drew)); exact HO197.out) (Kd.R_base ho0) hb)
              have n3_ := Aside0.mk (Kd.R_lower (Kd.R_new' (Kd.R_new' (Kd.R_new' ho0 (Kd.R_lt (by (with_reducible repeat (first | apply Kd.R_alloc | apply Kd.R_drewN | apply Kd.R_drew)); exact HO_9.out))) (Kd.R_lt (by (with_reducible repeat (first | apply Kd.R_alloc | apply Kd.R_drewN | apply Kd.R_drew)); exact HO_195003.out))) (Kd.R_lt (by (with_reducible repeat (first | apply Kd.R_alloc | apply Kd.R_drewN | apply Kd.R_drew)); exact HO197.out))) (below_size (by repeat (first | (with_reducible first | exact HB.out | apply below_alloc | apply pw_below_drewN | apply below_drew1 | refine below_set ?_ GE179.out | refine below_set ?_ GE180.out | refine below_set ?_ GE181.out | refine below_set ?_ GE194.out | refine below_set ?_ GE201.out) | exact HB.out))))
              have n4_ := Aside0.mk (blk_below (g := gb179) (o := .cells #[.slice A0_0 l0_0.length c0_0, .slice A0_1 l0_1.length c0_1] 24 (0, 0)) (by (with_reducible repeat (first | refine blk_drewN ?_ _ | refine blk_drew ?_ | refine blk_alloc ?_ _)); exact BK179.out) hb)
              have n5_ := Aside0.mk (blk_below (g := gb180) (o := .cells #[.int .i64 a1_0, .int .i64 a1_1, .int .i64 a1_2, .slice A1_3 l1_3.length c1_3] 26 (0, 0)) (by (with_reducible repeat (first | refine blk_drewN ?_ _ | refine blk_drew ?_ | refine blk_alloc ?_ _)); exact BK180.out) hb)
              have n6_ := Aside0.mk (blk_below (g := gb181) (o := .cells #[.slice none 0 0, .slice none 0 0] 24 (0, 0)) (by (with_reducible repeat (first | refine blk_drewN ?_ _ | refine blk_drew ?_ | refine blk_alloc ?_ _)); exact BK181.out) hb)
              have n7_ := Aside0.mk (blk_below (g := gb194) (o := .cells #[.int .i64 t186, .int .i64 t187, .int .i64 t188, .slice Ao23 t189.length co23] 26 (0, 0)) (by (with_reducible repeat (first | refine blk_drewN ?_ _ | refine blk_drew ?_ | refine blk_alloc ?_ _)); exact BK194.out) hb)
              have n8_ := Aside0.mk (blk_below (g := gb201) (o := .cells #[.slice none 0 0, .slice none 0 0] 58 (0, 0)) (by (with_reducible repeat (first | refine blk_drewN ?_ _ | refine blk_drew ?_ | refine blk_alloc ?_ _)); exact BK201.out) hb)
              have n9_ := Aside0.mk (below_step (by repeat (first | (with_reducible first | exact HB.out | apply below_alloc | apply pw_below_drewN | apply below_drew1 | refine below_set ?_ GE179.out | refine below_set ?_ GE180.out | refine below_set ?_ GE181.out | refine below_set ?_ GE194.out | refine below_set ?_ GE201.out) | exact HB.out)) hb)
              clear HO_9
              clear HO_195003
              clear HO197
              clear BK179
              clear BK180
              clear BK181
              clear BK194
              clear BK201
              clear HB
              have HO_9 := n0_
              have HO_195003 := n1_
              have HO197 := n2_
              have HO200 := n3_
              have BK179 := n4_
              have BK180 := n5_
              have BK181 := n6_
              have BK194 := n7_
              have BK201 := n8_
              have HB := n9_
              clear n0_ n1_ n2_ n3_ n4_ n5_ n6_ n7_ n8_ n9_
              (try clear hb)
              (try clear hb2)
              (try clear hk)
              (try clear hi)
              (try clear ho0)
              obtain ⟨Ao51, co51, eo51⟩ := Kd.R_slice HO200.out
              (first | subst eo51 | (injection eo51 with f1_ f2_ f3_; have f4_ := f1_.symm; have f5_ := f3_.symm; clear f1_ f2_ f3_; subst f4_; subst f5_))
              obtain ⟨Ao52, co52, eo52⟩ := Kd.R_slice HO197.out
              (first | subst eo52 | (injection eo52 with f1_ f2_ f3_; have f4_ := f1_.symm; have f5_ := f3_.symm; clear f1_ f2_ f3_; subst f4_; subst f5_))
              refine hK.out _ _ ⟨(blk_cell BK179.out 0).trans rfl, (blk_cell BK179.out 1).trans rfl⟩ (fun hHeld => ?_)
              clear hK K
              refine norm_ (a' := ?_) ?_ ?_
              rotate_left
              ·show Act.put _ (some 52) _ = _
               simp only [Act.put, List.setIfInBounds_toArray, List.set_cons_zero, List.set_cons_succ, i64_w, i32_w]
               rfl
              refine pure_ (i := 6) (N := some 53) (v := ?_) (a' := ?_) #[true, true, true, true, true, true, true, true, false] rfl rfl (any_of HT_.out (by kernel_rfl)) (fun _ _ _ h => h) (Or.inl ⟨by rfl, ?_⟩) ?_ ?_
              rotate_left
              ·intro w'
               go_simp
               with_reducible rfl
              rotate_left
              ·simp only [Act.put, List.setIfInBounds_toArray, List.set_cons_zero, List.set_cons_succ, i64_w, i32_w]
               rfl
              exact norm_ (by simp only [putAll, Act.put, List.setIfInBounds_toArray, List.set_cons_zero, List.set_cons_succ]) (hCont (.slice Ao52 t195.length co52, .slice Ao51 t198.length co51, gb201) _ ⟨hHeld, (by (with_reducible repeat (first | apply Kd.R_alloc | apply Kd.R_drewN | apply Kd.R_drew)); exact Kd.R_mono HO197.out (fun _ hk => ⟨hk.2, ⟨hk.1.2, hk.1.1.2⟩⟩)), (by (with_reducible repeat (first | apply Kd.R_alloc | apply Kd.R_drewN | apply Kd.R_drew)); exact Kd.R_mono HO200.out (fun _ hk => ⟨hk.2, ⟨hk.1.2, hk.1.1.2⟩⟩)), (by (with_reducible repeat (first | apply Kd.R_alloc | apply Kd.R_drewN | apply Kd.R_drew)); exact Kd.R_mono HO_195003.out (fun _ hk => ⟨hk.1.2, ⟨hk.2, hk.1.1⟩⟩)), (by (with_reducible repeat (first | apply Kd.R_alloc | apply Kd.R_drewN | apply Kd.R_drew)); exact Kd.R_mono HO_9.out (fun _ hk => ⟨hk.1.2, ⟨hk.2, hk.1.1⟩⟩)), (by (with_reducible repeat (first | refine blk_drewN ?_ _ | refine blk_drew ?_ | refine blk_alloc ?_ _)); exact BK179.out), (by (with_reducible repeat (first | refine blk_drewN ?_ _ | refine blk_drew ?_ | refine blk_alloc ?_ _)); exact BK180.out), (by (with_reducible repeat (first | refine blk_drewN ?_ _ | refine blk_drew ?_ | refine blk_alloc ?_ _)); exact BK181.out), (by (with_reducible repeat (first | refine blk_drewN ?_ _ | refine blk_drew ?_ | refine blk_alloc ?_ _)); exact BK194.out), (by (with_reducible repeat (first | refine blk_drewN ?_ _ | refine blk_drew ?_ | refine blk_alloc ?_ _)); exact BK201.out), GW201.out, GE201.out, NB179_201.out, NB201_179.out, NB180_201.out, NB201_180.out, NB181_201.out, NB201_181.out, NB194_201.out, NB201_194.out, (by repeat (first | (with_reducible first | exact HB.out | apply below_alloc | apply pw_below_drewN | apply below_drew1 | refine below_set ?_ GE179.out | refine below_set ?_ GE180.out | refine below_set ?_ GE181.out | refine below_set ?_ GE194.out | refine below_set ?_ GE201.out) | exact HB.out))⟩)
            ·skip
             refine box_step ?hg (N := 15) ?hd (cs := #[.slice none 0 0, .slice none 0 0]) (t := 58) ?hr ?_; (case hd => rfl); (case hg => rfl); (case hr => first | (go_simp; done) | (go_simp; rfl))
             intro gb201 hg w48 hbox hb
             have n0_ := Aside0.mk (Kd.R_below (by (with_reducible repeat (first | apply Kd.R_alloc | apply Kd.R_drewN | apply Kd.R_drew)); exact HO_9.out) hb)
             have n1_ := Aside0.mk (Kd.R_below (by (with_reducible repeat (first | apply Kd.R_alloc | apply Kd.R_drewN | apply Kd.R_drew)); exact HO_195003.out) hb)
             have n2_ := Aside0.mk (blk_below (g := gb179) (o := .cells #[.slice A0_0 l0_0.length c0_0, .slice A0_1 l0_1.length c0_1] 24 (0, 0)) (by (with_reducible repeat (first | refine blk_drewN ?_ _ | refine blk_drew ?_ | refine blk_alloc ?_ _)); exact BK179.out) hb)
             have n3_ := Aside0.mk (blk_below (g := gb180) (o := .cells #[.int .i64 a1_0, .int .i64 a1_1, .int .i64 a1_2, .slice A1_3 l1_3.length c1_3] 26 (0, 0)) (by (with_reducible repeat (first | refine blk_drewN ?_ _ | refine blk_drew ?_ | refine blk_alloc ?_ _)); exact BK180.out) hb)
             have n4_ := Aside0.mk (blk_below (g := gb181) (o := .cells #[.slice none 0 0, .slice none 0 0] 24 (0, 0)) (by (with_reducible repeat (first | refine blk_drewN ?_ _ | refine blk_drew ?_ | refine blk_alloc ?_ _)); exact BK181.out) hb)
             have n5_ := Aside0.mk (blk_below (g := gb194) (o := .cells #[.int .i64 t186, .int .i64 t187, .int .i64 t188, .slice Ao23 t189.length co23] 26 (0, 0)) (by (with_reducible repeat (first | refine blk_drewN ?_ _ | refine blk_drew ?_ | refine blk_alloc ?_ _)); exact BK194.out) hb)
             have n6_ := Aside0.mk (below_step (by repeat (first | (with_reducible first | exact HB.out | apply below_alloc | apply pw_below_drewN | apply below_drew1 | refine below_set ?_ GE179.out | refine below_set ?_ GE180.out | refine below_set ?_ GE181.out | refine below_set ?_ GE194.out) | exact HB.out)) hb)
             have n7_ := Aside0.mk (hbox)
             have n8_ := Aside0.mk ((by rw [hg]; exact (below_size (by repeat (first | (with_reducible first | exact HB.out | apply below_alloc | apply pw_below_drewN | apply below_drew1 | refine below_set ?_ GE179.out | refine below_set ?_ GE180.out | refine below_set ?_ GE181.out | refine below_set ?_ GE194.out) | exact HB.out))) : w.heap.size ≤ gb201))
             have n9_ := Aside0.mk ((by rw [hg]; exact (below_size (by repeat (first | (with_reducible first | exact HB.out | apply below_alloc | apply pw_below_drewN | apply below_drew1 | refine below_set ?_ GE179.out | refine below_set ?_ GE180.out | refine below_set ?_ GE181.out | refine below_set ?_ GE194.out) | exact HB.out))) : w.heap.size ≤ gb201))
             have n10_ := Aside0.mk ((by rw [hg]; exact Nat.ne_of_lt (blk_lt (g := gb179) (o := .cells #[.slice A0_0 l0_0.length c0_0, .slice A0_1 l0_1.length c0_1] 24 (0, 0)) (by (with_reducible repeat (first | refine blk_drewN ?_ _ | refine blk_drew ?_ | refine blk_alloc ?_ _)); exact BK179.out)) : gb179 ≠ gb201))
             have n11_ := Aside0.mk ((by rw [hg]; exact Nat.ne_of_gt (blk_lt (g := gb179) (o := .cells #[.slice A0_0 l0_0.length c0_0, .slice A0_1 l0_1.length c0_1] 24 (0, 0)) (by (with_reducible repeat (first | refine blk_drewN ?_ _ | refine blk_drew ?_ | refine blk_alloc ?_ _)); exact BK179.out)) : gb201 ≠ gb179))
             have n12_ := Aside0.mk ((by rw [hg]; exact Nat.ne_of_lt (blk_lt (g := gb180) (o := .cells #[.int .i64 a1_0, .int .i64 a1_1, .int .i64 a1_2, .slice A1_3 l1_3.length c1_3] 26 (0, 0)) (by (with_reducible repeat (first | refine blk_drewN ?_ _ | refine blk_drew ?_ | refine blk_alloc ?_ _)); exact BK180.out)) : gb180 ≠ gb201))
             have n13_ := Aside0.mk ((by rw [hg]; exact Nat.ne_of_gt (blk_lt (g := gb180) (o := .cells #[.int .i64 a1_0, .int .i64 a1_1, .int .i64 a1_2, .slice A1_3 l1_3.length c1_3] 26 (0, 0)) (by (with_reducible repeat (first | refine blk_drewN ?_ _ | refine blk_drew ?_ | refine blk_alloc ?_ _)); exact BK180.out)) : gb201 ≠ gb180))
             have n14_ := Aside0.mk ((by rw [hg]; exact Nat.ne_of_lt (blk_lt (g := gb181) (o := .cells #[.slice none 0 0, .slice none 0 0] 24 (0, 0)) (by (with_reducible repeat (first | refine blk_drewN ?_ _ | refine blk_drew ?_ | refine blk_alloc ?_ _)); exact BK181.out)) : gb181 ≠ gb201))
             have n15_ := Aside0.mk ((by rw [hg]; exact Nat.ne_of_gt (blk_lt (g := gb181) (o := .cells #[.slice none 0 0, .slice none 0 0] 24 (0, 0)) (by (with_reducible repeat (first | refine blk_drewN ?_ _ | refine blk_drew ?_ | refine blk_alloc ?_ _)); exact BK181.out)) : gb201 ≠ gb181))
             have n16_ := Aside0.mk ((by rw [hg]; exact Nat.ne_of_lt (blk_lt (g := gb194) (o := .cells #[.int .i64 t186, .int .i64 t187, .int .i64 t188, .slice Ao23 t189.length co23] 26 (0, 0)) (by (with_reducible repeat (first | refine blk_drewN ?_ _ | refine blk_drew ?_ | refine blk_alloc ?_ _)); exact BK194.out)) : gb194 ≠ gb201))
             have n17_ := Aside0.mk ((by rw [hg]; exact Nat.ne_of_gt (blk_lt (g := gb194) (o := .cells #[.int .i64 t186, .int .i64 t187, .int .i64 t188, .slice Ao23 t189.length co23] 26 (0, 0)) (by (with_reducible repeat (first | refine blk_drewN ?_ _ | refine blk_drew ?_ | refine blk_alloc ?_ _)); exact BK194.out)) : gb201 ≠ gb194))
             clear HO_9
             clear HO_195003
             clear BK179
             clear BK180
             clear BK181
             clear BK194
             clear HB
             have HO_9 := n0_
             have HO_195003 := n1_
             have BK179 := n2_
             have BK180 := n3_
             have BK181 := n4_
             have BK194 := n5_
             have HB := n6_
             have BK201 := n7_
             have GW201 := n8_
             have GE201 := n9_
             have NB179_201 := n10_
             have NB201_179 := n11_
             have NB180_201 := n12_
             have NB201_180 := n13_
             have NB181_201 := n14_
             have NB201_181 := n15_
             have NB194_201 := n16_
             have NB201_194 := n17_
             clear n0_ n1_ n2_ n3_ n4_ n5_ n6_ n7_ n8_ n9_ n10_ n11_ n12_ n13_ n14_ n15_ n16_ n17_
             clear hb hbox hg
             refine hK.out _ _ ⟨(blk_cell BK179.out 0).trans rfl, (blk_cell BK179.out 1).trans rfl⟩ (fun hHeld => ?_)
             clear hK K
             refine norm_ (a' := ?_) ?_ ?_
             rotate_left
             ·show Act.put _ (some 15) _ = _
              simp only [Act.put, List.setIfInBounds_toArray, List.set_cons_zero, List.set_cons_succ, i64_w, i32_w]
              rfl
             refine one_ (i := 2) (N := some 49) #[true, true, true, true, true, false, false, true, false] rfl rfl (one_of HT_.out (by kernel_rfl)) (by decide) (fun K hK => ?_)
             refine goes_ Tryd.func24 (by kernel_rfl) rfl #[.slice A0_0 l0_0.length c0_0] (by rfl) rfl rfl (by (try simp only [List.map_toArray, List.map_cons, List.map_nil]); first | done | rfl | (simp only [List.length_drop, List.length_take]; rfl)) ?_
             with_reducible refine (bytes_Clone.calls _ _ l0_0 t195 _ ?side1 ?side2 A41.out).mono ?_
             (case side1 => repeat (first | exact (Kd.C_below HR0_0.out HB.out) | (with_reducible refine Kd.C_alloc ?_ _) | (with_reducible refine Kd.C_drewN ?_ _) | (with_reducible refine Kd.C_drew ?_)))
             (case side2 => exact HC0_0.out)
             rintro e w49 ⟨v196, rfl, ho0, hb⟩
             refine ⟨_, rfl, ?_⟩
             have n0_ := Aside0.mk (Kd.R_elder' (by (with_reducible repeat (first | apply Kd.R_alloc | apply Kd.R_drewN | apply Kd.R_drew)); exact HO_9.out) (Kd.R_base ho0) hb)
             have n1_ := Aside0.mk (Kd.R_elder' (by (with_reducible repeat (first | apply Kd.R_alloc | apply Kd.R_drewN | apply Kd.R_drew)); exact HO_195003.out) (Kd.R_base ho0) hb)
             have n2_ := Aside0.mk (Kd.R_lower (Kd.R_new' (Kd.R_new' ho0 (Kd.R_lt (by (with_reducible repeat (first | apply Kd.R_alloc | apply Kd.R_drewN | apply Kd.R_drew)); exact HO_9.out))) (Kd.R_lt (by (with_reducible repeat (first | apply Kd.R_alloc | apply Kd.R_drewN | apply Kd.R_drew)); exact HO_195003.out))) (below_size (by repeat (first | (with_reducible first | exact HB.out | apply below_alloc | apply pw_below_drewN | apply below_drew1 | refine below_set ?_ GE179.out | refine below_set ?_ GE180.out | refine below_set ?_ GE181.out | refine below_set ?_ GE194.out | refine below_set ?_ GE201.out) | exact HB.out))))
             have n3_ := Aside0.mk (blk_below (g := gb179) (o := .cells #[.slice A0_0 l0_0.length c0_0, .slice A0_1 l0_1.length c0_1] 24 (0, 0)) (by (with_reducible repeat (first | refine blk_drewN ?_ _ | refine blk_drew ?_ | refine blk_alloc ?_ _)); exact BK179.out) hb)
             have n4_ := Aside0.mk (blk_below (g := gb180) (o := .cells #[.int .i64 a1_0, .int .i64 a1_1, .int .i64 a1_2, .slice A1_3 l1_3.length c1_3] 26 (0, 0)) (by (with_reducible repeat (first | refine blk_drewN ?_ _ | refine blk_drew ?_ | refine blk_alloc ?_ _)); exact BK180.out) hb)
             have n5_ := Aside0.mk (blk_below (g := gb181) (o := .cells #[.slice none 0 0, .slice none 0 0] 24 (0, 0)) (by (with_reducible repeat (first | refine blk_drewN ?_ _ | refine blk_drew ?_ | refine blk_alloc ?_ _)); exact BK181.out) hb)
             have n6_ := Aside0.mk (blk_below (g := gb194) (o := .cells #[.int .i64 t186, .int .i64 t187, .int .i64 t188, .slice Ao23 t189.length co23] 26 (0, 0)) (by (with_reducible repeat (first | refine blk_drewN ?_ _ | refine blk_drew ?_ | refine blk_alloc ?_ _)); exact BK194.out) hb)
             have n7_ := Aside0.mk (blk_below (g := gb201) (o := .cells #[.slice none 0 0, .slice none 0 0] 58 (0, 0)) (by (with_reducible repeat (first | refine blk_drewN ?_ _ | refine blk_drew ?_ | refine blk_alloc ?_ _)); exact BK201.out) hb)
             have n8_ := Aside0.mk (below_step (by repeat (first | (with_reducible first | exact HB.out | apply below_alloc | apply pw_below_drewN | apply below_drew1 | refine below_set ?_ GE179.out | refine below_set ?_ GE180.out | refine below_set ?_ GE181.out | refine below_set ?_ GE194.out | refine below_set ?_ GE201.out) | exact HB.out)) hb)
             clear HO_9
             clear HO_195003
             clear BK179
             clear BK180
             clear BK181
             clear BK194
             clear BK201
             clear HB
             have HO_9 := n0_
             have HO_195003 := n1_
             have HO197 := n2_
             have BK179 := n3_
             have BK180 := n4_
             have BK181 := n5_
             have BK194 := n6_
             have BK201 := n7_
             have HB := n8_
             clear n0_ n1_ n2_ n3_ n4_ n5_ n6_ n7_ n8_
             (try clear hb)
             (try clear hb2)
             (try clear hk)
             (try clear hi)
             (try clear ho0)
             refine hK.out _ _ ⟨(blk_cell BK179.out 0).trans rfl, (blk_cell BK179.out 1).trans rfl⟩ (fun hHeld => ?_)
             clear hK K
             refine norm_ (a' := ?_) ?_ ?_
             rotate_left
             ·show Act.put _ (some 49) _ = _
              simp only [Act.put, List.setIfInBounds_toArray, List.set_cons_zero, List.set_cons_succ, i64_w, i32_w]
              rfl
             refine one_ (i := 5) (N := some 52) #[true, true, true, true, true, true, false, true, false] rfl rfl (one_of HT_.out (by kernel_rfl)) (by decide) (fun K hK => ?_)
             refine goes_ Tryd.func24 (by kernel_rfl) rfl #[.slice A0_1 l0_1.length c0_1] (by rfl) rfl rfl (by (try simp only [List.map_toArray, List.map_cons, List.map_nil]); first | done | rfl | (simp only [List.length_drop, List.length_take]; rfl)) ?_
             with_reducible refine (bytes_Clone.calls _ _ l0_1 t198 _ ?side1 ?side2 A42.out).mono ?_
             (case side1 => repeat (first | exact (Kd.C_below HR0_1.out HB.out) | (with_reducible refine Kd.C_alloc ?_ _) | (with_reducible refine Kd.C_drewN ?_ _) | (with_reducible refine Kd.C_drew ?_)))
             (case side2 => exact HC0_1.out)
             rintro e w50 ⟨v199, rfl, ho0, hb⟩
             refine ⟨_, rfl, ?_⟩
             have n0_ := Aside0.mk (Kd.R_elder' (by (with_reducible repeat (first | apply Kd.R_alloc | apply Kd.R_drewN | apply Kd.R_drew)); exact HO_9.out) (Kd.R_base ho0) hb)
             have n1_ := Aside0.mk (Kd.R_elder' (by (with_reducible repeat (first | apply Kd.R_alloc | apply Kd.R_drewN | apply Kd.R_drew)); exact HO_195003.out) (Kd.R_base ho0) hb)
             have n2_ := Aside0.mk (Kd.R_elder' (by (with_reducible repeat (first | apply Kd.R_alloc | apply Kd.R_drewN | apply Kd.R_drew)); exact HO197.out) (Kd.R_base ho0) hb)
             have n3_ := Aside0.mk (Kd.R_lower (Kd.R_new' (Kd.R_new' (Kd.R_new' ho0 (Kd.R_lt (by (with_reducible repeat (first | apply Kd.R_alloc | apply Kd.R_drewN | apply Kd.R_drew)); exact HO_9.out))) (Kd.R_lt (by (with_reducible repeat (first | apply Kd.R_alloc | apply Kd.R_drewN | apply Kd.R_drew)); exact HO_195003.out))) (Kd.R_lt (by (with_reducible repeat (first | apply Kd.R_alloc | apply Kd.R_drewN | apply Kd.R_drew)); exact HO197.out))) (below_size (by repeat (first | (with_reducible first | exact HB.out | apply below_alloc | apply pw_below_drewN | apply below_drew1 | refine below_set ?_ GE179.out | refine below_set ?_ GE180.out | refine below_set ?_ GE181.out | refine below_set ?_ GE194.out | refine below_set ?_ GE201.out) | exact HB.out))))
             have n4_ := Aside0.mk (blk_below (g := gb179) (o := .cells #[.slice A0_0 l0_0.length c0_0, .slice A0_1 l0_1.length c0_1] 24 (0, 0)) (by (with_reducible repeat (first | refine blk_drewN ?_ _ | refine blk_drew ?_ | refine blk_alloc ?_ _)); exact BK179.out) hb)
             have n5_ := Aside0.mk (blk_below (g := gb180) (o := .cells #[.int .i64 a1_0, .int .i64 a1_1, .int .i64 a1_2, .slice A1_3 l1_3.length c1_3] 26 (0, 0)) (by (with_reducible repeat (first | refine blk_drewN ?_ _ | refine blk_drew ?_ | refine blk_alloc ?_ _)); exact BK180.out) hb)
             have n6_ := Aside0.mk (blk_below (g := gb181) (o := .cells #[.slice none 0 0, .slice none 0 0] 24 (0, 0)) (by (with_reducible repeat (first | refine blk_drewN ?_ _ | refine blk_drew ?_ | refine blk_alloc ?_ _)); exact BK181.out) hb)
             have n7_ := Aside0.mk (blk_below (g := gb194) (o := .cells #[.int .i64 t186, .int .i64 t187, .int .i64 t188, .slice Ao23 t189.length co23] 26 (0, 0)) (by (with_reducible repeat (first | refine blk_drewN ?_ _ | refine blk_drew ?_ | refine blk_alloc ?_ _)); exact BK194.out) hb)
             have n8_ := Aside0.mk (blk_below (g := gb201) (o := .cells #[.slice none 0 0, .slice none 0 0] 58 (0, 0)) (by (with_reducible repeat (first | refine blk_drewN ?_ _ | refine blk_drew ?_ | refine blk_alloc ?_ _)); exact BK201.out) hb)
             have n9_ := Aside0.mk (below_step (by repeat (first | (with_reducible first | exact HB.out | apply below_alloc | apply pw_below_drewN | apply below_drew1 | refine below_set ?_ GE179.out | refine below_set ?_ GE180.out | refine below_set ?_ GE181.out | refine below_set ?_ GE194.out | refine below_set ?_ GE201.out) | exact HB.out)) hb)
             clear HO_9
             clear HO_195003
             clear HO197
             clear BK179
             clear BK180
             clear BK181
             clear BK194
             clear BK201
             clear HB
             have HO_9 := n0_
             have HO_195003 := n1_
             have HO197 := n2_
             have HO200 := n3_
             have BK179 := n4_
             have BK180 := n5_
             have BK181 := n6_
             have BK194 := n7_
             have BK201 := n8_
             have HB := n9_
             clear n0_ n1_ n2_ n3_ n4_ n5_ n6_ n7_ n8_ n9_
             (try clear hb)
             (try clear hb2)
             (try clear hk)
             (try clear hi)
             (try clear ho0)
             obtain ⟨Ao51, co51, eo51⟩ := Kd.R_slice HO200.out
             (first | subst eo51 | (injection eo51 with f1_ f2_ f3_; have f4_ := f1_.symm; have f5_ := f3_.symm; clear f1_ f2_ f3_; subst f4_; subst f5_))
             obtain ⟨Ao52, co52, eo52⟩ := Kd.R_slice HO197.out
             (first | subst eo52 | (injection eo52 with f1_ f2_ f3_; have f4_ := f1_.symm; have f5_ := f3_.symm; clear f1_ f2_ f3_; subst f4_; subst f5_))
             refine hK.out _ _ ⟨(blk_cell BK179.out 0).trans rfl, (blk_cell BK179.out 1).trans rfl⟩ (fun hHeld => ?_)
             clear hK K
             refine norm_ (a' := ?_) ?_ ?_
             rotate_left
             ·show Act.put _ (some 52) _ = _
              simp only [Act.put, List.setIfInBounds_toArray, List.set_cons_zero, List.set_cons_succ, i64_w, i32_w]
              rfl
             refine pure_ (i := 6) (N := some 53) (v := ?_) (a' := ?_) #[true, true, true, true, true, true, true, true, false] rfl rfl (any_of HT_.out (by kernel_rfl)) (fun _ _ _ h => h) (Or.inl ⟨by rfl, ?_⟩) ?_ ?_
             rotate_left
             ·intro w'
              go_simp
              with_reducible rfl
             rotate_left
             ·simp only [Act.put, List.setIfInBounds_toArray, List.set_cons_zero, List.set_cons_succ, i64_w, i32_w]
              rfl
             exact norm_ (by simp only [putAll, Act.put, List.setIfInBounds_toArray, List.set_cons_zero, List.set_cons_succ]) (hCont (.slice Ao52 t195.length co52, .slice Ao51 t198.length co51, gb201) _ ⟨hHeld, (by (with_reducible repeat (first | apply Kd.R_alloc | apply Kd.R_drewN | apply Kd.R_drew)); exact Kd.R_mono HO197.out (fun _ hk => ⟨hk.2, ⟨hk.1.2, hk.1.1.2⟩⟩)), (by (with_reducible repeat (first | apply Kd.R_alloc | apply Kd.R_drewN | apply Kd.R_drew)); exact Kd.R_mono HO200.out (fun _ hk => ⟨hk.2, ⟨hk.1.2, hk.1.1.2⟩⟩)), (by (with_reducible repeat (first | apply Kd.R_alloc | apply Kd.R_drewN | apply Kd.R_drew)); exact Kd.R_mono HO_195003.out (fun _ hk => ⟨hk.1.2, ⟨hk.2, hk.1.1⟩⟩)), (by (with_reducible repeat (first | apply Kd.R_alloc | apply Kd.R_drewN | apply Kd.R_drew)); exact Kd.R_mono HO_9.out (fun _ hk => ⟨hk.1.2, ⟨hk.2, hk.1.1⟩⟩)), (by (with_reducible repeat (first | refine blk_drewN ?_ _ | refine blk_drew ?_ | refine blk_alloc ?_ _)); exact BK179.out), (by (with_reducible repeat (first | refine blk_drewN ?_ _ | refine blk_drew ?_ | refine blk_alloc ?_ _)); exact BK180.out), (by (with_reducible repeat (first | refine blk_drewN ?_ _ | refine blk_drew ?_ | refine blk_alloc ?_ _)); exact BK181.out), (by (with_reducible repeat (first | refine blk_drewN ?_ _ | refine blk_drew ?_ | refine blk_alloc ?_ _)); exact BK194.out), (by (with_reducible repeat (first | refine blk_drewN ?_ _ | refine blk_drew ?_ | refine blk_alloc ?_ _)); exact BK201.out), GW201.out, GE201.out, NB179_201.out, NB201_179.out, NB180_201.out, NB201_180.out, NB181_201.out, NB201_181.out, NB194_201.out, NB201_194.out, (by repeat (first | (with_reducible first | exact HB.out | apply below_alloc | apply pw_below_drewN | apply below_drew1 | refine below_set ?_ GE179.out | refine below_set ?_ GE180.out | refine below_set ?_ GE181.out | refine below_set ?_ GE194.out | refine below_set ?_ GE201.out) | exact HB.out))⟩)
           rintro ⟨v196, v199, gb201⟩ w53 ⟨hS_, h0_, h1_, h2_, h3_, h4_, h5_, h6_, h7_, h8_, h9_, h10_, h11_, h12_, h13_, h14_, h15_, h16_, h17_, h18_, h19_⟩
           have n0_ : Aside0 (Kd.R (Kd.int .u8) 5 w53 w.heap.size (fun k_ => some k_ ≠ (v199 : Value).ownBlock ∧ some k_ ≠ (.slice Ao23 t189.length co23 : Value).ownBlock ∧ some k_ ≠ (v183 : Value).ownBlock) v196 t195) := ⟨h0_⟩
           have n1_ : Aside0 (Kd.R (Kd.int .u8) 5 w53 w.heap.size (fun k_ => some k_ ≠ (v196 : Value).ownBlock ∧ some k_ ≠ (.slice Ao23 t189.length co23 : Value).ownBlock ∧ some k_ ≠ (v183 : Value).ownBlock) v199 t198) := ⟨h1_⟩
           have n2_ : Aside0 (Kd.R (Kd.int .u8) 5 w53 w.heap.size (fun k_ => some k_ ≠ (v196 : Value).ownBlock ∧ some k_ ≠ (v199 : Value).ownBlock ∧ some k_ ≠ (v183 : Value).ownBlock) (.slice Ao23 t189.length co23) t189) := ⟨h2_⟩
           have n3_ : Aside0 (Kd.R (Kd.int .u8) 5 w53 w.heap.size (fun k_ => some k_ ≠ (v196 : Value).ownBlock ∧ some k_ ≠ (v199 : Value).ownBlock ∧ some k_ ≠ (.slice Ao23 t189.length co23 : Value).ownBlock) v183 t182) := ⟨h3_⟩
           have n4_ : Aside0 (w53.heap[gb179]? = some (.cells #[.slice A0_0 l0_0.length c0_0, .slice A0_1 l0_1.length c0_1] 24 (0, 0))) := ⟨h4_⟩
           have n5_ : Aside0 (w53.heap[gb180]? = some (.cells #[.int .i64 a1_0, .int .i64 a1_1, .int .i64 a1_2, .slice A1_3 l1_3.length c1_3] 26 (0, 0))) := ⟨h5_⟩
           have n6_ : Aside0 (w53.heap[gb181]? = some (.cells #[.slice none 0 0, .slice none 0 0] 24 (0, 0))) := ⟨h6_⟩
           have n7_ : Aside0 (w53.heap[gb194]? = some (.cells #[.int .i64 t186, .int .i64 t187, .int .i64 t188, .slice Ao23 t189.length co23] 26 (0, 0))) := ⟨h7_⟩
           have n8_ : Aside0 (w53.heap[gb201]? = some (.cells #[.slice none 0 0, .slice none 0 0] 58 (0, 0))) := ⟨h8_⟩
           have n9_ : Aside0 (w.heap.size ≤ gb201) := ⟨h9_⟩
           have n10_ : Aside0 (w.heap.size ≤ gb201) := ⟨h10_⟩
           have n11_ : Aside0 (gb179 ≠ gb201) := ⟨h11_⟩
           have n12_ : Aside0 (gb201 ≠ gb179) := ⟨h12_⟩
           have n13_ : Aside0 (gb180 ≠ gb201) := ⟨h13_⟩
           have n14_ : Aside0 (gb201 ≠ gb180) := ⟨h14_⟩
           have n15_ : Aside0 (gb181 ≠ gb201) := ⟨h15_⟩
           have n16_ : Aside0 (gb201 ≠ gb181) := ⟨h16_⟩
           have n17_ : Aside0 (gb194 ≠ gb201) := ⟨h17_⟩
           have n18_ : Aside0 (gb201 ≠ gb194) := ⟨h18_⟩
           have n19_ : Aside0 (Below w.heap.size w w53) := ⟨h19_⟩
           clear HO_9
           clear HO_195003
           clear BK179
           clear BK180
           clear BK181
           clear BK194
           clear HB
           clear h0_ h1_ h2_ h3_ h4_ h5_ h6_ h7_ h8_ h9_ h10_ h11_ h12_ h13_ h14_ h15_ h16_ h17_ h18_ h19_
           have HO197 := n0_
           have HO200 := n1_
           have HO_195003 := n2_
           have HO_9 := n3_
           have BK179 := n4_
           have BK180 := n5_
           have BK181 := n6_
           have BK194 := n7_
           have BK201 := n8_
           have GW201 := n9_
           have GE201 := n10_
           have NB179_201 := n11_
           have NB201_179 := n12_
           have NB180_201 := n13_
           have NB201_180 := n14_
           have NB181_201 := n15_
           have NB201_181 := n16_
           have NB194_201 := n17_
           have NB201_194 := n18_
           have HB := n19_
           clear n0_ n1_ n2_ n3_ n4_ n5_ n6_ n7_ n8_ n9_ n10_ n11_ n12_ n13_ n14_ n15_ n16_ n17_ n18_ n19_
           have hHeld : w53.cell? ⟨gb179, 0, none⟩ = some (.slice A0_0 l0_0.length c0_0) ∧ w53.cell? ⟨gb179, 1, none⟩ = some (.slice A0_1 l0_1.length c0_1) := hS_
           obtain ⟨Ao54, co54, eo54⟩ := Kd.R_slice HO200.out
           (first | subst eo54 | (injection eo54 with f1_ f2_ f3_; have f4_ := f1_.symm; have f5_ := f3_.symm; clear f1_ f2_ f3_; subst f4_; subst f5_))
           obtain ⟨Ao55, co55, eo55⟩ := Kd.R_slice HO197.out
           (first | subst eo55 | (injection eo55 with f1_ f2_ f3_; have f4_ := f1_.symm; have f5_ := f3_.symm; clear f1_ f2_ f3_; subst f4_; subst f5_))
           refine norm_ (a' := ?_) ?_ ?_
           rotate_left
           ·simp only [putAll, Act.put, List.setIfInBounds_toArray, List.set_cons_zero, List.set_cons_succ]
            rfl
           refine one_ (i := 8) (N := none) #[true, true, true, true, true, true, true, true, true] rfl rfl (one_of HT_.out (by kernel_rfl)) (by decide) (fun K hK => ?_)
           have hs56 : w53.cell? ⟨gb201, 0, none⟩ = some (.slice none 0 0) := (blk_cell BK201.out 0).trans rfl
           have hfs56 := blk_frozen BK201.out 0
           have hns56_0 := NB179_201.out
           have hns56_1 := NB180_201.out
           have hns56_2 := NB181_201.out
           have hns56_3 := NB194_201.out
           have hms56_0 := NB201_179.out
           have hms56_1 := NB201_180.out
           have hms56_2 := NB201_181.out
           have hms56_3 := NB201_194.out
           have hs57 : w53.cell? ⟨gb201, 1, none⟩ = some (.slice none 0 0) := (blk_cell BK201.out 1).trans rfl
           have hfs57 := blk_frozen BK201.out 1
           have hns57_0 := NB179_201.out
           have hns57_1 := NB180_201.out
           have hns57_2 := NB181_201.out
           have hns57_3 := NB194_201.out
           have hms57_0 := NB201_179.out
           have hms57_1 := NB201_180.out
           have hms57_2 := NB201_181.out
           have hms57_3 := NB201_194.out
           refine skip_ (w1 := ?_) (by rfl) rfl ?_ ?_
           rotate_left
           ·go_simp
            rfl
           refine hK.out _ _ ⟨(by rw [cell_far, cell_far]; all_goals (first | (with_reducible exact hHeld.1) | (with_reducible exact NB179_201.out))), (by rw [cell_far, cell_far]; all_goals (first | (with_reducible exact hHeld.2) | (with_reducible exact NB179_201.out)))⟩ (fun hHeld => ?_)
           clear hK K
           refine done_ (done_of HT_.out (by kernel_rfl)) ?_
           obtain ⟨Ao58, co58, eo58⟩ := Kd.R_slice HO_9.out
           subst eo58
           try go_wp2
           have n0_ : Aside0 (Kd.R (Kd.int .u8) 5 ((w53.setCell ⟨gb201, 0, none⟩ (.slice Ao55 t195.length co55)).setCell ⟨gb201, 1, none⟩ (.slice Ao54 t198.length co54)) w.heap.size (fun k_ => some k_ ≠ (.slice Ao23 t189.length co23 : Value).ownBlock ∧ some k_ ≠ (.slice Ao55 t195.length co55 : Value).ownBlock ∧ some k_ ≠ (.slice Ao54 t198.length co54 : Value).ownBlock) (.slice Ao58 t182.length co58) t182) := ⟨by (with_reducible repeat (first | apply Kd.R_alloc | apply Kd.R_drewN | apply Kd.R_drew)); exact Kd.R_mono (Kd.R_far (p := ⟨gb201, 1, none⟩) (Kd.R_far (p := ⟨gb201, 0, none⟩) (Kd.R_types HO_9.out BK201.out (by decide)) (fun _ hk => hk.2) (.slice Ao55 t195.length co55)) (fun _ hk => hk.2) (.slice Ao54 t198.length co54)) (fun _ hk => ⟨hk.1.2.2, ⟨hk.1.1, hk.1.2.1⟩⟩)⟩
           have n1_ : Aside0 (Kd.R (Kd.int .u8) 5 ((w53.setCell ⟨gb201, 0, none⟩ (.slice Ao55 t195.length co55)).setCell ⟨gb201, 1, none⟩ (.slice Ao54 t198.length co54)) w.heap.size (fun k_ => some k_ ≠ (.slice Ao58 t182.length co58 : Value).ownBlock ∧ some k_ ≠ (.slice Ao55 t195.length co55 : Value).ownBlock ∧ some k_ ≠ (.slice Ao54 t198.length co54 : Value).ownBlock) (.slice Ao23 t189.length co23) t189) := ⟨by (with_reducible repeat (first | apply Kd.R_alloc | apply Kd.R_drewN | apply Kd.R_drew)); exact Kd.R_mono (Kd.R_far (p := ⟨gb201, 1, none⟩) (Kd.R_far (p := ⟨gb201, 0, none⟩) (Kd.R_types HO_195003.out BK201.out (by decide)) (fun _ hk => hk.2) (.slice Ao55 t195.length co55)) (fun _ hk => hk.2) (.slice Ao54 t198.length co54)) (fun _ hk => ⟨hk.1.2.2, ⟨hk.1.1, hk.1.2.1⟩⟩)⟩
           have n2_ : Aside0 (Kd.R (Kd.int .u8) 5 ((w53.setCell ⟨gb201, 0, none⟩ (.slice Ao55 t195.length co55)).setCell ⟨gb201, 1, none⟩ (.slice Ao54 t198.length co54)) w.heap.size (fun k_ => some k_ ≠ (.slice Ao58 t182.length co58 : Value).ownBlock ∧ some k_ ≠ (.slice Ao23 t189.length co23 : Value).ownBlock ∧ some k_ ≠ (.slice Ao54 t198.length co54 : Value).ownBlock) (.slice Ao55 t195.length co55) t195) := ⟨by (with_reducible repeat (first | apply Kd.R_alloc | apply Kd.R_drewN | apply Kd.R_drew)); exact Kd.R_mono (Kd.R_far (p := ⟨gb201, 1, none⟩) (Kd.R_far (p := ⟨gb201, 0, none⟩) (Kd.R_types HO197.out BK201.out (by decide)) (fun _ hk => hk.2) (.slice Ao55 t195.length co55)) (fun _ hk => hk.2) (.slice Ao54 t198.length co54)) (fun _ hk => ⟨hk.1.2.2, ⟨hk.1.2.1, hk.1.1⟩⟩)⟩
           have n3_ : Aside0 (Kd.R (Kd.int .u8) 5 ((w53.setCell ⟨gb201, 0, none⟩ (.slice Ao55 t195.length co55)).setCell ⟨gb201, 1, none⟩ (.slice Ao54 t198.length co54)) w.heap.size (fun k_ => some k_ ≠ (.slice Ao58 t182.length co58 : Value).ownBlock ∧ some k_ ≠ (.slice Ao23 t189.length co23 : Value).ownBlock ∧ some k_ ≠ (.slice Ao55 t195.length co55 : Value).ownBlock) (.slice Ao54 t198.length co54) t198) := ⟨by (with_reducible repeat (first | apply Kd.R_alloc | apply Kd.R_drewN | apply Kd.R_drew)); exact Kd.R_mono (Kd.R_far (p := ⟨gb201, 1, none⟩) (Kd.R_far (p := ⟨gb201, 0, none⟩) (Kd.R_types HO200.out BK201.out (by decide)) (fun _ hk => hk.2) (.slice Ao55 t195.length co55)) (fun _ hk => hk.2) (.slice Ao54 t198.length co54)) (fun _ hk => ⟨hk.1.2.2, ⟨hk.1.2.1, hk.1.1⟩⟩)⟩
           have n4_ : Aside0 (((w53.setCell ⟨gb201, 0, none⟩ (.slice Ao55 t195.length co55)).setCell ⟨gb201, 1, none⟩ (.slice Ao54 t198.length co54)).heap[gb179]? = some (.cells #[.slice A0_0 l0_0.length c0_0, .slice A0_1 l0_1.length c0_1] 24 (0, 0))) := ⟨by (with_reducible repeat (first | refine blk_drewN ?_ _ | refine blk_drew ?_ | refine blk_alloc ?_ _)); refine blk_far ?_ NB179_201.out _; (with_reducible repeat (first | refine blk_drewN ?_ _ | refine blk_drew ?_ | refine blk_alloc ?_ _)); refine blk_far ?_ NB179_201.out _; (with_reducible repeat (first | refine blk_drewN ?_ _ | refine blk_drew ?_ | refine blk_alloc ?_ _)); exact BK179.out⟩
           have n5_ : Aside0 (((w53.setCell ⟨gb201, 0, none⟩ (.slice Ao55 t195.length co55)).setCell ⟨gb201, 1, none⟩ (.slice Ao54 t198.length co54)).heap[gb180]? = some (.cells #[.int .i64 a1_0, .int .i64 a1_1, .int .i64 a1_2, .slice A1_3 l1_3.length c1_3] 26 (0, 0))) := ⟨by (with_reducible repeat (first | refine blk_drewN ?_ _ | refine blk_drew ?_ | refine blk_alloc ?_ _)); refine blk_far ?_ NB180_201.out _; (with_reducible repeat (first | refine blk_drewN ?_ _ | refine blk_drew ?_ | refine blk_alloc ?_ _)); refine blk_far ?_ NB180_201.out _; (with_reducible repeat (first | refine blk_drewN ?_ _ | refine blk_drew ?_ | refine blk_alloc ?_ _)); exact BK180.out⟩
           have n6_ : Aside0 (((w53.setCell ⟨gb201, 0, none⟩ (.slice Ao55 t195.length co55)).setCell ⟨gb201, 1, none⟩ (.slice Ao54 t198.length co54)).heap[gb181]? = some (.cells #[.slice none 0 0, .slice none 0 0] 24 (0, 0))) := ⟨by (with_reducible repeat (first | refine blk_drewN ?_ _ | refine blk_drew ?_ | refine blk_alloc ?_ _)); refine blk_far ?_ NB181_201.out _; (with_reducible repeat (first | refine blk_drewN ?_ _ | refine blk_drew ?_ | refine blk_alloc ?_ _)); refine blk_far ?_ NB181_201.out _; (with_reducible repeat (first | refine blk_drewN ?_ _ | refine blk_drew ?_ | refine blk_alloc ?_ _)); exact BK181.out⟩
           have n7_ : Aside0 (((w53.setCell ⟨gb201, 0, none⟩ (.slice Ao55 t195.length co55)).setCell ⟨gb201, 1, none⟩ (.slice Ao54 t198.length co54)).heap[gb194]? = some (.cells #[.int .i64 t186, .int .i64 t187, .int .i64 t188, .slice Ao23 t189.length co23] 26 (0, 0))) := ⟨by (with_reducible repeat (first | refine blk_drewN ?_ _ | refine blk_drew ?_ | refine blk_alloc ?_ _)); refine blk_far ?_ NB194_201.out _; (with_reducible repeat (first | refine blk_drewN ?_ _ | refine blk_drew ?_ | refine blk_alloc ?_ _)); refine blk_far ?_ NB194_201.out _; (with_reducible repeat (first | refine blk_drewN ?_ _ | refine blk_drew ?_ | refine blk_alloc ?_ _)); exact BK194.out⟩
           have n8_ : Aside0 (((w53.setCell ⟨gb201, 0, none⟩ (.slice Ao55 t195.length co55)).setCell ⟨gb201, 1, none⟩ (.slice Ao54 t198.length co54)).heap[gb201]? = some (.cells #[.slice Ao55 t195.length co55, .slice Ao54 t198.length co54] 58 (0, 0))) := ⟨by (with_reducible repeat (first | refine blk_drewN ?_ _ | refine blk_drew ?_ | refine blk_alloc ?_ _)); refine blk_put (cs := #[.slice Ao55 t195.length co55, .slice none 0 0]) ?_ 1 _ rfl; (with_reducible repeat (first | refine blk_drewN ?_ _ | refine blk_drew ?_ | refine blk_alloc ?_ _)); refine blk_put (cs := #[.slice none 0 0, .slice none 0 0]) ?_ 0 _ rfl; (with_reducible repeat (first | refine blk_drewN ?_ _ | refine blk_drew ?_ | refine blk_alloc ?_ _)); exact BK201.out⟩
           have n9_ : Aside0 (Below w.heap.size w ((w53.setCell ⟨gb201, 0, none⟩ (.slice Ao55 t195.length co55)).setCell ⟨gb201, 1, none⟩ (.slice Ao54 t198.length co54))) := ⟨by repeat (first | (with_reducible first | exact HB.out | apply below_alloc | apply pw_below_drewN | apply below_drew1 | refine below_set ?_ GE179.out | refine below_set ?_ GE180.out | refine below_set ?_ GE181.out | refine below_set ?_ GE194.out | refine below_set ?_ GE201.out) | exact HB.out)⟩
           (try clear HO_9)
           (try clear HO_195003)
           (try clear HO197)
           (try clear HO200)
           (try clear BK179)
           (try clear BK180)
           (try clear BK181)
           (try clear BK194)
           (try clear BK201)
           (try clear HB)
           generalize ((w53.setCell ⟨gb201, 0, none⟩ (.slice Ao55 t195.length co55)).setCell ⟨gb201, 1, none⟩ (.slice Ao54 t198.length co54)) = w59 at n0_ n1_ n2_ n3_ n4_ n5_ n6_ n7_ n8_ n9_ ⊢
           have HO_9 := n0_
           have HO_195003 := n1_
           have HO197 := n2_
           have HO200 := n3_
           have BK179 := n4_
           have BK180 := n5_
           have BK181 := n6_
           have BK194 := n7_
           have BK201 := n8_
           have HB := n9_
           clear n0_ n1_ n2_ n3_ n4_ n5_ n6_ n7_ n8_ n9_
           have n0_ := Aside0.mk (Kd.R_drew HO_9.out)
           have n1_ := Aside0.mk (Kd.R_drew HO_195003.out)
           have n2_ := Aside0.mk (Kd.R_drew HO197.out)
           have n3_ := Aside0.mk (Kd.R_drew HO200.out)
           have n4_ := Aside0.mk (blk_drew BK179.out)
           have n5_ := Aside0.mk (blk_drew BK180.out)
           have n6_ := Aside0.mk (blk_drew BK181.out)
           have n7_ := Aside0.mk (blk_drew BK194.out)
           have n8_ := Aside0.mk (blk_drew BK201.out)
           have n9_ := Aside0.mk (below_drew1 HB.out)
           clear HO_9
           clear HO_195003
           clear HO197
           clear HO200
           clear BK179
           clear BK180
           clear BK181
           clear BK194
           clear BK201
           clear HB
           have HO_9 := n0_
           have HO_195003 := n1_
           have HO197 := n2_
           have HO200 := n3_
           have BK179 := n4_
           have BK180 := n5_
           have BK181 := n6_
           have BK194 := n7_
           have BK201 := n8_
           have HB := n9_
           clear n0_ n1_ n2_ n3_ n4_ n5_ n6_ n7_ n8_ n9_
           have q61 : ((ji44) : Int) ≤ ((t182.length : Int) : Int) := of_decide_eq_true (by first | (with_reducible assumption) | assumption)
           obtain ⟨i061, hi061, _, hsz61, _⟩ := info_parts info5
           have hroom61 : t182.length ≤ co58 := (Kd.R_reads' HO_9.out).2.1
           have hC61 : Kd.C (Kd.int .u8) _ Ao58 t182.length t182 := (Kd.R_reads' HO_9.out).2.2
           have hcut61 := cut_to (P := Tryd.prog) 22 5 .i64 Tryd.underlying22 hi061 Ao58 t182.length co58 (ji44) (of_decide_eq_true (by first | (with_reducible assumption) | assumption)) q61 hroom61
           have hr61 := Kd.C_take (m := ((ji44) : Int).toNat) hC61 (by omega)
           have hy61 : y202.length = ((ji44) : Int).toNat := (by rw [Ny202.out, List.length_take]; omega)
           rw [← Ny202.out] at hr61
           rw [← hy61] at hcut61
           have HR205 := Aside0.mk hr61
           have HC205 := Aside0.mk (show y202.length ≤ co58 from by omega)
           clear hr61 hC61 hroom61 hi061 hsz61
           have KY61 := Aside0.mk hy61
           clear hy61
           have KL61 := Aside0.mk (show ((ji44) : Int).toNat ≤ t182.length from by omega)
           replace q61 := eq_true q61
           cases x14_38
           ·skip
            refine start_ (n := 11) (S := fun w' => True) (ds := []) #[false, false, false, false, false, false, false, false, false, false, false] (by kernel_rfl) rfl rfl trivial (fun hHeld => ?_); refine with_tabW flash_Write.tab12 flash_Write.bits12 (fun HT_ HW_ => ?_)
            generalize w59.drew = w60 at HO_9 HO_195003 HO197 HO200 BK179 BK180 BK181 BK194 BK201 HB HR205 hHeld ⊢
            refine pure_ (i := 0) (N := some 58) (v := ?_) (a' := ?_) #[true, false, false, false, false, false, false, false, false, false, false] rfl rfl (any_of HT_.out (by kernel_rfl)) (fun _ _ _ h => h) (Or.inl ⟨by rfl, ?_⟩) ?_ ?_
            rotate_left
            ·intro w'
             go_simp
             with_reducible rfl
            rotate_left
            ·simp only [Act.put, List.setIfInBounds_toArray, List.set_cons_zero, List.set_cons_succ, i64_w, i32_w]
             rfl
            refine pure_ (i := 2) (N := some 60) (v := ?_) (a' := ?_) #[true, false, true, false, false, false, false, false, false, false, false] rfl rfl (any_of HT_.out (by kernel_rfl)) (fun _ _ _ h => h) (Or.inl ⟨by rfl, ?_⟩) ?_ ?_
            rotate_left
            ·intro w'
             go_simp
             with_reducible rfl
            rotate_left
            ·simp only [Act.put, List.setIfInBounds_toArray, List.set_cons_zero, List.set_cons_succ, i64_w, i32_w]
             rfl
            refine pure_ (i := 3) (N := some 61) (v := ?_) (a' := ?_) #[true, false, true, true, false, false, false, false, false, false, false] rfl rfl (any_of HT_.out (by kernel_rfl)) (fun _ _ _ h => h) (Or.inl ⟨by rfl, ?_⟩) ?_ ?_
            rotate_left
            ·intro w'
             go_simp
             with_reducible rfl
            rotate_left
            ·simp only [Act.put, List.setIfInBounds_toArray, List.set_cons_zero, List.set_cons_succ, i64_w, i32_w]
             rfl
            refine pure_ (i := 4) (N := some 62) (v := ?_) (a' := ?_) #[true, false, true, true, true, false, false, false, false, false, false] rfl rfl (any_of HT_.out (by kernel_rfl)) (fun _ _ _ h => h) (Or.inl ⟨by rfl, ?_⟩) ?_ ?_
            rotate_left
            ·intro w'
             go_simp
             with_reducible rfl
            rotate_left
            ·simp only [Act.put, List.setIfInBounds_toArray, List.set_cons_zero, List.set_cons_succ, i64_w, i32_w]
             rfl
            refine pure_ (i := 5) (N := some 63) (v := ?_) (a' := ?_) #[true, false, true, true, true, true, false, false, false, false, false] rfl rfl (any_of HT_.out (by kernel_rfl)) (fun _ _ _ h => h) (Or.inl ⟨by rfl, ?_⟩) ?_ ?_
            rotate_left
            ·intro w'
             go_simp
             with_reducible rfl
            rotate_left
            ·simp only [Act.put, List.setIfInBounds_toArray, List.set_cons_zero, List.set_cons_succ, i64_w, i32_w]
             rfl
            refine pure_ (i := 6) (N := some 64) (v := ?_) (a' := ?_) #[true, false, true, true, true, true, true, false, false, false, false] rfl rfl (any_of HT_.out (by kernel_rfl)) (fun _ _ _ h => h) (Or.inl ⟨by rfl, ?_⟩) ?_ ?_
            rotate_left
            ·intro w'
             go_simp
             with_reducible rfl
            rotate_left
            ·simp only [Act.put, List.setIfInBounds_toArray, List.set_cons_zero, List.set_cons_succ, i64_w, i32_w]
             rfl
            refine pure_ (i := 7) (N := some 65) (v := ?_) (a' := ?_) #[true, false, true, true, true, true, true, true, false, false, false] rfl rfl (any_of HT_.out (by kernel_rfl)) (fun _ _ _ h => h) (Or.inl ⟨by rfl, ?_⟩) ?_ ?_
            rotate_left
            ·intro w'
             go_simp
             with_reducible rfl
            rotate_left
            ·simp only [Act.put, List.setIfInBounds_toArray, List.set_cons_zero, List.set_cons_succ, i64_w, i32_w]
             rfl
            refine pure_ (i := 8) (N := some 66) (v := ?_) (a' := ?_) #[true, false, true, true, true, true, true, true, true, false, false] rfl rfl (any_of HT_.out (by kernel_rfl)) (fun _ _ _ h => h) (Or.inl ⟨by rfl, ?_⟩) ?_ ?_
            rotate_left
            ·intro w'
             go_simp
             with_reducible rfl
            rotate_left
            ·simp only [Act.put, List.setIfInBounds_toArray, List.set_cons_zero, List.set_cons_succ, i64_w, i32_w]
             rfl
            refine one_ (i := 1) (N := some 59) #[true, true, true, true, true, true, true, true, true, false, false] rfl rfl (one_of HT_.out (by kernel_rfl)) (by decide) (fun K hK => ?_)
            refine goesV_ Tryd.func22 (by kernel_rfl) rfl #[.pointer (some ⟨gb201, 0, none⟩)] (by rfl) rfl rfl rfl (by (try simp only [List.map_toArray, List.map_cons, List.map_nil]); first | done | rfl) ?_
            refine (slot1_calls gb201 _).mono ?_
            rintro e w' ⟨rfl, hw'⟩
            rw [hw']
            clear hw'
            refine ⟨_, rfl, ?_⟩
            refine hK.out _ _ trivial (fun hHeld => ?_)
            clear hK K
            refine norm_ (a' := ?_) ?_ ?_
            rotate_left
            ·show Act.put _ (some 59) _ = _
             simp only [Act.put, List.setIfInBounds_toArray, List.set_cons_zero, List.set_cons_succ, i64_w, i32_w]
             rfl
            refine pure_ (i := 9) (N := some 67) (v := ?_) (a' := ?_) #[true, true, true, true, true, true, true, true, true, true, false] rfl rfl (any_of HT_.out (by kernel_rfl)) (fun _ _ _ h => h) (Or.inl ⟨by rfl, ?_⟩) ?_ ?_
            rotate_left
            ·intro w'
             go_simp
             with_reducible rfl
            rotate_left
            ·simp only [Act.put, List.setIfInBounds_toArray, List.set_cons_zero, List.set_cons_succ, i64_w, i32_w]
             rfl
            refine one_ (i := 10) (N := none) #[true, true, true, true, true, true, true, true, true, true, true] rfl rfl (one_of HT_.out (by kernel_rfl)) (by decide) (fun K hK => ?_)
            have hs900 : w60.cell? ⟨gb201, 1, none⟩ = some (.slice Ao54 t198.length co54) := (blk_cell BK201.out 1).trans rfl
            have hfs900 := blk_frozen BK201.out 1
            refine skip_ (w1 := ?_) (by rfl) rfl ?_ ?_
            rotate_left
            ·go_simp
             rfl
            refine hK.out _ _ trivial (fun hHeld => ?_)
            clear hK K
            refine done_ (done_of HT_.out (by kernel_rfl)) ?_
            have m0_ := Aside0.mk (Kd.R_far (p := ⟨gb201, 1, none⟩) (Kd.R_types HO_9.out BK201.out (by decide)) (fun _ hk => hk.2) (.slice Ao58 y202.length co58))
            have m1_ := Aside0.mk (Kd.R_far (p := ⟨gb201, 1, none⟩) (Kd.R_types HO197.out BK201.out (by decide)) (fun _ hk => hk.2) (.slice Ao58 y202.length co58))
            have m2_ : Aside0 ((w60.setCell ⟨gb201, 1, none⟩ (.slice Ao58 y202.length co58)).heap[gb201]? = some (.cells #[.slice Ao55 t195.length co55, .slice Ao58 y202.length co58] 58 (0, 0))) := ⟨blk_put (cs := #[.slice Ao55 t195.length co55, .slice Ao54 t198.length co54]) BK201.out 1 _ rfl⟩
            have m3_ : Aside0 ((w60.setCell ⟨gb201, 1, none⟩ (.slice Ao58 y202.length co58)).heap[gb181]? = some (.cells #[.slice none 0 0, .slice none 0 0] 24 (0, 0))) := ⟨blk_far BK181.out NB181_201.out _⟩
            have m4_ : Aside0 (Below w.heap.size w (w60.setCell ⟨gb201, 1, none⟩ (.slice Ao58 y202.length co58))) := ⟨below_set HB.out GE201.out⟩
            clear hs900 hfs900
            clear HO_9
            clear HO_195003
            clear HO197
            clear HO200
            clear BK179
            clear BK180
            clear BK181
            clear BK194
            clear BK201
            clear HB
            (try clear HR205)
            generalize (w60.setCell ⟨gb201, 1, none⟩ (.slice Ao58 y202.length co58)) = w901 at m0_ m1_ m2_ m3_ m4_ ⊢
            have hnb901 := NB181_201.out
            have hnc901 := NB201_181.out
            have hc900 : w901.cell? ⟨gb201, 0, none⟩ = some (.slice Ao55 t195.length co55) := (blk_cell m2_.out 0).trans rfl
            have hf900 := blk_frozen m2_.out 0
            have hc910 : w901.cell? ⟨gb181, 0, none⟩ = some (.slice none 0 0) := (blk_cell m3_.out 0).trans rfl
            have hf910 := blk_frozen m3_.out 0
            have hc901 : w901.cell? ⟨gb201, 1, none⟩ = some (.slice Ao58 y202.length co58) := (blk_cell m2_.out 1).trans rfl
            have hf901 := blk_frozen m2_.out 1
            have hc911 : w901.cell? ⟨gb181, 1, none⟩ = some (.slice none 0 0) := (blk_cell m3_.out 1).trans rfl
            have hf911 := blk_frozen m3_.out 1
            try go_wp2
            refine bodyPost_ret (results_ctt rfl _ _ gb181 24 #[.slice Ao55 t195.length co55, .slice Ao58 y202.length co58] (0, 0) _ rfl (by refine blk_put (cs := #[.slice Ao55 t195.length co55, .slice none 0 0]) ?_ 1 _ rfl; refine blk_put (cs := #[.slice none 0 0, .slice none 0 0]) ?_ 0 _ rfl; exact m3_.out) Tryd.underlying24 rfl (by kernel_rfl)) rfl ?_
            have hlen : y202.length ≤ t182.length := by rw [Ny202.out, List.length_take]; omega
            have hR := Kd.R_take m0_.out hlen
            have hq : t182.take y202.length = y202 := by rw [Ny202.out, List.length_take]; exact (List.take_eq_take_iff.2 (by omega))
            rw [hq] at hR
            refine ⟨.slice Ao55 t195.length co55, .slice Ao58 y202.length co58, by first | rfl | (simp [*]; done), Kd.R_mono (Kd.R_far (p := ⟨gb181, 1, none⟩) (Kd.R_far (p := ⟨gb181, 0, none⟩) (Kd.R_types m1_.out m3_.out (by decide)) (fun _ hk => hk.2) (.slice Ao55 t195.length co55)) (fun _ hk => hk.2) (.slice Ao58 y202.length co58)) (fun k_ hk => ?_), Kd.R_mono (Kd.R_far (p := ⟨gb181, 1, none⟩) (Kd.R_far (p := ⟨gb181, 0, none⟩) (Kd.R_types hR m3_.out (by decide)) (fun _ hk => hk.2) (.slice Ao55 t195.length co55)) (fun _ hk => hk.2) (.slice Ao58 y202.length co58)) (fun k_ hk => ?_), below_set (below_set m4_.out GE181.out) GE181.out⟩
            ·(try rw [own_len Ao58 y202.length t182.length co58])
             first | exact hk.1.1.1.1.1 | exact hk.1.1.1.1.2.1 | exact hk.1.1.1.1.2.2 | exact hk.1.1.1.1 | exact hk.1.1.1.2.1 | exact hk.1.1.1.2.2 | exact hk.1.1.1.2 | exact hk.1.1.1 | exact hk.1.1.2.1 | exact hk.1.1.2.2 | exact hk.1.1.2 | exact hk.1.1 | exact hk.1.2.1 | exact hk.1.2.2 | exact hk.1 | exact hk.2
            ·(try rw [own_len Ao58 y202.length t182.length co58])
             first | exact hk.1.1.1.1.1 | exact hk.1.1.1.1.2.1 | exact hk.1.1.1.1.2.2 | exact hk.1.1.1.1 | exact hk.1.1.1.2.1 | exact hk.1.1.1.2.2 | exact hk.1.1.1.2 | exact hk.1.1.1 | exact hk.1.1.2.1 | exact hk.1.1.2.2 | exact hk.1.1.2 | exact hk.1.1 | exact hk.1.2.1 | exact hk.1.2.2 | exact hk.1 | exact hk.2
           ·skip
            refine start_ (n := 11) (S := fun w' => True) (ds := []) #[false, false, false, false, false, false, false, false, false, false, false] (by kernel_rfl) rfl rfl trivial (fun hHeld => ?_); refine with_tabW flash_Write.tab12 flash_Write.bits12 (fun HT_ HW_ => ?_)
            generalize w59.drew = w60 at HO_9 HO_195003 HO197 HO200 BK179 BK180 BK181 BK194 BK201 HB HR205 hHeld ⊢
            refine pure_ (i := 0) (N := some 58) (v := ?_) (a' := ?_) #[true, false, false, false, false, false, false, false, false, false, false] rfl rfl (any_of HT_.out (by kernel_rfl)) (fun _ _ _ h => h) (Or.inl ⟨by rfl, ?_⟩) ?_ ?_
            rotate_left
            ·intro w'
             go_simp
             with_reducible rfl
            rotate_left
            ·simp only [Act.put, List.setIfInBounds_toArray, List.set_cons_zero, List.set_cons_succ, i64_w, i32_w]
             rfl
            refine pure_ (i := 2) (N := some 60) (v := ?_) (a' := ?_) #[true, false, true, false, false, false, false, false, false, false, false] rfl rfl (any_of HT_.out (by kernel_rfl)) (fun _ _ _ h => h) (Or.inl ⟨by rfl, ?_⟩) ?_ ?_
            rotate_left
            ·intro w'
             go_simp
             with_reducible rfl
            rotate_left
            ·simp only [Act.put, List.setIfInBounds_toArray, List.set_cons_zero, List.set_cons_succ, i64_w, i32_w]
             rfl
            refine pure_ (i := 3) (N := some 61) (v := ?_) (a' := ?_) #[true, false, true, true, false, false, false, false, false, false, false] rfl rfl (any_of HT_.out (by kernel_rfl)) (fun _ _ _ h => h) (Or.inl ⟨by rfl, ?_⟩) ?_ ?_
            rotate_left
            ·intro w'
             go_simp
             with_reducible rfl
            rotate_left
            ·simp only [Act.put, List.setIfInBounds_toArray, List.set_cons_zero, List.set_cons_succ, i64_w, i32_w]
             rfl
            refine pure_ (i := 4) (N := some 62) (v := ?_) (a' := ?_) #[true, false, true, true, true, false, false, false, false, false, false] rfl rfl (any_of HT_.out (by kernel_rfl)) (fun _ _ _ h => h) (Or.inl ⟨by rfl, ?_⟩) ?_ ?_
            rotate_left
            ·intro w'
             go_simp
             with_reducible rfl
            rotate_left
            ·simp only [Act.put, List.setIfInBounds_toArray, List.set_cons_zero, List.set_cons_succ, i64_w, i32_w]
             rfl
            refine pure_ (i := 5) (N := some 63) (v := ?_) (a' := ?_) #[true, false, true, true, true, true, false, false, false, false, false] rfl rfl (any_of HT_.out (by kernel_rfl)) (fun _ _ _ h => h) (Or.inl ⟨by rfl, ?_⟩) ?_ ?_
            rotate_left
            ·intro w'
             go_simp
             with_reducible rfl
            rotate_left
            ·simp only [Act.put, List.setIfInBounds_toArray, List.set_cons_zero, List.set_cons_succ, i64_w, i32_w]
             rfl
            refine pure_ (i := 6) (N := some 64) (v := ?_) (a' := ?_) #[true, false, true, true, true, true, true, false, false, false, false] rfl rfl (any_of HT_.out (by kernel_rfl)) (fun _ _ _ h => h) (Or.inl ⟨by rfl, ?_⟩) ?_ ?_
            rotate_left
            ·intro w'
             go_simp
             with_reducible rfl
            rotate_left
            ·simp only [Act.put, List.setIfInBounds_toArray, List.set_cons_zero, List.set_cons_succ, i64_w, i32_w]
             rfl
            refine pure_ (i := 7) (N := some 65) (v := ?_) (a' := ?_) #[true, false, true, true, true, true, true, true, false, false, false] rfl rfl (any_of HT_.out (by kernel_rfl)) (fun _ _ _ h => h) (Or.inl ⟨by rfl, ?_⟩) ?_ ?_
            rotate_left
            ·intro w'
             go_simp
             with_reducible rfl
            rotate_left
            ·simp only [Act.put, List.setIfInBounds_toArray, List.set_cons_zero, List.set_cons_succ, i64_w, i32_w]
             rfl
            refine pure_ (i := 8) (N := some 66) (v := ?_) (a' := ?_) #[true, false, true, true, true, true, true, true, true, false, false] rfl rfl (any_of HT_.out (by kernel_rfl)) (fun _ _ _ h => h) (Or.inl ⟨by rfl, ?_⟩) ?_ ?_
            rotate_left
            ·intro w'
             go_simp
             with_reducible rfl
            rotate_left
            ·simp only [Act.put, List.setIfInBounds_toArray, List.set_cons_zero, List.set_cons_succ, i64_w, i32_w]
             rfl
            refine one_ (i := 1) (N := some 59) #[true, true, true, true, true, true, true, true, true, false, false] rfl rfl (one_of HT_.out (by kernel_rfl)) (by decide) (fun K hK => ?_)
            refine goesV_ Tryd.func23 (by kernel_rfl) rfl #[.pointer (some ⟨gb201, 0, none⟩)] (by rfl) rfl rfl rfl (by (try simp only [List.map_toArray, List.map_cons, List.map_nil]); first | done | rfl) ?_
            refine (slot0_calls gb201 _).mono ?_
            rintro e w' ⟨rfl, hw'⟩
            rw [hw']
            clear hw'
            refine ⟨_, rfl, ?_⟩
            refine hK.out _ _ trivial (fun hHeld => ?_)
            clear hK K
            refine norm_ (a' := ?_) ?_ ?_
            rotate_left
            ·show Act.put _ (some 59) _ = _
             simp only [Act.put, List.setIfInBounds_toArray, List.set_cons_zero, List.set_cons_succ, i64_w, i32_w]
             rfl
            refine pure_ (i := 9) (N := some 67) (v := ?_) (a' := ?_) #[true, true, true, true, true, true, true, true, true, true, false] rfl rfl (any_of HT_.out (by kernel_rfl)) (fun _ _ _ h => h) (Or.inl ⟨by rfl, ?_⟩) ?_ ?_
            rotate_left
            ·intro w'
             go_simp
             with_reducible rfl
            rotate_left
            ·simp only [Act.put, List.setIfInBounds_toArray, List.set_cons_zero, List.set_cons_succ, i64_w, i32_w]
             rfl
            refine one_ (i := 10) (N := none) #[true, true, true, true, true, true, true, true, true, true, true] rfl rfl (one_of HT_.out (by kernel_rfl)) (by decide) (fun K hK => ?_)
            have hs900 : w60.cell? ⟨gb201, 0, none⟩ = some (.slice Ao55 t195.length co55) := (blk_cell BK201.out 0).trans rfl
            have hfs900 := blk_frozen BK201.out 0
            refine skip_ (w1 := ?_) (by rfl) rfl ?_ ?_
            rotate_left
            ·go_simp
             rfl
            refine hK.out _ _ trivial (fun hHeld => ?_)
            clear hK K
            refine done_ (done_of HT_.out (by kernel_rfl)) ?_
            have m0_ := Aside0.mk (Kd.R_far (p := ⟨gb201, 0, none⟩) (Kd.R_types HO_9.out BK201.out (by decide)) (fun _ hk => hk.2) (.slice Ao58 y202.length co58))
            have m1_ := Aside0.mk (Kd.R_far (p := ⟨gb201, 0, none⟩) (Kd.R_types HO200.out BK201.out (by decide)) (fun _ hk => hk.2) (.slice Ao58 y202.length co58))
            have m2_ : Aside0 ((w60.setCell ⟨gb201, 0, none⟩ (.slice Ao58 y202.length co58)).heap[gb201]? = some (.cells #[.slice Ao58 y202.length co58, .slice Ao54 t198.length co54] 58 (0, 0))) := ⟨blk_put (cs := #[.slice Ao55 t195.length co55, .slice Ao54 t198.length co54]) BK201.out 0 _ rfl⟩
            have m3_ : Aside0 ((w60.setCell ⟨gb201, 0, none⟩ (.slice Ao58 y202.length co58)).heap[gb181]? = some (.cells #[.slice none 0 0, .slice none 0 0] 24 (0, 0))) := ⟨blk_far BK181.out NB181_201.out _⟩
            have m4_ : Aside0 (Below w.heap.size w (w60.setCell ⟨gb201, 0, none⟩ (.slice Ao58 y202.length co58))) := ⟨below_set HB.out GE201.out⟩
            clear hs900 hfs900
            clear HO_9
            clear HO_195003
            clear HO197
            clear HO200
            clear BK179
            clear BK180
            clear BK181
            clear BK194
            clear BK201
            clear HB
            (try clear HR205)
            generalize (w60.setCell ⟨gb201, 0, none⟩ (.slice Ao58 y202.length co58)) = w901 at m0_ m1_ m2_ m3_ m4_ ⊢
            have hnb901 := NB181_201.out
            have hnc901 := NB201_181.out
            have hc900 : w901.cell? ⟨gb201, 0, none⟩ = some (.slice Ao58 y202.length co58) := (blk_cell m2_.out 0).trans rfl
            have hf900 := blk_frozen m2_.out 0
            have hc910 : w901.cell? ⟨gb181, 0, none⟩ = some (.slice none 0 0) := (blk_cell m3_.out 0).trans rfl
            have hf910 := blk_frozen m3_.out 0
            have hc901 : w901.cell? ⟨gb201, 1, none⟩ = some (.slice Ao54 t198.length co54) := (blk_cell m2_.out 1).trans rfl
            have hf901 := blk_frozen m2_.out 1
            have hc911 : w901.cell? ⟨gb181, 1, none⟩ = some (.slice none 0 0) := (blk_cell m3_.out 1).trans rfl
            have hf911 := blk_frozen m3_.out 1
            try go_wp2
            refine bodyPost_ret (results_ctt rfl _ _ gb181 24 #[.slice Ao58 y202.length co58, .slice Ao54 t198.length co54] (0, 0) _ rfl (by refine blk_put (cs := #[.slice Ao58 y202.length co58, .slice none 0 0]) ?_ 1 _ rfl; refine blk_put (cs := #[.slice none 0 0, .slice none 0 0]) ?_ 0 _ rfl; exact m3_.out) Tryd.underlying24 rfl (by kernel_rfl)) rfl ?_
            have hlen : y202.length ≤ t182.length := by rw [Ny202.out, List.length_take]; omega
            have hR := Kd.R_take m0_.out hlen
            have hq : t182.take y202.length = y202 := by rw [Ny202.out, List.length_take]; exact (List.take_eq_take_iff.2 (by omega))
            rw [hq] at hR
            refine ⟨.slice Ao58 y202.length co58, .slice Ao54 t198.length co54, by first | rfl | (simp [*]; done), Kd.R_mono (Kd.R_far (p := ⟨gb181, 1, none⟩) (Kd.R_far (p := ⟨gb181, 0, none⟩) (Kd.R_types hR m3_.out (by decide)) (fun _ hk => hk.2) (.slice Ao58 y202.length co58)) (fun _ hk => hk.2) (.slice Ao54 t198.length co54)) (fun k_ hk => ?_), Kd.R_mono (Kd.R_far (p := ⟨gb181, 1, none⟩) (Kd.R_far (p := ⟨gb181, 0, none⟩) (Kd.R_types m1_.out m3_.out (by decide)) (fun _ hk => hk.2) (.slice Ao58 y202.length co58)) (fun _ hk => hk.2) (.slice Ao54 t198.length co54)) (fun k_ hk => ?_), below_set (below_set m4_.out GE181.out) GE181.out⟩
            ·(try rw [own_len Ao58 y202.length t182.length co58])
             first | exact hk.1.1.1.1.1 | exact hk.1.1.1.1.2.1 | exact hk.1.1.1.1.2.2 | exact hk.1.1.1.1 | exact hk.1.1.1.2.1 | exact hk.1.1.1.2.2 | exact hk.1.1.1.2 | exact hk.1.1.1 | exact hk.1.1.2.1 | exact hk.1.1.2.2 | exact hk.1.1.2 | exact hk.1.1 | exact hk.1.2.1 | exact hk.1.2.2 | exact hk.1 | exact hk.2
            ·(try rw [own_len Ao58 y202.length t182.length co58])
             first | exact hk.1.1.1.1.1 | exact hk.1.1.1.1.2.1 | exact hk.1.1.1.1.2.2 | exact hk.1.1.1.1 | exact hk.1.1.1.2.1 | exact hk.1.1.1.2.2 | exact hk.1.1.1.2 | exact hk.1.1.1 | exact hk.1.1.2.1 | exact hk.1.1.2.2 | exact hk.1.1.2 | exact hk.1.1 | exact hk.1.2.1 | exact hk.1.2.2 | exact hk.1 | exact hk.2
          ·rw [if_neg c46] at H
           exact absurd H (by simp)
         ·rw [if_neg c45] at H
          exact absurd H (by simp)
 ·rw [if_neg c5] at H
  have c5b0 : (t185 == 0) = false := beq_eq_false_iff_ne.mpr c5
  have c5b1 : (t185 != 0) = true := bne_iff_ne.mpr c5
  simp only [Option.some.injEq, Prod.mk.injEq] at H
  obtain ⟨rfl, rfl, rfl, rfl⟩ := H
  go_enter Tryd.func11, Tryd.ntmps11
  go_wp2_with (first | ((with_reducible refine gate_dst (N := 3) rfl ?_); refine box_event ?hg (N := 3) ?hd (cs := #[.slice A0_0 l0_0.length c0_0, .slice A0_1 l0_1.length c0_1]) (t := 24) ?hr ?_; (case hd => rfl); (case hg => rfl); (case hr => first | (go_simp; done) | (go_simp; rfl)); intro gb179 hg w71 hbox hb; have n0_ := Aside0.mk (below_step (by repeat (first | (with_reducible first | exact HB.out | apply below_alloc | apply pw_below_drewN | apply below_drew1) | exact HB.out)) hb); have n1_ := Aside0.mk (hbox); have n2_ := Aside0.mk ((by rw [hg]; exact (below_size (by repeat (first | (with_reducible first | exact HB.out | apply below_alloc | apply pw_below_drewN | apply below_drew1) | exact HB.out))) : w.heap.size ≤ gb179)); have n3_ := Aside0.mk ((by rw [hg]; exact (below_size (by repeat (first | (with_reducible first | exact HB.out | apply below_alloc | apply pw_below_drewN | apply below_drew1) | exact HB.out))) : w.heap.size ≤ gb179)); clear HB; have HB := n0_; have BK179 := n1_; have GW179 := n2_; have GE179 := n3_; clear n0_ n1_ n2_ n3_; clear hb hbox hg) | ((with_reducible refine gate_dst (N := 4) rfl ?_); refine box_event ?hg (N := 4) ?hd (cs := #[.int .i64 a1_0, .int .i64 a1_1, .int .i64 a1_2, .slice A1_3 l1_3.length c1_3]) (t := 26) ?hr ?_; (case hd => rfl); (case hg => rfl); (case hr => first | (go_simp; done) | (go_simp; rfl)); intro gb180 hg w72 hbox hb; have n0_ := Aside0.mk (blk_below (g := gb179) (o := .cells #[.slice A0_0 l0_0.length c0_0, .slice A0_1 l0_1.length c0_1] 24 (0, 0)) (by (with_reducible repeat (first | refine blk_drewN ?_ _ | refine blk_drew ?_ | refine blk_alloc ?_ _)); exact BK179.out) hb); have n1_ := Aside0.mk (below_step (by repeat (first | (with_reducible first | exact HB.out | apply below_alloc | apply pw_below_drewN | apply below_drew1 | refine below_set ?_ GE179.out) | exact HB.out)) hb); have n2_ := Aside0.mk (hbox); have n3_ := Aside0.mk ((by rw [hg]; exact (below_size (by repeat (first | (with_reducible first | exact HB.out | apply below_alloc | apply pw_below_drewN | apply below_drew1 | refine below_set ?_ GE179.out) | exact HB.out))) : w.heap.size ≤ gb180)); have n4_ := Aside0.mk ((by rw [hg]; exact (below_size (by repeat (first | (with_reducible first | exact HB.out | apply below_alloc | apply pw_below_drewN | apply below_drew1 | refine below_set ?_ GE179.out) | exact HB.out))) : w.heap.size ≤ gb180)); have n5_ := Aside0.mk ((by rw [hg]; exact Nat.ne_of_lt (blk_lt (g := gb179) (o := .cells #[.slice A0_0 l0_0.length c0_0, .slice A0_1 l0_1.length c0_1] 24 (0, 0)) (by (with_reducible repeat (first | refine blk_drewN ?_ _ | refine blk_drew ?_ | refine blk_alloc ?_ _)); exact BK179.out)) : gb179 ≠ gb180)); have n6_ := Aside0.mk ((by rw [hg]; exact Nat.ne_of_gt (blk_lt (g := gb179) (o := .cells #[.slice A0_0 l0_0.length c0_0, .slice A0_1 l0_1.length c0_1] 24 (0, 0)) (by (with_reducible repeat (first | refine blk_drewN ?_ _ | refine blk_drew ?_ | refine blk_alloc ?_ _)); exact BK179.out)) : gb180 ≠ gb179)); clear BK179; clear HB; have BK179 := n0_; have HB := n1_; have BK180 := n2_; have GW180 := n3_; have GE180 := n4_; have NB179_180 := n5_; have NB180_179 := n6_; clear n0_ n1_ n2_ n3_ n4_ n5_ n6_; clear hb hbox hg) | ((with_reducible refine gate_dst (N := 6) rfl ?_); refine box_event ?hg (N := 6) ?hd (cs := #[.slice none 0 0, .slice none 0 0]) (t := 24) ?hr ?_; (case hd => rfl); (case hg => rfl); (case hr => first | (go_simp; done) | (go_simp; rfl)); intro gb181 hg w73 hbox hb; have n0_ := Aside0.mk (blk_below (g := gb179) (o := .cells #[.slice A0_0 l0_0.length c0_0, .slice A0_1 l0_1.length c0_1] 24 (0, 0)) (by (with_reducible repeat (first | refine blk_drewN ?_ _ | refine blk_drew ?_ | refine blk_alloc ?_ _)); exact BK179.out) hb); have n1_ := Aside0.mk (blk_below (g := gb180) (o := .cells #[.int .i64 a1_0, .int .i64 a1_1, .int .i64 a1_2, .slice A1_3 l1_3.length c1_3] 26 (0, 0)) (by (with_reducible repeat (first | refine blk_drewN ?_ _ | refine blk_drew ?_ | refine blk_alloc ?_ _)); exact BK180.out) hb); have n2_ := Aside0.mk (below_step (by repeat (first | (with_reducible first | exact HB.out | apply below_alloc | apply pw_below_drewN | apply below_drew1 | refine below_set ?_ GE179.out | refine below_set ?_ GE180.out) | exact HB.out)) hb); have n3_ := Aside0.mk (hbox); have n4_ := Aside0.mk ((by rw [hg]; exact (below_size (by repeat (first | (with_reducible first | exact HB.out | apply below_alloc | apply pw_below_drewN | apply below_drew1 | refine below_set ?_ GE179.out | refine below_set ?_ GE180.out) | exact HB.out))) : w.heap.size ≤ gb181)); have n5_ := Aside0.mk ((by rw [hg]; exact (below_size (by repeat (first | (with_reducible first | exact HB.out | apply below_alloc | apply pw_below_drewN | apply below_drew1 | refine below_set ?_ GE179.out | refine below_set ?_ GE180.out) | exact HB.out))) : w.heap.size ≤ gb181)); have n6_ := Aside0.mk ((by rw [hg]; exact Nat.ne_of_lt (blk_lt (g := gb179) (o := .cells #[.slice A0_0 l0_0.length c0_0, .slice A0_1 l0_1.length c0_1] 24 (0, 0)) (by (with_reducible repeat (first | refine blk_drewN ?_ _ | refine blk_drew ?_ | refine blk_alloc ?_ _)); exact BK179.out)) : gb179 ≠ gb181)); have n7_ := Aside0.mk ((by rw [hg]; exact Nat.ne_of_gt (blk_lt (g := gb179) (o := .cells #[.slice A0_0 l0_0.length c0_0, .slice A0_1 l0_1.length c0_1] 24 (0, 0)) (by (with_reducible repeat (first | refine blk_drewN ?_ _ | refine blk_drew ?_ | refine blk_alloc ?_ _)); exact BK179.out)) : gb181 ≠ gb179)); have n8_ := Aside0.mk ((by rw [hg]; exact Nat.ne_of_lt (blk_lt (g := gb180) (o := .cells #[.int .i64 a1_0, .int .i64 a1_1, .int .i64 a1_2, .slice A1_3 l1_3.length c1_3] 26 (0, 0)) (by (with_reducible repeat (first | refine blk_drewN ?_ _ | refine blk_drew ?_ | refine blk_alloc ?_ _)); exact BK180.out)) : gb180 ≠ gb181)); have n9_ := Aside0.mk ((by rw [hg]; exact Nat.ne_of_gt (blk_lt (g := gb180) (o := .cells #[.int .i64 a1_0, .int .i64 a1_1, .int .i64 a1_2, .slice A1_3 l1_3.length c1_3] 26 (0, 0)) (by (with_reducible repeat (first | refine blk_drewN ?_ _ | refine blk_drew ?_ | refine blk_alloc ?_ _)); exact BK180.out)) : gb181 ≠ gb180)); clear BK179; clear BK180; clear HB; have BK179 := n0_; have BK180 := n1_; have HB := n2_; have BK181 := n3_; have GW181 := n4_; have GE181 := n5_; have NB179_181 := n6_; have NB181_179 := n7_; have NB180_181 := n8_; have NB181_180 := n9_; clear n0_ n1_ n2_ n3_ n4_ n5_ n6_ n7_ n8_ n9_; clear hb hbox hg; have hnb74 := NB180_179.out; have hnc74 := NB179_180.out; have hnb75 := NB180_181.out; have hnc75 := NB181_180.out; have hcz76_0 : w73.cell? ⟨gb180, 0, none⟩ = some (.int .i64 a1_0) := (blk_cell BK180.out 0).trans rfl; have hcz76_1 : w73.cell? ⟨gb180, 1, none⟩ = some (.int .i64 a1_1) := (blk_cell BK180.out 1).trans rfl; have hcz76_2 : w73.cell? ⟨gb180, 2, none⟩ = some (.int .i64 a1_2) := (blk_cell BK180.out 2).trans rfl; have hcz76_3 : w73.cell? ⟨gb180, 3, none⟩ = some (.slice A1_3 l1_3.length c1_3) := (blk_cell BK180.out 3).trans rfl; have hfz76_0 := blk_frozen BK180.out 0; have hfz76_1 := blk_frozen BK180.out 1; have hfz76_2 := blk_frozen BK180.out 2; have hfz76_3 := blk_frozen BK180.out 3) | ((with_reducible refine gate_callee (f := 18) rfl ?_); refine goesL_ (some 19) rfl rfl Tryd.func18 (by kernel_rfl) rfl #[.agg #[.int .i64 a1_0, .int .i64 a1_1, .int .i64 a1_2, .slice A1_3 l1_3.length c1_3]] rfl (by (try simp only [List.map_toArray, List.map_cons, List.map_nil]); first | done | rfl | (simp only [List.length_drop, List.length_take]; rfl)) ?_; (with_reducible refine (flash_Code.calls k a1_0 a1_1 a1_2 _ _ l1_3 t182 t185 _ ?side1 ?side2 A4.out (by first | exact HTAB.out | ((repeat (first | exact HTAB.out | (with_reducible refine Laid.tab_alloc ?_ _) | (with_reducible refine Laid.tab_drewN ?_ _) | (with_reducible refine Laid.tab_drew ?_))); done) | (refine Laid.tab_below' HTAB.out ?_; (repeat (first | (with_reducible first | exact HB.out | apply below_alloc | apply pw_below_drewN | apply below_drew1) | exact HB.out | (refine below_set ?_ (Aside0.out (by assumption)))))))).mono ?_); (case side1 => repeat (first | exact (Kd.C_below HR1_3.out HB.out) | (with_reducible refine Kd.C_alloc ?_ _) | (with_reducible refine Kd.C_drewN ?_ _) | (with_reducible refine Kd.C_drew ?_))); (case side2 => exact HC1_3.out); rintro e w77 ⟨v183, rfl, ho0, hb⟩; refine ⟨_, rfl, ?_⟩; have n0_ := Aside0.mk (Kd.R_lower ho0 (below_size (by repeat (first | (with_reducible first | exact HB.out | apply below_alloc | apply pw_below_drewN | apply below_drew1 | refine below_set ?_ GE179.out | refine below_set ?_ GE180.out | refine below_set ?_ GE181.out) | exact HB.out)))); have n1_ := Aside0.mk (blk_below (g := gb179) (o := .cells #[.slice A0_0 l0_0.length c0_0, .slice A0_1 l0_1.length c0_1] 24 (0, 0)) (by (with_reducible repeat (first | refine blk_drewN ?_ _ | refine blk_drew ?_ | refine blk_alloc ?_ _)); exact BK179.out) hb); have n2_ := Aside0.mk (blk_below (g := gb180) (o := .cells #[.int .i64 a1_0, .int .i64 a1_1, .int .i64 a1_2, .slice A1_3 l1_3.length c1_3] 26 (0, 0)) (by (with_reducible repeat (first | refine blk_drewN ?_ _ | refine blk_drew ?_ | refine blk_alloc ?_ _)); exact BK180.out) hb); have n3_ := Aside0.mk (blk_below (g := gb181) (o := .cells #[.slice none 0 0, .slice none 0 0] 24 (0, 0)) (by (with_reducible repeat (first | refine blk_drewN ?_ _ | refine blk_drew ?_ | refine blk_alloc ?_ _)); exact BK181.out) hb); have n4_ := Aside0.mk (below_step (by repeat (first | (with_reducible first | exact HB.out | apply below_alloc | apply pw_below_drewN | apply below_drew1 | refine below_set ?_ GE179.out | refine below_set ?_ GE180.out | refine below_set ?_ GE181.out) | exact HB.out)) hb); clear BK179; clear BK180; clear BK181; clear HB; have HO184 := n0_; have BK179 := n1_; have BK180 := n2_; have BK181 := n3_; have HB := n4_; clear n0_ n1_ n2_ n3_ n4_; (try clear hb); (try clear hb2); (try clear hk); (try clear hi); (try clear ho0); have hnb78 := NB181_179.out; have hnc78 := NB179_181.out; have hcz79_0 : w77.cell? ⟨gb181, 0, none⟩ = some (.slice none 0 0) := (blk_cell BK181.out 0).trans rfl; have hcz79_1 : w77.cell? ⟨gb181, 1, none⟩ = some (.slice none 0 0) := (blk_cell BK181.out 1).trans rfl; have hfz79_0 := blk_frozen BK181.out 0; have hfz79_1 := blk_frozen BK181.out 1))
  refine bodyPost_ret (results_ctt rfl _ _ gb181 24 #[.slice none 0 0, .slice none 0 0] (0, 0) _ rfl (by (with_reducible repeat (first | refine blk_drewN ?_ _ | refine blk_drew ?_ | refine blk_alloc ?_ _)); refine blk_put (cs := #[.slice none 0 0, .slice none 0 0]) ?_ 1 _ rfl; (with_reducible repeat (first | refine blk_drewN ?_ _ | refine blk_drew ?_ | refine blk_alloc ?_ _)); refine blk_put (cs := #[.slice none 0 0, .slice none 0 0]) ?_ 0 _ rfl; (with_reducible repeat (first | refine blk_drewN ?_ _ | refine blk_drew ?_ | refine blk_alloc ?_ _)); exact BK181.out) Tryd.underlying24 rfl (by kernel_rfl)) rfl ?_
  exact ⟨_, _, by first | rfl | (simp [errW_none, errW_some] <;> rfl) | (simp [*, errW_none, errW_some] <;> rfl), by first | exact Kd.R_nil _ _ _ _ _ | exact Kd.N_nil _ _ _ _ _ | exact Kd.V_nil _ _ _ _ _ | exact Kd.Q_nil _ _ _ _ _ | exact Kd.S_nil _ _ _ _ _, by first | exact Kd.R_nil _ _ _ _ _ | exact Kd.N_nil _ _ _ _ _ | exact Kd.V_nil _ _ _ _ _ | exact Kd.Q_nil _ _ _ _ _ | exact Kd.S_nil _ _ _ _ _, by repeat (first | (with_reducible first | exact HB.out | apply below_alloc | apply pw_below_drewN | apply below_drew1 | refine below_set ?_ GE179.out | refine below_set ?_ GE180.out | refine below_set ?_ GE181.out) | exact HB.out)⟩
end Go.Proofs.YtickbejailcehaaDoor.C
namespace Go.Proofs.YtickbejailcehaaDoor.Flash
open Go.RowKit Go.Proofs.YtickbejailcehaaDoorW.PrintWords Go.Proofs.YtickbejailcehaaDoorW.PrintLast Go.Proofs.YtickbejailcehaaDoorW.PrintMore Go.Proofs.YtickbejailcehaaDoor.C
open Go.Proofs.YtickbejailcehaaDoor.Wire (In pt rowB getS getRowS)
open Go.Proofs.YtickbejailcehaaDoor.Crc (sealB openB By)
set_option linter.unusedVariables false
def mayB (g m : Int) (n : Nat) : Bool := decide (1 ≤ g ∧ g ≤ 1099511627776 ∧ 0 ≤ m ∧ m ≤ 5 ∧ n ≤ 4096)
theorem may_eq (g c m : Int) (l : List Int) : flash_may.f g c m l = some (mayB g m l.length) := by
  unfold flash_may.f mayB
  by_cases h1 : g ≥ 1
  · rw [if_pos h1]
    by_cases h2 : g ≤ 1099511627776
    · rw [if_pos h2]
      by_cases h3 : m ≥ 0
      · rw [if_pos h3]
        by_cases h4 : m ≤ 5
        · rw [if_pos h4]
          congr 1
          rw [decide_eq_decide]
          omega
        · rw [if_neg h4, decide_eq_false (by omega)]
      · rw [if_neg h3, decide_eq_false (by omega)]
    · rw [if_neg h2, decide_eq_false (by omega)]
  · rw [if_neg h1, decide_eq_false (by omega)]
theorem mayR_eq (g c m : Int) (l : List Int) : newelref12_May.f g c m l = some (mayB g m l.length) := may_eq g c m l
def headB (g c m : Int) (n : Nat) : List Int := rowB [g, c, m] ++ pt (n : Int)
def codeB (g c m : Int) (l : List Int) : List Int := sealB (headB g c m l.length ++ l)
theorem head_len (g c m : Int) (n : Nat) : (headB g c m n).length ≤ 50 := by
  have h1 := Wire.rowB_len [g, c, m]
  have h2 := Wire.pt_len (n : Int)
  unfold headB
  simp only [List.length_append, List.length_cons, List.length_nil] at *
  omega
theorem code_len (g c m : Int) (l : List Int) : (codeB g c m l).length = (headB g c m l.length).length + l.length + 2 := by
  unfold codeB
  rw [Crc.sealB_len, List.length_append]
theorem in3 {g c m : Int} (hg : In g) (hc : In c) (hm : In m) : ∀ x ∈ [g, c, m], In x := by
  intro x hx
  simp only [List.mem_cons, List.not_mem_nil, or_false] at hx
  rcases hx with rfl | rfl | rfl <;> assumption
theorem in_len {n : Nat} (h : n ≤ 1000000000) : In (n : Int) := by unfold In; omega
theorem head_by {g c m : Int} {n : Nat} (hg : In g) (hc : In c) (hm : In m) (hn : n ≤ 1000000000) : ∀ x ∈ headB g c m n, By x := by
  intro x hx
  unfold headB at hx
  rcases List.mem_append.1 hx with h | h
  · exact Wire.rowB_by (in3 hg hc hm) (by simp) x h
  · exact Wire.pt_by (in_len hn) x h
theorem body_by {g c m : Int} {l : List Int} (hg : In g) (hc : In c) (hm : In m) (hb : ∀ x ∈ l, By x) (hl : l.length ≤ 1000000) : ∀ x ∈ headB g c m l.length ++ l, By x := by
  intro x hx
  rcases List.mem_append.1 hx with h | h
  · exact head_by hg hc hm (by omega) x h
  · exact hb x h
theorem code_by {g c m : Int} {l : List Int} (hg : In g) (hc : In c) (hm : In m) (hb : ∀ x ∈ l, By x) (hl : l.length ≤ 1000000) : ∀ x ∈ codeB g c m l, By x := Crc.sealB_by (body_by hg hc hm hb hl)
def codeS (g c m : Int) (l : List Int) : List Int × Int := if mayB g m l.length = true then (codeB g c m l, 0) else ([], 120)
theorem code_eq {g c m : Int} {l : List Int} (hg : In g) (hc : In c) (hm : In m) (hb : ∀ x ∈ l, By x) (hl : l.length ≤ 1000000) (k : Nat) (hk : l.length + 100 < k) : flash_Code.f k g c m l = some (codeS g c m l) := by
  unfold flash_Code.f codeS
  rw [may_eq]
  simp only [Option.bind_some]
  by_cases h : mayB g m l.length = true
  · rw [if_pos h, if_pos h, Wire.row_eq _ (in3 hg hc hm) (by simp) k (by simp; omega), Wire.put_eq _ (in_len (by omega))]
    simp only [Option.bind_some]
    have h1 := Wire.rowB_len [g, c, m]
    have h2 := Wire.pt_len (l.length : Int)
    simp only [List.length_cons, List.length_nil] at h1
    rw [show leb 9 (Wire.codeN (l.length : Int)) = pt (l.length : Int) from rfl, if_pos (by omega), if_pos (by simp only [List.length_append]; omega)]
    have hd := head_len g c m l.length
    rw [show rowB [g, c, m] ++ pt (l.length : Int) = headB g c m l.length from rfl, Crc.seal_eq _ (body_by hg hc hm hb hl) (by simp only [List.length_append]; omega) k (by simp only [List.length_append]; omega)]
    rfl
  · rw [if_neg h, if_neg h]
def readS (l : List Int) : Int × Int × Int × List Int × Int :=
  if (getRowS l 0 3).2.2 = 0 then
    (if (getRowS l 0 3).1.length = 3 ∧ mayB (rd (getRowS l 0 3).1 0) (rd (getRowS l 0 3).1 2) 0 = true then
      (if (getS l (getRowS l 0 3).2.1).2.2 = 0 then
        (if (getS l (getRowS l 0 3).2.1).1 < 0 ∨ 4096 < (getS l (getRowS l 0 3).2.1).1 then (0, 0, 0, [], 120) else
          if (l.length : Int) - (getS l (getRowS l 0 3).2.1).2.1 - 2 < (getS l (getRowS l 0 3).2.1).1 then (0, 0, 0, [], 121) else
          if (l.length : Int) - (getS l (getRowS l 0 3).2.1).2.1 - 2 > (getS l (getRowS l 0 3).2.1).1 then (0, 0, 0, [], 122) else
          if (openB l).2 = 0 then (rd (getRowS l 0 3).1 0, rd (getRowS l 0 3).1 1, rd (getRowS l 0 3).1 2, (l.drop (getS l (getRowS l 0 3).2.1).2.1.toNat).take (getS l (getRowS l 0 3).2.1).1.toNat, 0) else (0, 0, 0, [], (openB l).2))
      else (0, 0, 0, [], (getS l (getRowS l 0 3).2.1).2.2))
    else (0, 0, 0, [], 120))
  else (0, 0, 0, [], (getRowS l 0 3).2.2)
theorem copy_zeros (l : List Int) (n : Nat) (h : n ≤ l.length) : copyL l (List.replicate n 0) = l.take n := by
  unfold copyL
  rw [List.length_replicate, Nat.min_eq_right h, List.drop_of_length_le (by simp), List.append_nil]
theorem read_eq (l : List Int) (hb : ∀ x ∈ l, By x) (hl : l.length ≤ 1000000) (k : Nat) (hk : l.length + 100 < k) : flash_Read.f k l = some (readS l) := by
  obtain ⟨k, rfl⟩ : ∃ m, k = m + 2 := ⟨k - 2, by omega⟩
  unfold flash_Read.f readS
  rw [Wire.getRow_eq l hb (by omega) 0 3 (by decide) (k + 2) (by omega)]
  simp only [Option.bind_some]
  generalize getRowS l 0 3 = p
  obtain ⟨q, at_, e⟩ := p
  dsimp only
  by_cases h0 : e = 0
  case neg => rw [if_neg h0, if_neg h0]
  rw [if_pos h0, if_pos h0]
  by_cases h1 : q.length = 3
  case neg =>
    rw [if_neg (by omega), if_neg (fun x => h1 x.1)]
    simp only [flash_Read.j0]
    rw [if_pos trivial]
  rw [if_pos (by omega), if_pos (by omega), if_pos (by omega), may_eq]
  simp only [Option.bind_some, List.length_nil, flash_Read.j0]
  cases h2 : mayB (rd q 0) (rd q 2) 0
  case false =>
    rw [if_pos (by decide), if_neg (fun x => Bool.noConfusion x.2)]
  rw [if_neg (by decide), if_pos ⟨h1, rfl⟩, Wire.get_eq l hb (by omega) at_ (k + 1) (by omega)]
  simp only [Option.bind_some]
  have hg := Wire.getS_only l hb at_
  generalize getS l at_ = p at *
  obtain ⟨n, at2, e2⟩ := p
  dsimp only at hg ⊢
  by_cases h3 : e2 = 0
  case neg => rw [if_neg h3, if_neg h3]
  obtain ⟨g1, g2, g3, _, _⟩ := hg h3
  have w1 : wrap64 ((wrap64 ((l.length : Int) - at2)) - 2) = (l.length : Int) - at2 - 2 := by
    rw [show wrap64 ((l.length : Int) - at2) = (l.length : Int) - at2 from by unfold wrap64; omega]
    unfold wrap64; omega
  have w2 : ∀ b : Bool, b = decide (n < 0 ∨ 4096 < n) → flash_Read.j1 (k + 1) l q at2 n ((l.length : Int) - at2 - 2) b = some (if n < 0 ∨ 4096 < n then (0, 0, 0, [], 120) else
          if (l.length : Int) - at2 - 2 < n then (0, 0, 0, [], 121) else
          if (l.length : Int) - at2 - 2 > n then (0, 0, 0, [], 122) else
          if (openB l).2 = 0 then (rd q 0, rd q 1, rd q 2, (l.drop at2.toNat).take n.toNat, 0) else (0, 0, 0, [], (openB l).2)) := by
    intro b hbb
    simp only [flash_Read.j1]
    by_cases c : n < 0 ∨ 4096 < n
    · rw [hbb, decide_eq_true c, if_pos rfl, if_pos c]
    rw [hbb, decide_eq_false c, if_neg (by decide), if_neg c]
    by_cases c1 : (l.length : Int) - at2 - 2 < n
    · rw [if_pos c1, if_pos c1]
    rw [if_neg c1, if_neg c1]
    by_cases c2 : (l.length : Int) - at2 - 2 > n
    · rw [if_pos c2, if_pos c2]
    rw [if_neg c2, if_neg c2, Crc.open_eq l hb (by omega) k (by omega)]
    simp only [Option.bind_some]
    by_cases c3 : (openB l).2 = 0
    · rw [if_pos c3, if_pos c3, if_pos (by omega), if_pos (by omega), if_pos (by omega), if_pos (by omega), if_pos (by omega), if_pos (by omega), if_pos (by omega), copy_zeros _ _ (by rw [List.length_drop]; omega)]
    · rw [if_neg c3, if_neg c3]
  rw [if_pos h3, if_pos h3, w1]
  by_cases c : n < 0
  · rw [if_pos c]
    exact w2 true (decide_eq_true (.inl c)).symm
  · rw [if_neg c]
    refine w2 _ ?_
    rw [decide_eq_decide]
    omega
theorem may_in {g m : Int} {n : Nat} (h : mayB g m n = true) : 1 ≤ g ∧ g ≤ 1099511627776 ∧ 0 ≤ m ∧ m ≤ 5 ∧ n ≤ 4096 := of_decide_eq_true h
theorem may_zero {g m : Int} {n : Nat} (h : mayB g m n = true) : mayB g m 0 = true := by
  have := may_in h
  exact decide_eq_true ⟨by omega, by omega, by omega, by omega, by omega⟩
theorem head_row {g c m : Int} (hg : In g) (hc : In c) (hm : In m) (tail : List Int) : getRowS (rowB [g, c, m] ++ tail) 0 3 = ([g, c, m], ((rowB [g, c, m]).length : Int), 0) :=
  Wire.getRowS_back [g, c, m] tail (in3 hg hc hm) (by simp) 3 (by simp)
theorem read_code {g c m : Int} {l : List Int} (hg : In g) (hc : In c) (hm : In m) (hb : ∀ x ∈ l, By x) (h : mayB g m l.length = true) : readS (codeB g c m l) = (g, c, m, l, 0) := by
  obtain ⟨_, _, _, _, hl⟩ := may_in h
  have e : codeB g c m l = rowB [g, c, m] ++ (pt (l.length : Int) ++ (l ++ [Crc.hiB (Crc.sumB Crc.F (headB g c m l.length ++ l)), Crc.loB (Crc.sumB Crc.F (headB g c m l.length ++ l))])) := by
    unfold codeB sealB headB
    simp only [List.append_assoc]
  have r1 := head_row hg hc hm (pt (l.length : Int) ++ (l ++ [Crc.hiB (Crc.sumB Crc.F (headB g c m l.length ++ l)), Crc.loB (Crc.sumB Crc.F (headB g c m l.length ++ l))]))
  have r2 := Wire.getS_pt (in_len (show l.length ≤ 1000000000 by omega)) (rowB [g, c, m]) (l ++ [Crc.hiB (Crc.sumB Crc.F (headB g c m l.length ++ l)), Crc.loB (Crc.sumB Crc.F (headB g c m l.length ++ l))])
  rw [← e] at r1 r2
  have r3 : openB (codeB g c m l) = (headB g c m l.length ++ l, 0) := Crc.open_seal _ (body_by hg hc hm hb (by omega))
  have r4 : (codeB g c m l).length = (rowB [g, c, m]).length + (pt (l.length : Int)).length + l.length + 2 := by
    rw [code_len]; unfold headB; rw [List.length_append]
  unfold readS
  rw [r1]
  dsimp only
  rw [if_pos rfl, if_pos ⟨rfl, may_zero h⟩, r2]
  dsimp only
  rw [if_pos rfl, if_neg (by omega), if_neg (by omega), if_neg (by omega), r3]
  dsimp only
  rw [if_pos rfl]
  have d : ((codeB g c m l).drop (((rowB [g, c, m]).length : Int) + ((pt (l.length : Int)).length : Int)).toNat).take ((l.length : Int)).toNat = l := by
    rw [Int.toNat_natCast, show (((rowB [g, c, m]).length : Int) + ((pt (l.length : Int)).length : Int)).toNat = (headB g c m l.length).length from by unfold headB; rw [List.length_append]; omega]
    unfold codeB sealB
    rw [List.append_assoc, List.drop_left, List.take_left']
    rfl
  rw [d]
  rfl
theorem read_torn {g c m : Int} {l : List Int} (hg : In g) (hc : In c) (hm : In m) (h : mayB g m l.length = true) (i : Nat) (hi : i < (codeB g c m l).length) : (readS ((codeB g c m l).take i)).2.2.2.2 = 81 ∨ (readS ((codeB g c m l).take i)).2.2.2.2 = 121 := by
  obtain ⟨_, _, _, _, hl⟩ := may_in h
  have e : codeB g c m l = rowB [g, c, m] ++ (pt (l.length : Int) ++ (l ++ [Crc.hiB (Crc.sumB Crc.F (headB g c m l.length ++ l)), Crc.loB (Crc.sumB Crc.F (headB g c m l.length ++ l))])) := by
    unfold codeB sealB headB
    simp only [List.append_assoc]
  have r4 : (codeB g c m l).length = (rowB [g, c, m]).length + (pt (l.length : Int)).length + l.length + 2 := by
    rw [code_len]; unfold headB; rw [List.length_append]
  generalize (l ++ [Crc.hiB (Crc.sumB Crc.F (headB g c m l.length ++ l)), Crc.loB (Crc.sumB Crc.F (headB g c m l.length ++ l))]) = tl at e
  by_cases h1 : i < (rowB [g, c, m]).length
  · have e1 : (codeB g c m l).take i = (rowB [g, c, m]).take i := by rw [e, List.take_append_of_le_length (by omega)]
    have := Wire.getRowS_short [g, c, m] (in3 hg hc hm) (by simp) 3 (by simp) i h1
    rw [e1]
    unfold readS
    rw [this]
    exact .inl rfl
  · have e1 : (codeB g c m l).take i = rowB [g, c, m] ++ (pt (l.length : Int) ++ tl).take (i - (rowB [g, c, m]).length) := by rw [e, List.take_append, List.take_of_length_le (by omega)]
    have r1 := head_row hg hc hm ((pt (l.length : Int) ++ tl).take (i - (rowB [g, c, m]).length))
    rw [← e1] at r1
    by_cases h2 : i - (rowB [g, c, m]).length < (pt (l.length : Int)).length
    · have e2 : (pt (l.length : Int) ++ tl).take (i - (rowB [g, c, m]).length) = (pt (l.length : Int)).take (i - (rowB [g, c, m]).length) := by rw [List.take_append_of_le_length (by omega)]
      have r2 := Wire.getS_short (in_len (show l.length ≤ 1000000000 by omega)) (rowB [g, c, m]) _ h2
      rw [← e2, ← e1] at r2
      unfold readS
      rw [r1]
      dsimp only
      rw [if_pos rfl, if_pos ⟨rfl, may_zero h⟩, r2]
      exact .inl rfl
    · have e2 : (pt (l.length : Int) ++ tl).take (i - (rowB [g, c, m]).length) = pt (l.length : Int) ++ tl.take (i - (rowB [g, c, m]).length - (pt (l.length : Int)).length) := by rw [List.take_append, List.take_of_length_le (by omega)]
      have r2 := Wire.getS_pt (in_len (show l.length ≤ 1000000000 by omega)) (rowB [g, c, m]) (tl.take (i - (rowB [g, c, m]).length - (pt (l.length : Int)).length))
      rw [← e2, ← e1] at r2
      have r5 : ((codeB g c m l).take i).length = i := by rw [List.length_take]; omega
      unfold readS
      rw [r1]
      dsimp only
      rw [if_pos rfl, if_pos ⟨rfl, may_zero h⟩, r2]
      dsimp only
      rw [if_pos rfl, if_neg (by omega), if_pos (by omega)]
      exact .inr rfl
end Go.Proofs.YtickbejailcehaaDoor.Flash
namespace Go.Proofs.YtickbejailcehaaDoor.C
open Go.RowKit Go.Proofs.YtickbejailcehaaDoorW.PrintWords Go.Proofs.YtickbejailcehaaDoorW.PrintLast Go.Proofs.YtickbejailcehaaDoorW.PrintMore
attribute [local go_sem] max2_int min2_int max_two min_two max_three min_three max_four min_four
set_option linter.unusedVariables false
set_option linter.unusedSimpArgs false
def newellaw12_awake.j0 : Nat → List Int → Bool → Int → Int → Int → Option (Bool)
 | 0, _, _, _, _, _ => none
 | k + 1, x2, x24, x186000, x186001, x186002 => if x24 = true then (none) else ((flash_Read.f k x2).bind fun bt190 => ((flash_Write.f k ([] : List Int) ([] : List Int) x186000 x186001 x186002 ([] : List Int) 99).bind fun bt198 => ((flash_Recover.f k bt198.1 bt198.2.1).bind fun bt207 => (if 5 ≤ (x2.length : Int) then ((newelref08_Same.f k (x2.take 5) (([6, 2, 0, 6, 0] : List Int))).bind fun t223 => (if t223 = true then ((flash_Same.f bt190.1 bt190.2.1 bt190.2.2.1 bt190.2.2.2.1 x186000 x186001 x186002 ([] : List Int)).bind fun t224 => (if t224 = true then (if bt190.2.2.2.2 = 0 then (if bt198.2.2.1 = true then (if bt198.2.2.2 = 0 then ((flash_Same.f bt207.1 bt207.2.1 bt207.2.2.1 bt207.2.2.2.1 x186000 x186001 x186002 ([] : List Int)).bind fun t225 => (if t225 = true then (if bt207.2.2.2.2.1 = true then (none) else (if bt207.2.2.2.2.2 = 0 then ((flash_Same.f bt190.1 bt190.2.1 bt190.2.2.1 bt190.2.2.2.1 0 0 0 ([] : List Int)).bind fun t226 => (some (!t226))) else (none))) else (none))) else (none)) else (none)) else (none)) else (none))) else (none))) else (none)))))
def newellaw12_awake.f (k : Nat)  : Option (Bool) := (flash_Code.f k 1 0 3 ([] : List Int)).bind fun bt186 => (if (bt186.1.length : Int) = 7 then (newellaw12_awake.j0 k bt186.1 (bt186.2 != 0) 1 0 3) else (none))
theorem flash_Same.calls_nil11 (a0_0 : Int) (a0_1 : Int) (a0_2 : Int) (A0_3 : Option Addr) (c0_3 : Nat) (l0_3 : List Int) (a1_0 : Int) (a1_1 : Int) (a1_2 : Int) (r : Bool) (w : World) (hr0_3 : Kd.C (Kd.int .u8) w A0_3 l0_3.length l0_3) (hc0_3 : l0_3.length ≤ c0_3) (h : flash_Same.f a0_0 a0_1 a0_2 l0_3 a1_0 a1_1 a1_2 ([] : List Int) = some r) :
  Calls Tryd.prog 20 #[.agg #[.int .i64 a0_0, .int .i64 a0_1, .int .i64 a0_2, .slice A0_3 l0_3.length c0_3], .agg #[.int .i64 a1_0, .int .i64 a1_1, .int .i64 a1_2, .slice none 0 0]] w fun e w' => e = .returned (.bool r) ∧ Below w.heap.size w w' :=
 flash_Same.calls a0_0 a0_1 a0_2 A0_3 c0_3 l0_3 a1_0 a1_1 a1_2 none 0 [] r w hr0_3 hc0_3 (Kd.C_nil _ _) (Nat.le_refl _) h
set_option maxHeartbeats 8000000 in
set_option maxRecDepth 100000 in
theorem newellaw12_awake.calls (k : Nat)  (r : Bool) (w : World) (h : newellaw12_awake.f k  = some r) (ht_ : Laid.TabAt w) :
  Calls Tryd.prog 10 #[] w fun e w' => e = .returned (.bool r) ∧ Below w.heap.size w w' := by
 have HTAB := Aside0.mk ht_
 clear ht_
 have hu26 := Tryd.underlying26
 have hu24 := Tryd.underlying24
 have HB := Aside0.mk (Below.refl w.heap.size w)
 have H : ((flash_Code.f k 1 0 3 ([] : List Int)).bind fun bt186 => (if (bt186.1.length : Int) = 7 then (newellaw12_awake.j0 k bt186.1 (bt186.2 != 0) 1 0 3) else (none))) = some r := h
 clear h
 replace H := Option.bind_eq_some_iff.mp H
 obtain ⟨⟨t186, t189⟩, A10, H⟩ := H
 replace H : (if (t186.length : Int) = 7 then (newellaw12_awake.j0 k t186 (t189 != 0) 1 0 3) else (none)) = some r := H
 have A1 := Aside0.mk A10
 clear A10
 have HC2 := Aside0.mk H
 clear H
 go_enter Tryd.func10, Tryd.ntmps10
 go_upto_region 3 with (first | ((with_reducible refine gate_dst (N := 1) rfl ?_); refine box_event ?hg (N := 1) ?hd (cs := #[.int .i64 0, .int .i64 0, .int .i64 0, .slice none 0 0]) (t := 26) ?hr ?_; (case hd => rfl); (case hg => rfl); (case hr => first | (go_simp; done) | (go_simp; rfl)); intro gb185 hg w3 hbox hb; have n0_ := Aside0.mk (below_step (by repeat (first | (with_reducible first | exact HB.out | apply below_alloc | apply pw_below_drewN | apply below_drew1) | exact HB.out)) hb); have n1_ := Aside0.mk (hbox); have n2_ := Aside0.mk ((by rw [hg]; exact (below_size (by repeat (first | (with_reducible first | exact HB.out | apply below_alloc | apply pw_below_drewN | apply below_drew1) | exact HB.out))) : w.heap.size ≤ gb185)); have n3_ := Aside0.mk ((by rw [hg]; exact (below_size (by repeat (first | (with_reducible first | exact HB.out | apply below_alloc | apply pw_below_drewN | apply below_drew1) | exact HB.out))) : w.heap.size ≤ gb185)); clear HB; have HB := n0_; have BK185 := n1_; have GW185 := n2_; have GE185 := n3_; clear n0_ n1_ n2_ n3_; clear hb hbox hg; have hcz4_0 : w3.cell? ⟨gb185, 0, none⟩ = some (.int .i64 0) := (blk_cell BK185.out 0).trans rfl; have hcz4_1 : w3.cell? ⟨gb185, 1, none⟩ = some (.int .i64 0) := (blk_cell BK185.out 1).trans rfl; have hcz4_2 : w3.cell? ⟨gb185, 2, none⟩ = some (.int .i64 0) := (blk_cell BK185.out 2).trans rfl; have hcz4_3 : w3.cell? ⟨gb185, 3, none⟩ = some (.slice none 0 0) := (blk_cell BK185.out 3).trans rfl; have hfz4_0 := blk_frozen BK185.out 0; have hfz4_1 := blk_frozen BK185.out 1; have hfz4_2 := blk_frozen BK185.out 2; have hfz4_3 := blk_frozen BK185.out 3) | ((with_reducible refine gate_callee (f := 18) rfl ?_); refine goesL_ (some 15) rfl rfl Tryd.func18 (by kernel_rfl) rfl #[.agg #[.int .i64 1, .int .i64 0, .int .i64 3, .slice none 0 0]] rfl (by (try simp only [List.map_toArray, List.map_cons, List.map_nil]); first | done | rfl | (simp only [List.length_drop, List.length_take]; rfl)) ?_; (refine (flash_Code.calls k 1 0 3 _ _ ([] : List Int) t186 t189 _ ?side1 ?side2 A1.out (by first | exact HTAB.out | ((repeat (first | exact HTAB.out | (with_reducible refine Laid.tab_alloc ?_ _) | (with_reducible refine Laid.tab_drewN ?_ _) | (with_reducible refine Laid.tab_drew ?_))); done) | (refine Laid.tab_below' HTAB.out ?_; (repeat (first | (with_reducible first | exact HB.out | apply below_alloc | apply pw_below_drewN | apply below_drew1) | exact HB.out | (refine below_set ?_ (Aside0.out (by assumption)))))))).mono ?_); (case side1 => exact Kd.C_nil _ _); (case side2 => exact Nat.le_refl _); rintro e w5 ⟨v187, rfl, ho0, hb⟩; refine ⟨_, rfl, ?_⟩; have n0_ := Aside0.mk (Kd.R_lower ho0 (below_size (by repeat (first | (with_reducible first | exact HB.out | apply below_alloc | apply pw_below_drewN | apply below_drew1 | refine below_set ?_ GE185.out) | exact HB.out)))); have n1_ := Aside0.mk (blk_below (g := gb185) (o := .cells #[.int .i64 1, .int .i64 0, .int .i64 3, .slice none 0 0] 26 (0, 0)) (by (with_reducible repeat (first | refine blk_drewN ?_ _ | refine blk_drew ?_ | refine blk_alloc ?_ _)); refine blk_put (cs := #[.int .i64 1, .int .i64 0, .int .i64 3, .slice none 0 0]) ?_ 3 _ rfl; (with_reducible repeat (first | refine blk_drewN ?_ _ | refine blk_drew ?_ | refine blk_alloc ?_ _)); refine blk_put (cs := #[.int .i64 1, .int .i64 0, .int .i64 0, .slice none 0 0]) ?_ 2 _ rfl; (with_reducible repeat (first | refine blk_drewN ?_ _ | refine blk_drew ?_ | refine blk_alloc ?_ _)); refine blk_put (cs := #[.int .i64 1, .int .i64 0, .int .i64 0, .slice none 0 0]) ?_ 1 _ rfl; (with_reducible repeat (first | refine blk_drewN ?_ _ | refine blk_drew ?_ | refine blk_alloc ?_ _)); refine blk_put (cs := #[.int .i64 0, .int .i64 0, .int .i64 0, .slice none 0 0]) ?_ 0 _ rfl; (with_reducible repeat (first | refine blk_drewN ?_ _ | refine blk_drew ?_ | refine blk_alloc ?_ _)); exact BK185.out) hb); have n2_ := Aside0.mk (below_step (by repeat (first | (with_reducible first | exact HB.out | apply below_alloc | apply pw_below_drewN | apply below_drew1 | refine below_set ?_ GE185.out) | exact HB.out)) hb); clear BK185; clear HB; have HO188 := n0_; have BK185 := n1_; have HB := n2_; clear n0_ n1_ n2_; (try clear hb); (try clear hb2); (try clear hk); (try clear hi); (try clear ho0)))
 (try simp only [Act.put, List.setIfInBounds_toArray, List.set_cons_zero, List.set_cons_succ])
 go_cut [24] (fun v24 wc => ∃ (kq : Nat) (x24_1 : Bool), v24 = .bool x24_1 ∧ Aside0 (newellaw12_awake.j0 kq t186 x24_1 1 0 3 = some r) ∧ Aside0 (kq ≤ k) ∧ Aside0 (Kd.R (Kd.int .u8) 5 wc w.heap.size (fun _ => True) v187 t186) ∧ Aside0 (wc.heap[gb185]? = some (.cells #[.int .i64 1, .int .i64 0, .int .i64 3, (.slice none 0 0)] 26 (0, 0))) ∧ Aside0 (Below w.heap.size w wc))
 case first =>
  have H := HC2.out
  clear HC2
  by_cases c6 : (t186.length : Int) = 7
  ·rw [if_pos c6] at H
   have c6b0 : ((t186.length : Int) == 7) = true := beq_iff_eq.mpr c6
   have c6b1 : ((t186.length : Int) != 7) = false := bne_eq_false_iff_eq.mpr c6
   clear c6
   (first | rw [c6b0] | (simp only [i64_w, i32_w]; rw [c6b0]) | skip)
   have H' := Aside0.mk H
   clear H
   obtain ⟨Ao7, co7, eo7⟩ := Kd.R_slice HO188.out
   subst eo7
   go_wp2
   go_meet
   case rel => exact ⟨_, ((t189 != 0)), (by first | rfl | (simp; done) | (simp [*]; done)), H', ⟨by first | omega | exact Nat.le_refl _⟩, ⟨by (with_reducible repeat (first | apply Kd.R_alloc | apply Kd.R_drewN | apply Kd.R_drew)); exact HO188.out⟩, ⟨by (with_reducible repeat (first | refine blk_drewN ?_ _ | refine blk_drew ?_ | refine blk_alloc ?_ _)); exact BK185.out⟩, ⟨by repeat (first | (with_reducible first | exact HB.out | apply below_alloc | apply pw_below_drewN | apply below_drew1 | refine below_set ?_ GE185.out) | exact HB.out)⟩⟩
  ·rw [if_neg c6] at H
   exact absurd H (by simp)
 case rest =>
  clear HC2
  try clear c1
  try clear p2
  try clear c6
  try clear c6b0
  try clear c6b1
  try clear hcz4_0
  try clear hcz4_1
  try clear hcz4_2
  try clear hcz4_3
  try clear hfz4_0
  try clear hfz4_1
  try clear hfz4_2
  try clear hfz4_3
  obtain ⟨kq, x24_1, rfl, HA, HJ1, HO_2, BK185, HB⟩ := hcut
  cases kq with
  | zero => exact absurd HA.out (by simp [newellaw12_awake.j0])
  | succ kj1 =>
   have H := HA.out
   clear HA
   simp only [newellaw12_awake.j0] at H
   by_cases c8 : x24_1 = true
   ·subst c8
    have H1 : (none) = some r := by rw [if_pos rfl] at H; exact H
    clear H
    have H := H1
    clear H1
    exact absurd H (by simp)
   ·replace c8 := Bool.eq_false_iff.mpr c8
    subst c8
    have H1 : ((flash_Read.f kj1 t186).bind fun bt190 => ((flash_Write.f kj1 ([] : List Int) ([] : List Int) 1 0 3 ([] : List Int) 99).bind fun bt198 => ((flash_Recover.f kj1 bt198.1 bt198.2.1).bind fun bt207 => (if 5 ≤ (t186.length : Int) then ((newelref08_Same.f kj1 (t186.take 5) (([6, 2, 0, 6, 0] : List Int))).bind fun t223 => (if t223 = true then ((flash_Same.f bt190.1 bt190.2.1 bt190.2.2.1 bt190.2.2.2.1 1 0 3 ([] : List Int)).bind fun t224 => (if t224 = true then (if bt190.2.2.2.2 = 0 then (if bt198.2.2.1 = true then (if bt198.2.2.2 = 0 then ((flash_Same.f bt207.1 bt207.2.1 bt207.2.2.1 bt207.2.2.2.1 1 0 3 ([] : List Int)).bind fun t225 => (if t225 = true then (if bt207.2.2.2.2.1 = true then (none) else (if bt207.2.2.2.2.2 = 0 then ((flash_Same.f bt190.1 bt190.2.1 bt190.2.2.1 bt190.2.2.2.1 0 0 0 ([] : List Int)).bind fun t226 => (some (!t226))) else (none))) else (none))) else (none)) else (none)) else (none)) else (none))) else (none))) else (none))))) = some r := by rw [if_neg (show ¬ (false = true) by decide)] at H; exact H
    clear H
    have H := H1
    clear H1
    replace H := Option.bind_eq_some_iff.mp H
    obtain ⟨⟨t190, t191, t192, t193, t196⟩, A90, H⟩ := H
    replace H : ((flash_Write.f kj1 ([] : List Int) ([] : List Int) 1 0 3 ([] : List Int) 99).bind fun bt198 => ((flash_Recover.f kj1 bt198.1 bt198.2.1).bind fun bt207 => (if 5 ≤ (t186.length : Int) then ((newelref08_Same.f kj1 (t186.take 5) (([6, 2, 0, 6, 0] : List Int))).bind fun t223 => (if t223 = true then ((flash_Same.f t190 t191 t192 t193 1 0 3 ([] : List Int)).bind fun t224 => (if t224 = true then (if t196 = 0 then (if bt198.2.2.1 = true then (if bt198.2.2.2 = 0 then ((flash_Same.f bt207.1 bt207.2.1 bt207.2.2.1 bt207.2.2.2.1 1 0 3 ([] : List Int)).bind fun t225 => (if t225 = true then (if bt207.2.2.2.2.1 = true then (none) else (if bt207.2.2.2.2.2 = 0 then ((flash_Same.f t190 t191 t192 t193 0 0 0 ([] : List Int)).bind fun t226 => (some (!t226))) else (none))) else (none))) else (none)) else (none)) else (none)) else (none))) else (none))) else (none)))) = some r := H
    have A9 := Aside0.mk A90
    clear A90
    replace H := Option.bind_eq_some_iff.mp H
    obtain ⟨⟨t198, t201, t204, t205⟩, A100, H⟩ := H
    replace H : ((flash_Recover.f kj1 t198 t201).bind fun bt207 => (if 5 ≤ (t186.length : Int) then ((newelref08_Same.f kj1 (t186.take 5) (([6, 2, 0, 6, 0] : List Int))).bind fun t223 => (if t223 = true then ((flash_Same.f t190 t191 t192 t193 1 0 3 ([] : List Int)).bind fun t224 => (if t224 = true then (if t196 = 0 then (if t204 = true then (if t205 = 0 then ((flash_Same.f bt207.1 bt207.2.1 bt207.2.2.1 bt207.2.2.2.1 1 0 3 ([] : List Int)).bind fun t225 => (if t225 = true then (if bt207.2.2.2.2.1 = true then (none) else (if bt207.2.2.2.2.2 = 0 then ((flash_Same.f t190 t191 t192 t193 0 0 0 ([] : List Int)).bind fun t226 => (some (!t226))) else (none))) else (none))) else (none)) else (none)) else (none)) else (none))) else (none))) else (none))) = some r := H
    have A10 := Aside0.mk A100
    clear A100
    replace H := Option.bind_eq_some_iff.mp H
    obtain ⟨⟨t207, t208, t209, t210, t213, t214⟩, A110, H⟩ := H
    replace H : (if 5 ≤ (t186.length : Int) then ((newelref08_Same.f kj1 (t186.take 5) (([6, 2, 0, 6, 0] : List Int))).bind fun t223 => (if t223 = true then ((flash_Same.f t190 t191 t192 t193 1 0 3 ([] : List Int)).bind fun t224 => (if t224 = true then (if t196 = 0 then (if t204 = true then (if t205 = 0 then ((flash_Same.f t207 t208 t209 t210 1 0 3 ([] : List Int)).bind fun t225 => (if t225 = true then (if t213 = true then (none) else (if t214 = 0 then ((flash_Same.f t190 t191 t192 t193 0 0 0 ([] : List Int)).bind fun t226 => (some (!t226))) else (none))) else (none))) else (none)) else (none)) else (none)) else (none))) else (none))) else (none)) = some r := H
    have A11 := Aside0.mk A110
    clear A110
    by_cases c12 : 5 ≤ (t186.length : Int)
    ·rw [if_pos c12] at H
     have c12b0 := eq_true c12
     have c12b1 : decide (5 ≤ (t186.length : Int)) = true := decide_eq_true c12
     clear c12
     obtain ⟨y216, hy216⟩ : ∃ y_ : List Int, y_ = (t186.take 5) := ⟨_, rfl⟩
     replace H : ((newelref08_Same.f kj1 y216 (([6, 2, 0, 6, 0] : List Int))).bind fun t223 => (if t223 = true then ((flash_Same.f t190 t191 t192 t193 1 0 3 ([] : List Int)).bind fun t224 => (if t224 = true then (if t196 = 0 then (if t204 = true then (if t205 = 0 then ((flash_Same.f t207 t208 t209 t210 1 0 3 ([] : List Int)).bind fun t225 => (if t225 = true then (if t213 = true then (none) else (if t214 = 0 then ((flash_Same.f t190 t191 t192 t193 0 0 0 ([] : List Int)).bind fun t226 => (some (!t226))) else (none))) else (none))) else (none)) else (none)) else (none)) else (none))) else (none))) = some r := by first | (rw [hy216]; with_reducible exact H) | (have H2_ := (Option.bind_some _ _).symm.trans H; rw [hy216]; with_reducible exact H2_) | (have H2_ := (Option.bind_some _ _).symm.trans H; with_reducible exact H2_) | with_reducible exact H | (rw [hy216]; exact H) | exact H
     have Ny216 := Aside0.mk hy216
     clear hy216
     obtain ⟨y220, hy220⟩ : ∃ y_ : List Int, y_ = (([6, 2, 0, 6, 0] : List Int)) := ⟨_, rfl⟩
     replace H : ((newelref08_Same.f kj1 y216 y220).bind fun t223 => (if t223 = true then ((flash_Same.f t190 t191 t192 t193 1 0 3 ([] : List Int)).bind fun t224 => (if t224 = true then (if t196 = 0 then (if t204 = true then (if t205 = 0 then ((flash_Same.f t207 t208 t209 t210 1 0 3 ([] : List Int)).bind fun t225 => (if t225 = true then (if t213 = true then (none) else (if t214 = 0 then ((flash_Same.f t190 t191 t192 t193 0 0 0 ([] : List Int)).bind fun t226 => (some (!t226))) else (none))) else (none))) else (none)) else (none)) else (none)) else (none))) else (none))) = some r := by first | (rw [hy220]; with_reducible exact H) | (have H2_ := (Option.bind_some _ _).symm.trans H; rw [hy220]; with_reducible exact H2_) | (have H2_ := (Option.bind_some _ _).symm.trans H; with_reducible exact H2_) | with_reducible exact H | (rw [hy220]; exact H) | exact H
     have Ny220 := Aside0.mk hy220
     clear hy220
     replace H := Option.bind_eq_some_iff.mp H
     obtain ⟨t223, A130, H⟩ := H
     replace H : (if t223 = true then ((flash_Same.f t190 t191 t192 t193 1 0 3 ([] : List Int)).bind fun t224 => (if t224 = true then (if t196 = 0 then (if t204 = true then (if t205 = 0 then ((flash_Same.f t207 t208 t209 t210 1 0 3 ([] : List Int)).bind fun t225 => (if t225 = true then (if t213 = true then (none) else (if t214 = 0 then ((flash_Same.f t190 t191 t192 t193 0 0 0 ([] : List Int)).bind fun t226 => (some (!t226))) else (none))) else (none))) else (none)) else (none)) else (none)) else (none))) else (none)) = some r := H
     have A13 := Aside0.mk A130
     clear A130
     by_cases c14 : t223 = true
     ·subst c14
      have H1 : ((flash_Same.f t190 t191 t192 t193 1 0 3 ([] : List Int)).bind fun t224 => (if t224 = true then (if t196 = 0 then (if t204 = true then (if t205 = 0 then ((flash_Same.f t207 t208 t209 t210 1 0 3 ([] : List Int)).bind fun t225 => (if t225 = true then (if t213 = true then (none) else (if t214 = 0 then ((flash_Same.f t190 t191 t192 t193 0 0 0 ([] : List Int)).bind fun t226 => (some (!t226))) else (none))) else (none))) else (none)) else (none)) else (none)) else (none))) = some r := by rw [if_pos rfl] at H; exact H
      clear H
      have H := H1
      clear H1
      replace H := Option.bind_eq_some_iff.mp H
      obtain ⟨t224, A150, H⟩ := H
      replace H : (if t224 = true then (if t196 = 0 then (if t204 = true then (if t205 = 0 then ((flash_Same.f t207 t208 t209 t210 1 0 3 ([] : List Int)).bind fun t225 => (if t225 = true then (if t213 = true then (none) else (if t214 = 0 then ((flash_Same.f t190 t191 t192 t193 0 0 0 ([] : List Int)).bind fun t226 => (some (!t226))) else (none))) else (none))) else (none)) else (none)) else (none)) else (none)) = some r := H
      have A15 := Aside0.mk A150
      clear A150
      by_cases c16 : t224 = true
      ·subst c16
       have H1 : (if t196 = 0 then (if t204 = true then (if t205 = 0 then ((flash_Same.f t207 t208 t209 t210 1 0 3 ([] : List Int)).bind fun t225 => (if t225 = true then (if t213 = true then (none) else (if t214 = 0 then ((flash_Same.f t190 t191 t192 t193 0 0 0 ([] : List Int)).bind fun t226 => (some (!t226))) else (none))) else (none))) else (none)) else (none)) else (none)) = some r := by rw [if_pos rfl] at H; exact H
       clear H
       have H := H1
       clear H1
       by_cases c17 : t196 = 0
       ·rw [if_pos c17] at H
        have c17b0 : (t196 == 0) = true := beq_iff_eq.mpr c17
        have c17b1 : (t196 != 0) = false := bne_eq_false_iff_eq.mpr c17
        clear c17
        by_cases c18 : t204 = true
        ·subst c18
         have H1 : (if t205 = 0 then ((flash_Same.f t207 t208 t209 t210 1 0 3 ([] : List Int)).bind fun t225 => (if t225 = true then (if t213 = true then (none) else (if t214 = 0 then ((flash_Same.f t190 t191 t192 t193 0 0 0 ([] : List Int)).bind fun t226 => (some (!t226))) else (none))) else (none))) else (none)) = some r := by rw [if_pos rfl] at H; exact H
         clear H
         have H := H1
         clear H1
         by_cases c19 : t205 = 0
         ·rw [if_pos c19] at H
          have c19b0 : (t205 == 0) = true := beq_iff_eq.mpr c19
          have c19b1 : (t205 != 0) = false := bne_eq_false_iff_eq.mpr c19
          clear c19
          replace H := Option.bind_eq_some_iff.mp H
          obtain ⟨t225, A200, H⟩ := H
          replace H : (if t225 = true then (if t213 = true then (none) else (if t214 = 0 then ((flash_Same.f t190 t191 t192 t193 0 0 0 ([] : List Int)).bind fun t226 => (some (!t226))) else (none))) else (none)) = some r := H
          have A20 := Aside0.mk A200
          clear A200
          by_cases c21 : t225 = true
          ·subst c21
           have H1 : (if t213 = true then (none) else (if t214 = 0 then ((flash_Same.f t190 t191 t192 t193 0 0 0 ([] : List Int)).bind fun t226 => (some (!t226))) else (none))) = some r := by rw [if_pos rfl] at H; exact H
           clear H
           have H := H1
           clear H1
           by_cases c22 : t213 = true
           ·subst c22
            have H1 : (none) = some r := by rw [if_pos rfl] at H; exact H
            clear H
            have H := H1
            clear H1
            exact absurd H (by simp)
           ·replace c22 := Bool.eq_false_iff.mpr c22
            subst c22
            have H1 : (if t214 = 0 then ((flash_Same.f t190 t191 t192 t193 0 0 0 ([] : List Int)).bind fun t226 => (some (!t226))) else (none)) = some r := by rw [if_neg (show ¬ (false = true) by decide)] at H; exact H
            clear H
            have H := H1
            clear H1
            by_cases c23 : t214 = 0
            ·rw [if_pos c23] at H
             have c23b0 : (t214 == 0) = true := beq_iff_eq.mpr c23
             have c23b1 : (t214 != 0) = false := bne_eq_false_iff_eq.mpr c23
             clear c23
             replace H := Option.bind_eq_some_iff.mp H
             obtain ⟨t226, A240, H⟩ := H
             replace H : (some (!t226)) = some r := H
             have A24 := Aside0.mk A240
             clear A240
             obtain rfl := Option.some.inj H
             obtain ⟨Ao25, co25, eo25⟩ := Kd.R_slice HO_2.out
             subst eo25
             go_wp2_with (first | ((with_reducible refine gate_callee (f := 19) rfl ?_); refine goesL_ (some 27) rfl rfl Tryd.func19 (by kernel_rfl) rfl #[.slice Ao25 t186.length co25] rfl (by (try simp only [List.map_toArray, List.map_cons, List.map_nil]); first | done | rfl | (simp only [List.length_drop, List.length_take]; rfl)) ?_; (with_reducible refine (flash_Read.calls kj1 _ _ t186 t190 t191 t192 t193 t196 _ ?side1 ?side2 A9.out (by first | exact HTAB.out | ((repeat (first | exact HTAB.out | (with_reducible refine Laid.tab_alloc ?_ _) | (with_reducible refine Laid.tab_drewN ?_ _) | (with_reducible refine Laid.tab_drew ?_))); done) | (refine Laid.tab_below' HTAB.out ?_; (repeat (first | (with_reducible first | exact HB.out | apply below_alloc | apply pw_below_drewN | apply below_drew1) | exact HB.out | (refine below_set ?_ (Aside0.out (by assumption)))))))).mono ?_); (case side1 => repeat (first | exact (Kd.R_reads' HO_2.out).2.2 | (with_reducible refine Kd.C_alloc ?_ _) | (with_reducible refine Kd.C_drewN ?_ _) | (with_reducible refine Kd.C_drew ?_))); (case side2 => exact (Kd.R_reads' HO_2.out).2.1); rintro e w26 ⟨v194, rfl, ho0, hb⟩; refine ⟨_, rfl, ?_⟩; have n0_ := Aside0.mk (Kd.R_elder' (by (with_reducible repeat (first | apply Kd.R_alloc | apply Kd.R_drewN | apply Kd.R_drew)); exact HO_2.out) (Kd.R_base ho0) hb); have n1_ := Aside0.mk (Kd.R_lower (Kd.R_new' ho0 (Kd.R_lt (by (with_reducible repeat (first | apply Kd.R_alloc | apply Kd.R_drewN | apply Kd.R_drew)); exact HO_2.out))) (below_size (by repeat (first | (with_reducible first | exact HB.out | apply below_alloc | apply pw_below_drewN | apply below_drew1 | refine below_set ?_ GE185.out) | exact HB.out)))); have n2_ := Aside0.mk (blk_below (g := gb185) (o := .cells #[.int .i64 1, .int .i64 0, .int .i64 3, .slice none 0 0] 26 (0, 0)) (by (with_reducible repeat (first | refine blk_drewN ?_ _ | refine blk_drew ?_ | refine blk_alloc ?_ _)); exact BK185.out) hb); have n3_ := Aside0.mk (below_step (by repeat (first | (with_reducible first | exact HB.out | apply below_alloc | apply pw_below_drewN | apply below_drew1 | refine below_set ?_ GE185.out) | exact HB.out)) hb); clear HO_2; clear BK185; clear HB; have HO_2 := n0_; have HO195 := n1_; have BK185 := n2_; have HB := n3_; clear n0_ n1_ n2_ n3_; (try clear hb); (try clear hb2); (try clear hk); (try clear hi); (try clear ho0)) | ((with_reducible refine gate_dst (N := 4) rfl ?_); refine box_event ?hg (N := 4) ?hd (cs := #[.int .i64 0, .int .i64 0, .int .i64 0, .slice none 0 0]) (t := 26) ?hr ?_; (case hd => rfl); (case hg => rfl); (case hr => first | (go_simp; done) | (go_simp; rfl)); intro gb197 hg w27 hbox hb; have n0_ := Aside0.mk (Kd.R_below (by (with_reducible repeat (first | apply Kd.R_alloc | apply Kd.R_drewN | apply Kd.R_drew)); exact HO_2.out) hb); have n1_ := Aside0.mk (Kd.R_below (by (with_reducible repeat (first | apply Kd.R_alloc | apply Kd.R_drewN | apply Kd.R_drew)); exact HO195.out) hb); have n2_ := Aside0.mk (blk_below (g := gb185) (o := .cells #[.int .i64 1, .int .i64 0, .int .i64 3, .slice none 0 0] 26 (0, 0)) (by (with_reducible repeat (first | refine blk_drewN ?_ _ | refine blk_drew ?_ | refine blk_alloc ?_ _)); exact BK185.out) hb); have n3_ := Aside0.mk (below_step (by repeat (first | (with_reducible first | exact HB.out | apply below_alloc | apply pw_below_drewN | apply below_drew1 | refine below_set ?_ GE185.out) | exact HB.out)) hb); have n4_ := Aside0.mk (hbox); have n5_ := Aside0.mk ((by rw [hg]; exact (below_size (by repeat (first | (with_reducible first | exact HB.out | apply below_alloc | apply pw_below_drewN | apply below_drew1 | refine below_set ?_ GE185.out) | exact HB.out))) : w.heap.size ≤ gb197)); have n6_ := Aside0.mk ((by rw [hg]; exact (below_size (by repeat (first | (with_reducible first | exact HB.out | apply below_alloc | apply pw_below_drewN | apply below_drew1 | refine below_set ?_ GE185.out) | exact HB.out))) : w.heap.size ≤ gb197)); have n7_ := Aside0.mk ((by rw [hg]; exact Nat.ne_of_lt (blk_lt (g := gb185) (o := .cells #[.int .i64 1, .int .i64 0, .int .i64 3, .slice none 0 0] 26 (0, 0)) (by (with_reducible repeat (first | refine blk_drewN ?_ _ | refine blk_drew ?_ | refine blk_alloc ?_ _)); exact BK185.out)) : gb185 ≠ gb197)); have n8_ := Aside0.mk ((by rw [hg]; exact Nat.ne_of_gt (blk_lt (g := gb185) (o := .cells #[.int .i64 1, .int .i64 0, .int .i64 3, .slice none 0 0] 26 (0, 0)) (by (with_reducible repeat (first | refine blk_drewN ?_ _ | refine blk_drew ?_ | refine blk_alloc ?_ _)); exact BK185.out)) : gb197 ≠ gb185)); clear HO_2; clear HO195; clear BK185; clear HB; have HO_2 := n0_; have HO195 := n1_; have BK185 := n2_; have HB := n3_; have BK197 := n4_; have GW197 := n5_; have GE197 := n6_; have NB185_197 := n7_; have NB197_185 := n8_; clear n0_ n1_ n2_ n3_ n4_ n5_ n6_ n7_ n8_; clear hb hbox hg; have hnb28 := NB197_185.out; have hnc28 := NB185_197.out; have hcz29_0 : w27.cell? ⟨gb197, 0, none⟩ = some (.int .i64 0) := (blk_cell BK197.out 0).trans rfl; have hcz29_1 : w27.cell? ⟨gb197, 1, none⟩ = some (.int .i64 0) := (blk_cell BK197.out 1).trans rfl; have hcz29_2 : w27.cell? ⟨gb197, 2, none⟩ = some (.int .i64 0) := (blk_cell BK197.out 2).trans rfl; have hcz29_3 : w27.cell? ⟨gb197, 3, none⟩ = some (.slice none 0 0) := (blk_cell BK197.out 3).trans rfl; have hfz29_0 := blk_frozen BK197.out 0; have hfz29_1 := blk_frozen BK197.out 1; have hfz29_2 := blk_frozen BK197.out 2; have hfz29_3 := blk_frozen BK197.out 3; obtain ⟨Ao30, co30, eo30⟩ := Kd.R_slice HO195.out; subst eo30; have hcz31_0 : w27.cell? ⟨gb185, 0, none⟩ = some (.int .i64 1) := (blk_cell BK185.out 0).trans rfl; have hcz31_1 : w27.cell? ⟨gb185, 1, none⟩ = some (.int .i64 0) := (blk_cell BK185.out 1).trans rfl; have hcz31_2 : w27.cell? ⟨gb185, 2, none⟩ = some (.int .i64 3) := (blk_cell BK185.out 2).trans rfl; have hcz31_3 : w27.cell? ⟨gb185, 3, none⟩ = some (.slice none 0 0) := (blk_cell BK185.out 3).trans rfl; have hfz31_0 := blk_frozen BK185.out 0; have hfz31_1 := blk_frozen BK185.out 1; have hfz31_2 := blk_frozen BK185.out 2; have hfz31_3 := blk_frozen BK185.out 3) | ((with_reducible refine gate_callee (f := 11) rfl ?_); refine goesL_ (some 33) rfl rfl Tryd.func11 (by kernel_rfl) rfl #[.agg #[.slice none 0 0, .slice none 0 0], .agg #[.int .i64 1, .int .i64 0, .int .i64 3, .slice none 0 0], .int .i64 99] rfl (by (try simp only [List.map_toArray, List.map_cons, List.map_nil]); first | done | rfl | (simp only [List.length_drop, List.length_take]; rfl)) ?_; (refine (flash_Write.calls kj1 _ _ ([] : List Int) _ _ ([] : List Int) 1 0 3 _ _ ([] : List Int) 99 t198 t201 true t205 _ ?side1 ?side2 ?side3 ?side4 ?side5 ?side6 A10.out (by first | exact HTAB.out | ((repeat (first | exact HTAB.out | (with_reducible refine Laid.tab_alloc ?_ _) | (with_reducible refine Laid.tab_drewN ?_ _) | (with_reducible refine Laid.tab_drew ?_))); done) | (refine Laid.tab_below' HTAB.out ?_; (repeat (first | (with_reducible first | exact HB.out | apply below_alloc | apply pw_below_drewN | apply below_drew1) | exact HB.out | (refine below_set ?_ (Aside0.out (by assumption)))))))).mono ?_); (case side1 => exact Kd.C_nil _ _); (case side2 => exact Nat.le_refl _); (case side3 => exact Kd.C_nil _ _); (case side4 => exact Nat.le_refl _); (case side5 => exact Kd.C_nil _ _); (case side6 => exact Nat.le_refl _); rintro e w32 ⟨v199, v202, rfl, ho0, ho1, hb⟩; refine ⟨_, rfl, ?_⟩; have n0_ := Aside0.mk (Kd.R_mono (Kd.R_told (Kd.R_told (Kd.R_old (by (with_reducible repeat (first | apply Kd.R_alloc | apply Kd.R_drewN | apply Kd.R_drew)); exact (Kd.R_mono (Kd.R_far (p := ⟨gb197, 3, none⟩) (Kd.R_far (p := ⟨gb197, 2, none⟩) (Kd.R_far (p := ⟨gb197, 1, none⟩) (Kd.R_far (p := ⟨gb197, 0, none⟩) (Kd.R_types HO_2.out BK197.out (by decide)) (fun _ hk => hk.2) (.int .i64 t190)) (fun _ hk => hk.2) (.int .i64 t191)) (fun _ hk => hk.2) (.int .i64 t192)) (fun _ hk => hk.2) (.slice Ao30 t193.length co30)) (fun _ h_ => h_.1))) hb) (Kd.R_base ho0)) (Kd.R_base ho1)) (fun _ h_ => h_.1)); have n1_ := Aside0.mk (Kd.R_mono (Kd.R_told (Kd.R_told (Kd.R_old (by (with_reducible repeat (first | apply Kd.R_alloc | apply Kd.R_drewN | apply Kd.R_drew)); exact (Kd.R_mono (Kd.R_far (p := ⟨gb197, 3, none⟩) (Kd.R_far (p := ⟨gb197, 2, none⟩) (Kd.R_far (p := ⟨gb197, 1, none⟩) (Kd.R_far (p := ⟨gb197, 0, none⟩) (Kd.R_types HO195.out BK197.out (by decide)) (fun _ hk => hk.2) (.int .i64 t190)) (fun _ hk => hk.2) (.int .i64 t191)) (fun _ hk => hk.2) (.int .i64 t192)) (fun _ hk => hk.2) (.slice Ao30 t193.length co30)) (fun _ h_ => h_.1))) hb) (Kd.R_base ho0)) (Kd.R_base ho1)) (fun _ h_ => h_.1)); have n2_ := Aside0.mk (Kd.R_lower (Kd.R_new' (Kd.R_new' ho0 (Kd.R_lt (by (with_reducible repeat (first | apply Kd.R_alloc | apply Kd.R_drewN | apply Kd.R_drew)); exact (Kd.R_mono (Kd.R_far (p := ⟨gb197, 3, none⟩) (Kd.R_far (p := ⟨gb197, 2, none⟩) (Kd.R_far (p := ⟨gb197, 1, none⟩) (Kd.R_far (p := ⟨gb197, 0, none⟩) (Kd.R_types HO_2.out BK197.out (by decide)) (fun _ hk => hk.2) (.int .i64 t190)) (fun _ hk => hk.2) (.int .i64 t191)) (fun _ hk => hk.2) (.int .i64 t192)) (fun _ hk => hk.2) (.slice Ao30 t193.length co30)) (fun _ h_ => h_.1))))) (Kd.R_lt (by (with_reducible repeat (first | apply Kd.R_alloc | apply Kd.R_drewN | apply Kd.R_drew)); exact (Kd.R_mono (Kd.R_far (p := ⟨gb197, 3, none⟩) (Kd.R_far (p := ⟨gb197, 2, none⟩) (Kd.R_far (p := ⟨gb197, 1, none⟩) (Kd.R_far (p := ⟨gb197, 0, none⟩) (Kd.R_types HO195.out BK197.out (by decide)) (fun _ hk => hk.2) (.int .i64 t190)) (fun _ hk => hk.2) (.int .i64 t191)) (fun _ hk => hk.2) (.int .i64 t192)) (fun _ hk => hk.2) (.slice Ao30 t193.length co30)) (fun _ h_ => h_.1))))) (below_size (by repeat (first | (with_reducible first | exact HB.out | apply below_alloc | apply pw_below_drewN | apply below_drew1 | refine below_set ?_ GE185.out | refine below_set ?_ GE197.out) | exact HB.out)))); have n3_ := Aside0.mk (Kd.R_lower (Kd.R_new' (Kd.R_new' ho1 (Kd.R_lt (by (with_reducible repeat (first | apply Kd.R_alloc | apply Kd.R_drewN | apply Kd.R_drew)); exact (Kd.R_mono (Kd.R_far (p := ⟨gb197, 3, none⟩) (Kd.R_far (p := ⟨gb197, 2, none⟩) (Kd.R_far (p := ⟨gb197, 1, none⟩) (Kd.R_far (p := ⟨gb197, 0, none⟩) (Kd.R_types HO_2.out BK197.out (by decide)) (fun _ hk => hk.2) (.int .i64 t190)) (fun _ hk => hk.2) (.int .i64 t191)) (fun _ hk => hk.2) (.int .i64 t192)) (fun _ hk => hk.2) (.slice Ao30 t193.length co30)) (fun _ h_ => h_.1))))) (Kd.R_lt (by (with_reducible repeat (first | apply Kd.R_alloc | apply Kd.R_drewN | apply Kd.R_drew)); exact (Kd.R_mono (Kd.R_far (p := ⟨gb197, 3, none⟩) (Kd.R_far (p := ⟨gb197, 2, none⟩) (Kd.R_far (p := ⟨gb197, 1, none⟩) (Kd.R_far (p := ⟨gb197, 0, none⟩) (Kd.R_types HO195.out BK197.out (by decide)) (fun _ hk => hk.2) (.int .i64 t190)) (fun _ hk => hk.2) (.int .i64 t191)) (fun _ hk => hk.2) (.int .i64 t192)) (fun _ hk => hk.2) (.slice Ao30 t193.length co30)) (fun _ h_ => h_.1))))) (below_size (by repeat (first | (with_reducible first | exact HB.out | apply below_alloc | apply pw_below_drewN | apply below_drew1 | refine below_set ?_ GE185.out | refine below_set ?_ GE197.out) | exact HB.out)))); have n4_ := Aside0.mk (blk_below (g := gb185) (o := .cells #[.int .i64 1, .int .i64 0, .int .i64 3, .slice none 0 0] 26 (0, 0)) (by (with_reducible repeat (first | refine blk_drewN ?_ _ | refine blk_drew ?_ | refine blk_alloc ?_ _)); refine blk_far ?_ NB185_197.out _; (with_reducible repeat (first | refine blk_drewN ?_ _ | refine blk_drew ?_ | refine blk_alloc ?_ _)); refine blk_far ?_ NB185_197.out _; (with_reducible repeat (first | refine blk_drewN ?_ _ | refine blk_drew ?_ | refine blk_alloc ?_ _)); refine blk_far ?_ NB185_197.out _; (with_reducible repeat (first | refine blk_drewN ?_ _ | refine blk_drew ?_ | refine blk_alloc ?_ _)); refine blk_far ?_ NB185_197.out _; (with_reducible repeat (first | refine blk_drewN ?_ _ | refine blk_drew ?_ | refine blk_alloc ?_ _)); exact BK185.out) hb); have n5_ := Aside0.mk (blk_below (g := gb197) (o := .cells #[.int .i64 t190, .int .i64 t191, .int .i64 t192, .slice Ao30 t193.length co30] 26 (0, 0)) (by (with_reducible repeat (first | refine blk_drewN ?_ _ | refine blk_drew ?_ | refine blk_alloc ?_ _)); refine blk_put (cs := #[.int .i64 t190, .int .i64 t191, .int .i64 t192, .slice none 0 0]) ?_ 3 _ rfl; (with_reducible repeat (first | refine blk_drewN ?_ _ | refine blk_drew ?_ | refine blk_alloc ?_ _)); refine blk_put (cs := #[.int .i64 t190, .int .i64 t191, .int .i64 0, .slice none 0 0]) ?_ 2 _ rfl; (with_reducible repeat (first | refine blk_drewN ?_ _ | refine blk_drew ?_ | refine blk_alloc ?_ _)); refine blk_put (cs := #[.int .i64 t190, .int .i64 0, .int .i64 0, .slice none 0 0]) ?_ 1 _ rfl; (with_reducible repeat (first | refine blk_drewN ?_ _ | refine blk_drew ?_ | refine blk_alloc ?_ _)); refine blk_put (cs := #[.int .i64 0, .int .i64 0, .int .i64 0, .slice none 0 0]) ?_ 0 _ rfl; (with_reducible repeat (first | refine blk_drewN ?_ _ | refine blk_drew ?_ | refine blk_alloc ?_ _)); exact BK197.out) hb); have n6_ := Aside0.mk (below_step (by repeat (first | (with_reducible first | exact HB.out | apply below_alloc | apply pw_below_drewN | apply below_drew1 | refine below_set ?_ GE185.out | refine below_set ?_ GE197.out) | exact HB.out)) hb); clear HO_2; clear HO195; clear BK185; clear BK197; clear HB; have HO_2 := n0_; have HO195 := n1_; have HO200 := n2_; have HO203 := n3_; have BK185 := n4_; have BK197 := n5_; have HB := n6_; clear n0_ n1_ n2_ n3_ n4_ n5_ n6_; (try clear hb); (try clear hb2); (try clear hk); (try clear hi); (try clear ho0); (try clear ho1)) | ((with_reducible refine gate_dst (N := 6) rfl ?_); refine box_event ?hg (N := 6) ?hd (cs := #[.slice none 0 0, .slice none 0 0]) (t := 24) ?hr ?_; (case hd => rfl); (case hg => rfl); (case hr => first | (go_simp; done) | (go_simp; rfl)); intro gb206 hg w33 hbox hb; have n0_ := Aside0.mk (Kd.R_below (by (with_reducible repeat (first | apply Kd.R_alloc | apply Kd.R_drewN | apply Kd.R_drew)); exact HO_2.out) hb); have n1_ := Aside0.mk (Kd.R_below (by (with_reducible repeat (first | apply Kd.R_alloc | apply Kd.R_drewN | apply Kd.R_drew)); exact HO195.out) hb); have n2_ := Aside0.mk (Kd.R_below (by (with_reducible repeat (first | apply Kd.R_alloc | apply Kd.R_drewN | apply Kd.R_drew)); exact HO200.out) hb); have n3_ := Aside0.mk (Kd.R_below (by (with_reducible repeat (first | apply Kd.R_alloc | apply Kd.R_drewN | apply Kd.R_drew)); exact HO203.out) hb); have n4_ := Aside0.mk (blk_below (g := gb185) (o := .cells #[.int .i64 1, .int .i64 0, .int .i64 3, .slice none 0 0] 26 (0, 0)) (by (with_reducible repeat (first | refine blk_drewN ?_ _ | refine blk_drew ?_ | refine blk_alloc ?_ _)); exact BK185.out) hb); have n5_ := Aside0.mk (blk_below (g := gb197) (o := .cells #[.int .i64 t190, .int .i64 t191, .int .i64 t192, .slice Ao30 t193.length co30] 26 (0, 0)) (by (with_reducible repeat (first | refine blk_drewN ?_ _ | refine blk_drew ?_ | refine blk_alloc ?_ _)); exact BK197.out) hb); have n6_ := Aside0.mk (below_step (by repeat (first | (with_reducible first | exact HB.out | apply below_alloc | apply pw_below_drewN | apply below_drew1 | refine below_set ?_ GE185.out | refine below_set ?_ GE197.out) | exact HB.out)) hb); have n7_ := Aside0.mk (hbox); have n8_ := Aside0.mk ((by rw [hg]; exact (below_size (by repeat (first | (with_reducible first | exact HB.out | apply below_alloc | apply pw_below_drewN | apply below_drew1 | refine below_set ?_ GE185.out | refine below_set ?_ GE197.out) | exact HB.out))) : w.heap.size ≤ gb206)); have n9_ := Aside0.mk ((by rw [hg]; exact (below_size (by repeat (first | (with_reducible first | exact HB.out | apply below_alloc | apply pw_below_drewN | apply below_drew1 | refine below_set ?_ GE185.out | refine below_set ?_ GE197.out) | exact HB.out))) : w.heap.size ≤ gb206)); have n10_ := Aside0.mk ((by rw [hg]; exact Nat.ne_of_lt (blk_lt (g := gb185) (o := .cells #[.int .i64 1, .int .i64 0, .int .i64 3, .slice none 0 0] 26 (0, 0)) (by (with_reducible repeat (first | refine blk_drewN ?_ _ | refine blk_drew ?_ | refine blk_alloc ?_ _)); exact BK185.out)) : gb185 ≠ gb206)); have n11_ := Aside0.mk ((by rw [hg]; exact Nat.ne_of_gt (blk_lt (g := gb185) (o := .cells #[.int .i64 1, .int .i64 0, .int .i64 3, .slice none 0 0] 26 (0, 0)) (by (with_reducible repeat (first | refine blk_drewN ?_ _ | refine blk_drew ?_ | refine blk_alloc ?_ _)); exact BK185.out)) : gb206 ≠ gb185)); have n12_ := Aside0.mk ((by rw [hg]; exact Nat.ne_of_lt (blk_lt (g := gb197) (o := .cells #[.int .i64 t190, .int .i64 t191, .int .i64 t192, .slice Ao30 t193.length co30] 26 (0, 0)) (by (with_reducible repeat (first | refine blk_drewN ?_ _ | refine blk_drew ?_ | refine blk_alloc ?_ _)); exact BK197.out)) : gb197 ≠ gb206)); have n13_ := Aside0.mk ((by rw [hg]; exact Nat.ne_of_gt (blk_lt (g := gb197) (o := .cells #[.int .i64 t190, .int .i64 t191, .int .i64 t192, .slice Ao30 t193.length co30] 26 (0, 0)) (by (with_reducible repeat (first | refine blk_drewN ?_ _ | refine blk_drew ?_ | refine blk_alloc ?_ _)); exact BK197.out)) : gb206 ≠ gb197)); clear HO_2; clear HO195; clear HO200; clear HO203; clear BK185; clear BK197; clear HB; have HO_2 := n0_; have HO195 := n1_; have HO200 := n2_; have HO203 := n3_; have BK185 := n4_; have BK197 := n5_; have HB := n6_; have BK206 := n7_; have GW206 := n8_; have GE206 := n9_; have NB185_206 := n10_; have NB206_185 := n11_; have NB197_206 := n12_; have NB206_197 := n13_; clear n0_ n1_ n2_ n3_ n4_ n5_ n6_ n7_ n8_ n9_ n10_ n11_ n12_ n13_; clear hb hbox hg; obtain ⟨Ao34, co34, eo34⟩ := Kd.R_slice HO200.out; subst eo34; have hnb35 := NB206_185.out; have hnc35 := NB185_206.out; have hnb36 := NB206_197.out; have hnc36 := NB197_206.out; have hcz37_0 : w33.cell? ⟨gb206, 0, none⟩ = some (.slice none 0 0) := (blk_cell BK206.out 0).trans rfl; have hcz37_1 : w33.cell? ⟨gb206, 1, none⟩ = some (.slice none 0 0) := (blk_cell BK206.out 1).trans rfl; have hfz37_0 := blk_frozen BK206.out 0; have hfz37_1 := blk_frozen BK206.out 1; obtain ⟨Ao38, co38, eo38⟩ := Kd.R_slice HO203.out; subst eo38) | ((with_reducible refine gate_callee (f := 14) rfl ?_); refine goesL_ (some 39) rfl rfl Tryd.func14 (by kernel_rfl) rfl #[.agg #[.slice Ao34 t198.length co34, .slice Ao38 t201.length co38]] rfl (by (try simp only [List.map_toArray, List.map_cons, List.map_nil]); first | done | rfl | (simp only [List.length_drop, List.length_take]; rfl)) ?_; (with_reducible refine (flash_Recover.calls kj1 _ _ t198 _ _ t201 t207 t208 t209 t210 false t214 _ ?side1 ?side2 ?side3 ?side4 A11.out (by first | exact HTAB.out | ((repeat (first | exact HTAB.out | (with_reducible refine Laid.tab_alloc ?_ _) | (with_reducible refine Laid.tab_drewN ?_ _) | (with_reducible refine Laid.tab_drew ?_))); done) | (refine Laid.tab_below' HTAB.out ?_; (repeat (first | (with_reducible first | exact HB.out | apply below_alloc | apply pw_below_drewN | apply below_drew1) | exact HB.out | (refine below_set ?_ (Aside0.out (by assumption)))))))).mono ?_); (case side1 => refine (Kd.R_reads' (e := 5) (base := w.heap.size) (ok := fun k_ => ((some k_ ≠ (.slice Ao38 t201.length co38 : Value).ownBlock ∧ some k_ ≠ (.slice Ao25 t186.length co25 : Value).ownBlock) ∧ some k_ ≠ (.slice Ao30 t193.length co30 : Value).ownBlock)) (n := t198.length) (c := co34) ?_).2.2; exact (by (with_reducible repeat (first | apply Kd.R_alloc | apply Kd.R_drewN | apply Kd.R_drew)); exact (Kd.R_mono (Kd.R_far (p := ⟨gb206, 1, none⟩) (Kd.R_far (p := ⟨gb206, 0, none⟩) (Kd.R_types HO200.out BK206.out (by decide)) (fun _ hk => hk.2) (.slice Ao34 t198.length co34)) (fun _ hk => hk.2) (.slice Ao38 t201.length co38)) (fun _ h_ => h_.1)))); (case side2 => exact (Kd.R_reads' HO200.out).2.1); (case side3 => refine (Kd.R_reads' (e := 5) (base := w.heap.size) (ok := fun k_ => ((some k_ ≠ (.slice Ao34 t198.length co34 : Value).ownBlock ∧ some k_ ≠ (.slice Ao25 t186.length co25 : Value).ownBlock) ∧ some k_ ≠ (.slice Ao30 t193.length co30 : Value).ownBlock)) (n := t201.length) (c := co38) ?_).2.2; exact (by (with_reducible repeat (first | apply Kd.R_alloc | apply Kd.R_drewN | apply Kd.R_drew)); exact (Kd.R_mono (Kd.R_far (p := ⟨gb206, 1, none⟩) (Kd.R_far (p := ⟨gb206, 0, none⟩) (Kd.R_types HO203.out BK206.out (by decide)) (fun _ hk => hk.2) (.slice Ao34 t198.length co34)) (fun _ hk => hk.2) (.slice Ao38 t201.length co38)) (fun _ h_ => h_.1)))); (case side4 => exact (Kd.R_reads' HO203.out).2.1); rintro e w39 ⟨v211, rfl, ho0, hb⟩; refine ⟨_, rfl, ?_⟩; have n0_ := Aside0.mk (Kd.R_elder' (by (with_reducible repeat (first | apply Kd.R_alloc | apply Kd.R_drewN | apply Kd.R_drew)); exact (Kd.R_mono (Kd.R_far (p := ⟨gb206, 1, none⟩) (Kd.R_far (p := ⟨gb206, 0, none⟩) (Kd.R_types HO_2.out BK206.out (by decide)) (fun _ hk => hk.2) (.slice Ao34 t198.length co34)) (fun _ hk => hk.2) (.slice Ao38 t201.length co38)) (fun _ h_ => h_.1))) (Kd.R_base ho0) hb); have n1_ := Aside0.mk (Kd.R_elder' (by (with_reducible repeat (first | apply Kd.R_alloc | apply Kd.R_drewN | apply Kd.R_drew)); exact (Kd.R_mono (Kd.R_far (p := ⟨gb206, 1, none⟩) (Kd.R_far (p := ⟨gb206, 0, none⟩) (Kd.R_types HO195.out BK206.out (by decide)) (fun _ hk => hk.2) (.slice Ao34 t198.length co34)) (fun _ hk => hk.2) (.slice Ao38 t201.length co38)) (fun _ h_ => h_.1))) (Kd.R_base ho0) hb); have n2_ := Aside0.mk (Kd.R_elder' (by (with_reducible repeat (first | apply Kd.R_alloc | apply Kd.R_drewN | apply Kd.R_drew)); exact (Kd.R_mono (Kd.R_far (p := ⟨gb206, 1, none⟩) (Kd.R_far (p := ⟨gb206, 0, none⟩) (Kd.R_types HO200.out BK206.out (by decide)) (fun _ hk => hk.2) (.slice Ao34 t198.length co34)) (fun _ hk => hk.2) (.slice Ao38 t201.length co38)) (fun _ h_ => h_.1))) (Kd.R_base ho0) hb); have n3_ := Aside0.mk (Kd.R_elder' (by (with_reducible repeat (first | apply Kd.R_alloc | apply Kd.R_drewN | apply Kd.R_drew)); exact (Kd.R_mono (Kd.R_far (p := ⟨gb206, 1, none⟩) (Kd.R_far (p := ⟨gb206, 0, none⟩) (Kd.R_types HO203.out BK206.out (by decide)) (fun _ hk => hk.2) (.slice Ao34 t198.length co34)) (fun _ hk => hk.2) (.slice Ao38 t201.length co38)) (fun _ h_ => h_.1))) (Kd.R_base ho0) hb); have n4_ := Aside0.mk (Kd.R_lower (Kd.R_new' (Kd.R_new' (Kd.R_new' (Kd.R_new' ho0 (Kd.R_lt (by (with_reducible repeat (first | apply Kd.R_alloc | apply Kd.R_drewN | apply Kd.R_drew)); exact (Kd.R_mono (Kd.R_far (p := ⟨gb206, 1, none⟩) (Kd.R_far (p := ⟨gb206, 0, none⟩) (Kd.R_types HO_2.out BK206.out (by decide)) (fun _ hk => hk.2) (.slice Ao34 t198.length co34)) (fun _ hk => hk.2) (.slice Ao38 t201.length co38)) (fun _ h_ => h_.1))))) (Kd.R_lt (by (with_reducible repeat (first | apply Kd.R_alloc | apply Kd.R_drewN | apply Kd.R_drew)); exact (Kd.R_mono (Kd.R_far (p := ⟨gb206, 1, none⟩) (Kd.R_far (p := ⟨gb206, 0, none⟩) (Kd.R_types HO195.out BK206.out (by decide)) (fun _ hk => hk.2) (.slice Ao34 t198.length co34)) (fun _ hk => hk.2) (.slice Ao38 t201.length co38)) (fun _ h_ => h_.1))))) (Kd.R_lt (by (with_reducible repeat (first | apply Kd.R_alloc | apply Kd.R_drewN | apply Kd.R_drew)); exact (Kd.R_mono (Kd.R_far (p := ⟨gb206, 1, none⟩) (Kd.R_far (p := ⟨gb206, 0, none⟩) (Kd.R_types HO200.out BK206.out (by decide)) (fun _ hk => hk.2) (.slice Ao34 t198.length co34)) (fun _ hk => hk.2) (.slice Ao38 t201.length co38)) (fun _ h_ => h_.1))))) (Kd.R_lt (by (with_reducible repeat (first | apply Kd.R_alloc | apply Kd.R_drewN | apply Kd.R_drew)); exact (Kd.R_mono (Kd.R_far (p := ⟨gb206, 1, none⟩) (Kd.R_far (p := ⟨gb206, 0, none⟩) (Kd.R_types HO203.out BK206.out (by decide)) (fun _ hk => hk.2) (.slice Ao34 t198.length co34)) (fun _ hk => hk.2) (.slice Ao38 t201.length co38)) (fun _ h_ => h_.1))))) (below_size (by repeat (first | (with_reducible first | exact HB.out | apply below_alloc | apply pw_below_drewN | apply below_drew1 | refine below_set ?_ GE185.out | refine below_set ?_ GE197.out | refine below_set ?_ GE206.out) | exact HB.out)))); have n5_ := Aside0.mk (blk_below (g := gb185) (o := .cells #[.int .i64 1, .int .i64 0, .int .i64 3, .slice none 0 0] 26 (0, 0)) (by (with_reducible repeat (first | refine blk_drewN ?_ _ | refine blk_drew ?_ | refine blk_alloc ?_ _)); refine blk_far ?_ NB185_206.out _; (with_reducible repeat (first | refine blk_drewN ?_ _ | refine blk_drew ?_ | refine blk_alloc ?_ _)); refine blk_far ?_ NB185_206.out _; (with_reducible repeat (first | refine blk_drewN ?_ _ | refine blk_drew ?_ | refine blk_alloc ?_ _)); exact BK185.out) hb); have n6_ := Aside0.mk (blk_below (g := gb197) (o := .cells #[.int .i64 t190, .int .i64 t191, .int .i64 t192, .slice Ao30 t193.length co30] 26 (0, 0)) (by (with_reducible repeat (first | refine blk_drewN ?_ _ | refine blk_drew ?_ | refine blk_alloc ?_ _)); refine blk_far ?_ NB197_206.out _; (with_reducible repeat (first | refine blk_drewN ?_ _ | refine blk_drew ?_ | refine blk_alloc ?_ _)); refine blk_far ?_ NB197_206.out _; (with_reducible repeat (first | refine blk_drewN ?_ _ | refine blk_drew ?_ | refine blk_alloc ?_ _)); exact BK197.out) hb); have n7_ := Aside0.mk (blk_below (g := gb206) (o := .cells #[.slice Ao34 t198.length co34, .slice Ao38 t201.length co38] 24 (0, 0)) (by (with_reducible repeat (first | refine blk_drewN ?_ _ | refine blk_drew ?_ | refine blk_alloc ?_ _)); refine blk_put (cs := #[.slice Ao34 t198.length co34, .slice none 0 0]) ?_ 1 _ rfl; (with_reducible repeat (first | refine blk_drewN ?_ _ | refine blk_drew ?_ | refine blk_alloc ?_ _)); refine blk_put (cs := #[.slice none 0 0, .slice none 0 0]) ?_ 0 _ rfl; (with_reducible repeat (first | refine blk_drewN ?_ _ | refine blk_drew ?_ | refine blk_alloc ?_ _)); exact BK206.out) hb); have n8_ := Aside0.mk (below_step (by repeat (first | (with_reducible first | exact HB.out | apply below_alloc | apply pw_below_drewN | apply below_drew1 | refine below_set ?_ GE185.out | refine below_set ?_ GE197.out | refine below_set ?_ GE206.out) | exact HB.out)) hb); clear HO_2; clear HO195; clear HO200; clear HO203; clear BK185; clear BK197; clear BK206; clear HB; have HO_2 := n0_; have HO195 := n1_; have HO200 := n2_; have HO203 := n3_; have HO212 := n4_; have BK185 := n5_; have BK197 := n6_; have BK206 := n7_; have HB := n8_; clear n0_ n1_ n2_ n3_ n4_ n5_ n6_ n7_ n8_; (try clear hb); (try clear hb2); (try clear hk); (try clear hi); (try clear ho0)) | ((with_reducible refine gate_dst (N := 9) rfl ?_); refine box_event ?hg (N := 9) ?hd (cs := #[.int .i64 0, .int .i64 0, .int .i64 0, .slice none 0 0]) (t := 26) ?hr ?_; (case hd => rfl); (case hg => rfl); (case hr => first | (go_simp; done) | (go_simp; rfl)); intro gb215 hg w40 hbox hb; have n0_ := Aside0.mk (Kd.R_below (by (with_reducible repeat (first | apply Kd.R_alloc | apply Kd.R_drewN | apply Kd.R_drew)); exact HO_2.out) hb); have n1_ := Aside0.mk (Kd.R_below (by (with_reducible repeat (first | apply Kd.R_alloc | apply Kd.R_drewN | apply Kd.R_drew)); exact HO195.out) hb); have n2_ := Aside0.mk (Kd.R_below (by (with_reducible repeat (first | apply Kd.R_alloc | apply Kd.R_drewN | apply Kd.R_drew)); exact HO200.out) hb); have n3_ := Aside0.mk (Kd.R_below (by (with_reducible repeat (first | apply Kd.R_alloc | apply Kd.R_drewN | apply Kd.R_drew)); exact HO203.out) hb); have n4_ := Aside0.mk (Kd.R_below (by (with_reducible repeat (first | apply Kd.R_alloc | apply Kd.R_drewN | apply Kd.R_drew)); exact HO212.out) hb); have n5_ := Aside0.mk (blk_below (g := gb185) (o := .cells #[.int .i64 1, .int .i64 0, .int .i64 3, .slice none 0 0] 26 (0, 0)) (by (with_reducible repeat (first | refine blk_drewN ?_ _ | refine blk_drew ?_ | refine blk_alloc ?_ _)); exact BK185.out) hb); have n6_ := Aside0.mk (blk_below (g := gb197) (o := .cells #[.int .i64 t190, .int .i64 t191, .int .i64 t192, .slice Ao30 t193.length co30] 26 (0, 0)) (by (with_reducible repeat (first | refine blk_drewN ?_ _ | refine blk_drew ?_ | refine blk_alloc ?_ _)); exact BK197.out) hb); have n7_ := Aside0.mk (blk_below (g := gb206) (o := .cells #[.slice Ao34 t198.length co34, .slice Ao38 t201.length co38] 24 (0, 0)) (by (with_reducible repeat (first | refine blk_drewN ?_ _ | refine blk_drew ?_ | refine blk_alloc ?_ _)); exact BK206.out) hb); have n8_ := Aside0.mk (below_step (by repeat (first | (with_reducible first | exact HB.out | apply below_alloc | apply pw_below_drewN | apply below_drew1 | refine below_set ?_ GE185.out | refine below_set ?_ GE197.out | refine below_set ?_ GE206.out) | exact HB.out)) hb); have n9_ := Aside0.mk (hbox); have n10_ := Aside0.mk ((by rw [hg]; exact (below_size (by repeat (first | (with_reducible first | exact HB.out | apply below_alloc | apply pw_below_drewN | apply below_drew1 | refine below_set ?_ GE185.out | refine below_set ?_ GE197.out | refine below_set ?_ GE206.out) | exact HB.out))) : w.heap.size ≤ gb215)); have n11_ := Aside0.mk ((by rw [hg]; exact (below_size (by repeat (first | (with_reducible first | exact HB.out | apply below_alloc | apply pw_below_drewN | apply below_drew1 | refine below_set ?_ GE185.out | refine below_set ?_ GE197.out | refine below_set ?_ GE206.out) | exact HB.out))) : w.heap.size ≤ gb215)); have n12_ := Aside0.mk ((by rw [hg]; exact Nat.ne_of_lt (blk_lt (g := gb185) (o := .cells #[.int .i64 1, .int .i64 0, .int .i64 3, .slice none 0 0] 26 (0, 0)) (by (with_reducible repeat (first | refine blk_drewN ?_ _ | refine blk_drew ?_ | refine blk_alloc ?_ _)); exact BK185.out)) : gb185 ≠ gb215)); have n13_ := Aside0.mk ((by rw [hg]; exact Nat.ne_of_gt (blk_lt (g := gb185) (o := .cells #[.int .i64 1, .int .i64 0, .int .i64 3, .slice none 0 0] 26 (0, 0)) (by (with_reducible repeat (first | refine blk_drewN ?_ _ | refine blk_drew ?_ | refine blk_alloc ?_ _)); exact BK185.out)) : gb215 ≠ gb185)); have n14_ := Aside0.mk ((by rw [hg]; exact Nat.ne_of_lt (blk_lt (g := gb197) (o := .cells #[.int .i64 t190, .int .i64 t191, .int .i64 t192, .slice Ao30 t193.length co30] 26 (0, 0)) (by (with_reducible repeat (first | refine blk_drewN ?_ _ | refine blk_drew ?_ | refine blk_alloc ?_ _)); exact BK197.out)) : gb197 ≠ gb215)); have n15_ := Aside0.mk ((by rw [hg]; exact Nat.ne_of_gt (blk_lt (g := gb197) (o := .cells #[.int .i64 t190, .int .i64 t191, .int .i64 t192, .slice Ao30 t193.length co30] 26 (0, 0)) (by (with_reducible repeat (first | refine blk_drewN ?_ _ | refine blk_drew ?_ | refine blk_alloc ?_ _)); exact BK197.out)) : gb215 ≠ gb197)); have n16_ := Aside0.mk ((by rw [hg]; exact Nat.ne_of_lt (blk_lt (g := gb206) (o := .cells #[.slice Ao34 t198.length co34, .slice Ao38 t201.length co38] 24 (0, 0)) (by (with_reducible repeat (first | refine blk_drewN ?_ _ | refine blk_drew ?_ | refine blk_alloc ?_ _)); exact BK206.out)) : gb206 ≠ gb215)); have n17_ := Aside0.mk ((by rw [hg]; exact Nat.ne_of_gt (blk_lt (g := gb206) (o := .cells #[.slice Ao34 t198.length co34, .slice Ao38 t201.length co38] 24 (0, 0)) (by (with_reducible repeat (first | refine blk_drewN ?_ _ | refine blk_drew ?_ | refine blk_alloc ?_ _)); exact BK206.out)) : gb215 ≠ gb206)); clear HO_2; clear HO195; clear HO200; clear HO203; clear HO212; clear BK185; clear BK197; clear BK206; clear HB; have HO_2 := n0_; have HO195 := n1_; have HO200 := n2_; have HO203 := n3_; have HO212 := n4_; have BK185 := n5_; have BK197 := n6_; have BK206 := n7_; have HB := n8_; have BK215 := n9_; have GW215 := n10_; have GE215 := n11_; have NB185_215 := n12_; have NB215_185 := n13_; have NB197_215 := n14_; have NB215_197 := n15_; have NB206_215 := n16_; have NB215_206 := n17_; clear n0_ n1_ n2_ n3_ n4_ n5_ n6_ n7_ n8_ n9_ n10_ n11_ n12_ n13_ n14_ n15_ n16_ n17_; clear hb hbox hg; have hnb41 := NB215_185.out; have hnc41 := NB185_215.out; have hnb42 := NB215_197.out; have hnc42 := NB197_215.out; have hnb43 := NB215_206.out; have hnc43 := NB206_215.out; have hcz44_0 : w40.cell? ⟨gb215, 0, none⟩ = some (.int .i64 0) := (blk_cell BK215.out 0).trans rfl; have hcz44_1 : w40.cell? ⟨gb215, 1, none⟩ = some (.int .i64 0) := (blk_cell BK215.out 1).trans rfl; have hcz44_2 : w40.cell? ⟨gb215, 2, none⟩ = some (.int .i64 0) := (blk_cell BK215.out 2).trans rfl; have hcz44_3 : w40.cell? ⟨gb215, 3, none⟩ = some (.slice none 0 0) := (blk_cell BK215.out 3).trans rfl; have hfz44_0 := blk_frozen BK215.out 0; have hfz44_1 := blk_frozen BK215.out 1; have hfz44_2 := blk_frozen BK215.out 2; have hfz44_3 := blk_frozen BK215.out 3; obtain ⟨Ao45, co45, eo45⟩ := Kd.R_slice HO212.out; subst eo45) | ((with_reducible refine gate_store (t := 26) (p := 9) rfl ?_); refine store_event (t := 26) (p := 9) (v := ?vo_w46) (w1 := ((((w40.setCell ⟨gb215, 0, none⟩ (.int .i64 t207)).setCell ⟨gb215, 1, none⟩ (.int .i64 t208)).setCell ⟨gb215, 2, none⟩ (.int .i64 t209)).setCell ⟨gb215, 3, none⟩ (.slice Ao45 t210.length co45))) ?hg ?ho ?hn ?hr ?_; (case ho => rfl); (case hg => rfl); (case hn => rfl); (case hr => first | (go_simp; done) | (go_simp; rfl)); intro w46 hw; have n0_ : Aside0 (Kd.R (Kd.int .u8) 5 w46 w.heap.size (fun k_ => some k_ ≠ (.slice Ao30 t193.length co30 : Value).ownBlock ∧ some k_ ≠ (.slice Ao34 t198.length co34 : Value).ownBlock ∧ some k_ ≠ (.slice Ao38 t201.length co38 : Value).ownBlock ∧ some k_ ≠ (.slice Ao45 t210.length co45 : Value).ownBlock) (.slice Ao25 t186.length co25) t186) := ⟨(by rw [hw]; exact (by (with_reducible repeat (first | apply Kd.R_alloc | apply Kd.R_drewN | apply Kd.R_drew)); exact Kd.R_mono (Kd.R_far (p := ⟨gb215, 3, none⟩) (Kd.R_far (p := ⟨gb215, 2, none⟩) (Kd.R_far (p := ⟨gb215, 1, none⟩) (Kd.R_far (p := ⟨gb215, 0, none⟩) (Kd.R_types HO_2.out BK215.out (by decide)) (fun _ hk => hk.2) (.int .i64 t207)) (fun _ hk => hk.2) (.int .i64 t208)) (fun _ hk => hk.2) (.int .i64 t209)) (fun _ hk => hk.2) (.slice Ao45 t210.length co45)) (fun _ hk => ⟨hk.1.1.1.1.2, ⟨hk.1.1.1.2, ⟨hk.1.1.2, hk.1.2⟩⟩⟩)))⟩; have n1_ : Aside0 (Kd.R (Kd.int .u8) 5 w46 w.heap.size (fun k_ => some k_ ≠ (.slice Ao25 t186.length co25 : Value).ownBlock ∧ some k_ ≠ (.slice Ao34 t198.length co34 : Value).ownBlock ∧ some k_ ≠ (.slice Ao38 t201.length co38 : Value).ownBlock ∧ some k_ ≠ (.slice Ao45 t210.length co45 : Value).ownBlock) (.slice Ao30 t193.length co30) t193) := ⟨(by rw [hw]; exact (by (with_reducible repeat (first | apply Kd.R_alloc | apply Kd.R_drewN | apply Kd.R_drew)); exact Kd.R_mono (Kd.R_far (p := ⟨gb215, 3, none⟩) (Kd.R_far (p := ⟨gb215, 2, none⟩) (Kd.R_far (p := ⟨gb215, 1, none⟩) (Kd.R_far (p := ⟨gb215, 0, none⟩) (Kd.R_types HO195.out BK215.out (by decide)) (fun _ hk => hk.2) (.int .i64 t207)) (fun _ hk => hk.2) (.int .i64 t208)) (fun _ hk => hk.2) (.int .i64 t209)) (fun _ hk => hk.2) (.slice Ao45 t210.length co45)) (fun _ hk => ⟨hk.1.1.1.1.2, ⟨hk.1.1.1.2, ⟨hk.1.1.2, hk.1.2⟩⟩⟩)))⟩; have n2_ : Aside0 (Kd.R (Kd.int .u8) 5 w46 w.heap.size (fun k_ => some k_ ≠ (.slice Ao25 t186.length co25 : Value).ownBlock ∧ some k_ ≠ (.slice Ao30 t193.length co30 : Value).ownBlock ∧ some k_ ≠ (.slice Ao38 t201.length co38 : Value).ownBlock ∧ some k_ ≠ (.slice Ao45 t210.length co45 : Value).ownBlock) (.slice Ao34 t198.length co34) t198) := ⟨(by rw [hw]; exact (by (with_reducible repeat (first | apply Kd.R_alloc | apply Kd.R_drewN | apply Kd.R_drew)); exact Kd.R_mono (Kd.R_far (p := ⟨gb215, 3, none⟩) (Kd.R_far (p := ⟨gb215, 2, none⟩) (Kd.R_far (p := ⟨gb215, 1, none⟩) (Kd.R_far (p := ⟨gb215, 0, none⟩) (Kd.R_types HO200.out BK215.out (by decide)) (fun _ hk => hk.2) (.int .i64 t207)) (fun _ hk => hk.2) (.int .i64 t208)) (fun _ hk => hk.2) (.int .i64 t209)) (fun _ hk => hk.2) (.slice Ao45 t210.length co45)) (fun _ hk => ⟨hk.1.1.1.2, ⟨hk.1.1.2, ⟨hk.1.1.1.1, hk.1.2⟩⟩⟩)))⟩; have n3_ : Aside0 (Kd.R (Kd.int .u8) 5 w46 w.heap.size (fun k_ => some k_ ≠ (.slice Ao25 t186.length co25 : Value).ownBlock ∧ some k_ ≠ (.slice Ao30 t193.length co30 : Value).ownBlock ∧ some k_ ≠ (.slice Ao34 t198.length co34 : Value).ownBlock ∧ some k_ ≠ (.slice Ao45 t210.length co45 : Value).ownBlock) (.slice Ao38 t201.length co38) t201) := ⟨(by rw [hw]; exact (by (with_reducible repeat (first | apply Kd.R_alloc | apply Kd.R_drewN | apply Kd.R_drew)); exact Kd.R_mono (Kd.R_far (p := ⟨gb215, 3, none⟩) (Kd.R_far (p := ⟨gb215, 2, none⟩) (Kd.R_far (p := ⟨gb215, 1, none⟩) (Kd.R_far (p := ⟨gb215, 0, none⟩) (Kd.R_types HO203.out BK215.out (by decide)) (fun _ hk => hk.2) (.int .i64 t207)) (fun _ hk => hk.2) (.int .i64 t208)) (fun _ hk => hk.2) (.int .i64 t209)) (fun _ hk => hk.2) (.slice Ao45 t210.length co45)) (fun _ hk => ⟨hk.1.1.1.2, ⟨hk.1.1.2, ⟨hk.1.1.1.1, hk.1.2⟩⟩⟩)))⟩; have n4_ : Aside0 (Kd.R (Kd.int .u8) 5 w46 w.heap.size (fun k_ => some k_ ≠ (.slice Ao25 t186.length co25 : Value).ownBlock ∧ some k_ ≠ (.slice Ao30 t193.length co30 : Value).ownBlock ∧ some k_ ≠ (.slice Ao34 t198.length co34 : Value).ownBlock ∧ some k_ ≠ (.slice Ao38 t201.length co38 : Value).ownBlock) (.slice Ao45 t210.length co45) t210) := ⟨(by rw [hw]; exact (by (with_reducible repeat (first | apply Kd.R_alloc | apply Kd.R_drewN | apply Kd.R_drew)); exact Kd.R_mono (Kd.R_far (p := ⟨gb215, 3, none⟩) (Kd.R_far (p := ⟨gb215, 2, none⟩) (Kd.R_far (p := ⟨gb215, 1, none⟩) (Kd.R_far (p := ⟨gb215, 0, none⟩) (Kd.R_types HO212.out BK215.out (by decide)) (fun _ hk => hk.2) (.int .i64 t207)) (fun _ hk => hk.2) (.int .i64 t208)) (fun _ hk => hk.2) (.int .i64 t209)) (fun _ hk => hk.2) (.slice Ao45 t210.length co45)) (fun _ hk => ⟨hk.1.1.1.1.2, ⟨hk.1.1.1.2, ⟨hk.1.1.2, hk.1.2⟩⟩⟩)))⟩; have n5_ : Aside0 (w46.heap[gb185]? = some (.cells #[.int .i64 1, .int .i64 0, .int .i64 3, .slice none 0 0] 26 (0, 0))) := ⟨(by rw [hw]; exact (by (with_reducible repeat (first | refine blk_drewN ?_ _ | refine blk_drew ?_ | refine blk_alloc ?_ _)); refine blk_far ?_ NB185_215.out _; (with_reducible repeat (first | refine blk_drewN ?_ _ | refine blk_drew ?_ | refine blk_alloc ?_ _)); refine blk_far ?_ NB185_215.out _; (with_reducible repeat (first | refine blk_drewN ?_ _ | refine blk_drew ?_ | refine blk_alloc ?_ _)); refine blk_far ?_ NB185_215.out _; (with_reducible repeat (first | refine blk_drewN ?_ _ | refine blk_drew ?_ | refine blk_alloc ?_ _)); refine blk_far ?_ NB185_215.out _; (with_reducible repeat (first | refine blk_drewN ?_ _ | refine blk_drew ?_ | refine blk_alloc ?_ _)); exact BK185.out))⟩; have n6_ : Aside0 (w46.heap[gb197]? = some (.cells #[.int .i64 t190, .int .i64 t191, .int .i64 t192, .slice Ao30 t193.length co30] 26 (0, 0))) := ⟨(by rw [hw]; exact (by (with_reducible repeat (first | refine blk_drewN ?_ _ | refine blk_drew ?_ | refine blk_alloc ?_ _)); refine blk_far ?_ NB197_215.out _; (with_reducible repeat (first | refine blk_drewN ?_ _ | refine blk_drew ?_ | refine blk_alloc ?_ _)); refine blk_far ?_ NB197_215.out _; (with_reducible repeat (first | refine blk_drewN ?_ _ | refine blk_drew ?_ | refine blk_alloc ?_ _)); refine blk_far ?_ NB197_215.out _; (with_reducible repeat (first | refine blk_drewN ?_ _ | refine blk_drew ?_ | refine blk_alloc ?_ _)); refine blk_far ?_ NB197_215.out _; (with_reducible repeat (first | refine blk_drewN ?_ _ | refine blk_drew ?_ | refine blk_alloc ?_ _)); exact BK197.out))⟩; have n7_ : Aside0 (w46.heap[gb206]? = some (.cells #[.slice Ao34 t198.length co34, .slice Ao38 t201.length co38] 24 (0, 0))) := ⟨(by rw [hw]; exact (by (with_reducible repeat (first | refine blk_drewN ?_ _ | refine blk_drew ?_ | refine blk_alloc ?_ _)); refine blk_far ?_ NB206_215.out _; (with_reducible repeat (first | refine blk_drewN ?_ _ | refine blk_drew ?_ | refine blk_alloc ?_ _)); refine blk_far ?_ NB206_215.out _; (with_reducible repeat (first | refine blk_drewN ?_ _ | refine blk_drew ?_ | refine blk_alloc ?_ _)); refine blk_far ?_ NB206_215.out _; (with_reducible repeat (first | refine blk_drewN ?_ _ | refine blk_drew ?_ | refine blk_alloc ?_ _)); refine blk_far ?_ NB206_215.out _; (with_reducible repeat (first | refine blk_drewN ?_ _ | refine blk_drew ?_ | refine blk_alloc ?_ _)); exact BK206.out))⟩; have n8_ : Aside0 (w46.heap[gb215]? = some (.cells #[.int .i64 t207, .int .i64 t208, .int .i64 t209, .slice Ao45 t210.length co45] 26 (0, 0))) := ⟨(by rw [hw]; exact (by (with_reducible repeat (first | refine blk_drewN ?_ _ | refine blk_drew ?_ | refine blk_alloc ?_ _)); refine blk_put (cs := #[.int .i64 t207, .int .i64 t208, .int .i64 t209, .slice none 0 0]) ?_ 3 _ rfl; (with_reducible repeat (first | refine blk_drewN ?_ _ | refine blk_drew ?_ | refine blk_alloc ?_ _)); refine blk_put (cs := #[.int .i64 t207, .int .i64 t208, .int .i64 0, .slice none 0 0]) ?_ 2 _ rfl; (with_reducible repeat (first | refine blk_drewN ?_ _ | refine blk_drew ?_ | refine blk_alloc ?_ _)); refine blk_put (cs := #[.int .i64 t207, .int .i64 0, .int .i64 0, .slice none 0 0]) ?_ 1 _ rfl; (with_reducible repeat (first | refine blk_drewN ?_ _ | refine blk_drew ?_ | refine blk_alloc ?_ _)); refine blk_put (cs := #[.int .i64 0, .int .i64 0, .int .i64 0, .slice none 0 0]) ?_ 0 _ rfl; (with_reducible repeat (first | refine blk_drewN ?_ _ | refine blk_drew ?_ | refine blk_alloc ?_ _)); exact BK215.out))⟩; have n9_ : Aside0 (Below w.heap.size w w46) := ⟨(by rw [hw]; exact (by repeat (first | (with_reducible first | exact HB.out | apply below_alloc | apply pw_below_drewN | apply below_drew1 | refine below_set ?_ GE185.out | refine below_set ?_ GE197.out | refine below_set ?_ GE206.out | refine below_set ?_ GE215.out) | exact HB.out)))⟩; clear hw; clear HO_2; clear HO195; clear HO200; clear HO203; clear HO212; clear BK185; clear BK197; clear BK206; clear BK215; clear HB; have HO_2 := n0_; have HO195 := n1_; have HO200 := n2_; have HO203 := n3_; have HO212 := n4_; have BK185 := n5_; have BK197 := n6_; have BK206 := n7_; have BK215 := n8_; have HB := n9_; clear n0_ n1_ n2_ n3_ n4_ n5_ n6_ n7_ n8_ n9_; have q47 : (5 : Int) ≤ ((t186.length : Int) : Int) := of_decide_eq_true (by first | (with_reducible assumption) | assumption); obtain ⟨i047, hi047, _, hsz47, _⟩ := info_parts info5; have hroom47 : t186.length ≤ co25 := (Kd.R_reads' HO_2.out).2.1; have hC47 : Kd.C (Kd.int .u8) _ Ao25 t186.length t186 := (Kd.R_reads' HO_2.out).2.2; have hcut47 := cut_to (P := Tryd.prog) 22 5 .i64 Tryd.underlying22 hi047 Ao25 t186.length co25 5 (by omega) q47 hroom47; have hr47 := Kd.C_take (m := 5) hC47 (by omega); have hy47 : y216.length = (5 : Int).toNat := (by rw [Ny216.out, List.length_take]; omega); rw [← Ny216.out] at hr47; rw [← hy47] at hcut47; have HR219 := Aside0.mk hr47; have HC219 := Aside0.mk (show y216.length ≤ co25 from by omega); clear hr47 hC47 hroom47 hi047 hsz47; have KY47 := Aside0.mk hy47; clear hy47; have KL47 := Aside0.mk (show 5 ≤ t186.length from by omega); replace q47 := eq_true q47) | ((with_reducible refine gate_dst (N := 45) rfl ?_); refine Kd.R_lit (Kd.int .u8) _ 5 ?hg (N := 45) ?hd (xs := ([6, 2, 0, 6, 0] : List Int)) (inner := [.int .u8 6, .int .u8 2, .int .u8 0, .int .u8 6, .int .u8 0]) (ok := fun _ => True) (okp := fun _ => True) ?hr ?hp (fun _ hk => hk) trivial (Below.refl _ _) (Nat.le_refl _) (by simp) ?_; (case hd => rfl); (case hg => rfl); (case hr => first | (go_simp; done) | (go_simp; rfl)); (case hp => exact (Reps.one (show Kd.M (Kd.int .u8) _ _ _ 6 [.int .u8 6] from rfl) (Reps.one (show Kd.M (Kd.int .u8) _ _ _ 2 [.int .u8 2] from rfl) (Reps.one (show Kd.M (Kd.int .u8) _ _ _ 0 [.int .u8 0] from rfl) (Reps.one (show Kd.M (Kd.int .u8) _ _ _ 6 [.int .u8 6] from rfl) (Reps.one (show Kd.M (Kd.int .u8) _ _ _ 0 [.int .u8 0] from rfl) (Reps.none _ _))))))); intro v221 w48 ho49 hb hg_ hnew_; clear hg_ hnew_; (first | rw [← Ny220.out] at ho49 | (simp only [Int.reduceToNat] at ho49; rw [← Ny220.out] at ho49)); have n0_ := Aside0.mk (Kd.R_elder' (by (with_reducible repeat (first | apply Kd.R_alloc | apply Kd.R_drewN | apply Kd.R_drew)); exact HO_2.out) (Kd.R_base ho49) hb); have n1_ := Aside0.mk (Kd.R_elder' (by (with_reducible repeat (first | apply Kd.R_alloc | apply Kd.R_drewN | apply Kd.R_drew)); exact HO195.out) (Kd.R_base ho49) hb); have n2_ := Aside0.mk (Kd.R_elder' (by (with_reducible repeat (first | apply Kd.R_alloc | apply Kd.R_drewN | apply Kd.R_drew)); exact HO200.out) (Kd.R_base ho49) hb); have n3_ := Aside0.mk (Kd.R_elder' (by (with_reducible repeat (first | apply Kd.R_alloc | apply Kd.R_drewN | apply Kd.R_drew)); exact HO203.out) (Kd.R_base ho49) hb); have n4_ := Aside0.mk (Kd.R_elder' (by (with_reducible repeat (first | apply Kd.R_alloc | apply Kd.R_drewN | apply Kd.R_drew)); exact HO212.out) (Kd.R_base ho49) hb); have n5_ := Aside0.mk (Kd.R_lower (Kd.R_new' (Kd.R_new' (Kd.R_new' (Kd.R_new' (Kd.R_new' ho49 (Kd.R_lt (by (with_reducible repeat (first | apply Kd.R_alloc | apply Kd.R_drewN | apply Kd.R_drew)); exact HO_2.out))) (Kd.R_lt (by (with_reducible repeat (first | apply Kd.R_alloc | apply Kd.R_drewN | apply Kd.R_drew)); exact HO195.out))) (Kd.R_lt (by (with_reducible repeat (first | apply Kd.R_alloc | apply Kd.R_drewN | apply Kd.R_drew)); exact HO200.out))) (Kd.R_lt (by (with_reducible repeat (first | apply Kd.R_alloc | apply Kd.R_drewN | apply Kd.R_drew)); exact HO203.out))) (Kd.R_lt (by (with_reducible repeat (first | apply Kd.R_alloc | apply Kd.R_drewN | apply Kd.R_drew)); exact HO212.out))) (below_size (by repeat (first | (with_reducible first | exact HB.out | apply below_alloc | apply pw_below_drewN | apply below_drew1 | refine below_set ?_ GE185.out | refine below_set ?_ GE197.out | refine below_set ?_ GE206.out | refine below_set ?_ GE215.out) | exact HB.out)))); have n6_ := Aside0.mk (blk_below (g := gb185) (o := .cells #[.int .i64 1, .int .i64 0, .int .i64 3, .slice none 0 0] 26 (0, 0)) (by (with_reducible repeat (first | refine blk_drewN ?_ _ | refine blk_drew ?_ | refine blk_alloc ?_ _)); exact BK185.out) hb); have n7_ := Aside0.mk (blk_below (g := gb197) (o := .cells #[.int .i64 t190, .int .i64 t191, .int .i64 t192, .slice Ao30 t193.length co30] 26 (0, 0)) (by (with_reducible repeat (first | refine blk_drewN ?_ _ | refine blk_drew ?_ | refine blk_alloc ?_ _)); exact BK197.out) hb); have n8_ := Aside0.mk (blk_below (g := gb206) (o := .cells #[.slice Ao34 t198.length co34, .slice Ao38 t201.length co38] 24 (0, 0)) (by (with_reducible repeat (first | refine blk_drewN ?_ _ | refine blk_drew ?_ | refine blk_alloc ?_ _)); exact BK206.out) hb); have n9_ := Aside0.mk (blk_below (g := gb215) (o := .cells #[.int .i64 t207, .int .i64 t208, .int .i64 t209, .slice Ao45 t210.length co45] 26 (0, 0)) (by (with_reducible repeat (first | refine blk_drewN ?_ _ | refine blk_drew ?_ | refine blk_alloc ?_ _)); exact BK215.out) hb); have n10_ := Aside0.mk (Kd.C_below (by repeat (first | (with_reducible exact HR219.out) | (with_reducible refine Kd.C_alloc ?_ _) | (with_reducible refine Kd.C_drewN ?_ _) | (with_reducible refine Kd.C_drew ?_) | exact HR219.out)) hb); have n11_ := Aside0.mk (below_step (by repeat (first | (with_reducible first | exact HB.out | apply below_alloc | apply pw_below_drewN | apply below_drew1 | refine below_set ?_ GE185.out | refine below_set ?_ GE197.out | refine below_set ?_ GE206.out | refine below_set ?_ GE215.out) | exact HB.out)) hb); clear HO_2; clear HO195; clear HO200; clear HO203; clear HO212; clear BK185; clear BK197; clear BK206; clear BK215; clear HR219; clear HB; have HO_2 := n0_; have HO195 := n1_; have HO200 := n2_; have HO203 := n3_; have HO212 := n4_; have HO222 := n5_; have BK185 := n6_; have BK197 := n7_; have BK206 := n8_; have BK215 := n9_; have HR219 := n10_; have HB := n11_; clear n0_ n1_ n2_ n3_ n4_ n5_ n6_ n7_ n8_ n9_ n10_ n11_; clear hb ho49; obtain ⟨Ao50, co50, eo50⟩ := Kd.R_slice HO222.out; subst eo50) | ((with_reducible refine gate_callee (f := 17) rfl ?_); refine goesL_ (some 46) rfl rfl Tryd.func17 (by kernel_rfl) rfl #[.slice Ao25 y216.length co25, .slice Ao50 y220.length co50] rfl (by (try simp only [List.map_toArray, List.map_cons, List.map_nil]); first | done | rfl | (simp only [List.length_drop, List.length_take]; rfl)) ?_; (with_reducible refine (newelref08_Same.calls kj1 _ _ y216 _ _ y220 true _ ?side1 ?side2 ?side3 ?side4 A13.out).mono ?_); (case side1 => repeat (first | exact (by repeat (first | (with_reducible exact HR219.out) | (with_reducible refine Kd.C_alloc ?_ _) | (with_reducible refine Kd.C_drewN ?_ _) | (with_reducible refine Kd.C_drew ?_) | exact HR219.out)) | (with_reducible refine Kd.C_alloc ?_ _) | (with_reducible refine Kd.C_drewN ?_ _) | (with_reducible refine Kd.C_drew ?_))); (case side2 => exact HC219.out); (case side3 => repeat (first | exact (Kd.R_reads' HO222.out).2.2 | (with_reducible refine Kd.C_alloc ?_ _) | (with_reducible refine Kd.C_drewN ?_ _) | (with_reducible refine Kd.C_drew ?_))); (case side4 => exact (Kd.R_reads' HO222.out).2.1); rintro e w' ⟨rfl, ⟨nd, rfl⟩⟩; refine ⟨_, rfl, ?_⟩; have hcz51_0 : w48.cell? ⟨gb197, 0, none⟩ = some (.int .i64 t190) := (blk_cell BK197.out 0).trans rfl; have hcz51_1 : w48.cell? ⟨gb197, 1, none⟩ = some (.int .i64 t191) := (blk_cell BK197.out 1).trans rfl; have hcz51_2 : w48.cell? ⟨gb197, 2, none⟩ = some (.int .i64 t192) := (blk_cell BK197.out 2).trans rfl; have hcz51_3 : w48.cell? ⟨gb197, 3, none⟩ = some (.slice Ao30 t193.length co30) := (blk_cell BK197.out 3).trans rfl; have hfz51_0 := blk_frozen BK197.out 0; have hfz51_1 := blk_frozen BK197.out 1; have hfz51_2 := blk_frozen BK197.out 2; have hfz51_3 := blk_frozen BK197.out 3; have hcz52_0 : w48.cell? ⟨gb185, 0, none⟩ = some (.int .i64 1) := (blk_cell BK185.out 0).trans rfl; have hcz52_1 : w48.cell? ⟨gb185, 1, none⟩ = some (.int .i64 0) := (blk_cell BK185.out 1).trans rfl; have hcz52_2 : w48.cell? ⟨gb185, 2, none⟩ = some (.int .i64 3) := (blk_cell BK185.out 2).trans rfl; have hcz52_3 : w48.cell? ⟨gb185, 3, none⟩ = some (.slice none 0 0) := (blk_cell BK185.out 3).trans rfl; have hfz52_0 := blk_frozen BK185.out 0; have hfz52_1 := blk_frozen BK185.out 1; have hfz52_2 := blk_frozen BK185.out 2; have hfz52_3 := blk_frozen BK185.out 3) | (go_at_call 20; (with_reducible refine (flash_Same.calls_nil11 t190 t191 t192 _ _ t193 1 0 3 true _ ?side1 ?side2 A15.out).mono ?_); (case side1 => repeat (first | exact (Kd.R_reads' HO195.out).2.2 | (with_reducible refine Kd.C_alloc ?_ _) | (with_reducible refine Kd.C_drewN ?_ _) | (with_reducible refine Kd.C_drew ?_))); (case side2 => exact (Kd.R_reads' HO195.out).2.1);  rintro e w53 ⟨rfl, hb⟩; have n0_ := Aside0.mk (Kd.R_below (by (with_reducible repeat (first | apply Kd.R_alloc | apply Kd.R_drewN | apply Kd.R_drew)); exact HO_2.out) hb); have n1_ := Aside0.mk (Kd.R_below (by (with_reducible repeat (first | apply Kd.R_alloc | apply Kd.R_drewN | apply Kd.R_drew)); exact HO195.out) hb); have n2_ := Aside0.mk (Kd.R_below (by (with_reducible repeat (first | apply Kd.R_alloc | apply Kd.R_drewN | apply Kd.R_drew)); exact HO200.out) hb); have n3_ := Aside0.mk (Kd.R_below (by (with_reducible repeat (first | apply Kd.R_alloc | apply Kd.R_drewN | apply Kd.R_drew)); exact HO203.out) hb); have n4_ := Aside0.mk (Kd.R_below (by (with_reducible repeat (first | apply Kd.R_alloc | apply Kd.R_drewN | apply Kd.R_drew)); exact HO212.out) hb); have n5_ := Aside0.mk (Kd.R_below (by (with_reducible repeat (first | apply Kd.R_alloc | apply Kd.R_drewN | apply Kd.R_drew)); exact HO222.out) hb); have n6_ := Aside0.mk (blk_below (g := gb185) (o := .cells #[.int .i64 1, .int .i64 0, .int .i64 3, .slice none 0 0] 26 (0, 0)) (by (with_reducible repeat (first | refine blk_drewN ?_ _ | refine blk_drew ?_ | refine blk_alloc ?_ _)); exact BK185.out) hb); have n7_ := Aside0.mk (blk_below (g := gb197) (o := .cells #[.int .i64 t190, .int .i64 t191, .int .i64 t192, .slice Ao30 t193.length co30] 26 (0, 0)) (by (with_reducible repeat (first | refine blk_drewN ?_ _ | refine blk_drew ?_ | refine blk_alloc ?_ _)); exact BK197.out) hb); have n8_ := Aside0.mk (blk_below (g := gb206) (o := .cells #[.slice Ao34 t198.length co34, .slice Ao38 t201.length co38] 24 (0, 0)) (by (with_reducible repeat (first | refine blk_drewN ?_ _ | refine blk_drew ?_ | refine blk_alloc ?_ _)); exact BK206.out) hb); have n9_ := Aside0.mk (blk_below (g := gb215) (o := .cells #[.int .i64 t207, .int .i64 t208, .int .i64 t209, .slice Ao45 t210.length co45] 26 (0, 0)) (by (with_reducible repeat (first | refine blk_drewN ?_ _ | refine blk_drew ?_ | refine blk_alloc ?_ _)); exact BK215.out) hb); have n10_ := Aside0.mk (Kd.C_below (by repeat (first | (with_reducible exact HR219.out) | (with_reducible refine Kd.C_alloc ?_ _) | (with_reducible refine Kd.C_drewN ?_ _) | (with_reducible refine Kd.C_drew ?_) | exact HR219.out)) hb); have n11_ := Aside0.mk (below_step (by repeat (first | (with_reducible first | exact HB.out | apply below_alloc | apply pw_below_drewN | apply below_drew1 | refine below_set ?_ GE185.out | refine below_set ?_ GE197.out | refine below_set ?_ GE206.out | refine below_set ?_ GE215.out) | exact HB.out)) hb); clear HO_2; clear HO195; clear HO200; clear HO203; clear HO212; clear HO222; clear BK185; clear BK197; clear BK206; clear BK215; clear HR219; clear HB; have HO_2 := n0_; have HO195 := n1_; have HO200 := n2_; have HO203 := n3_; have HO212 := n4_; have HO222 := n5_; have BK185 := n6_; have BK197 := n7_; have BK206 := n8_; have BK215 := n9_; have HR219 := n10_; have HB := n11_; clear n0_ n1_ n2_ n3_ n4_ n5_ n6_ n7_ n8_ n9_ n10_ n11_; (try clear hb); (try clear hb2); (try clear hk); (try clear hi); have hcz54_0 : w53.cell? ⟨gb215, 0, none⟩ = some (.int .i64 t207) := (blk_cell BK215.out 0).trans rfl; have hcz54_1 : w53.cell? ⟨gb215, 1, none⟩ = some (.int .i64 t208) := (blk_cell BK215.out 1).trans rfl; have hcz54_2 : w53.cell? ⟨gb215, 2, none⟩ = some (.int .i64 t209) := (blk_cell BK215.out 2).trans rfl; have hcz54_3 : w53.cell? ⟨gb215, 3, none⟩ = some (.slice Ao45 t210.length co45) := (blk_cell BK215.out 3).trans rfl; have hfz54_0 := blk_frozen BK215.out 0; have hfz54_1 := blk_frozen BK215.out 1; have hfz54_2 := blk_frozen BK215.out 2; have hfz54_3 := blk_frozen BK215.out 3; have hcz55_0 : w53.cell? ⟨gb185, 0, none⟩ = some (.int .i64 1) := (blk_cell BK185.out 0).trans rfl; have hcz55_1 : w53.cell? ⟨gb185, 1, none⟩ = some (.int .i64 0) := (blk_cell BK185.out 1).trans rfl; have hcz55_2 : w53.cell? ⟨gb185, 2, none⟩ = some (.int .i64 3) := (blk_cell BK185.out 2).trans rfl; have hcz55_3 : w53.cell? ⟨gb185, 3, none⟩ = some (.slice none 0 0) := (blk_cell BK185.out 3).trans rfl; have hfz55_0 := blk_frozen BK185.out 0; have hfz55_1 := blk_frozen BK185.out 1; have hfz55_2 := blk_frozen BK185.out 2; have hfz55_3 := blk_frozen BK185.out 3) | (go_at_call 20; (with_reducible refine (flash_Same.calls_nil11 t207 t208 t209 _ _ t210 1 0 3 true _ ?side1 ?side2 A20.out).mono ?_); (case side1 => repeat (first | exact (Kd.R_reads' HO212.out).2.2 | (with_reducible refine Kd.C_alloc ?_ _) | (with_reducible refine Kd.C_drewN ?_ _) | (with_reducible refine Kd.C_drew ?_))); (case side2 => exact (Kd.R_reads' HO212.out).2.1);  rintro e w56 ⟨rfl, hb⟩; have n0_ := Aside0.mk (Kd.R_below (by (with_reducible repeat (first | apply Kd.R_alloc | apply Kd.R_drewN | apply Kd.R_drew)); exact HO_2.out) hb); have n1_ := Aside0.mk (Kd.R_below (by (with_reducible repeat (first | apply Kd.R_alloc | apply Kd.R_drewN | apply Kd.R_drew)); exact HO195.out) hb); have n2_ := Aside0.mk (Kd.R_below (by (with_reducible repeat (first | apply Kd.R_alloc | apply Kd.R_drewN | apply Kd.R_drew)); exact HO200.out) hb); have n3_ := Aside0.mk (Kd.R_below (by (with_reducible repeat (first | apply Kd.R_alloc | apply Kd.R_drewN | apply Kd.R_drew)); exact HO203.out) hb); have n4_ := Aside0.mk (Kd.R_below (by (with_reducible repeat (first | apply Kd.R_alloc | apply Kd.R_drewN | apply Kd.R_drew)); exact HO212.out) hb); have n5_ := Aside0.mk (Kd.R_below (by (with_reducible repeat (first | apply Kd.R_alloc | apply Kd.R_drewN | apply Kd.R_drew)); exact HO222.out) hb); have n6_ := Aside0.mk (blk_below (g := gb185) (o := .cells #[.int .i64 1, .int .i64 0, .int .i64 3, .slice none 0 0] 26 (0, 0)) (by (with_reducible repeat (first | refine blk_drewN ?_ _ | refine blk_drew ?_ | refine blk_alloc ?_ _)); exact BK185.out) hb); have n7_ := Aside0.mk (blk_below (g := gb197) (o := .cells #[.int .i64 t190, .int .i64 t191, .int .i64 t192, .slice Ao30 t193.length co30] 26 (0, 0)) (by (with_reducible repeat (first | refine blk_drewN ?_ _ | refine blk_drew ?_ | refine blk_alloc ?_ _)); exact BK197.out) hb); have n8_ := Aside0.mk (blk_below (g := gb206) (o := .cells #[.slice Ao34 t198.length co34, .slice Ao38 t201.length co38] 24 (0, 0)) (by (with_reducible repeat (first | refine blk_drewN ?_ _ | refine blk_drew ?_ | refine blk_alloc ?_ _)); exact BK206.out) hb); have n9_ := Aside0.mk (blk_below (g := gb215) (o := .cells #[.int .i64 t207, .int .i64 t208, .int .i64 t209, .slice Ao45 t210.length co45] 26 (0, 0)) (by (with_reducible repeat (first | refine blk_drewN ?_ _ | refine blk_drew ?_ | refine blk_alloc ?_ _)); exact BK215.out) hb); have n10_ := Aside0.mk (Kd.C_below (by repeat (first | (with_reducible exact HR219.out) | (with_reducible refine Kd.C_alloc ?_ _) | (with_reducible refine Kd.C_drewN ?_ _) | (with_reducible refine Kd.C_drew ?_) | exact HR219.out)) hb); have n11_ := Aside0.mk (below_step (by repeat (first | (with_reducible first | exact HB.out | apply below_alloc | apply pw_below_drewN | apply below_drew1 | refine below_set ?_ GE185.out | refine below_set ?_ GE197.out | refine below_set ?_ GE206.out | refine below_set ?_ GE215.out) | exact HB.out)) hb); clear HO_2; clear HO195; clear HO200; clear HO203; clear HO212; clear HO222; clear BK185; clear BK197; clear BK206; clear BK215; clear HR219; clear HB; have HO_2 := n0_; have HO195 := n1_; have HO200 := n2_; have HO203 := n3_; have HO212 := n4_; have HO222 := n5_; have BK185 := n6_; have BK197 := n7_; have BK206 := n8_; have BK215 := n9_; have HR219 := n10_; have HB := n11_; clear n0_ n1_ n2_ n3_ n4_ n5_ n6_ n7_ n8_ n9_ n10_ n11_; (try clear hb); (try clear hb2); (try clear hk); (try clear hi); have hcz57_0 : w56.cell? ⟨gb197, 0, none⟩ = some (.int .i64 t190) := (blk_cell BK197.out 0).trans rfl; have hcz57_1 : w56.cell? ⟨gb197, 1, none⟩ = some (.int .i64 t191) := (blk_cell BK197.out 1).trans rfl; have hcz57_2 : w56.cell? ⟨gb197, 2, none⟩ = some (.int .i64 t192) := (blk_cell BK197.out 2).trans rfl; have hcz57_3 : w56.cell? ⟨gb197, 3, none⟩ = some (.slice Ao30 t193.length co30) := (blk_cell BK197.out 3).trans rfl; have hfz57_0 := blk_frozen BK197.out 0; have hfz57_1 := blk_frozen BK197.out 1; have hfz57_2 := blk_frozen BK197.out 2; have hfz57_3 := blk_frozen BK197.out 3) | (go_at_call 20; (with_reducible refine (flash_Same.calls_nil11 t190 t191 t192 _ _ t193 0 0 0 t226 _ ?side1 ?side2 A24.out).mono ?_); (case side1 => repeat (first | exact (Kd.R_reads' HO195.out).2.2 | (with_reducible refine Kd.C_alloc ?_ _) | (with_reducible refine Kd.C_drewN ?_ _) | (with_reducible refine Kd.C_drew ?_))); (case side2 => exact (Kd.R_reads' HO195.out).2.1);  rintro e w58 ⟨rfl, hb⟩; have n0_ := Aside0.mk (Kd.R_below (by (with_reducible repeat (first | apply Kd.R_alloc | apply Kd.R_drewN | apply Kd.R_drew)); exact HO_2.out) hb); have n1_ := Aside0.mk (Kd.R_below (by (with_reducible repeat (first | apply Kd.R_alloc | apply Kd.R_drewN | apply Kd.R_drew)); exact HO195.out) hb); have n2_ := Aside0.mk (Kd.R_below (by (with_reducible repeat (first | apply Kd.R_alloc | apply Kd.R_drewN | apply Kd.R_drew)); exact HO200.out) hb); have n3_ := Aside0.mk (Kd.R_below (by (with_reducible repeat (first | apply Kd.R_alloc | apply Kd.R_drewN | apply Kd.R_drew)); exact HO203.out) hb); have n4_ := Aside0.mk (Kd.R_below (by (with_reducible repeat (first | apply Kd.R_alloc | apply Kd.R_drewN | apply Kd.R_drew)); exact HO212.out) hb); have n5_ := Aside0.mk (Kd.R_below (by (with_reducible repeat (first | apply Kd.R_alloc | apply Kd.R_drewN | apply Kd.R_drew)); exact HO222.out) hb); have n6_ := Aside0.mk (blk_below (g := gb185) (o := .cells #[.int .i64 1, .int .i64 0, .int .i64 3, .slice none 0 0] 26 (0, 0)) (by (with_reducible repeat (first | refine blk_drewN ?_ _ | refine blk_drew ?_ | refine blk_alloc ?_ _)); exact BK185.out) hb); have n7_ := Aside0.mk (blk_below (g := gb197) (o := .cells #[.int .i64 t190, .int .i64 t191, .int .i64 t192, .slice Ao30 t193.length co30] 26 (0, 0)) (by (with_reducible repeat (first | refine blk_drewN ?_ _ | refine blk_drew ?_ | refine blk_alloc ?_ _)); exact BK197.out) hb); have n8_ := Aside0.mk (blk_below (g := gb206) (o := .cells #[.slice Ao34 t198.length co34, .slice Ao38 t201.length co38] 24 (0, 0)) (by (with_reducible repeat (first | refine blk_drewN ?_ _ | refine blk_drew ?_ | refine blk_alloc ?_ _)); exact BK206.out) hb); have n9_ := Aside0.mk (blk_below (g := gb215) (o := .cells #[.int .i64 t207, .int .i64 t208, .int .i64 t209, .slice Ao45 t210.length co45] 26 (0, 0)) (by (with_reducible repeat (first | refine blk_drewN ?_ _ | refine blk_drew ?_ | refine blk_alloc ?_ _)); exact BK215.out) hb); have n10_ := Aside0.mk (Kd.C_below (by repeat (first | (with_reducible exact HR219.out) | (with_reducible refine Kd.C_alloc ?_ _) | (with_reducible refine Kd.C_drewN ?_ _) | (with_reducible refine Kd.C_drew ?_) | exact HR219.out)) hb); have n11_ := Aside0.mk (below_step (by repeat (first | (with_reducible first | exact HB.out | apply below_alloc | apply pw_below_drewN | apply below_drew1 | refine below_set ?_ GE185.out | refine below_set ?_ GE197.out | refine below_set ?_ GE206.out | refine below_set ?_ GE215.out) | exact HB.out)) hb); clear HO_2; clear HO195; clear HO200; clear HO203; clear HO212; clear HO222; clear BK185; clear BK197; clear BK206; clear BK215; clear HR219; clear HB; have HO_2 := n0_; have HO195 := n1_; have HO200 := n2_; have HO203 := n3_; have HO212 := n4_; have HO222 := n5_; have BK185 := n6_; have BK197 := n7_; have BK206 := n8_; have BK215 := n9_; have HR219 := n10_; have HB := n11_; clear n0_ n1_ n2_ n3_ n4_ n5_ n6_ n7_ n8_ n9_ n10_ n11_; (try clear hb); (try clear hb2); (try clear hk); (try clear hi)))
             go_ret
             exact ⟨by first | rfl | (simp [errW_none, errW_some] <;> rfl) | (simp [*, errW_none, errW_some] <;> rfl), by repeat (first | (with_reducible first | exact HB.out | apply below_alloc | apply pw_below_drewN | apply below_drew1 | refine below_set ?_ GE185.out | refine below_set ?_ GE197.out | refine below_set ?_ GE206.out | refine below_set ?_ GE215.out) | exact HB.out)⟩
            ·rw [if_neg c23] at H
             exact absurd H (by simp)
          ·replace c21 := Bool.eq_false_iff.mpr c21
           subst c21
           have H1 : (none) = some r := by rw [if_neg (show ¬ (false = true) by decide)] at H; exact H
           clear H
           have H := H1
           clear H1
           exact absurd H (by simp)
         ·rw [if_neg c19] at H
          exact absurd H (by simp)
        ·replace c18 := Bool.eq_false_iff.mpr c18
         subst c18
         have H1 : (none) = some r := by rw [if_neg (show ¬ (false = true) by decide)] at H; exact H
         clear H
         have H := H1
         clear H1
         exact absurd H (by simp)
       ·rw [if_neg c17] at H
        exact absurd H (by simp)
      ·replace c16 := Bool.eq_false_iff.mpr c16
       subst c16
       have H1 : (none) = some r := by rw [if_neg (show ¬ (false = true) by decide)] at H; exact H
       clear H
       have H := H1
       clear H1
       exact absurd H (by simp)
     ·replace c14 := Bool.eq_false_iff.mpr c14
      subst c14
      have H1 : (none) = some r := by rw [if_neg (show ¬ (false = true) by decide)] at H; exact H
      clear H
      have H := H1
      clear H1
      exact absurd H (by simp)
    ·rw [if_neg c12] at H
     exact absurd H (by simp)
end Go.Proofs.YtickbejailcehaaDoor.C
namespace Go.Proofs.YtickbejailcehaaDoor.Flash
open Go.RowKit Go.Proofs.YtickbejailcehaaDoorW.PrintWords Go.Proofs.YtickbejailcehaaDoorW.PrintLast Go.Proofs.YtickbejailcehaaDoorW.PrintMore Go.Proofs.YtickbejailcehaaDoor.C
open Go.Proofs.YtickbejailcehaaDoor.Wire (In pt rowB getS getRowS)
open Go.Proofs.YtickbejailcehaaDoor.Crc (sealB openB By)
set_option linter.unusedVariables false
def err (p : Int × Int × Int × List Int × Int) : Int := p.2.2.2.2
def recoverS (a b : List Int) : Int × Int × Int × List Int × Bool × Int :=
  if err (readS a) ≠ 0 ∧ err (readS b) ≠ 0 then (0, 0, 0, [], false, 123) else
  if err (readS a) ≠ 0 ∨ (err (readS b) = 0 ∧ (readS b).1 > (readS a).1) then ((readS b).1, (readS b).2.1, (readS b).2.2.1, (readS b).2.2.2.1, true, 0)
  else ((readS a).1, (readS a).2.1, (readS a).2.2.1, (readS a).2.2.2.1, false, 0)
theorem recover_eq (a b : List Int) (ha : ∀ x ∈ a, By x) (hb : ∀ x ∈ b, By x) (la : a.length ≤ 1000000) (lb : b.length ≤ 1000000) (k : Nat) (hk : a.length + b.length + 100 < k) : flash_Recover.f k a b = some (recoverS a b) := by
  obtain ⟨k, rfl⟩ : ∃ m, k = m + 1 := ⟨k - 1, by omega⟩
  unfold flash_Recover.f recoverS err
  rw [read_eq a ha la _ (by omega), read_eq b hb lb _ (by omega)]
  simp only [Option.bind_some]
  generalize readS a = x
  generalize readS b = y
  by_cases h1 : x.2.2.2.2 = 0
  · rw [if_pos h1, if_neg (fun h => h.1 h1)]
    simp only [flash_Recover.j0]
    rw [if_neg (by decide), if_pos h1]
    by_cases h2 : y.2.2.2.2 = 0
    · rw [if_pos h2]
      by_cases h3 : y.1 > x.1
      · rw [if_pos h3, if_pos (.inr ⟨h2, h3⟩)]
      · rw [if_neg h3, if_neg (fun h => h.elim (fun g => g h1) (fun g => h3 g.2))]
    · rw [if_neg h2, if_neg (fun h => h.elim (fun g => g h1) (fun g => h2 g.1))]
  · rw [if_neg h1]
    simp only [flash_Recover.j0]
    by_cases h2 : y.2.2.2.2 = 0
    · rw [if_neg (by simp [h2]), if_neg h1, if_neg (fun h => h.2 h2), if_pos (.inl h1)]
    · rw [if_pos (by simp [h2]), if_pos ⟨h1, h2⟩]
def cutN (cut : Int) (n : Nat) : Nat := if cut ≤ 0 then 0 else if (n : Int) ≤ cut then n else cut.toNat
theorem cutN_le (cut : Int) (n : Nat) : cutN cut n ≤ n := by unfold cutN; split <;> (try split) <;> omega
theorem cutN_all (cut : Int) (n : Nat) (h : cut ≥ (n : Int)) : cutN cut n = n := by unfold cutN; split <;> (try split) <;> omega
theorem cutN_lt (cut : Int) (n : Nat) (hn : 0 < n) (h : ¬ cut ≥ (n : Int)) : cutN cut n < n := by unfold cutN; split <;> (try split) <;> omega
theorem cut_mn (cut : Int) (n : Nat) : mn (mx cut 0) (n : Int) = (cutN cut n : Int) := by
  unfold mn mx cutN
  split <;> split <;> (try split) <;> (try split) <;> omega
theorem clone_eq (l : List Int) (h : l.length ≤ 1000000) : bytes_Clone.f l = some l := by
  unfold bytes_Clone.f
  rw [if_pos (by omega)]
def firstB (a b : List Int) : Bool := if (recoverS a b).2.2.2.2.2 = 0 then (recoverS a b).2.2.2.2.1 else true
def writeS (a b : List Int) (g c m : Int) (l : List Int) (cut : Int) : List Int × List Int × Bool × Int :=
  if mayB g m l.length = true then
    if (recoverS a b).2.2.2.2.2 = 0 ∧ g ≤ (recoverS a b).1 then ([], [], false, 124) else
    (pickR (firstB a b) ((codeB g c m l).take (cutN cut (codeB g c m l).length)) a, pickR (firstB a b) b ((codeB g c m l).take (cutN cut (codeB g c m l).length)), decide (cut ≥ ((codeB g c m l).length : Int)), 0)
  else ([], [], false, 120)
theorem write_eq (a b : List Int) (ha : ∀ x ∈ a, By x) (hb : ∀ x ∈ b, By x) (la : a.length ≤ 1000000) (lb : b.length ≤ 1000000) {g c m : Int} {l : List Int} (hg : In g) (hc : In c) (hm : In m) (hl : ∀ x ∈ l, By x) (ll : l.length ≤ 1000000) (cut : Int) (k : Nat) (hk : a.length + b.length + l.length + 200 < k) :
    flash_Write.f k a b g c m l cut = some (writeS a b g c m l cut) := by
  obtain ⟨k, rfl⟩ : ∃ m, k = m + 3 := ⟨k - 3, by omega⟩
  unfold flash_Write.f writeS
  rw [code_eq hg hc hm hl ll _ (by omega)]
  simp only [Option.bind_some]
  unfold codeS
  by_cases h1 : mayB g m l.length = true
  case neg =>
    rw [if_neg h1, if_neg h1]
    rfl
  rw [if_pos h1, if_pos h1, recover_eq a b ha hb la lb _ (by omega)]
  simp only [Option.bind_some]
  unfold firstB
  generalize recoverS a b = R
  generalize codeB g c m l = q
  have j2 : ∀ x : Bool, flash_Write.j2 (k + 1) cut q x a b = some (pickR x (q.take (cutN cut q.length)) a, pickR x b (q.take (cutN cut q.length)), decide (cut ≥ (q.length : Int)), 0) := by
    intro x
    simp only [flash_Write.j2]
    have := cutN_le cut q.length
    rw [clone_eq a la, clone_eq b lb, cut_mn]
    simp only [Option.bind_some]
    rw [if_pos (by omega), if_pos (by omega), Int.toNat_natCast]
  have j1 : ∀ x : Bool, flash_Write.j1 (k + 2) cut q false x a b = some (pickR x (q.take (cutN cut q.length)) a, pickR x b (q.take (cutN cut q.length)), decide (cut ≥ (q.length : Int)), 0) := by
    intro x
    simp only [flash_Write.j1]
    cases x
    · rw [if_neg (by decide), j2]
    · rw [if_pos rfl, j2]
  have j0 : ∀ x : Bool, flash_Write.j0 (k + 3) cut q R.2.2.2.2.1 R.2.2.2.2.2 x a b = some (if x = true then ([], [], false, 124) else (pickR (if R.2.2.2.2.2 = 0 then R.2.2.2.2.1 else true) (q.take (cutN cut q.length)) a, pickR (if R.2.2.2.2.2 = 0 then R.2.2.2.2.1 else true) b (q.take (cutN cut q.length)), decide (cut ≥ (q.length : Int)), 0)) := by
    intro x
    simp only [flash_Write.j0]
    cases x
    · have e : ¬ ((false : Bool) = true) := by decide
      rw [if_neg e, if_neg e]
      by_cases h : R.2.2.2.2.2 = 0
      · rw [if_pos h, if_pos h, j1]
      · rw [if_neg h, if_neg h, j1]
    · rw [if_pos rfl, if_pos rfl]
  rw [if_pos trivial]
  by_cases h2 : R.2.2.2.2.2 = 0
  · rw [if_pos h2, j0]
    by_cases h3 : g ≤ R.1
    · rw [decide_eq_true h3, if_pos rfl, if_pos ⟨h2, h3⟩]
    · have e : ¬ ((false : Bool) = true) := by decide
      have e2 : ¬ (R.2.2.2.2.2 = 0 ∧ g ≤ R.1) := fun h => h3 h.2
      rw [decide_eq_false h3, if_neg e, if_neg e2]
  · have e : ¬ ((false : Bool) = true) := by decide
    have e2 : ¬ (R.2.2.2.2.2 = 0 ∧ g ≤ R.1) := fun h => h2 h.1
    rw [if_neg h2, j0, if_neg e, if_neg e2]
theorem sameF_refl (g c m : Int) (l : List Int) : flash_Same.f g c m l g c m l = some true := by
  unfold flash_Same.f bytes_Equal.f
  rw [if_pos rfl, if_pos rfl, if_pos rfl]
  simp
theorem in_1 : In 1 := by unfold In; decide
theorem in_0 : In 0 := by unfold In; decide
theorem in_3 : In 3 := by unfold In; decide
theorem may_1 : mayB 1 3 ([] : List Int).length = true := by decide
theorem head_1 : headB 1 0 3 ([] : List Int).length = [6, 2, 0, 6, 0] := by decide +kernel
theorem code_1 : (codeB 1 0 3 []).take 5 = [6, 2, 0, 6, 0] ∧ (codeB 1 0 3 []).length = 7 := by
  have h := head_1
  constructor
  · unfold codeB
    rw [h, List.append_nil]
    unfold sealB
    rw [List.take_left']
    rfl
  · rw [code_len, h]
    rfl
theorem read_nil : readS [] = (0, 0, 0, [], 81) := by decide +kernel
theorem awake_eq (k : Nat) (hk : 1000 ≤ k) : newellaw12_awake.f k = some true := by
  obtain ⟨k, rfl⟩ : ∃ m, k = m + 1 := ⟨k - 1, by omega⟩
  have hn : ∀ x ∈ ([] : List Int), By x := fun x hx => absurd hx (by simp)
  have hc := code_by in_1 in_0 in_3 hn (show ([] : List Int).length ≤ 1000000 by decide)
  have h7 := code_1.2
  have h5 := code_1.1
  have hr := read_code in_1 in_0 in_3 hn may_1
  have hl : (codeB 1 0 3 []).length = 7 := h7
  have hR : recoverS [] [] = (0, 0, 0, [], false, 123) := by
    unfold recoverS
    rw [read_nil]
    exact if_pos ⟨by decide, by decide⟩
  have hW : writeS [] [] 1 0 3 [] 99 = (codeB 1 0 3 [], [], true, 0) := by
    unfold writeS firstB
    rw [if_pos may_1, hR, h7]
    dsimp only
    rw [if_neg (by decide), if_neg (by decide), show cutN 99 7 = 7 from by decide, List.take_of_length_le (by omega)]
    rfl
  have hR2 : recoverS (codeB 1 0 3 []) [] = (1, 0, 3, [], false, 0) := by
    unfold recoverS err
    rw [hr, read_nil]
    dsimp only
    rw [if_neg (by decide), if_neg (by decide)]
  unfold newellaw12_awake.f
  rw [code_eq in_1 in_0 in_3 hn (by decide) _ (by simp; omega)]
  simp only [Option.bind_some]
  unfold codeS
  rw [if_pos may_1]
  dsimp only
  rw [if_pos (by omega)]
  simp only [newellaw12_awake.j0]
  rw [if_neg (by decide), read_eq _ hc (by omega) k (by omega), hr, write_eq [] [] hn hn (by decide) (by decide) in_1 in_0 in_3 hn (by decide) 99 k (by simp; omega), hW]
  simp only [Option.bind_some]
  rw [recover_eq _ _ hc hn (by omega) (by decide) k (by simp; omega), hR2]
  simp only [Option.bind_some]
  rw [if_pos (by omega), h5, Wire.same8_eq _ _ k (by simp; omega) (by decide)]
  simp only [Option.bind_some, decide_true, if_true]
  rw [sameF_refl]
  simp only [Option.bind_some, if_true]
  rw [show flash_Same.f 1 0 3 [] 0 0 0 [] = some false from rfl]
  simp
end Go.Proofs.YtickbejailcehaaDoor.Flash
namespace Go.Proofs.YtickbejailcehaaDoor.Flash
open Go.RowKit Go.Proofs.YtickbejailcehaaDoorW.PrintWords Go.Proofs.YtickbejailcehaaDoorW.PrintLast Go.Proofs.YtickbejailcehaaDoorW.PrintMore Go.Proofs.YtickbejailcehaaDoor.C
open Go.Proofs.YtickbejailcehaaDoor.Wire (In pt rowB getS getRowS)
open Go.Proofs.YtickbejailcehaaDoor.Crc (sealB openB By)
set_option linter.unusedVariables false
def recT (x y : Int × Int × Int × List Int × Int) : Int × Int × Int × List Int × Bool × Int :=
  if err x ≠ 0 ∧ err y ≠ 0 then (0, 0, 0, [], false, 123) else
  if err x ≠ 0 ∨ (err y = 0 ∧ y.1 > x.1) then (y.1, y.2.1, y.2.2.1, y.2.2.2.1, true, 0)
  else (x.1, x.2.1, x.2.2.1, x.2.2.2.1, false, 0)
theorem recover_rec (a b : List Int) : recoverS a b = recT (readS a) (readS b) := rfl
theorem rec_cases (x y : Int × Int × Int × List Int × Int) : (err x ≠ 0 ∧ err y ≠ 0 ∧ recT x y = (0, 0, 0, [], false, 123)) ∨ (err y = 0 ∧ (err x = 0 → y.1 > x.1) ∧ recT x y = (y.1, y.2.1, y.2.2.1, y.2.2.2.1, true, 0)) ∨ (err x = 0 ∧ (err y = 0 → y.1 ≤ x.1) ∧ recT x y = (x.1, x.2.1, x.2.2.1, x.2.2.2.1, false, 0)) := by
  unfold recT
  by_cases h1 : err x = 0
  · by_cases h2 : err y = 0
    · by_cases h3 : y.1 > x.1
      · refine .inr (.inl ⟨h2, fun _ => h3, ?_⟩)
        rw [if_neg (fun h => h.1 h1), if_pos (.inr ⟨h2, h3⟩)]
      · refine .inr (.inr ⟨h1, fun _ => by omega, ?_⟩)
        rw [if_neg (fun h => h.1 h1), if_neg (fun h => h.elim (fun q => q h1) (fun q => h3 q.2))]
    · refine .inr (.inr ⟨h1, fun q => absurd q h2, ?_⟩)
      rw [if_neg (fun h => h.1 h1), if_neg (fun h => h.elim (fun q => q h1) (fun q => h2 q.1))]
  · by_cases h2 : err y = 0
    · refine .inr (.inl ⟨h2, fun q => absurd q h1, ?_⟩)
      rw [if_neg (fun h => h.2 h2), if_pos (.inl h1)]
    · refine .inl ⟨h1, h2, ?_⟩
      rw [if_pos ⟨h1, h2⟩]
def fstT (x y : Int × Int × Int × List Int × Int) : Bool := if (recT x y).2.2.2.2.2 = 0 then (recT x y).2.2.2.2.1 else true
theorem new_first (x y z : Int × Int × Int × List Int × Int) (hz : err z = 0) (hn : ¬ ((recT x y).2.2.2.2.2 = 0 ∧ z.1 ≤ (recT x y).1)) (hf : fstT x y = true) : recT z y = (z.1, z.2.1, z.2.2.1, z.2.2.2.1, false, 0) := by
  unfold fstT at hf
  have key : err y = 0 → y.1 ≤ z.1 := by
    intro hy
    rcases rec_cases x y with ⟨h1, h2, e⟩ | ⟨h1, h2, e⟩ | ⟨h1, h2, e⟩
    · exact absurd hy h2
    · rw [e] at hn
      have : ¬ (z.1 ≤ y.1) := fun q => hn ⟨rfl, q⟩
      omega
    · rw [e] at hf
      exact absurd hf (by simp)
  rcases rec_cases z y with ⟨h1, h2, e⟩ | ⟨h1, h2, e⟩ | ⟨h1, h2, e⟩
  · exact absurd hz h1
  · have := key h1
    have := h2 hz
    omega
  · exact e
theorem new_second (x y z : Int × Int × Int × List Int × Int) (hz : err z = 0) (hn : ¬ ((recT x y).2.2.2.2.2 = 0 ∧ z.1 ≤ (recT x y).1)) (hf : fstT x y = false) : recT x z = (z.1, z.2.1, z.2.2.1, z.2.2.2.1, true, 0) := by
  unfold fstT at hf
  rcases rec_cases x y with ⟨h1, h2, e⟩ | ⟨h1, h2, e⟩ | ⟨h1, h2, e⟩
  · rw [e] at hf
    exact absurd hf (by simp)
  · rw [e] at hf
    exact absurd hf (by simp)
  · rw [e] at hn
    have hlt : ¬ (z.1 ≤ x.1) := fun q => hn ⟨rfl, q⟩
    rcases rec_cases x z with ⟨g1, g2, e2⟩ | ⟨g1, g2, e2⟩ | ⟨g1, g2, e2⟩
    · exact absurd hz g2
    · exact e2
    · exact absurd (g2 hz) hlt
theorem torn_first (x y z : Int × Int × Int × List Int × Int) (hz : err z ≠ 0) (hf : fstT x y = true) : recT z y = recT x y := by
  unfold fstT at hf
  rcases rec_cases x y with ⟨h1, h2, e⟩ | ⟨h1, h2, e⟩ | ⟨h1, h2, e⟩
  · rcases rec_cases z y with ⟨g1, g2, e2⟩ | ⟨g1, g2, e2⟩ | ⟨g1, g2, e2⟩
    · rw [e, e2]
    · exact absurd g1 h2
    · exact absurd g1 hz
  · rcases rec_cases z y with ⟨g1, g2, e2⟩ | ⟨g1, g2, e2⟩ | ⟨g1, g2, e2⟩
    · exact absurd h1 g2
    · rw [e, e2]
    · exact absurd g1 hz
  · rw [e] at hf
    exact absurd hf (by simp)
theorem torn_second (x y z : Int × Int × Int × List Int × Int) (hz : err z ≠ 0) (hf : fstT x y = false) : recT x z = recT x y := by
  unfold fstT at hf
  rcases rec_cases x y with ⟨h1, h2, e⟩ | ⟨h1, h2, e⟩ | ⟨h1, h2, e⟩
  · rw [e] at hf
    exact absurd hf (by simp)
  · rw [e] at hf
    exact absurd hf (by simp)
  · rcases rec_cases x z with ⟨g1, g2, e2⟩ | ⟨g1, g2, e2⟩ | ⟨g1, g2, e2⟩
    · exact absurd h1 g1
    · exact absurd g1 hz
    · rw [e, e2]
theorem pick_t (x y : List Int) : pickR true x y = x := rfl
theorem pick_f (x y : List Int) : pickR false x y = y := rfl
theorem first_fst (a b : List Int) : firstB a b = fstT (readS a) (readS b) := by
  unfold firstB fstT
  rw [recover_rec]
theorem write_all (a b : List Int) {g c m : Int} {l : List Int} (hg : In g) (hc : In c) (hm : In m) (hl : ∀ x ∈ l, By x) (cut : Int) (h1 : mayB g m l.length = true) (h2 : ¬ ((recoverS a b).2.2.2.2.2 = 0 ∧ g ≤ (recoverS a b).1)) (ha : cut ≥ ((codeB g c m l).length : Int)) :
    ∃ s, recoverS (writeS a b g c m l cut).1 (writeS a b g c m l cut).2.1 = (g, c, m, l, s, 0) := by
  have hr := read_code hg hc hm hl h1
  unfold writeS
  rw [if_pos h1, if_neg h2]
  dsimp only
  rw [cutN_all _ _ ha, List.take_length]
  rw [recover_rec] at h2
  cases hf : firstB a b
  · refine ⟨true, ?_⟩
    rw [recover_rec, pick_f, pick_f, hr]
    rw [first_fst] at hf
    generalize readS a = x at *
    generalize readS b = y at *
    exact new_second x y (g, c, m, l, 0) rfl h2 hf
  · refine ⟨false, ?_⟩
    rw [recover_rec, pick_t, pick_t, hr]
    rw [first_fst] at hf
    generalize readS a = x at *
    generalize readS b = y at *
    exact new_first x y (g, c, m, l, 0) rfl h2 hf
theorem write_torn (a b : List Int) {g c m : Int} {l : List Int} (hg : In g) (hc : In c) (hm : In m) (cut : Int) (h1 : mayB g m l.length = true) (h2 : ¬ ((recoverS a b).2.2.2.2.2 = 0 ∧ g ≤ (recoverS a b).1)) (ha : ¬ cut ≥ ((codeB g c m l).length : Int)) :
    recoverS (writeS a b g c m l cut).1 (writeS a b g c m l cut).2.1 = recoverS a b := by
  have hp : 0 < (codeB g c m l).length := by rw [code_len]; omega
  have hz : err (readS ((codeB g c m l).take (cutN cut (codeB g c m l).length))) ≠ 0 := by
    unfold err
    rcases read_torn hg hc hm h1 _ (cutN_lt cut _ hp ha) with e | e <;> rw [e] <;> decide
  unfold writeS
  rw [if_pos h1, if_neg h2]
  dsimp only
  cases hf : firstB a b
  · rw [recover_rec, recover_rec, pick_f, pick_f]
    rw [first_fst] at hf
    exact torn_second (readS a) (readS b) _ hz hf
  · rw [recover_rec, recover_rec, pick_t, pick_t]
    rw [first_fst] at hf
    exact torn_first (readS a) (readS b) _ hz hf
theorem write_len (a b : List Int) {g c m : Int} {l : List Int} (cut : Int) (n : Nat) (ha : a.length ≤ n) (hb : b.length ≤ n) (hl : l.length + 100 ≤ n) : (writeS a b g c m l cut).1.length ≤ n ∧ (writeS a b g c m l cut).2.1.length ≤ n := by
  have hd := head_len g c m l.length
  have hk := code_len g c m l
  unfold writeS
  split
  · split
    · exact ⟨Nat.zero_le _, Nat.zero_le _⟩
    · cases firstB a b <;> simp only [pickR, List.length_take, if_true, Bool.false_eq_true, if_false] <;> constructor <;> omega
  · exact ⟨Nat.zero_le _, Nat.zero_le _⟩
theorem write_by (a b : List Int) (ha : ∀ x ∈ a, By x) (hb : ∀ x ∈ b, By x) {g c m : Int} {l : List Int} (hg : In g) (hc : In c) (hm : In m) (hl : ∀ x ∈ l, By x) (ll : l.length ≤ 1000000) (cut : Int) : (∀ x ∈ (writeS a b g c m l cut).1, By x) ∧ (∀ x ∈ (writeS a b g c m l cut).2.1, By x) := by
  have hq := code_by hg hc hm hl ll
  have hn : ∀ x ∈ ([] : List Int), By x := fun x hx => absurd hx (by simp)
  unfold writeS
  split
  · split
    · exact ⟨hn, hn⟩
    · cases firstB a b
      · exact ⟨ha, fun x hx => hq x (List.mem_of_mem_take hx)⟩
      · exact ⟨fun x hx => hq x (List.mem_of_mem_take hx), hb⟩
  · exact ⟨hn, hn⟩
end Go.Proofs.YtickbejailcehaaDoor.Flash
