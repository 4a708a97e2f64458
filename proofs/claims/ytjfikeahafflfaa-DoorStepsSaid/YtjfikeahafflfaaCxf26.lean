-- Written by a program of this session (wip/pp: the kit's print, changed), out of the translation. Lean checks it.
import Derived.Test.YtjfikeahafflfaaCx0
import Derived.Test.YtjfikeahafflfaaCxe44
import Derived.Test.YtjfikeahafflfaaCxf23
import Derived.Test.YtjfikeahafflfaaCxf29
import Derived.Test.YtjfikeahafflfaaCxf38
import Derived.Test.YtjfikeahafflfaaCheck
import Derived.Test.YtjfikeahafflfaaStep
namespace Go.Proofs.Ytjfikeahafflfaa.C
open Go.RowKit Go.Proofs.YtjfikeahafflfaaW.PrintWords Go.Proofs.YtjfikeahafflfaaW.PrintLast Go.Proofs.YtjfikeahafflfaaW.PrintMore
attribute [local go_sem] max2_int min2_int max_two min_two max_three min_three max_four min_four   -- for this text's walks alone
set_option linter.unusedVariables false
set_option linter.unusedSimpArgs false

attribute [local go_sem high] eqA44
/-! ### newellaw17_awake: function 26 -/
mutual
def newellaw17_awake.l0 : Nat → Int → Int → Int → Int → Int → Int → Int → Int → Option (Bool)
 | 0, _, _, _, _, _, _, _, _ => none
 | k + 1, x2, x3, x4, x5, x6, x341000, x341001, x341002 => if x6 ≤ 8 then ((newellaw17_Plain.f).bind fun bt354 => ((door_Step.f k bt354.1 bt354.2.1 bt354.2.2.1 bt354.2.2.2.1 bt354.2.2.2.2.1 bt354.2.2.2.2.2.1 bt354.2.2.2.2.2.2.1 bt354.2.2.2.2.2.2.2.1 bt354.2.2.2.2.2.2.2.2.1 bt354.2.2.2.2.2.2.2.2.2 x341000 x341001 x341002 false).bind fun bt364 => (if bt364.2.2.2.2 = 0 then (if bt364.2.2.2.1 = true then (newellaw17_awake.j1 k x2 x3 x4 x5 x6 bt364.2.2.2.1 (x6 != 6) bt364.1 bt364.2.1 bt364.2.2.1) else (newellaw17_awake.j1 k x2 x3 x4 x5 x6 bt364.2.2.2.1 false bt364.1 bt364.2.1 bt364.2.2.1)) else (none)))) else (if x2 = 0 then (if x3 = 8 then (if x4 = 0 then (if x5 = 1 then (if (x341000 == 0 && (x341001 == 0 && (x341002 == 0))) = true then ((door_Check.f x341000 x341001 x341002).bind fun t353 => (some (t353 == 0))) else (none)) else (none)) else (none)) else (none)) else (none))
def newellaw17_awake.j1 : Nat → Int → Int → Int → Int → Int → Bool → Bool → Int → Int → Int → Option (Bool)
 | 0, _, _, _, _, _, _, _, _, _, _ => none
 | k + 1, x2, x3, x4, x5, x6, x8, x42, x370000, x370001, x370002 => if x42 = true then (none) else (if x8 = true then (newellaw17_awake.l0 k x2 x3 x4 (wrap64 (x5 + 1)) (wrap64 (x6 + 1)) x370000 x370001 x370002) else (newellaw17_awake.l0 k x2 x3 x4 x5 (wrap64 (x6 + 1)) x370000 x370001 x370002))
end
def newellaw17_awake.f (k : Nat)  : Option (Bool) := (newellaw17_Plain.f).bind fun bt326 => ((door_Ask.f k bt326.2.1 bt326.2.2.1 bt326.2.2.2.1 bt326.2.2.2.2.1 bt326.2.2.2.2.2.1 bt326.2.2.2.2.2.2.1 bt326.2.2.2.2.2.2.2.1 0 0 0).bind fun bt336 => ((newellaw17_Plain.f).bind fun bt341 => ((door_Rest.f k bt341.1 bt341.2.1 bt341.2.2.1 bt341.2.2.2.1 bt341.2.2.2.2.1 bt341.2.2.2.2.2.1 bt341.2.2.2.2.2.2.1 bt341.2.2.2.2.2.2.2.1 bt341.2.2.2.2.2.2.2.2.1 bt341.2.2.2.2.2.2.2.2.2 bt336.1 bt336.2.1 bt336.2.2.1).bind fun bt351 => (newellaw17_awake.l0 k bt336.2.2.2 bt351.1 bt351.2 0 1 bt336.1 bt336.2.1 bt336.2.2.1))))
theorem newellaw17_awake.mono_l : ∀ k, (∀ y0 y1 y2 y3 y4 y5 y6 y7, LeO (newellaw17_awake.l0 k y0 y1 y2 y3 y4 y5 y6 y7) (newellaw17_awake.l0 (k + 1) y0 y1 y2 y3 y4 y5 y6 y7)) ∧ (∀ y0 y1 y2 y3 y4 y5 y6 y7 y8 y9, LeO (newellaw17_awake.j1 k y0 y1 y2 y3 y4 y5 y6 y7 y8 y9) (newellaw17_awake.j1 (k + 1) y0 y1 y2 y3 y4 y5 y6 y7 y8 y9))
 | 0 => ⟨fun _ _ _ _ _ _ _ _ r h => by simp [newellaw17_awake.l0] at h, fun _ _ _ _ _ _ _ _ _ _ r h => by simp [newellaw17_awake.j1] at h⟩
 | k + 1 => by
  obtain ⟨ih0, ih1⟩ := newellaw17_awake.mono_l k
  refine ⟨?_, ?_⟩
  ·intro y0 y1 y2 y3 y4 y5 y6 y7
   unfold newellaw17_awake.l0
   repeat' first
   | (with_reducible exact ih0 _ _ _ _ _ _ _ _)
   | (with_reducible exact ih1 _ _ _ _ _ _ _ _ _ _)
   | (with_reducible exact door_Ask.mono _ _ _ _ _ _ _ _ _ _ _)
   | (with_reducible exact door_Rest.mono _ _ _ _ _ _ _ _ _ _ _ _ _ _)
   | (with_reducible exact door_Step.mono _ _ _ _ _ _ _ _ _ _ _ _ _ _ _)
   | (with_reducible exact LeO.refl _)
   | (with_reducible exact LeO.none _)
   | (with_reducible refine LeO.ite ?_ ?_)
   | (with_reducible refine LeO.bind ?_ (fun _ => ?_))
   | exact ih0 _ _ _ _ _ _ _ _
   | exact ih1 _ _ _ _ _ _ _ _ _ _
   | exact door_Ask.mono _ _ _ _ _ _ _ _ _ _ _
   | exact door_Rest.mono _ _ _ _ _ _ _ _ _ _ _ _ _ _
   | exact door_Step.mono _ _ _ _ _ _ _ _ _ _ _ _ _ _ _
   | exact LeO.none _
   | refine LeO.ite ?_ ?_
   | refine LeO.bind ?_ (fun _ => ?_)
  ·intro y0 y1 y2 y3 y4 y5 y6 y7 y8 y9
   unfold newellaw17_awake.j1
   repeat' first
   | (with_reducible exact ih0 _ _ _ _ _ _ _ _)
   | (with_reducible exact ih1 _ _ _ _ _ _ _ _ _ _)
   | (with_reducible exact door_Ask.mono _ _ _ _ _ _ _ _ _ _ _)
   | (with_reducible exact door_Rest.mono _ _ _ _ _ _ _ _ _ _ _ _ _ _)
   | (with_reducible exact door_Step.mono _ _ _ _ _ _ _ _ _ _ _ _ _ _ _)
   | (with_reducible exact LeO.refl _)
   | (with_reducible exact LeO.none _)
   | (with_reducible refine LeO.ite ?_ ?_)
   | (with_reducible refine LeO.bind ?_ (fun _ => ?_))
   | exact ih0 _ _ _ _ _ _ _ _
   | exact ih1 _ _ _ _ _ _ _ _ _ _
   | exact door_Ask.mono _ _ _ _ _ _ _ _ _ _ _
   | exact door_Rest.mono _ _ _ _ _ _ _ _ _ _ _ _ _ _
   | exact door_Step.mono _ _ _ _ _ _ _ _ _ _ _ _ _ _ _
   | exact LeO.none _
   | refine LeO.ite ?_ ?_
   | refine LeO.bind ?_ (fun _ => ?_)
theorem newellaw17_awake.mono : ∀ k, LeO (newellaw17_awake.f k ) (newellaw17_awake.f (k + 1) ) := by
 intro  k
 obtain ⟨ih0, ih1⟩ := newellaw17_awake.mono_l k
 unfold newellaw17_awake.f
 repeat' first
   | (with_reducible exact ih0 _ _ _ _ _ _ _ _)
   | (with_reducible exact ih1 _ _ _ _ _ _ _ _ _ _)
   | (with_reducible exact door_Ask.mono _ _ _ _ _ _ _ _ _ _ _)
   | (with_reducible exact door_Rest.mono _ _ _ _ _ _ _ _ _ _ _ _ _ _)
   | (with_reducible exact door_Step.mono _ _ _ _ _ _ _ _ _ _ _ _ _ _ _)
   | (with_reducible exact LeO.refl _)
   | (with_reducible exact LeO.none _)
   | (with_reducible refine LeO.ite ?_ ?_)
   | (with_reducible refine LeO.bind ?_ (fun _ => ?_))
   | exact ih0 _ _ _ _ _ _ _ _
   | exact ih1 _ _ _ _ _ _ _ _ _ _
   | exact door_Ask.mono _ _ _ _ _ _ _ _ _ _ _
   | exact door_Rest.mono _ _ _ _ _ _ _ _ _ _ _ _ _ _
   | exact door_Step.mono _ _ _ _ _ _ _ _ _ _ _ _ _ _ _
   | exact LeO.none _
   | refine LeO.ite ?_ ?_
   | refine LeO.bind ?_ (fun _ => ?_)
def newellaw17_awake.T2 : Bool × List (List Nat × List Nat) := (true, [([], []), ([], []), ([0, 1, 0], [0, 1]), ([2], [2]), ([3], [3]), ([3], [3]), ([4, 2, 0, 1, 2, 3, 4], [4]), ([5, 6, 0, 1, 2, 3, 4, 5, 6], [5])])
def newellaw17_awake.B2 : List Nat := [0, 0, 3, 7, 15, 15, 31, 127]
theorem newellaw17_awake.tab2 : rtab .any (opsOf Try.f26 2) = newellaw17_awake.T2 := by kernel_rfl
theorem newellaw17_awake.bits2 : waitsOk newellaw17_awake.T2.2 newellaw17_awake.B2 = true := by kernel_rfl
def newellaw17_awake.T7 : Bool × List (List Nat × List Nat) := (true, [([], []), ([], []), ([0, 1, 0], [0, 1]), ([2], [2]), ([3], [3]), ([3], [3]), ([3], [3]), ([], []), ([7, 4, 2, 0, 1, 2, 3, 4, 7], [4, 7]), ([5, 8, 0, 1, 2, 3, 4, 5, 7, 8], [5]), ([6, 9, 0, 1, 2, 3, 4, 5, 6, 7, 8, 9], [6])])
def newellaw17_awake.B7 : List Nat := [0, 0, 3, 7, 15, 15, 15, 0, 159, 447, 1023]
theorem newellaw17_awake.tab7 : rtab .any (opsOf Try.f26 7) = newellaw17_awake.T7 := by kernel_rfl
theorem newellaw17_awake.bits7 : waitsOk newellaw17_awake.T7.2 newellaw17_awake.B7 = true := by kernel_rfl
theorem gear_times_ (x0 x1 x2 x3 x4 x5 x6 x7 x8 x9 : Value) (w : World) : Sem.run Try.prog (Instr.field 42 (.agg #[x0, x1, x2, x3, x4, x5, x6, x7, x8, x9]) 1) w = .ok (.agg #[x1, x2, x3, x4, x5, x6, x7]) w := by
  have hu1 := Try.underlying42
  have hu2 := Try.underlying40
  have hs : (Try.prog.info? 40).map (·.size) = some 7 := by kernel_rfl
  obtain ⟨i, hi, hs⟩ := Option.map_eq_some_iff.mp hs
  simp [Instr.field, run_underlying hu1, part, isAgg, asAgg, run_underlying hu2, sizeOf, typeInfo, Result.andThen, hi, hs]
set_option maxHeartbeats 8000000 in
set_option maxRecDepth 100000 in
theorem newellaw17_awake.calls (k : Nat)  (r : Bool) (w : World) (h : newellaw17_awake.f k  = some r) :
  Calls Try.prog 26 #[] w fun e w' => e = .returned (.bool r) ∧ Below w.heap.size w w' := by
 have hgt_ := gear_times_
 have hu44 := Try.underlying44
 have HB := Aside0.mk (Below.refl w.heap.size w)
 have H : ((newellaw17_Plain.f).bind fun bt326 => ((door_Ask.f k bt326.2.1 bt326.2.2.1 bt326.2.2.2.1 bt326.2.2.2.2.1 bt326.2.2.2.2.2.1 bt326.2.2.2.2.2.2.1 bt326.2.2.2.2.2.2.2.1 0 0 0).bind fun bt336 => ((newellaw17_Plain.f).bind fun bt341 => ((door_Rest.f k bt341.1 bt341.2.1 bt341.2.2.1 bt341.2.2.2.1 bt341.2.2.2.2.1 bt341.2.2.2.2.2.1 bt341.2.2.2.2.2.2.1 bt341.2.2.2.2.2.2.2.1 bt341.2.2.2.2.2.2.2.2.1 bt341.2.2.2.2.2.2.2.2.2 bt336.1 bt336.2.1 bt336.2.2.1).bind fun bt351 => (newellaw17_awake.l0 k bt336.2.2.2 bt351.1 bt351.2 0 1 bt336.1 bt336.2.1 bt336.2.2.1))))) = some r := h
 clear h
 replace H := Option.bind_eq_some_iff.mp H
 obtain ⟨⟨t326, t327, t328, t329, t330, t331, t332, t333, t334, t335⟩, A10, H⟩ := H
 replace H : ((door_Ask.f k t327 t328 t329 t330 t331 t332 t333 0 0 0).bind fun bt336 => ((newellaw17_Plain.f).bind fun bt341 => ((door_Rest.f k bt341.1 bt341.2.1 bt341.2.2.1 bt341.2.2.2.1 bt341.2.2.2.2.1 bt341.2.2.2.2.2.1 bt341.2.2.2.2.2.2.1 bt341.2.2.2.2.2.2.2.1 bt341.2.2.2.2.2.2.2.2.1 bt341.2.2.2.2.2.2.2.2.2 bt336.1 bt336.2.1 bt336.2.2.1).bind fun bt351 => (newellaw17_awake.l0 k bt336.2.2.2 bt351.1 bt351.2 0 1 bt336.1 bt336.2.1 bt336.2.2.1)))) = some r := H
 have A1 := Aside0.mk A10
 clear A10
 replace H := Option.bind_eq_some_iff.mp H
 obtain ⟨⟨t336, t337, t338, t339⟩, A20, H⟩ := H
 replace H : ((newellaw17_Plain.f).bind fun bt341 => ((door_Rest.f k bt341.1 bt341.2.1 bt341.2.2.1 bt341.2.2.2.1 bt341.2.2.2.2.1 bt341.2.2.2.2.2.1 bt341.2.2.2.2.2.2.1 bt341.2.2.2.2.2.2.2.1 bt341.2.2.2.2.2.2.2.2.1 bt341.2.2.2.2.2.2.2.2.2 t336 t337 t338).bind fun bt351 => (newellaw17_awake.l0 k t339 bt351.1 bt351.2 0 1 t336 t337 t338))) = some r := H
 have A2 := Aside0.mk A20
 clear A20
 replace H := Option.bind_eq_some_iff.mp H
 obtain ⟨⟨t341, t342, t343, t344, t345, t346, t347, t348, t349, t350⟩, A30, H⟩ := H
 replace H : ((door_Rest.f k t341 t342 t343 t344 t345 t346 t347 t348 t349 t350 t336 t337 t338).bind fun bt351 => (newellaw17_awake.l0 k t339 bt351.1 bt351.2 0 1 t336 t337 t338)) = some r := H
 have A3 := Aside0.mk A30
 clear A30
 replace H := Option.bind_eq_some_iff.mp H
 obtain ⟨⟨t351, t352⟩, A40, H⟩ := H
 replace H : (newellaw17_awake.l0 k t339 t351 t352 0 1 t336 t337 t338) = some r := H
 have A4 := Aside0.mk A40
 clear A40
 have H' := Aside0.mk H
 clear H
 go_enter Try.func26, Try.ntmps26
 try go_wp2_with (first | ((with_reducible refine gate_callee (f := 38) rfl ?_); refine goesL_ (some 11) rfl rfl Try.func38 (by kernel_rfl) rfl #[] rfl (by (try simp only [List.map_toArray, List.map_cons, List.map_nil]); first | done | rfl | (simp only [List.length_drop, List.length_take]; rfl)) ?_; (with_reducible refine (newellaw17_Plain.calls  t326 t327 t328 t329 t330 t331 t332 t333 t334 t335 _ A1.out).mono ?_); rintro e w5 ⟨rfl, hb⟩; refine ⟨_, rfl, ?_⟩; have n0_ := Aside0.mk (below_step (by repeat (first | (with_reducible first | exact HB.out | apply below_alloc | apply pw_below_drewN | apply below_drew1) | exact HB.out)) hb); clear HB; have HB := n0_; clear n0_; (try clear hb); (try clear hb2); (try clear hk); (try clear hi)) | ((with_reducible refine gate_callee (f := 29) rfl ?_); refine goesL_ (some 14) rfl rfl Try.func29 (by kernel_rfl) rfl #[.agg #[.int .i64 t327, .int .i64 t328, .int .i64 t329, .int .i64 t330, .int .i64 t331, .int .i64 t332, .int .i64 t333], .agg #[.int .i64 0, .int .i64 0, .int .i64 0]] rfl (by (try simp only [List.map_toArray, List.map_cons, List.map_nil]); first | done | rfl | (simp only [List.length_drop, List.length_take]; rfl)) ?_; (with_reducible refine (door_Ask.calls k t327 t328 t329 t330 t331 t332 t333 0 0 0 t336 t337 t338 t339 _ A2.out).mono ?_); rintro e w6 ⟨rfl, hb⟩; refine ⟨_, rfl, ?_⟩; have n0_ := Aside0.mk (below_step (by repeat (first | (with_reducible first | exact HB.out | apply below_alloc | apply pw_below_drewN | apply below_drew1) | exact HB.out)) hb); clear HB; have HB := n0_; clear n0_; (try clear hb); (try clear hb2); (try clear hk); (try clear hi)) | ((with_reducible refine gate_dst (N := 1) rfl ?_); refine box_event ?hg (N := 1) ?hd (cs := #[.int .i64 0, .int .i64 0, .int .i64 0]) (t := 44) ?hr ?_; (case hd => rfl); (case hg => rfl); (case hr => first | (go_simp; done) | (go_simp; rfl)); intro gb340 hg w7 hbox hb; have n0_ := Aside0.mk (below_step (by repeat (first | (with_reducible first | exact HB.out | apply below_alloc | apply pw_below_drewN | apply below_drew1) | exact HB.out)) hb); have n1_ := Aside0.mk (hbox); have n2_ := Aside0.mk ((by rw [hg]; exact (below_size (by repeat (first | (with_reducible first | exact HB.out | apply below_alloc | apply pw_below_drewN | apply below_drew1) | exact HB.out))) : w.heap.size ≤ gb340)); have n3_ := Aside0.mk ((by rw [hg]; exact (below_size (by repeat (first | (with_reducible first | exact HB.out | apply below_alloc | apply pw_below_drewN | apply below_drew1) | exact HB.out))) : w.heap.size ≤ gb340)); clear HB; have HB := n0_; have BK340 := n1_; have GW340 := n2_; have GE340 := n3_; clear n0_ n1_ n2_ n3_; clear hb hbox hg; have hcz8_0 : w7.cell? ⟨gb340, 0, none⟩ = some (.int .i64 0) := (blk_cell BK340.out 0).trans rfl; have hcz8_1 : w7.cell? ⟨gb340, 1, none⟩ = some (.int .i64 0) := (blk_cell BK340.out 1).trans rfl; have hcz8_2 : w7.cell? ⟨gb340, 2, none⟩ = some (.int .i64 0) := (blk_cell BK340.out 2).trans rfl; have hfz8_0 := blk_frozen BK340.out 0; have hfz8_1 := blk_frozen BK340.out 1; have hfz8_2 := blk_frozen BK340.out 2))
 have n0_ : Aside0 ((((w7.setCell ⟨gb340, 0, none⟩ (.int .i64 t336)).setCell ⟨gb340, 1, none⟩ (.int .i64 t337)).setCell ⟨gb340, 2, none⟩ (.int .i64 t338)).heap[gb340]? = some (.cells #[.int .i64 t336, .int .i64 t337, .int .i64 t338] 44 (0, 0))) := ⟨by (with_reducible repeat (first | refine blk_drewN ?_ _ | refine blk_drew ?_ | refine blk_alloc ?_ _)); refine blk_put (cs := #[.int .i64 t336, .int .i64 t337, .int .i64 0]) ?_ 2 _ rfl; (with_reducible repeat (first | refine blk_drewN ?_ _ | refine blk_drew ?_ | refine blk_alloc ?_ _)); refine blk_put (cs := #[.int .i64 t336, .int .i64 0, .int .i64 0]) ?_ 1 _ rfl; (with_reducible repeat (first | refine blk_drewN ?_ _ | refine blk_drew ?_ | refine blk_alloc ?_ _)); refine blk_put (cs := #[.int .i64 0, .int .i64 0, .int .i64 0]) ?_ 0 _ rfl; (with_reducible repeat (first | refine blk_drewN ?_ _ | refine blk_drew ?_ | refine blk_alloc ?_ _)); exact BK340.out⟩
 have n1_ : Aside0 (Below w.heap.size w (((w7.setCell ⟨gb340, 0, none⟩ (.int .i64 t336)).setCell ⟨gb340, 1, none⟩ (.int .i64 t337)).setCell ⟨gb340, 2, none⟩ (.int .i64 t338))) := ⟨by repeat (first | (with_reducible first | exact HB.out | apply below_alloc | apply pw_below_drewN | apply below_drew1 | refine below_set ?_ GE340.out) | exact HB.out)⟩
 (try clear BK340)
 (try clear HB)
 generalize (((w7.setCell ⟨gb340, 0, none⟩ (.int .i64 t336)).setCell ⟨gb340, 1, none⟩ (.int .i64 t337)).setCell ⟨gb340, 2, none⟩ (.int .i64 t338)) = w9 at n0_ n1_ ⊢
 have BK340 := n0_
 have HB := n1_
 clear n0_ n1_
 have n0_ := Aside0.mk (blk_drew BK340.out)
 have n1_ := Aside0.mk (below_drew1 HB.out)
 clear BK340
 clear HB
 have BK340 := n0_
 have HB := n1_
 clear n0_ n1_
 refine start_ (n := 8) (S := fun w' => w'.cell? ⟨gb340, 0, none⟩ = some (.int .i64 t336) ∧ w'.cell? ⟨gb340, 1, none⟩ = some (.int .i64 t337) ∧ w'.cell? ⟨gb340, 2, none⟩ = some (.int .i64 t338)) (ds := []) #[false, false, false, false, false, false, false, false] (by kernel_rfl) rfl rfl ⟨(blk_cell BK340.out 0).trans rfl, (blk_cell BK340.out 1).trans rfl, (blk_cell BK340.out 2).trans rfl⟩ (fun hHeld => ?_); refine with_tabW newellaw17_awake.tab2 newellaw17_awake.bits2 (fun HT_ HW_ => ?_)
 generalize w9.drew = w10 at BK340 HB hHeld ⊢
 refine take_ (i := 1) (N := some 19) (v := ?_) (a' := ?_) #[false, true, false, false, false, false, false, false] rfl rfl (take_ofW HT_.out HW_.out (by kernel_rfl)) (fun _ _ _ h => h) (Or.inl ⟨by rfl, ?_⟩) hHeld ?_ ?_
 rotate_left
 ·rintro w' ⟨s0, s1, s2⟩
  go_simp
  with_reducible rfl
 rotate_left
 ·simp only [Act.put, List.setIfInBounds_toArray, List.set_cons_zero, List.set_cons_succ, i64_w, i32_w]
  rfl
 refine one_ (i := 0) (N := some 18) #[true, true, false, false, false, false, false, false] rfl rfl (one_of HT_.out (by kernel_rfl)) (by decide) (fun K hK => ?_)
 refine goes_ Try.func38 (by kernel_rfl) rfl #[] (by rfl) rfl rfl (by (try simp only [List.map_toArray, List.map_cons, List.map_nil]); first | done | rfl | (simp only [List.length_drop, List.length_take]; rfl)) ?_
 with_reducible refine (newellaw17_Plain.calls  t341 t342 t343 t344 t345 t346 t347 t348 t349 t350 _ A3.out).mono ?_
 rintro e w11 ⟨rfl, hb⟩
 refine ⟨_, rfl, ?_⟩
 have n0_ := Aside0.mk (blk_below (g := gb340) (o := .cells #[.int .i64 t336, .int .i64 t337, .int .i64 t338] 44 (0, 0)) (by (with_reducible repeat (first | refine blk_drewN ?_ _ | refine blk_drew ?_ | refine blk_alloc ?_ _)); exact BK340.out) hb)
 have n1_ := Aside0.mk (below_step (by repeat (first | (with_reducible first | exact HB.out | apply below_alloc | apply pw_below_drewN | apply below_drew1 | refine below_set ?_ GE340.out) | exact HB.out)) hb)
 clear BK340
 clear HB
 have BK340 := n0_
 have HB := n1_
 clear n0_ n1_
 (try clear hb)
 (try clear hb2)
 (try clear hk)
 (try clear hi)
 refine hK.out _ _ ⟨(blk_cell BK340.out 0).trans rfl, (blk_cell BK340.out 1).trans rfl, (blk_cell BK340.out 2).trans rfl⟩ (fun hHeld => ?_)
 clear hK K
 refine norm_ (a' := ?_) ?_ ?_
 rotate_left
 ·show Act.put _ (some 18) _ = _
  simp only [Act.put, List.setIfInBounds_toArray, List.set_cons_zero, List.set_cons_succ, i64_w, i32_w]
  rfl
 refine one_ (i := 2) (N := some 20) #[true, true, true, false, false, false, false, false] rfl rfl (one_of HT_.out (by kernel_rfl)) (by decide) (fun K hK => ?_)
 refine goes_ Try.func23 (by kernel_rfl) rfl #[.agg #[.int .i64 t341, .int .i64 t342, .int .i64 t343, .int .i64 t344, .int .i64 t345, .int .i64 t346, .int .i64 t347, .int .i64 t348, .int .i64 t349, .int .i64 t350], .agg #[.int .i64 t336, .int .i64 t337, .int .i64 t338]] (by rfl) rfl rfl (by (try simp only [List.map_toArray, List.map_cons, List.map_nil]); first | done | rfl | (simp only [List.length_drop, List.length_take]; rfl)) ?_
 with_reducible refine (door_Rest.calls k t341 t342 t343 t344 t345 t346 t347 t348 t349 t350 t336 t337 t338 t351 t352 _ A4.out).mono ?_
 rintro e w12 ⟨rfl, hb⟩
 refine ⟨_, rfl, ?_⟩
 have n0_ := Aside0.mk (blk_below (g := gb340) (o := .cells #[.int .i64 t336, .int .i64 t337, .int .i64 t338] 44 (0, 0)) (by (with_reducible repeat (first | refine blk_drewN ?_ _ | refine blk_drew ?_ | refine blk_alloc ?_ _)); exact BK340.out) hb)
 have n1_ := Aside0.mk (below_step (by repeat (first | (with_reducible first | exact HB.out | apply below_alloc | apply pw_below_drewN | apply below_drew1 | refine below_set ?_ GE340.out) | exact HB.out)) hb)
 clear BK340
 clear HB
 have BK340 := n0_
 have HB := n1_
 clear n0_ n1_
 (try clear hb)
 (try clear hb2)
 (try clear hk)
 (try clear hi)
 refine hK.out _ _ ⟨(blk_cell BK340.out 0).trans rfl, (blk_cell BK340.out 1).trans rfl, (blk_cell BK340.out 2).trans rfl⟩ (fun hHeld => ?_)
 clear hK K
 refine norm_ (a' := ?_) ?_ ?_
 rotate_left
 ·show Act.put _ (some 20) _ = _
  simp only [Act.put, List.setIfInBounds_toArray, List.set_cons_zero, List.set_cons_succ, i64_w, i32_w]
  rfl
 refine pure_ (i := 3) (N := some 17) (v := ?_) (a' := ?_) #[true, true, true, true, false, false, false, false] rfl rfl (any_of HT_.out (by kernel_rfl)) (fun _ _ _ h => h) (Or.inl ⟨by rfl, ?_⟩) ?_ ?_
 rotate_left
 ·intro w'
  go_simp
  with_reducible rfl
 rotate_left
 ·simp only [Act.put, List.setIfInBounds_toArray, List.set_cons_zero, List.set_cons_succ, i64_w, i32_w]
  rfl
 refine pure_ (i := 4) (N := some 21) (v := ?_) (a' := ?_) #[true, true, true, true, true, false, false, false] rfl rfl (any_of HT_.out (by kernel_rfl)) (fun _ _ _ h => h) (Or.inl ⟨by rfl, ?_⟩) ?_ ?_
 rotate_left
 ·intro w'
  go_simp
  with_reducible rfl
 rotate_left
 ·simp only [Act.put, List.setIfInBounds_toArray, List.set_cons_zero, List.set_cons_succ, i64_w, i32_w]
  rfl
 refine pure_ (i := 5) (N := some 22) (v := ?_) (a' := ?_) #[true, true, true, true, true, true, false, false] rfl rfl (any_of HT_.out (by kernel_rfl)) (fun _ _ _ h => h) (Or.inl ⟨by rfl, ?_⟩) ?_ ?_
 rotate_left
 ·intro w'
  go_simp
  with_reducible rfl
 rotate_left
 ·simp only [Act.put, List.setIfInBounds_toArray, List.set_cons_zero, List.set_cons_succ, i64_w, i32_w]
  rfl
 refine pure_ (i := 6) (N := some 3) (v := ?_) (a' := ?_) #[true, true, true, true, true, true, true, false] rfl rfl (any_of HT_.out (by kernel_rfl)) (fun _ _ _ h => h) (Or.inl ⟨by rfl, ?_⟩) ?_ ?_
 rotate_left
 ·intro w'
  go_simp
  with_reducible rfl
 rotate_left
 ·simp only [Act.put, List.setIfInBounds_toArray, List.set_cons_zero, List.set_cons_succ, i64_w, i32_w]
  rfl
 refine pure_ (i := 7) (N := some 4) (v := ?_) (a' := ?_) #[true, true, true, true, true, true, true, true] rfl rfl (any_of HT_.out (by kernel_rfl)) (fun _ _ _ h => h) (Or.inl ⟨by rfl, ?_⟩) ?_ ?_
 rotate_left
 ·intro w'
  go_simp
  with_reducible rfl
 rotate_left
 ·simp only [Act.put, List.setIfInBounds_toArray, List.set_cons_zero, List.set_cons_succ, i64_w, i32_w]
  rfl
 refine done_ (done_of HT_.out (by kernel_rfl)) ?_
 try go_wp2
 go_loopg [5, 6] k (fun kq v5 v6 w' => ∃ (x5_1 : Int) (x6_1 : Int) (x341000_1 : Int) (x341001_1 : Int) (x341002_1 : Int), v5 = .int .i64 x5_1 ∧ v6 = .int .i64 x6_1 ∧ Aside0 (newellaw17_awake.l0 kq t339 t351 t352 x5_1 x6_1 x341000_1 x341001_1 x341002_1 = some r) ∧ Aside0 (kq ≤ k) ∧ Aside0 (w'.heap[gb340]? = some (.cells #[.int .i64 x341000_1, .int .i64 x341001_1, .int .i64 x341002_1] 44 (0, 0))) ∧ Aside0 (Below w.heap.size w w'))
 case atStart => exact ⟨(0), (1), (t336), (t337), (t338), (by first | rfl | (simp; done) | (simp [*]; done)), (by first | rfl | (simp; done) | (simp [*]; done)), H', ⟨Nat.le_refl _⟩, ⟨by (with_reducible repeat (first | refine blk_drewN ?_ _ | refine blk_drew ?_ | refine blk_alloc ?_ _)); exact BK340.out⟩, ⟨by repeat (first | (with_reducible first | exact HB.out | apply below_alloc | apply pw_below_drewN | apply below_drew1 | refine below_set ?_ GE340.out) | exact HB.out)⟩⟩
 case round =>
  clear H'
  try clear c2
  try clear p2
  try clear c3
  try clear hcz8_0
  try clear hcz8_1
  try clear hcz8_2
  try clear hfz8_0
  try clear hfz8_1
  try clear hfz8_2
  obtain ⟨x5_1, x6_1, x341000_1, x341001_1, x341002_1, rfl, rfl, HA, HK1, BK340, HB⟩ := hrel
  cases gk with
  | zero => exact absurd HA.out (by simp [newellaw17_awake.l0])
  | succ k1 =>
   have H := HA.out
   clear HA
   simp only [newellaw17_awake.l0] at H
   by_cases c13 : x6_1 ≤ 8
   ·rw [if_pos c13] at H
    have c13b0 : decide (x6_1 ≤ 8) = true := decide_eq_true c13
    clear c13
    replace H := Option.bind_eq_some_iff.mp H
    obtain ⟨⟨t354, t355, t356, t357, t358, t359, t360, t361, t362, t363⟩, A140, H⟩ := H
    replace H : ((door_Step.f k1 t354 t355 t356 t357 t358 t359 t360 t361 t362 t363 x341000_1 x341001_1 x341002_1 false).bind fun bt364 => (if bt364.2.2.2.2 = 0 then (if bt364.2.2.2.1 = true then (newellaw17_awake.j1 k1 t339 t351 t352 x5_1 x6_1 bt364.2.2.2.1 (x6_1 != 6) bt364.1 bt364.2.1 bt364.2.2.1) else (newellaw17_awake.j1 k1 t339 t351 t352 x5_1 x6_1 bt364.2.2.2.1 false bt364.1 bt364.2.1 bt364.2.2.1)) else (none))) = some r := H
    have A14 := Aside0.mk A140
    clear A140
    replace H := Option.bind_eq_some_iff.mp H
    obtain ⟨⟨t364, t365, t366, t367, t368⟩, A150, H⟩ := H
    replace H : (if t368 = 0 then (if t367 = true then (newellaw17_awake.j1 k1 t339 t351 t352 x5_1 x6_1 t367 (x6_1 != 6) t364 t365 t366) else (newellaw17_awake.j1 k1 t339 t351 t352 x5_1 x6_1 t367 false t364 t365 t366)) else (none)) = some r := H
    have A15 := Aside0.mk A150
    clear A150
    have HC16 := Aside0.mk H
    clear H
    try go_wp2
    have n0_ := Aside0.mk (blk_drew BK340.out)
    have n1_ := Aside0.mk (below_drew1 HB.out)
    clear BK340
    clear HB
    have BK340 := n0_
    have HB := n1_
    clear n0_ n1_
    refine start_ (n := 11) (S := fun w' => w'.cell? ⟨gb340, 0, none⟩ = some (.int .i64 x341000_1) ∧ w'.cell? ⟨gb340, 1, none⟩ = some (.int .i64 x341001_1) ∧ w'.cell? ⟨gb340, 2, none⟩ = some (.int .i64 x341002_1)) (ds := []) #[false, false, false, false, false, false, false, false, false, false, false] (by kernel_rfl) rfl rfl ⟨(blk_cell BK340.out 0).trans rfl, (blk_cell BK340.out 1).trans rfl, (blk_cell BK340.out 2).trans rfl⟩ (fun hHeld => ?_); refine with_tabW newellaw17_awake.tab7 newellaw17_awake.bits7 (fun HT_ HW_ => ?_)
    generalize wr.drew = w17 at BK340 HB hHeld ⊢
    refine take_ (i := 1) (N := some 29) (v := ?_) (a' := ?_) #[false, true, false, false, false, false, false, false, false, false, false] rfl rfl (take_ofW HT_.out HW_.out (by kernel_rfl)) (fun _ _ _ h => h) (Or.inl ⟨by rfl, ?_⟩) hHeld ?_ ?_
    rotate_left
    ·rintro w' ⟨s0, s1, s2⟩
     go_simp
     with_reducible rfl
    rotate_left
    ·simp only [Act.put, List.setIfInBounds_toArray, List.set_cons_zero, List.set_cons_succ, i64_w, i32_w]
     rfl
    refine join_ (σ := Nat) 3 #[true, true, true, true, true, true, true, true, false, false, false] (fun s_ => [(28, .agg #[.int .i64 t354, .int .i64 t355, .int .i64 t356, .int .i64 t357, .int .i64 t358, .int .i64 t359, .int .i64 t360, .int .i64 t361, .int .i64 t362, .int .i64 t363]), (30, .tuple #[.agg #[.int .i64 t364, .int .i64 t365, .int .i64 t366], .bool t367, .int .i64 t368]), (7, .pointer (some ⟨s_, 0, none⟩)), (27, .tuple #[.agg #[.int .i64 t364, .int .i64 t365, .int .i64 t366], .bool t367, .int .i64 t368]), (31, .agg #[.int .i64 t364, .int .i64 t365, .int .i64 t366]), (32, .bool t367), (33, .int .i64 t368)]) (fun s_ w' => (w'.cell? ⟨gb340, 0, none⟩ = some (.int .i64 x341000_1) ∧ w'.cell? ⟨gb340, 1, none⟩ = some (.int .i64 x341001_1) ∧ w'.cell? ⟨gb340, 2, none⟩ = some (.int .i64 x341002_1)) ∧ (w'.heap[gb340]? = some (.cells #[.int .i64 x341000_1, .int .i64 x341001_1, .int .i64 x341002_1] 44 (0, 0))) ∧ (w'.heap[s_]? = some (.cells #[.int .i64 0, .int .i64 0, .int .i64 0] 44 (0, 0))) ∧ (w.heap.size ≤ s_) ∧ (w.heap.size ≤ s_) ∧ (gb340 ≠ s_) ∧ (s_ ≠ gb340) ∧ (Below w.heap.size w w')) ?_ ?_
    rotate_left
    ·intro hCont
     refine two_ (i := 0) (j := 7) (Ni := some 28) (Nj := some 7) #[true, true, false, false, false, false, false, false, false, false, false] #[false, true, false, false, false, false, false, true, false, false, false] rfl rfl rfl rfl (two_of HT_.out (by kernel_rfl)) (by decide) (by decide) (fun K hK => ?_) (fun K hK => ?_)
     ·skip
      refine goes_ Try.func38 (by kernel_rfl) rfl #[] (by rfl) rfl rfl (by (try simp only [List.map_toArray, List.map_cons, List.map_nil]); first | done | rfl | (simp only [List.length_drop, List.length_take]; rfl)) ?_
      with_reducible refine (newellaw17_Plain.calls  t354 t355 t356 t357 t358 t359 t360 t361 t362 t363 _ A14.out).mono ?_
      rintro e w18 ⟨rfl, hb⟩
      refine ⟨_, rfl, ?_⟩
      have n0_ := Aside0.mk (blk_below (g := gb340) (o := .cells #[.int .i64 x341000_1, .int .i64 x341001_1, .int .i64 x341002_1] 44 (0, 0)) (by (with_reducible repeat (first | refine blk_drewN ?_ _ | refine blk_drew ?_ | refine blk_alloc ?_ _)); exact BK340.out) hb)
      have n1_ := Aside0.mk (below_step (by repeat (first | (with_reducible first | exact HB.out | apply below_alloc | apply pw_below_drewN | apply below_drew1 | refine below_set ?_ GE340.out) | exact HB.out)) hb)
      clear BK340
      clear HB
      have BK340 := n0_
      have HB := n1_
      clear n0_ n1_
      (try clear hb)
      (try clear hb2)
      (try clear hk)
      (try clear hi)
      refine hK.out _ _ ⟨(blk_cell BK340.out 0).trans rfl, (blk_cell BK340.out 1).trans rfl, (blk_cell BK340.out 2).trans rfl⟩ (fun hHeld => ?_)
      clear hK K
      refine norm_ (a' := ?_) ?_ ?_
      rotate_left
      ·show Act.put _ (some 28) _ = _
       simp only [Act.put, List.setIfInBounds_toArray, List.set_cons_zero, List.set_cons_succ, i64_w, i32_w]
       rfl
      refine two_ (i := 2) (j := 7) (Ni := some 30) (Nj := some 7) #[true, true, true, false, false, false, false, false, false, false, false] #[true, true, false, false, false, false, false, true, false, false, false] rfl rfl rfl rfl (two_of HT_.out (by kernel_rfl)) (by decide) (by decide) (fun K hK => ?_) (fun K hK => ?_)
      ·skip
       refine goes_ Try.func22 (by kernel_rfl) rfl #[.agg #[.int .i64 t354, .int .i64 t355, .int .i64 t356, .int .i64 t357, .int .i64 t358, .int .i64 t359, .int .i64 t360, .int .i64 t361, .int .i64 t362, .int .i64 t363], .agg #[.int .i64 x341000_1, .int .i64 x341001_1, .int .i64 x341002_1], .bool false] (by rfl) rfl rfl (by (try simp only [List.map_toArray, List.map_cons, List.map_nil]); first | done | rfl | (simp only [List.length_drop, List.length_take]; rfl)) ?_
       with_reducible refine (door_Step.calls k1 t354 t355 t356 t357 t358 t359 t360 t361 t362 t363 x341000_1 x341001_1 x341002_1 false t364 t365 t366 t367 t368 _ A15.out).mono ?_
       rintro e w19 ⟨rfl, hb⟩
       refine ⟨_, rfl, ?_⟩
       have n0_ := Aside0.mk (blk_below (g := gb340) (o := .cells #[.int .i64 x341000_1, .int .i64 x341001_1, .int .i64 x341002_1] 44 (0, 0)) (by (with_reducible repeat (first | refine blk_drewN ?_ _ | refine blk_drew ?_ | refine blk_alloc ?_ _)); exact BK340.out) hb)
       have n1_ := Aside0.mk (below_step (by repeat (first | (with_reducible first | exact HB.out | apply below_alloc | apply pw_below_drewN | apply below_drew1 | refine below_set ?_ GE340.out) | exact HB.out)) hb)
       clear BK340
       clear HB
       have BK340 := n0_
       have HB := n1_
       clear n0_ n1_
       (try clear hb)
       (try clear hb2)
       (try clear hk)
       (try clear hi)
       refine hK.out _ _ ⟨(blk_cell BK340.out 0).trans rfl, (blk_cell BK340.out 1).trans rfl, (blk_cell BK340.out 2).trans rfl⟩ (fun hHeld => ?_)
       clear hK K
       refine norm_ (a' := ?_) ?_ ?_
       rotate_left
       ·show Act.put _ (some 30) _ = _
        simp only [Act.put, List.setIfInBounds_toArray, List.set_cons_zero, List.set_cons_succ, i64_w, i32_w]
        rfl
       refine pure_ (i := 3) (N := some 27) (v := ?_) (a' := ?_) #[true, true, true, true, false, false, false, false, false, false, false] rfl rfl (any_of HT_.out (by kernel_rfl)) (fun _ _ _ h => h) (Or.inl ⟨by rfl, ?_⟩) ?_ ?_
       rotate_left
       ·intro w'
        go_simp
        with_reducible rfl
       rotate_left
       ·simp only [Act.put, List.setIfInBounds_toArray, List.set_cons_zero, List.set_cons_succ, i64_w, i32_w]
        rfl
       refine pure_ (i := 4) (N := some 31) (v := ?_) (a' := ?_) #[true, true, true, true, true, false, false, false, false, false, false] rfl rfl (any_of HT_.out (by kernel_rfl)) (fun _ _ _ h => h) (Or.inl ⟨by rfl, ?_⟩) ?_ ?_
       rotate_left
       ·intro w'
        go_simp
        with_reducible rfl
       rotate_left
       ·simp only [Act.put, List.setIfInBounds_toArray, List.set_cons_zero, List.set_cons_succ, i64_w, i32_w]
        rfl
       refine pure_ (i := 5) (N := some 32) (v := ?_) (a' := ?_) #[true, true, true, true, true, true, false, false, false, false, false] rfl rfl (any_of HT_.out (by kernel_rfl)) (fun _ _ _ h => h) (Or.inl ⟨by rfl, ?_⟩) ?_ ?_
       rotate_left
       ·intro w'
        go_simp
        with_reducible rfl
       rotate_left
       ·simp only [Act.put, List.setIfInBounds_toArray, List.set_cons_zero, List.set_cons_succ, i64_w, i32_w]
        rfl
       refine pure_ (i := 6) (N := some 33) (v := ?_) (a' := ?_) #[true, true, true, true, true, true, true, false, false, false, false] rfl rfl (any_of HT_.out (by kernel_rfl)) (fun _ _ _ h => h) (Or.inl ⟨by rfl, ?_⟩) ?_ ?_
       rotate_left
       ·intro w'
        go_simp
        with_reducible rfl
       rotate_left
       ·simp only [Act.put, List.setIfInBounds_toArray, List.set_cons_zero, List.set_cons_succ, i64_w, i32_w]
        rfl
       refine one_ (i := 7) (N := some 7) #[true, true, true, true, true, true, true, true, false, false, false] rfl rfl (one_of HT_.out (by kernel_rfl)) (by decide) (fun K hK => ?_)
       refine box_step ?hg (N := 7) ?hd (cs := #[.int .i64 0, .int .i64 0, .int .i64 0]) (t := 44) ?hr ?_; (case hd => rfl); (case hg => rfl); (case hr => first | (go_simp; done) | (go_simp; rfl))
       intro gb369 hg w20 hbox hb
       have n0_ := Aside0.mk (blk_below (g := gb340) (o := .cells #[.int .i64 x341000_1, .int .i64 x341001_1, .int .i64 x341002_1] 44 (0, 0)) (by (with_reducible repeat (first | refine blk_drewN ?_ _ | refine blk_drew ?_ | refine blk_alloc ?_ _)); exact BK340.out) hb)
       have n1_ := Aside0.mk (below_step (by repeat (first | (with_reducible first | exact HB.out | apply below_alloc | apply pw_below_drewN | apply below_drew1 | refine below_set ?_ GE340.out) | exact HB.out)) hb)
       have n2_ := Aside0.mk (hbox)
       have n3_ := Aside0.mk ((by rw [hg]; exact (below_size (by repeat (first | (with_reducible first | exact HB.out | apply below_alloc | apply pw_below_drewN | apply below_drew1 | refine below_set ?_ GE340.out) | exact HB.out))) : w.heap.size ≤ gb369))
       have n4_ := Aside0.mk ((by rw [hg]; exact (below_size (by repeat (first | (with_reducible first | exact HB.out | apply below_alloc | apply pw_below_drewN | apply below_drew1 | refine below_set ?_ GE340.out) | exact HB.out))) : w.heap.size ≤ gb369))
       have n5_ := Aside0.mk ((by rw [hg]; exact Nat.ne_of_lt (blk_lt (g := gb340) (o := .cells #[.int .i64 x341000_1, .int .i64 x341001_1, .int .i64 x341002_1] 44 (0, 0)) (by (with_reducible repeat (first | refine blk_drewN ?_ _ | refine blk_drew ?_ | refine blk_alloc ?_ _)); exact BK340.out)) : gb340 ≠ gb369))
       have n6_ := Aside0.mk ((by rw [hg]; exact Nat.ne_of_gt (blk_lt (g := gb340) (o := .cells #[.int .i64 x341000_1, .int .i64 x341001_1, .int .i64 x341002_1] 44 (0, 0)) (by (with_reducible repeat (first | refine blk_drewN ?_ _ | refine blk_drew ?_ | refine blk_alloc ?_ _)); exact BK340.out)) : gb369 ≠ gb340))
       clear BK340
       clear HB
       have BK340 := n0_
       have HB := n1_
       have BK369 := n2_
       have GW369 := n3_
       have GE369 := n4_
       have NB340_369 := n5_
       have NB369_340 := n6_
       clear n0_ n1_ n2_ n3_ n4_ n5_ n6_
       clear hb hbox hg
       refine hK.out _ _ ⟨(blk_cell BK340.out 0).trans rfl, (blk_cell BK340.out 1).trans rfl, (blk_cell BK340.out 2).trans rfl⟩ (fun hHeld => ?_)
       clear hK K
       refine norm_ (a' := ?_) ?_ ?_
       rotate_left
       ·show Act.put _ (some 7) _ = _
        simp only [Act.put, List.setIfInBounds_toArray, List.set_cons_zero, List.set_cons_succ, i64_w, i32_w]
        rfl
       exact norm_ (by simp only [putAll, Act.put, List.setIfInBounds_toArray, List.set_cons_zero, List.set_cons_succ]) (hCont (gb369) _ ⟨hHeld, (by (with_reducible repeat (first | refine blk_drewN ?_ _ | refine blk_drew ?_ | refine blk_alloc ?_ _)); exact BK340.out), (by (with_reducible repeat (first | refine blk_drewN ?_ _ | refine blk_drew ?_ | refine blk_alloc ?_ _)); exact BK369.out), GW369.out, GE369.out, NB340_369.out, NB369_340.out, (by repeat (first | (with_reducible first | exact HB.out | apply below_alloc | apply pw_below_drewN | apply below_drew1 | refine below_set ?_ GE340.out | refine below_set ?_ GE369.out) | exact HB.out))⟩)
      ·skip
       refine box_step ?hg (N := 7) ?hd (cs := #[.int .i64 0, .int .i64 0, .int .i64 0]) (t := 44) ?hr ?_; (case hd => rfl); (case hg => rfl); (case hr => first | (go_simp; done) | (go_simp; rfl))
       intro gb369 hg w19 hbox hb
       have n0_ := Aside0.mk (blk_below (g := gb340) (o := .cells #[.int .i64 x341000_1, .int .i64 x341001_1, .int .i64 x341002_1] 44 (0, 0)) (by (with_reducible repeat (first | refine blk_drewN ?_ _ | refine blk_drew ?_ | refine blk_alloc ?_ _)); exact BK340.out) hb)
       have n1_ := Aside0.mk (below_step (by repeat (first | (with_reducible first | exact HB.out | apply below_alloc | apply pw_below_drewN | apply below_drew1 | refine below_set ?_ GE340.out) | exact HB.out)) hb)
       have n2_ := Aside0.mk (hbox)
       have n3_ := Aside0.mk ((by rw [hg]; exact (below_size (by repeat (first | (with_reducible first | exact HB.out | apply below_alloc | apply pw_below_drewN | apply below_drew1 | refine below_set ?_ GE340.out) | exact HB.out))) : w.heap.size ≤ gb369))
       have n4_ := Aside0.mk ((by rw [hg]; exact (below_size (by repeat (first | (with_reducible first | exact HB.out | apply below_alloc | apply pw_below_drewN | apply below_drew1 | refine below_set ?_ GE340.out) | exact HB.out))) : w.heap.size ≤ gb369))
       have n5_ := Aside0.mk ((by rw [hg]; exact Nat.ne_of_lt (blk_lt (g := gb340) (o := .cells #[.int .i64 x341000_1, .int .i64 x341001_1, .int .i64 x341002_1] 44 (0, 0)) (by (with_reducible repeat (first | refine blk_drewN ?_ _ | refine blk_drew ?_ | refine blk_alloc ?_ _)); exact BK340.out)) : gb340 ≠ gb369))
       have n6_ := Aside0.mk ((by rw [hg]; exact Nat.ne_of_gt (blk_lt (g := gb340) (o := .cells #[.int .i64 x341000_1, .int .i64 x341001_1, .int .i64 x341002_1] 44 (0, 0)) (by (with_reducible repeat (first | refine blk_drewN ?_ _ | refine blk_drew ?_ | refine blk_alloc ?_ _)); exact BK340.out)) : gb369 ≠ gb340))
       clear BK340
       clear HB
       have BK340 := n0_
       have HB := n1_
       have BK369 := n2_
       have GW369 := n3_
       have GE369 := n4_
       have NB340_369 := n5_
       have NB369_340 := n6_
       clear n0_ n1_ n2_ n3_ n4_ n5_ n6_
       clear hb hbox hg
       refine hK.out _ _ ⟨(blk_cell BK340.out 0).trans rfl, (blk_cell BK340.out 1).trans rfl, (blk_cell BK340.out 2).trans rfl⟩ (fun hHeld => ?_)
       clear hK K
       refine norm_ (a' := ?_) ?_ ?_
       rotate_left
       ·show Act.put _ (some 7) _ = _
        simp only [Act.put, List.setIfInBounds_toArray, List.set_cons_zero, List.set_cons_succ, i64_w, i32_w]
        rfl
       refine one_ (i := 2) (N := some 30) #[true, true, true, false, false, false, false, true, false, false, false] rfl rfl (one_of HT_.out (by kernel_rfl)) (by decide) (fun K hK => ?_)
       refine goes_ Try.func22 (by kernel_rfl) rfl #[.agg #[.int .i64 t354, .int .i64 t355, .int .i64 t356, .int .i64 t357, .int .i64 t358, .int .i64 t359, .int .i64 t360, .int .i64 t361, .int .i64 t362, .int .i64 t363], .agg #[.int .i64 x341000_1, .int .i64 x341001_1, .int .i64 x341002_1], .bool false] (by rfl) rfl rfl (by (try simp only [List.map_toArray, List.map_cons, List.map_nil]); first | done | rfl | (simp only [List.length_drop, List.length_take]; rfl)) ?_
       with_reducible refine (door_Step.calls k1 t354 t355 t356 t357 t358 t359 t360 t361 t362 t363 x341000_1 x341001_1 x341002_1 false t364 t365 t366 t367 t368 _ A15.out).mono ?_
       rintro e w20 ⟨rfl, hb⟩
       refine ⟨_, rfl, ?_⟩
       have n0_ := Aside0.mk (blk_below (g := gb340) (o := .cells #[.int .i64 x341000_1, .int .i64 x341001_1, .int .i64 x341002_1] 44 (0, 0)) (by (with_reducible repeat (first | refine blk_drewN ?_ _ | refine blk_drew ?_ | refine blk_alloc ?_ _)); exact BK340.out) hb)
       have n1_ := Aside0.mk (blk_below (g := gb369) (o := .cells #[.int .i64 0, .int .i64 0, .int .i64 0] 44 (0, 0)) (by (with_reducible repeat (first | refine blk_drewN ?_ _ | refine blk_drew ?_ | refine blk_alloc ?_ _)); exact BK369.out) hb)
       have n2_ := Aside0.mk (below_step (by repeat (first | (with_reducible first | exact HB.out | apply below_alloc | apply pw_below_drewN | apply below_drew1 | refine below_set ?_ GE340.out | refine below_set ?_ GE369.out) | exact HB.out)) hb)
       clear BK340
       clear BK369
       clear HB
       have BK340 := n0_
       have BK369 := n1_
       have HB := n2_
       clear n0_ n1_ n2_
       (try clear hb)
       (try clear hb2)
       (try clear hk)
       (try clear hi)
       refine hK.out _ _ ⟨(blk_cell BK340.out 0).trans rfl, (blk_cell BK340.out 1).trans rfl, (blk_cell BK340.out 2).trans rfl⟩ (fun hHeld => ?_)
       clear hK K
       refine norm_ (a' := ?_) ?_ ?_
       rotate_left
       ·show Act.put _ (some 30) _ = _
        simp only [Act.put, List.setIfInBounds_toArray, List.set_cons_zero, List.set_cons_succ, i64_w, i32_w]
        rfl
       refine pure_ (i := 3) (N := some 27) (v := ?_) (a' := ?_) #[true, true, true, true, false, false, false, true, false, false, false] rfl rfl (any_of HT_.out (by kernel_rfl)) (fun _ _ _ h => h) (Or.inl ⟨by rfl, ?_⟩) ?_ ?_
       rotate_left
       ·intro w'
        go_simp
        with_reducible rfl
       rotate_left
       ·simp only [Act.put, List.setIfInBounds_toArray, List.set_cons_zero, List.set_cons_succ, i64_w, i32_w]
        rfl
       refine pure_ (i := 4) (N := some 31) (v := ?_) (a' := ?_) #[true, true, true, true, true, false, false, true, false, false, false] rfl rfl (any_of HT_.out (by kernel_rfl)) (fun _ _ _ h => h) (Or.inl ⟨by rfl, ?_⟩) ?_ ?_
       rotate_left
       ·intro w'
        go_simp
        with_reducible rfl
       rotate_left
       ·simp only [Act.put, List.setIfInBounds_toArray, List.set_cons_zero, List.set_cons_succ, i64_w, i32_w]
        rfl
       refine pure_ (i := 5) (N := some 32) (v := ?_) (a' := ?_) #[true, true, true, true, true, true, false, true, false, false, false] rfl rfl (any_of HT_.out (by kernel_rfl)) (fun _ _ _ h => h) (Or.inl ⟨by rfl, ?_⟩) ?_ ?_
       rotate_left
       ·intro w'
        go_simp
        with_reducible rfl
       rotate_left
       ·simp only [Act.put, List.setIfInBounds_toArray, List.set_cons_zero, List.set_cons_succ, i64_w, i32_w]
        rfl
       refine pure_ (i := 6) (N := some 33) (v := ?_) (a' := ?_) #[true, true, true, true, true, true, true, true, false, false, false] rfl rfl (any_of HT_.out (by kernel_rfl)) (fun _ _ _ h => h) (Or.inl ⟨by rfl, ?_⟩) ?_ ?_
       rotate_left
       ·intro w'
        go_simp
        with_reducible rfl
       rotate_left
       ·simp only [Act.put, List.setIfInBounds_toArray, List.set_cons_zero, List.set_cons_succ, i64_w, i32_w]
        rfl
       exact norm_ (by simp only [putAll, Act.put, List.setIfInBounds_toArray, List.set_cons_zero, List.set_cons_succ]) (hCont (gb369) _ ⟨hHeld, (by (with_reducible repeat (first | refine blk_drewN ?_ _ | refine blk_drew ?_ | refine blk_alloc ?_ _)); exact BK340.out), (by (with_reducible repeat (first | refine blk_drewN ?_ _ | refine blk_drew ?_ | refine blk_alloc ?_ _)); exact BK369.out), GW369.out, GE369.out, NB340_369.out, NB369_340.out, (by repeat (first | (with_reducible first | exact HB.out | apply below_alloc | apply pw_below_drewN | apply below_drew1 | refine below_set ?_ GE340.out | refine below_set ?_ GE369.out) | exact HB.out))⟩)
     ·skip
      refine box_step ?hg (N := 7) ?hd (cs := #[.int .i64 0, .int .i64 0, .int .i64 0]) (t := 44) ?hr ?_; (case hd => rfl); (case hg => rfl); (case hr => first | (go_simp; done) | (go_simp; rfl))
      intro gb369 hg w18 hbox hb
      have n0_ := Aside0.mk (blk_below (g := gb340) (o := .cells #[.int .i64 x341000_1, .int .i64 x341001_1, .int .i64 x341002_1] 44 (0, 0)) (by (with_reducible repeat (first | refine blk_drewN ?_ _ | refine blk_drew ?_ | refine blk_alloc ?_ _)); exact BK340.out) hb)
      have n1_ := Aside0.mk (below_step (by repeat (first | (with_reducible first | exact HB.out | apply below_alloc | apply pw_below_drewN | apply below_drew1 | refine below_set ?_ GE340.out) | exact HB.out)) hb)
      have n2_ := Aside0.mk (hbox)
      have n3_ := Aside0.mk ((by rw [hg]; exact (below_size (by repeat (first | (with_reducible first | exact HB.out | apply below_alloc | apply pw_below_drewN | apply below_drew1 | refine below_set ?_ GE340.out) | exact HB.out))) : w.heap.size ≤ gb369))
      have n4_ := Aside0.mk ((by rw [hg]; exact (below_size (by repeat (first | (with_reducible first | exact HB.out | apply below_alloc | apply pw_below_drewN | apply below_drew1 | refine below_set ?_ GE340.out) | exact HB.out))) : w.heap.size ≤ gb369))
      have n5_ := Aside0.mk ((by rw [hg]; exact Nat.ne_of_lt (blk_lt (g := gb340) (o := .cells #[.int .i64 x341000_1, .int .i64 x341001_1, .int .i64 x341002_1] 44 (0, 0)) (by (with_reducible repeat (first | refine blk_drewN ?_ _ | refine blk_drew ?_ | refine blk_alloc ?_ _)); exact BK340.out)) : gb340 ≠ gb369))
      have n6_ := Aside0.mk ((by rw [hg]; exact Nat.ne_of_gt (blk_lt (g := gb340) (o := .cells #[.int .i64 x341000_1, .int .i64 x341001_1, .int .i64 x341002_1] 44 (0, 0)) (by (with_reducible repeat (first | refine blk_drewN ?_ _ | refine blk_drew ?_ | refine blk_alloc ?_ _)); exact BK340.out)) : gb369 ≠ gb340))
      clear BK340
      clear HB
      have BK340 := n0_
      have HB := n1_
      have BK369 := n2_
      have GW369 := n3_
      have GE369 := n4_
      have NB340_369 := n5_
      have NB369_340 := n6_
      clear n0_ n1_ n2_ n3_ n4_ n5_ n6_
      clear hb hbox hg
      refine hK.out _ _ ⟨(blk_cell BK340.out 0).trans rfl, (blk_cell BK340.out 1).trans rfl, (blk_cell BK340.out 2).trans rfl⟩ (fun hHeld => ?_)
      clear hK K
      refine norm_ (a' := ?_) ?_ ?_
      rotate_left
      ·show Act.put _ (some 7) _ = _
       simp only [Act.put, List.setIfInBounds_toArray, List.set_cons_zero, List.set_cons_succ, i64_w, i32_w]
       rfl
      refine one_ (i := 0) (N := some 28) #[true, true, false, false, false, false, false, true, false, false, false] rfl rfl (one_of HT_.out (by kernel_rfl)) (by decide) (fun K hK => ?_)
      refine goes_ Try.func38 (by kernel_rfl) rfl #[] (by rfl) rfl rfl (by (try simp only [List.map_toArray, List.map_cons, List.map_nil]); first | done | rfl | (simp only [List.length_drop, List.length_take]; rfl)) ?_
      with_reducible refine (newellaw17_Plain.calls  t354 t355 t356 t357 t358 t359 t360 t361 t362 t363 _ A14.out).mono ?_
      rintro e w19 ⟨rfl, hb⟩
      refine ⟨_, rfl, ?_⟩
      have n0_ := Aside0.mk (blk_below (g := gb340) (o := .cells #[.int .i64 x341000_1, .int .i64 x341001_1, .int .i64 x341002_1] 44 (0, 0)) (by (with_reducible repeat (first | refine blk_drewN ?_ _ | refine blk_drew ?_ | refine blk_alloc ?_ _)); exact BK340.out) hb)
      have n1_ := Aside0.mk (blk_below (g := gb369) (o := .cells #[.int .i64 0, .int .i64 0, .int .i64 0] 44 (0, 0)) (by (with_reducible repeat (first | refine blk_drewN ?_ _ | refine blk_drew ?_ | refine blk_alloc ?_ _)); exact BK369.out) hb)
      have n2_ := Aside0.mk (below_step (by repeat (first | (with_reducible first | exact HB.out | apply below_alloc | apply pw_below_drewN | apply below_drew1 | refine below_set ?_ GE340.out | refine below_set ?_ GE369.out) | exact HB.out)) hb)
      clear BK340
      clear BK369
      clear HB
      have BK340 := n0_
      have BK369 := n1_
      have HB := n2_
      clear n0_ n1_ n2_
      (try clear hb)
      (try clear hb2)
      (try clear hk)
      (try clear hi)
      refine hK.out _ _ ⟨(blk_cell BK340.out 0).trans rfl, (blk_cell BK340.out 1).trans rfl, (blk_cell BK340.out 2).trans rfl⟩ (fun hHeld => ?_)
      clear hK K
      refine norm_ (a' := ?_) ?_ ?_
      rotate_left
      ·show Act.put _ (some 28) _ = _
       simp only [Act.put, List.setIfInBounds_toArray, List.set_cons_zero, List.set_cons_succ, i64_w, i32_w]
       rfl
      refine one_ (i := 2) (N := some 30) #[true, true, true, false, false, false, false, true, false, false, false] rfl rfl (one_of HT_.out (by kernel_rfl)) (by decide) (fun K hK => ?_)
      refine goes_ Try.func22 (by kernel_rfl) rfl #[.agg #[.int .i64 t354, .int .i64 t355, .int .i64 t356, .int .i64 t357, .int .i64 t358, .int .i64 t359, .int .i64 t360, .int .i64 t361, .int .i64 t362, .int .i64 t363], .agg #[.int .i64 x341000_1, .int .i64 x341001_1, .int .i64 x341002_1], .bool false] (by rfl) rfl rfl (by (try simp only [List.map_toArray, List.map_cons, List.map_nil]); first | done | rfl | (simp only [List.length_drop, List.length_take]; rfl)) ?_
      with_reducible refine (door_Step.calls k1 t354 t355 t356 t357 t358 t359 t360 t361 t362 t363 x341000_1 x341001_1 x341002_1 false t364 t365 t366 t367 t368 _ A15.out).mono ?_
      rintro e w20 ⟨rfl, hb⟩
      refine ⟨_, rfl, ?_⟩
      have n0_ := Aside0.mk (blk_below (g := gb340) (o := .cells #[.int .i64 x341000_1, .int .i64 x341001_1, .int .i64 x341002_1] 44 (0, 0)) (by (with_reducible repeat (first | refine blk_drewN ?_ _ | refine blk_drew ?_ | refine blk_alloc ?_ _)); exact BK340.out) hb)
      have n1_ := Aside0.mk (blk_below (g := gb369) (o := .cells #[.int .i64 0, .int .i64 0, .int .i64 0] 44 (0, 0)) (by (with_reducible repeat (first | refine blk_drewN ?_ _ | refine blk_drew ?_ | refine blk_alloc ?_ _)); exact BK369.out) hb)
      have n2_ := Aside0.mk (below_step (by repeat (first | (with_reducible first | exact HB.out | apply below_alloc | apply pw_below_drewN | apply below_drew1 | refine below_set ?_ GE340.out | refine below_set ?_ GE369.out) | exact HB.out)) hb)
      clear BK340
      clear BK369
      clear HB
      have BK340 := n0_
      have BK369 := n1_
      have HB := n2_
      clear n0_ n1_ n2_
      (try clear hb)
      (try clear hb2)
      (try clear hk)
      (try clear hi)
      refine hK.out _ _ ⟨(blk_cell BK340.out 0).trans rfl, (blk_cell BK340.out 1).trans rfl, (blk_cell BK340.out 2).trans rfl⟩ (fun hHeld => ?_)
      clear hK K
      refine norm_ (a' := ?_) ?_ ?_
      rotate_left
      ·show Act.put _ (some 30) _ = _
       simp only [Act.put, List.setIfInBounds_toArray, List.set_cons_zero, List.set_cons_succ, i64_w, i32_w]
       rfl
      refine pure_ (i := 3) (N := some 27) (v := ?_) (a' := ?_) #[true, true, true, true, false, false, false, true, false, false, false] rfl rfl (any_of HT_.out (by kernel_rfl)) (fun _ _ _ h => h) (Or.inl ⟨by rfl, ?_⟩) ?_ ?_
      rotate_left
      ·intro w'
       go_simp
       with_reducible rfl
      rotate_left
      ·simp only [Act.put, List.setIfInBounds_toArray, List.set_cons_zero, List.set_cons_succ, i64_w, i32_w]
       rfl
      refine pure_ (i := 4) (N := some 31) (v := ?_) (a' := ?_) #[true, true, true, true, true, false, false, true, false, false, false] rfl rfl (any_of HT_.out (by kernel_rfl)) (fun _ _ _ h => h) (Or.inl ⟨by rfl, ?_⟩) ?_ ?_
      rotate_left
      ·intro w'
       go_simp
       with_reducible rfl
      rotate_left
      ·simp only [Act.put, List.setIfInBounds_toArray, List.set_cons_zero, List.set_cons_succ, i64_w, i32_w]
       rfl
      refine pure_ (i := 5) (N := some 32) (v := ?_) (a' := ?_) #[true, true, true, true, true, true, false, true, false, false, false] rfl rfl (any_of HT_.out (by kernel_rfl)) (fun _ _ _ h => h) (Or.inl ⟨by rfl, ?_⟩) ?_ ?_
      rotate_left
      ·intro w'
       go_simp
       with_reducible rfl
      rotate_left
      ·simp only [Act.put, List.setIfInBounds_toArray, List.set_cons_zero, List.set_cons_succ, i64_w, i32_w]
       rfl
      refine pure_ (i := 6) (N := some 33) (v := ?_) (a' := ?_) #[true, true, true, true, true, true, true, true, false, false, false] rfl rfl (any_of HT_.out (by kernel_rfl)) (fun _ _ _ h => h) (Or.inl ⟨by rfl, ?_⟩) ?_ ?_
      rotate_left
      ·intro w'
       go_simp
       with_reducible rfl
      rotate_left
      ·simp only [Act.put, List.setIfInBounds_toArray, List.set_cons_zero, List.set_cons_succ, i64_w, i32_w]
       rfl
      exact norm_ (by simp only [putAll, Act.put, List.setIfInBounds_toArray, List.set_cons_zero, List.set_cons_succ]) (hCont (gb369) _ ⟨hHeld, (by (with_reducible repeat (first | refine blk_drewN ?_ _ | refine blk_drew ?_ | refine blk_alloc ?_ _)); exact BK340.out), (by (with_reducible repeat (first | refine blk_drewN ?_ _ | refine blk_drew ?_ | refine blk_alloc ?_ _)); exact BK369.out), GW369.out, GE369.out, NB340_369.out, NB369_340.out, (by repeat (first | (with_reducible first | exact HB.out | apply below_alloc | apply pw_below_drewN | apply below_drew1 | refine below_set ?_ GE340.out | refine below_set ?_ GE369.out) | exact HB.out))⟩)
    rintro gb369 w21 ⟨hS_, h0_, h1_, h2_, h3_, h4_, h5_, h6_⟩
    have n0_ : Aside0 (w21.heap[gb340]? = some (.cells #[.int .i64 x341000_1, .int .i64 x341001_1, .int .i64 x341002_1] 44 (0, 0))) := ⟨h0_⟩
    have n1_ : Aside0 (w21.heap[gb369]? = some (.cells #[.int .i64 0, .int .i64 0, .int .i64 0] 44 (0, 0))) := ⟨h1_⟩
    have n2_ : Aside0 (w.heap.size ≤ gb369) := ⟨h2_⟩
    have n3_ : Aside0 (w.heap.size ≤ gb369) := ⟨h3_⟩
    have n4_ : Aside0 (gb340 ≠ gb369) := ⟨h4_⟩
    have n5_ : Aside0 (gb369 ≠ gb340) := ⟨h5_⟩
    have n6_ : Aside0 (Below w.heap.size w w21) := ⟨h6_⟩
    clear BK340
    clear HB
    clear h0_ h1_ h2_ h3_ h4_ h5_ h6_
    have BK340 := n0_
    have BK369 := n1_
    have GW369 := n2_
    have GE369 := n3_
    have NB340_369 := n4_
    have NB369_340 := n5_
    have HB := n6_
    clear n0_ n1_ n2_ n3_ n4_ n5_ n6_
    have hHeld : w21.cell? ⟨gb340, 0, none⟩ = some (.int .i64 x341000_1) ∧ w21.cell? ⟨gb340, 1, none⟩ = some (.int .i64 x341001_1) ∧ w21.cell? ⟨gb340, 2, none⟩ = some (.int .i64 x341002_1) := hS_
    refine norm_ (a' := ?_) ?_ ?_
    rotate_left
    ·simp only [putAll, Act.put, List.setIfInBounds_toArray, List.set_cons_zero, List.set_cons_succ]
     rfl
    refine one_ (i := 8) (N := none) #[true, true, true, true, true, true, true, true, true, false, false] rfl rfl (one_of HT_.out (by kernel_rfl)) (by decide) (fun K hK => ?_)
    have hs22 : w21.cell? ⟨gb369, 0, none⟩ = some (.int .i64 0) := (blk_cell BK369.out 0).trans rfl
    have hfs22 := blk_frozen BK369.out 0
    have hns22_0 := NB340_369.out
    have hms22_0 := NB369_340.out
    have hs23 : w21.cell? ⟨gb369, 1, none⟩ = some (.int .i64 0) := (blk_cell BK369.out 1).trans rfl
    have hfs23 := blk_frozen BK369.out 1
    have hns23_0 := NB340_369.out
    have hms23_0 := NB369_340.out
    have hs24 : w21.cell? ⟨gb369, 2, none⟩ = some (.int .i64 0) := (blk_cell BK369.out 2).trans rfl
    have hfs24 := blk_frozen BK369.out 2
    have hns24_0 := NB340_369.out
    have hms24_0 := NB369_340.out
    refine skip_ (w1 := ?_) (by rfl) rfl ?_ ?_
    rotate_left
    ·go_simp
     rfl
    refine hK.out _ _ ⟨((cell_far (p := ⟨gb369, _, none⟩) NB340_369.out _).trans (((cell_far (p := ⟨gb369, _, none⟩) NB340_369.out _).trans (((cell_far (p := ⟨gb369, _, none⟩) NB340_369.out _).trans (hHeld.1)))))), ((cell_far (p := ⟨gb369, _, none⟩) NB340_369.out _).trans (((cell_far (p := ⟨gb369, _, none⟩) NB340_369.out _).trans (((cell_far (p := ⟨gb369, _, none⟩) NB340_369.out _).trans (hHeld.2.1)))))), ((cell_far (p := ⟨gb369, _, none⟩) NB340_369.out _).trans (((cell_far (p := ⟨gb369, _, none⟩) NB340_369.out _).trans (((cell_far (p := ⟨gb369, _, none⟩) NB340_369.out _).trans (hHeld.2.2))))))⟩ (fun hHeld => ?_)
    clear hK K
    refine pure_ (i := 9) (N := some 8) (v := ?_) (a' := ?_) #[true, true, true, true, true, true, true, true, true, true, false] rfl rfl (any_of HT_.out (by kernel_rfl)) (fun _ _ _ h => h) (Or.inl ⟨by rfl, ?_⟩) ?_ ?_
    rotate_left
    ·intro w'
     go_simp
     with_reducible rfl
    rotate_left
    ·simp only [Act.put, List.setIfInBounds_toArray, List.set_cons_zero, List.set_cons_succ, i64_w, i32_w]
     rfl
    refine pure_ (i := 10) (N := some 9) (v := ?_) (a' := ?_) #[true, true, true, true, true, true, true, true, true, true, true] rfl rfl (any_of HT_.out (by kernel_rfl)) (fun _ _ _ h => h) (Or.inl ⟨by rfl, ?_⟩) ?_ ?_
    rotate_left
    ·intro w'
     go_simp
     with_reducible rfl
    rotate_left
    ·simp only [Act.put, List.setIfInBounds_toArray, List.set_cons_zero, List.set_cons_succ, i64_w, i32_w]
     rfl
    refine done_ (done_of HT_.out (by kernel_rfl)) ?_
    go_upto_region 8 with (fail)
    go_cut [42] (fun v42 wc => ∃ (kq : Nat) (x42_15 : Bool), v42 = .bool x42_15 ∧ Aside0 (newellaw17_awake.j1 kq t339 t351 t352 x5_1 x6_1 t367 x42_15 t364 t365 t366 = some r) ∧ Aside0 (kq ≤ k1) ∧ Aside0 (wc.heap[gb340]? = some (.cells #[.int .i64 x341000_1, .int .i64 x341001_1, .int .i64 x341002_1] 44 (0, 0))) ∧ Aside0 (wc.heap[gb369]? = some (.cells #[.int .i64 t364, .int .i64 t365, .int .i64 t366] 44 (0, 0))) ∧ Aside0 (Below w.heap.size w wc))
    case first =>
     have H := HC16.out
     clear HC16
     by_cases c25 : t368 = 0
     ·rw [if_pos c25] at H
      have c25b0 : (t368 == 0) = true := beq_iff_eq.mpr c25
      have c25b1 : (t368 != 0) = false := bne_eq_false_iff_eq.mpr c25
      clear c25
      (first | rw [c25b0] | (simp only [i64_w, i32_w]; rw [c25b0]) | skip)
      by_cases c26 : t367 = true
      ·subst c26
       have H1 : (newellaw17_awake.j1 k1 t339 t351 t352 x5_1 x6_1 true (x6_1 != 6) t364 t365 t366) = some r := by rw [if_pos rfl] at H; exact H
       clear H
       have H := H1
       clear H1
       have H' := Aside0.mk H
       clear H
       go_wp2
       go_meet
       case rel => exact ⟨_, ((x6_1 != 6)), (by first | rfl | (simp; done) | (simp [*]; done)), H', ⟨by have := HK1.out; first | omega | exact Nat.le_refl _⟩, ⟨by (with_reducible repeat (first | refine blk_drewN ?_ _ | refine blk_drew ?_ | refine blk_alloc ?_ _)); refine blk_far ?_ NB340_369.out _; (with_reducible repeat (first | refine blk_drewN ?_ _ | refine blk_drew ?_ | refine blk_alloc ?_ _)); refine blk_far ?_ NB340_369.out _; (with_reducible repeat (first | refine blk_drewN ?_ _ | refine blk_drew ?_ | refine blk_alloc ?_ _)); refine blk_far ?_ NB340_369.out _; (with_reducible repeat (first | refine blk_drewN ?_ _ | refine blk_drew ?_ | refine blk_alloc ?_ _)); exact BK340.out⟩, ⟨by (with_reducible repeat (first | refine blk_drewN ?_ _ | refine blk_drew ?_ | refine blk_alloc ?_ _)); refine blk_put (cs := #[.int .i64 t364, .int .i64 t365, .int .i64 0]) ?_ 2 _ rfl; (with_reducible repeat (first | refine blk_drewN ?_ _ | refine blk_drew ?_ | refine blk_alloc ?_ _)); refine blk_put (cs := #[.int .i64 t364, .int .i64 0, .int .i64 0]) ?_ 1 _ rfl; (with_reducible repeat (first | refine blk_drewN ?_ _ | refine blk_drew ?_ | refine blk_alloc ?_ _)); refine blk_put (cs := #[.int .i64 0, .int .i64 0, .int .i64 0]) ?_ 0 _ rfl; (with_reducible repeat (first | refine blk_drewN ?_ _ | refine blk_drew ?_ | refine blk_alloc ?_ _)); exact BK369.out⟩, ⟨by repeat (first | (with_reducible first | exact HB.out | apply below_alloc | apply pw_below_drewN | apply below_drew1 | refine below_set ?_ GE340.out | refine below_set ?_ GE369.out) | exact HB.out)⟩⟩
      ·replace c26 := Bool.eq_false_iff.mpr c26
       subst c26
       have H1 : (newellaw17_awake.j1 k1 t339 t351 t352 x5_1 x6_1 false false t364 t365 t366) = some r := by rw [if_neg (show ¬ (false = true) by decide)] at H; exact H
       clear H
       have H := H1
       clear H1
       have H' := Aside0.mk H
       clear H
       go_wp2
       go_meet
       case rel => exact ⟨_, (false), (by first | rfl | (simp; done) | (simp [*]; done)), H', ⟨by have := HK1.out; first | omega | exact Nat.le_refl _⟩, ⟨by (with_reducible repeat (first | refine blk_drewN ?_ _ | refine blk_drew ?_ | refine blk_alloc ?_ _)); refine blk_far ?_ NB340_369.out _; (with_reducible repeat (first | refine blk_drewN ?_ _ | refine blk_drew ?_ | refine blk_alloc ?_ _)); refine blk_far ?_ NB340_369.out _; (with_reducible repeat (first | refine blk_drewN ?_ _ | refine blk_drew ?_ | refine blk_alloc ?_ _)); refine blk_far ?_ NB340_369.out _; (with_reducible repeat (first | refine blk_drewN ?_ _ | refine blk_drew ?_ | refine blk_alloc ?_ _)); exact BK340.out⟩, ⟨by (with_reducible repeat (first | refine blk_drewN ?_ _ | refine blk_drew ?_ | refine blk_alloc ?_ _)); refine blk_put (cs := #[.int .i64 t364, .int .i64 t365, .int .i64 0]) ?_ 2 _ rfl; (with_reducible repeat (first | refine blk_drewN ?_ _ | refine blk_drew ?_ | refine blk_alloc ?_ _)); refine blk_put (cs := #[.int .i64 t364, .int .i64 0, .int .i64 0]) ?_ 1 _ rfl; (with_reducible repeat (first | refine blk_drewN ?_ _ | refine blk_drew ?_ | refine blk_alloc ?_ _)); refine blk_put (cs := #[.int .i64 0, .int .i64 0, .int .i64 0]) ?_ 0 _ rfl; (with_reducible repeat (first | refine blk_drewN ?_ _ | refine blk_drew ?_ | refine blk_alloc ?_ _)); exact BK369.out⟩, ⟨by repeat (first | (with_reducible first | exact HB.out | apply below_alloc | apply pw_below_drewN | apply below_drew1 | refine below_set ?_ GE340.out | refine below_set ?_ GE369.out) | exact HB.out)⟩⟩
     ·rw [if_neg c25] at H
      exact absurd H (by simp)
    case rest =>
     clear HC16
     try clear c1
     try clear c2
     try clear p2
     try clear c3
     try clear c13
     try clear c13b0
     try clear c22
     try clear c23
     try clear c25
     try clear c25b0
     try clear c25b1
     try clear c26
     try clear hcz8_0
     try clear hcz8_1
     try clear hcz8_2
     try clear hfz8_0
     try clear hfz8_1
     try clear hfz8_2
     try clear p2
     obtain ⟨kq, x42_15, rfl, HA, HJ15, BK340, BK369, HB⟩ := hcut
     cases kq with
     | zero => exact absurd HA.out (by simp [newellaw17_awake.j1])
     | succ kj15 =>
      have H := HA.out
      clear HA
      simp only [newellaw17_awake.j1] at H
      by_cases c27 : x42_15 = true
      ·subst c27
       have H1 : (none) = some r := by rw [if_pos rfl] at H; exact H
       clear H
       have H := H1
       clear H1
       exact absurd H (by simp)
      ·replace c27 := Bool.eq_false_iff.mpr c27
       subst c27
       have H1 : (if t367 = true then (newellaw17_awake.l0 kj15 t339 t351 t352 (wrap64 (x5_1 + 1)) (wrap64 (x6_1 + 1)) t364 t365 t366) else (newellaw17_awake.l0 kj15 t339 t351 t352 x5_1 (wrap64 (x6_1 + 1)) t364 t365 t366)) = some r := by rw [if_neg (show ¬ (false = true) by decide)] at H; exact H
       clear H
       have H := H1
       clear H1
       by_cases c28 : t367 = true
       ·subst c28
        have H1 : (newellaw17_awake.l0 kj15 t339 t351 t352 (wrap64 (x5_1 + 1)) (wrap64 (x6_1 + 1)) t364 t365 t366) = some r := by rw [if_pos rfl] at H; exact H
        clear H
        have H := H1
        clear H1
        have H' := Aside0.mk H
        clear H
        have hnb29 := NB369_340.out
        have hnc29 := NB340_369.out
        have hcz30_0 : wc.cell? ⟨gb369, 0, none⟩ = some (.int .i64 t364) := (blk_cell BK369.out 0).trans rfl
        have hcz30_1 : wc.cell? ⟨gb369, 1, none⟩ = some (.int .i64 t365) := (blk_cell BK369.out 1).trans rfl
        have hcz30_2 : wc.cell? ⟨gb369, 2, none⟩ = some (.int .i64 t366) := (blk_cell BK369.out 2).trans rfl
        have hfz30_0 := blk_frozen BK369.out 0
        have hfz30_1 := blk_frozen BK369.out 1
        have hfz30_2 := blk_frozen BK369.out 2
        have hcz31_0 : wc.cell? ⟨gb340, 0, none⟩ = some (.int .i64 x341000_1) := (blk_cell BK340.out 0).trans rfl
        have hcz31_1 : wc.cell? ⟨gb340, 1, none⟩ = some (.int .i64 x341001_1) := (blk_cell BK340.out 1).trans rfl
        have hcz31_2 : wc.cell? ⟨gb340, 2, none⟩ = some (.int .i64 x341002_1) := (blk_cell BK340.out 2).trans rfl
        have hfz31_0 := blk_frozen BK340.out 0
        have hfz31_1 := blk_frozen BK340.out 1
        have hfz31_2 := blk_frozen BK340.out 2
        go_wp2
        go_roundg kj15
        case measure => have := HK1.out; have := HJ15.out; omega
        case rel => exact ⟨(wrap64 (x5_1 + 1)), (wrap64 (x6_1 + 1)), (t364), (t365), (t366), (by first | rfl | (simp; done) | (simp [*]; done)), (by first | rfl | (simp; done) | (simp [*]; done)), H', ⟨by have := HK1.out; have := HJ15.out; omega⟩, ⟨by (with_reducible repeat (first | refine blk_drewN ?_ _ | refine blk_drew ?_ | refine blk_alloc ?_ _)); refine blk_put (cs := #[.int .i64 t364, .int .i64 t365, .int .i64 x341002_1]) ?_ 2 _ rfl; (with_reducible repeat (first | refine blk_drewN ?_ _ | refine blk_drew ?_ | refine blk_alloc ?_ _)); refine blk_put (cs := #[.int .i64 t364, .int .i64 x341001_1, .int .i64 x341002_1]) ?_ 1 _ rfl; (with_reducible repeat (first | refine blk_drewN ?_ _ | refine blk_drew ?_ | refine blk_alloc ?_ _)); refine blk_put (cs := #[.int .i64 x341000_1, .int .i64 x341001_1, .int .i64 x341002_1]) ?_ 0 _ rfl; (with_reducible repeat (first | refine blk_drewN ?_ _ | refine blk_drew ?_ | refine blk_alloc ?_ _)); exact BK340.out⟩, ⟨by repeat (first | (with_reducible first | exact HB.out | apply below_alloc | apply pw_below_drewN | apply below_drew1 | refine below_set ?_ GE340.out | refine below_set ?_ GE369.out) | exact HB.out)⟩⟩
       ·replace c28 := Bool.eq_false_iff.mpr c28
        subst c28
        have H1 : (newellaw17_awake.l0 kj15 t339 t351 t352 x5_1 (wrap64 (x6_1 + 1)) t364 t365 t366) = some r := by rw [if_neg (show ¬ (false = true) by decide)] at H; exact H
        clear H
        have H := H1
        clear H1
        have H' := Aside0.mk H
        clear H
        have hnb32 := NB369_340.out
        have hnc32 := NB340_369.out
        have hcz33_0 : wc.cell? ⟨gb369, 0, none⟩ = some (.int .i64 t364) := (blk_cell BK369.out 0).trans rfl
        have hcz33_1 : wc.cell? ⟨gb369, 1, none⟩ = some (.int .i64 t365) := (blk_cell BK369.out 1).trans rfl
        have hcz33_2 : wc.cell? ⟨gb369, 2, none⟩ = some (.int .i64 t366) := (blk_cell BK369.out 2).trans rfl
        have hfz33_0 := blk_frozen BK369.out 0
        have hfz33_1 := blk_frozen BK369.out 1
        have hfz33_2 := blk_frozen BK369.out 2
        have hcz34_0 : wc.cell? ⟨gb340, 0, none⟩ = some (.int .i64 x341000_1) := (blk_cell BK340.out 0).trans rfl
        have hcz34_1 : wc.cell? ⟨gb340, 1, none⟩ = some (.int .i64 x341001_1) := (blk_cell BK340.out 1).trans rfl
        have hcz34_2 : wc.cell? ⟨gb340, 2, none⟩ = some (.int .i64 x341002_1) := (blk_cell BK340.out 2).trans rfl
        have hfz34_0 := blk_frozen BK340.out 0
        have hfz34_1 := blk_frozen BK340.out 1
        have hfz34_2 := blk_frozen BK340.out 2
        go_wp2
        go_roundg kj15
        case measure => have := HK1.out; have := HJ15.out; omega
        case rel => exact ⟨(x5_1), (wrap64 (x6_1 + 1)), (t364), (t365), (t366), (by first | rfl | (simp; done) | (simp [*]; done)), (by first | rfl | (simp; done) | (simp [*]; done)), H', ⟨by have := HK1.out; have := HJ15.out; omega⟩, ⟨by (with_reducible repeat (first | refine blk_drewN ?_ _ | refine blk_drew ?_ | refine blk_alloc ?_ _)); refine blk_put (cs := #[.int .i64 t364, .int .i64 t365, .int .i64 x341002_1]) ?_ 2 _ rfl; (with_reducible repeat (first | refine blk_drewN ?_ _ | refine blk_drew ?_ | refine blk_alloc ?_ _)); refine blk_put (cs := #[.int .i64 t364, .int .i64 x341001_1, .int .i64 x341002_1]) ?_ 1 _ rfl; (with_reducible repeat (first | refine blk_drewN ?_ _ | refine blk_drew ?_ | refine blk_alloc ?_ _)); refine blk_put (cs := #[.int .i64 x341000_1, .int .i64 x341001_1, .int .i64 x341002_1]) ?_ 0 _ rfl; (with_reducible repeat (first | refine blk_drewN ?_ _ | refine blk_drew ?_ | refine blk_alloc ?_ _)); exact BK340.out⟩, ⟨by repeat (first | (with_reducible first | exact HB.out | apply below_alloc | apply pw_below_drewN | apply below_drew1 | refine below_set ?_ GE340.out | refine below_set ?_ GE369.out) | exact HB.out)⟩⟩
   ·rw [if_neg c13] at H
    have c13b0 : decide (x6_1 ≤ 8) = false := decide_eq_false c13
    clear c13
    by_cases c35 : t339 = 0
    ·rw [if_pos c35] at H
     have c35b0 : (t339 == 0) = true := beq_iff_eq.mpr c35
     have c35b1 : (t339 != 0) = false := bne_eq_false_iff_eq.mpr c35
     clear c35
     by_cases c36 : t351 = 8
     ·rw [if_pos c36] at H
      have c36b0 : (t351 == 8) = true := beq_iff_eq.mpr c36
      have c36b1 : (t351 != 8) = false := bne_eq_false_iff_eq.mpr c36
      clear c36
      by_cases c37 : t352 = 0
      ·rw [if_pos c37] at H
       have c37b0 : (t352 == 0) = true := beq_iff_eq.mpr c37
       have c37b1 : (t352 != 0) = false := bne_eq_false_iff_eq.mpr c37
       clear c37
       by_cases c38 : x5_1 = 1
       ·rw [if_pos c38] at H
        have c38b0 : (x5_1 == 1) = true := beq_iff_eq.mpr c38
        have c38b1 : (x5_1 != 1) = false := bne_eq_false_iff_eq.mpr c38
        clear c38
        by_cases c39 : (x341000_1 == 0 && (x341001_1 == 0 && (x341002_1 == 0))) = true
        ·rw [if_pos c39] at H
         have c39b0 : (x341000_1 == 0 && (x341001_1 == 0 && (x341002_1 == 0))) = true := c39
         (try (have c39s0 := c39b0; simp only [beq_self_eq_true, bne_self_eq_false, Bool.not_true, Bool.not_false, Bool.true_and, Bool.and_true, Bool.false_or, Bool.or_false] at c39s0))
         (try (have c39b1 : decide (x341000_1 = 0 && (x341001_1 == 0 && (x341002_1 == 0))) = true := by simpa using c39))
         (try (have c39b2 : (x341000_1 == 0 && (x341001_1 == 0 && (x341002_1 == 0))) = true := by simpa using c39))
         clear c39
         replace H := Option.bind_eq_some_iff.mp H
         obtain ⟨t353, A400, H⟩ := H
         replace H : (some (t353 == 0)) = some r := H
         have A40 := Aside0.mk A400
         clear A400
         obtain rfl := Option.some.inj H
         have hcz41_0 : wr.cell? ⟨gb340, 0, none⟩ = some (.int .i64 x341000_1) := (blk_cell BK340.out 0).trans rfl
         have hcz41_1 : wr.cell? ⟨gb340, 1, none⟩ = some (.int .i64 x341001_1) := (blk_cell BK340.out 1).trans rfl
         have hcz41_2 : wr.cell? ⟨gb340, 2, none⟩ = some (.int .i64 x341002_1) := (blk_cell BK340.out 2).trans rfl
         have hfz41_0 := blk_frozen BK340.out 0
         have hfz41_1 := blk_frozen BK340.out 1
         have hfz41_2 := blk_frozen BK340.out 2
         go_wp2_with (first | (go_at_call 30; (with_reducible refine (door_Check.calls x341000_1 x341001_1 x341002_1 t353 _ A40.out).mono ?_); rintro e w42 ⟨rfl, hb⟩; have n0_ := Aside0.mk (blk_below (g := gb340) (o := .cells #[.int .i64 x341000_1, .int .i64 x341001_1, .int .i64 x341002_1] 44 (0, 0)) (by (with_reducible repeat (first | refine blk_drewN ?_ _ | refine blk_drew ?_ | refine blk_alloc ?_ _)); exact BK340.out) hb); have n1_ := Aside0.mk (below_step (by repeat (first | (with_reducible first | exact HB.out | apply below_alloc | apply pw_below_drewN | apply below_drew1 | refine below_set ?_ GE340.out) | exact HB.out)) hb); clear BK340; clear HB; have BK340 := n0_; have HB := n1_; clear n0_ n1_; (try clear hb); (try clear hb2); (try clear hk); (try clear hi)))
         go_ret
         exact ⟨by first | rfl | (simp [errW_none, errW_some] <;> rfl) | (simp [*, errW_none, errW_some] <;> rfl), by repeat (first | (with_reducible first | exact HB.out | apply below_alloc | apply pw_below_drewN | apply below_drew1 | refine below_set ?_ GE340.out) | exact HB.out)⟩
        ·rw [if_neg c39] at H
         exact absurd H (by simp)
       ·rw [if_neg c38] at H
        exact absurd H (by simp)
      ·rw [if_neg c37] at H
       exact absurd H (by simp)
     ·rw [if_neg c36] at H
      exact absurd H (by simp)
    ·rw [if_neg c35] at H
     exact absurd H (by simp)

end Go.Proofs.Ytjfikeahafflfaa.C
