/- Texts of this claim, one behind the other: what the law's functions come to, walked (printed by a program, with the words that the print uses), and what that is, in plain Lean. No conditions of their own. -/
import Derived.Test.YtickbejailcehaaDoorQFlashGoes10
namespace Go.Proofs.YtickbejailcehaaDoor.C
open Go.RowKit Go.Proofs.YtickbejailcehaaDoorW.PrintWords Go.Proofs.YtickbejailcehaaDoorW.PrintLast Go.Proofs.YtickbejailcehaaDoorW.PrintMore
attribute [local go_sem] max2_int min2_int max_two min_two max_three min_three max_four min_four
set_option linter.unusedVariables false
set_option linter.unusedSimpArgs false
mutual
def newellaw12_FlashGoes.l0 : Nat → List (S26) → List Int → Int → Int → Option (Bool)
 | 0, _, _, _, _ => none
 | k + 1, x0, x1, x5, x6 => if x6 < (x0.length : Int) then (if 0 ≤ x6 then (newellaw12_FlashGoes.l0 k x0 x1 (wrap64 (x5 + (((rd_T26 x0 x6).f3).length : Int))) (wrap64 (x6 + 1))) else (none)) else (if (x0.length : Int) > 12 then (newellaw12_FlashGoes.j1 k x0 x1 true) else (newellaw12_FlashGoes.j1 k x0 x1 (decide (x5 > 5000))))
def newellaw12_FlashGoes.j1 : Nat → List (S26) → List Int → Bool → Option (Bool)
 | 0, _, _, _ => none
 | k + 1, x0, x1, x37 => if x37 = true then ((newellaw12_awake.f k).bind fun t228 => (some t228)) else (newellaw12_FlashGoes.l1 k x0 x1 0 ([] : List Int) ([] : List Int) 0 0 0 ([] : List Int))
def newellaw12_FlashGoes.l1 : Nat → List (S26) → List Int → Int → List Int → List Int → Int → Int → Int → List Int → Option (Bool)
 | 0, _, _, _, _, _, _, _, _, _ => none
 | k + 1, x0, x1, x9, x230000, x230001, x231000, x231001, x231002, x231003 => if x9 < (x0.length : Int) then (newellaw12_FlashGoes.j3 k x0 x1 x9 (decide (x9 < (x1.length : Int))) x230000 x230001 x231000 x231001 x231002 x231003) else (newellaw12_FlashGoes.j3 k x0 x1 x9 false x230000 x230001 x231000 x231001 x231002 x231003)
def newellaw12_FlashGoes.j3 : Nat → List (S26) → List Int → Int → Bool → List Int → List Int → Int → Int → Int → List Int → Option (Bool)
 | 0, _, _, _, _, _, _, _, _, _, _ => none
 | k + 1, x0, x1, x9, x50, x230000, x230001, x231000, x231001, x231002, x231003 => if x50 = true then (if 0 ≤ x9 then (if x9 < (x0.length : Int) then (if x9 < (x1.length : Int) then ((flash_Write.f k x230000 x230001 (wrap64 (x9 + 1)) ((rd_T26 x0 x9).f1) ((rd_T26 x0 x9).f2) ((rd_T26 x0 x9).f3) (rd x1 x9)).bind fun bt234 => (if bt234.2.2.2 = 0 then (if bt234.2.2.1 = true then (newellaw12_FlashGoes.j4 k x0 x1 x9 bt234.1 bt234.2.1 (wrap64 (x9 + 1)) ((rd_T26 x0 x9).f1) ((rd_T26 x0 x9).f2) ((rd_T26 x0 x9).f3)) else (newellaw12_FlashGoes.j4 k x0 x1 x9 bt234.1 bt234.2.1 x231000 x231001 x231002 x231003)) else ((newelref12_May.f (wrap64 (x9 + 1)) ((rd_T26 x0 x9).f1) ((rd_T26 x0 x9).f2) ((rd_T26 x0 x9).f3)).bind fun t243 => (if t243 = true then (none) else (newellaw12_FlashGoes.j6 k x0 x1 x9 x230000 x230001 x231000 x231001 x231002 x231003))))) else (none)) else (none)) else (none)) else ((newellaw12_awake.f k).bind fun t260 => (some t260))
def newellaw12_FlashGoes.j6 : Nat → List (S26) → List Int → Int → List Int → List Int → Int → Int → Int → List Int → Option (Bool)
 | 0, _, _, _, _, _, _, _, _, _ => none
 | k + 1, x0, x1, x9, x230000, x230001, x231000, x231001, x231002, x231003 => newellaw12_FlashGoes.l1 k x0 x1 (wrap64 (x9 + 1)) x230000 x230001 x231000 x231001 x231002 x231003
def newellaw12_FlashGoes.j4 : Nat → List (S26) → List Int → Int → List Int → List Int → Int → Int → Int → List Int → Option (Bool)
 | 0, _, _, _, _, _, _, _, _, _ => none
 | k + 1, x0, x1, x9, x230000, x230001, x231000, x231001, x231002, x231003 => (flash_Recover.f k x230000 x230001).bind fun bt250 => (if ((bt250.2.2.2.2.2 == 0) != (decide (x231000 > 0))) = true then (none) else (if bt250.2.2.2.2.2 = 0 then ((flash_Same.f bt250.1 bt250.2.1 bt250.2.2.1 bt250.2.2.2.1 x231000 x231001 x231002 x231003).bind fun t259 => (newellaw12_FlashGoes.j5 k x0 x1 x9 (!t259) x230000 x230001 x231000 x231001 x231002 x231003)) else (newellaw12_FlashGoes.j5 k x0 x1 x9 false x230000 x230001 x231000 x231001 x231002 x231003)))
def newellaw12_FlashGoes.j5 : Nat → List (S26) → List Int → Int → Bool → List Int → List Int → Int → Int → Int → List Int → Option (Bool)
 | 0, _, _, _, _, _, _, _, _, _, _ => none
 | k + 1, x0, x1, x9, x99, x230000, x230001, x231000, x231001, x231002, x231003 => if x99 = true then (none) else (newellaw12_FlashGoes.j6 k x0 x1 x9 x230000 x230001 x231000 x231001 x231002 x231003)
end
def newellaw12_FlashGoes.f (k : Nat) (l0 : List (S26)) (l1 : List Int) : Option (Bool) := newellaw12_FlashGoes.l0 k l0 l1 0 0
def newellaw12_FlashGoes.T15 : Bool × List (List Nat × List Nat) := (true, [([], []), ([], []), ([], []), ([], []), ([2, 3], [2, 3]), ([4], [4]), ([0, 1, 5], [0, 1, 5]), ([6], [6]), ([7], [7]), ([7], [7]), ([7], [7]), ([], []), ([11, 8, 6, 0, 1, 2, 3, 4, 5, 6, 7, 8, 11], [8, 11]), ([9, 12, 0, 1, 2, 3, 4, 5, 6, 7, 8, 9, 11, 12], [9]), ([10, 13, 0, 1, 2, 3, 4, 5, 6, 7, 8, 9, 10, 11, 12, 13], [10])])
def newellaw12_FlashGoes.B15 : List Nat := [0, 0, 0, 0, 12, 28, 63, 127, 255, 255, 255, 0, 2559, 7167, 16383]
theorem newellaw12_FlashGoes.tab15 : rtab .any (opsOf Tryd.f8 15) = newellaw12_FlashGoes.T15 := by kernel_rfl
theorem newellaw12_FlashGoes.bits15 : waitsOk newellaw12_FlashGoes.T15.2 newellaw12_FlashGoes.B15 = true := by kernel_rfl
def LastRow (w : World) (u : Value) (l : List Int) : Prop := ∃ A c, u = .slice A l.length c ∧ l.length ≤ c ∧ Kd.C (Kd.int .u8) w A l.length l
theorem last_nil (w : World) : LastRow w (.slice none 0 0) [] := ⟨none, 0, rfl, Nat.le_refl _, Kd.C_nil _ _⟩
theorem phantom_ (q : Nat → Prop) {W : World} {b : Nat} {ok : Nat → Prop} {u : Value} {xs : List Int} (h : Aside0 (Kd.R (Kd.int .u8) 5 W b ok u xs)) : Aside0 (Kd.R (Kd.int .u8) 5 W b q (.slice none 0 0) ([] : List Int)) := ⟨Kd.R_nil _ _ _ _ _⟩
set_option maxHeartbeats 8000000 in
set_option maxRecDepth 100000 in
theorem newellaw12_FlashGoes.calls (k : Nat) (A0 : Option Addr) (c0 : Nat) (l0 : List (S26)) (A1 : Option Addr) (c1 : Nat) (l1 : List Int) (r : Bool) (w : World) (hr0 : Kd.C k26 w A0 l0.length l0) (hc0 : l0.length ≤ c0) (hr1 : Kd.C (Kd.int .i64) w A1 l1.length l1) (hc1 : l1.length ≤ c1) (h : newellaw12_FlashGoes.f k l0 l1 = some r) (ht_ : Laid.TabAt w) :
  Calls Tryd.prog 8 #[.slice A0 l0.length c0, .slice A1 l1.length c1] w fun e w' => e = .returned (.bool r) ∧ Below w.heap.size w w' := by
 have HTAB := Aside0.mk ht_
 clear ht_
 have hu24 := Tryd.underlying24
 have hu26 := Tryd.underlying26
 have HR0 := Aside0.mk hr0
 have HC0 := Aside0.mk hc0
 clear hr0 hc0
 have HR1 := Aside0.mk hr1
 have HC1 := Aside0.mk hc1
 clear hr1 hc1
 have HB := Aside0.mk (Below.refl w.heap.size w)
 have H : (newellaw12_FlashGoes.l0 k l0 l1 0 0) = some r := h
 clear h
 have H' := Aside0.mk H
 clear H
 go_enter Tryd.func8, Tryd.ntmps8
 go_wp2
 go_loopg [5, 6] k (fun kq v5 v6 w' => ∃ (x5_1 : Int) (x6_1 : Int), v5 = .int .i64 x5_1 ∧ v6 = .int .i64 x6_1 ∧ Aside0 (newellaw12_FlashGoes.l0 kq l0 l1 x5_1 x6_1 = some r) ∧ Aside0 (kq ≤ k) ∧ Aside0 (Below w.heap.size w w'))
 case atStart => exact ⟨(0), (0), (by first | rfl | (simp; done) | (simp [*]; done)), (by first | rfl | (simp; done) | (simp [*]; done)), H', ⟨Nat.le_refl _⟩, ⟨by repeat (first | (with_reducible first | exact HB.out | apply below_alloc | apply pw_below_drewN | apply below_drew1) | exact HB.out)⟩⟩
 case round =>
  clear H'
  try clear c1
  try clear p2
  obtain ⟨x5_1, x6_1, rfl, rfl, HA, HK1, HB⟩ := hrel
  cases gk with
  | zero => exact absurd HA.out (by simp [newellaw12_FlashGoes.l0])
  | succ k1 =>
   have H := HA.out
   clear HA
   simp only [newellaw12_FlashGoes.l0] at H
   by_cases c3 : x6_1 < (l0.length : Int)
   ·rw [if_pos c3] at H
    have c3b0 : decide (x6_1 < (l0.length : Int)) = true := decide_eq_true c3
    clear c3
    by_cases c4 : 0 ≤ x6_1
    ·rw [if_pos c4] at H
     have c4b0 : decide (0 ≤ x6_1) = true := decide_eq_true c4
     clear c4
     have H' := Aside0.mk H
     clear H
     have p227 : 0 ≤ (x6_1 : Int) := of_decide_eq_true (by first | (with_reducible assumption) | assumption)
     have q227 : x6_1 < (l0.length : Int) := of_decide_eq_true (by first | (with_reducible assumption) | assumption)
     obtain ⟨ad227, A227_3, c227_3, e227, hx227_0, hx227_1, hx227_2, hx227_3, hl227_3, hi227_3⟩ := at_T26 HR0.out x6_1 p227 q227
     cases e227
     replace hx227_0 := (HB.out.cell (World.block_lt_of_cell? w _ hx227_0)).trans hx227_0
     replace hx227_1 := (HB.out.cell (World.block_lt_of_cell? w _ hx227_1)).trans hx227_1
     replace hx227_2 := (HB.out.cell (World.block_lt_of_cell? w _ hx227_2)).trans hx227_2
     replace hx227_3 := (HB.out.cell (World.block_lt_of_cell? w _ hx227_3)).trans hx227_3
     have HR227_3 := Aside0.mk hi227_3
     have HC227_3 := Aside0.mk hl227_3
     clear hi227_3 hl227_3
     replace p227 := eq_true p227
     replace q227 := eq_true q227
     go_wp2
     go_roundg k1
     case measure => have := HK1.out; omega
     case rel => exact ⟨(wrap64 (x5_1 + (((rd_T26 l0 x6_1).f3).length : Int))), (wrap64 (x6_1 + 1)), (by first | rfl | (simp; done) | (simp [*]; done)), (by first | rfl | (simp; done) | (simp [*]; done)), H', ⟨by have := HK1.out; omega⟩, ⟨by repeat (first | (with_reducible first | exact HB.out | apply below_alloc | apply pw_below_drewN | apply below_drew1) | exact HB.out)⟩⟩
    ·rw [if_neg c4] at H
     exact absurd H (by simp)
   ·rw [if_neg c3] at H
    have c3b0 : decide (x6_1 < (l0.length : Int)) = false := decide_eq_false c3
    clear c3
    have HC5 := Aside0.mk H
    clear H
    go_upto_region 6 with (fail)
    go_cut [37] (fun v37 wc => ∃ (kq : Nat) (x37_4 : Bool), v37 = .bool x37_4 ∧ Aside0 (newellaw12_FlashGoes.j1 kq l0 l1 x37_4 = some r) ∧ Aside0 (kq ≤ k1) ∧ Aside0 (Below w.heap.size w wc))
    case first =>
     have H := HC5.out
     clear HC5
     by_cases c6 : (l0.length : Int) > 12
     ·rw [if_pos c6] at H
      have c6b0 : decide (12 < (l0.length : Int)) = true := decide_eq_true c6
      have c6b1 : decide (12 < l0.length) = true := decide_eq_true (by omega)
      clear c6
      (first | rw [c6b0] | (simp only [i64_w, i32_w]; rw [c6b0]) | skip)
      have H' := Aside0.mk H
      clear H
      go_wp2
      go_meet
      case rel => exact ⟨_, (true), (by first | rfl | (simp; done) | (simp [*]; done)), H', ⟨by have := HK1.out; first | omega | exact Nat.le_refl _⟩, ⟨by repeat (first | (with_reducible first | exact HB.out | apply below_alloc | apply pw_below_drewN | apply below_drew1) | exact HB.out)⟩⟩
     ·rw [if_neg c6] at H
      have c6b0 : decide (12 < (l0.length : Int)) = false := decide_eq_false c6
      have c6b1 : decide (12 < l0.length) = false := decide_eq_false (by omega)
      clear c6
      (first | rw [c6b0] | (simp only [i64_w, i32_w]; rw [c6b0]) | skip)
      have H' := Aside0.mk H
      clear H
      go_wp2
      go_meet
      case rel => exact ⟨_, (decide (x5_1 > 5000)), (by first | rfl | (simp; done) | (simp [*]; done)), H', ⟨by have := HK1.out; first | omega | exact Nat.le_refl _⟩, ⟨by repeat (first | (with_reducible first | exact HB.out | apply below_alloc | apply pw_below_drewN | apply below_drew1) | exact HB.out)⟩⟩
    case rest =>
     clear HC5
     try clear c1
     try clear c2
     try clear p2
     try clear q2
     try clear hx2
     try clear c3
     try clear c3b0
     try clear c4
     try clear c4b0
     try clear c6
     try clear c6b0
     try clear c6b1
     try clear p6
     try clear hx227_0
     try clear hx227_1
     try clear hx227_2
     try clear hx227_3
     try clear p2
     try clear p227
     try clear q227
     obtain ⟨kq, x37_4, rfl, HA, HJ4, HB⟩ := hcut
     cases kq with
     | zero => exact absurd HA.out (by simp [newellaw12_FlashGoes.j1])
     | succ kj4 =>
      have H := HA.out
      clear HA
      simp only [newellaw12_FlashGoes.j1] at H
      by_cases c7 : x37_4 = true
      ·subst c7
       have H1 : ((newellaw12_awake.f kj4).bind fun t228 => (some t228)) = some r := by rw [if_pos rfl] at H; exact H
       clear H
       have H := H1
       clear H1
       replace H := Option.bind_eq_some_iff.mp H
       obtain ⟨t228, A80, H⟩ := H
       replace H : (some t228) = some r := H
       have A8 := Aside0.mk A80
       clear A80
       obtain rfl := Option.some.inj H
       go_wp2_with (first | ((with_reducible refine gate_callee (f := 10) rfl ?_); refine goesL_ (some 38) rfl rfl Tryd.func10 (by kernel_rfl) rfl #[] rfl (by (try simp only [List.map_toArray, List.map_cons, List.map_nil]); first | done | rfl | (simp only [List.length_drop, List.length_take]; rfl)) ?_; (with_reducible refine (newellaw12_awake.calls kj4  t228 _ A8.out (by first | exact HTAB.out | ((repeat (first | exact HTAB.out | (with_reducible refine Laid.tab_alloc ?_ _) | (with_reducible refine Laid.tab_drewN ?_ _) | (with_reducible refine Laid.tab_drew ?_))); done) | (refine Laid.tab_below' HTAB.out ?_; (repeat (first | (with_reducible first | exact HB.out | apply below_alloc | apply pw_below_drewN | apply below_drew1) | exact HB.out | (refine below_set ?_ (Aside0.out (by assumption)))))))).mono ?_); rintro e w9 ⟨rfl, hb⟩; refine ⟨_, rfl, ?_⟩; have n0_ := Aside0.mk (below_step (by repeat (first | (with_reducible first | exact HB.out | apply below_alloc | apply pw_below_drewN | apply below_drew1) | exact HB.out)) hb); clear HB; have HB := n0_; clear n0_; (try clear hb); (try clear hb2); (try clear hk); (try clear hi)))
       go_ret
       exact ⟨by first | rfl | (simp [errW_none, errW_some] <;> rfl) | (simp [*, errW_none, errW_some] <;> rfl), by repeat (first | (with_reducible first | exact HB.out | apply below_alloc | apply pw_below_drewN | apply below_drew1) | exact HB.out)⟩
      ·replace c7 := Bool.eq_false_iff.mpr c7
       subst c7
       have H1 : (newellaw12_FlashGoes.l1 kj4 l0 l1 0 ([] : List Int) ([] : List Int) 0 0 0 ([] : List Int)) = some r := by rw [if_neg (show ¬ (false = true) by decide)] at H; exact H
       clear H
       have H := H1
       clear H1
       have H' := Aside0.mk H
       clear H
       go_wp2_with (first | ((with_reducible refine gate_dst (N := 7) rfl ?_); (try (refine gate_guard (by rfl) ?_; dsimp only)); refine box_event ?hg (N := 7) ?hd (cs := #[.slice none 0 0, .slice none 0 0]) (t := 24) ?hr ?_; (case hd => rfl); (case hg => rfl); (case hr => first | (go_simp; done) | (go_simp; rfl)); intro gb229 hg w10 hbox hb; have n0_ := Aside0.mk (below_step (by repeat (first | (with_reducible first | exact HB.out | apply below_alloc | apply pw_below_drewN | apply below_drew1) | exact HB.out)) hb); have n1_ := Aside0.mk (hbox); have n2_ := Aside0.mk ((by rw [hg]; exact (below_size (by repeat (first | (with_reducible first | exact HB.out | apply below_alloc | apply pw_below_drewN | apply below_drew1) | exact HB.out))) : w.heap.size ≤ gb229)); have n3_ := Aside0.mk ((by rw [hg]; exact (below_size (by repeat (first | (with_reducible first | exact HB.out | apply below_alloc | apply pw_below_drewN | apply below_drew1) | exact HB.out))) : w.heap.size ≤ gb229)); clear HB; have HB := n0_; have BK229 := n1_; have GW229 := n2_; have GE229 := n3_; clear n0_ n1_ n2_ n3_; clear hb hbox hg; have hcz11_0 : w10.cell? ⟨gb229, 0, none⟩ = some (.slice none 0 0) := (blk_cell BK229.out 0).trans rfl; have hcz11_1 : w10.cell? ⟨gb229, 1, none⟩ = some (.slice none 0 0) := (blk_cell BK229.out 1).trans rfl; have hfz11_0 := blk_frozen BK229.out 0; have hfz11_1 := blk_frozen BK229.out 1) | ((with_reducible refine gate_dst (N := 8) rfl ?_); (try (refine gate_guard (by rfl) ?_; dsimp only)); refine box_event ?hg (N := 8) ?hd (cs := #[.int .i64 0, .int .i64 0, .int .i64 0, .slice none 0 0]) (t := 26) ?hr ?_; (case hd => rfl); (case hg => rfl); (case hr => first | (go_simp; done) | (go_simp; rfl)); intro gb230 hg w12 hbox hb; have n0_ := Aside0.mk (blk_below (g := gb229) (o := .cells #[.slice none 0 0, .slice none 0 0] 24 (0, 0)) (by (with_reducible repeat (first | refine blk_drewN ?_ _ | refine blk_drew ?_ | refine blk_alloc ?_ _)); refine blk_put (cs := #[.slice none 0 0, .slice none 0 0]) ?_ 1 _ rfl; (with_reducible repeat (first | refine blk_drewN ?_ _ | refine blk_drew ?_ | refine blk_alloc ?_ _)); refine blk_put (cs := #[.slice none 0 0, .slice none 0 0]) ?_ 0 _ rfl; (with_reducible repeat (first | refine blk_drewN ?_ _ | refine blk_drew ?_ | refine blk_alloc ?_ _)); exact BK229.out) hb); have n1_ := Aside0.mk (below_step (by repeat (first | (with_reducible first | exact HB.out | apply below_alloc | apply pw_below_drewN | apply below_drew1 | refine below_set ?_ GE229.out) | exact HB.out)) hb); have n2_ := Aside0.mk (hbox); have n3_ := Aside0.mk ((by rw [hg]; exact (below_size (by repeat (first | (with_reducible first | exact HB.out | apply below_alloc | apply pw_below_drewN | apply below_drew1 | refine below_set ?_ GE229.out) | exact HB.out))) : w.heap.size ≤ gb230)); have n4_ := Aside0.mk ((by rw [hg]; exact (below_size (by repeat (first | (with_reducible first | exact HB.out | apply below_alloc | apply pw_below_drewN | apply below_drew1 | refine below_set ?_ GE229.out) | exact HB.out))) : w.heap.size ≤ gb230)); have n5_ := Aside0.mk ((by rw [hg]; exact Nat.ne_of_lt (blk_lt (g := gb229) (o := .cells #[.slice none 0 0, .slice none 0 0] 24 (0, 0)) (by (with_reducible repeat (first | refine blk_drewN ?_ _ | refine blk_drew ?_ | refine blk_alloc ?_ _)); refine blk_put (cs := #[.slice none 0 0, .slice none 0 0]) ?_ 1 _ rfl; (with_reducible repeat (first | refine blk_drewN ?_ _ | refine blk_drew ?_ | refine blk_alloc ?_ _)); refine blk_put (cs := #[.slice none 0 0, .slice none 0 0]) ?_ 0 _ rfl; (with_reducible repeat (first | refine blk_drewN ?_ _ | refine blk_drew ?_ | refine blk_alloc ?_ _)); exact BK229.out)) : gb229 ≠ gb230)); have n6_ := Aside0.mk ((by rw [hg]; exact Nat.ne_of_gt (blk_lt (g := gb229) (o := .cells #[.slice none 0 0, .slice none 0 0] 24 (0, 0)) (by (with_reducible repeat (first | refine blk_drewN ?_ _ | refine blk_drew ?_ | refine blk_alloc ?_ _)); refine blk_put (cs := #[.slice none 0 0, .slice none 0 0]) ?_ 1 _ rfl; (with_reducible repeat (first | refine blk_drewN ?_ _ | refine blk_drew ?_ | refine blk_alloc ?_ _)); refine blk_put (cs := #[.slice none 0 0, .slice none 0 0]) ?_ 0 _ rfl; (with_reducible repeat (first | refine blk_drewN ?_ _ | refine blk_drew ?_ | refine blk_alloc ?_ _)); exact BK229.out)) : gb230 ≠ gb229)); clear BK229; clear HB; have BK229 := n0_; have HB := n1_; have BK230 := n2_; have GW230 := n3_; have GE230 := n4_; have NB229_230 := n5_; have NB230_229 := n6_; clear n0_ n1_ n2_ n3_ n4_ n5_ n6_; clear hb hbox hg; have hnb13 := NB230_229.out; have hnc13 := NB229_230.out; have hcz14_0 : w12.cell? ⟨gb230, 0, none⟩ = some (.int .i64 0) := (blk_cell BK230.out 0).trans rfl; have hcz14_1 : w12.cell? ⟨gb230, 1, none⟩ = some (.int .i64 0) := (blk_cell BK230.out 1).trans rfl; have hcz14_2 : w12.cell? ⟨gb230, 2, none⟩ = some (.int .i64 0) := (blk_cell BK230.out 2).trans rfl; have hcz14_3 : w12.cell? ⟨gb230, 3, none⟩ = some (.slice none 0 0) := (blk_cell BK230.out 3).trans rfl; have hfz14_0 := blk_frozen BK230.out 0; have hfz14_1 := blk_frozen BK230.out 1; have hfz14_2 := blk_frozen BK230.out 2; have hfz14_3 := blk_frozen BK230.out 3))
       go_loopg [9] kj4 (fun kq v9 w' => ∃ (x9_3 : Int) (x230000_3 : List Int) (x230001_3 : List Int) (x231000_3 : Int) (x231001_3 : Int) (x231002_3 : Int) (x231003_3 : List Int) (u230000 : Value) (u230001 : Value) (u231003 : Value), v9 = .int .i64 x9_3 ∧ Aside0 (newellaw12_FlashGoes.l1 kq l0 l1 x9_3 x230000_3 x230001_3 x231000_3 x231001_3 x231002_3 x231003_3 = some r) ∧ Aside0 (kq ≤ kj4) ∧ Aside0 (Kd.R (Kd.int .u8) 5 w' w.heap.size (fun k_ => some k_ ≠ (u230001 : Value).ownBlock ∧ some k_ ≠ (.slice none 0 0 : Value).ownBlock) u230000 x230000_3) ∧ Aside0 (Kd.R (Kd.int .u8) 5 w' w.heap.size (fun k_ => some k_ ≠ (u230000 : Value).ownBlock ∧ some k_ ≠ (.slice none 0 0 : Value).ownBlock) u230001 x230001_3) ∧ Aside0 (LastRow w u231003 x231003_3) ∧ Aside0 (w'.heap[gb229]? = some (.cells #[u230000, u230001] 24 (0, 0))) ∧ Aside0 (w'.heap[gb230]? = some (.cells #[.int .i64 x231000_3, .int .i64 x231001_3, .int .i64 x231002_3, u231003] 26 (0, 0))) ∧ Aside0 (Below w.heap.size w w'))
       case atStart => exact ⟨(0), (([] : List Int)), (([] : List Int)), (0), (0), (0), (([] : List Int)), (.slice none 0 0), (.slice none 0 0), (.slice none 0 0), (by first | rfl | (simp; done) | (simp [*]; done)), H', ⟨Nat.le_refl _⟩, ⟨by first | exact Kd.R_nil _ _ _ _ _ | exact Kd.N_nil _ _ _ _ _ | exact Kd.V_nil _ _ _ _ _ | exact Kd.Q_nil _ _ _ _ _ | exact Kd.S_nil _ _ _ _ _⟩, ⟨by first | exact Kd.R_nil _ _ _ _ _ | exact Kd.N_nil _ _ _ _ _ | exact Kd.V_nil _ _ _ _ _ | exact Kd.Q_nil _ _ _ _ _ | exact Kd.S_nil _ _ _ _ _⟩, ⟨last_nil _⟩, ⟨by (with_reducible repeat (first | refine blk_drewN ?_ _ | refine blk_drew ?_ | refine blk_alloc ?_ _)); refine blk_far ?_ NB229_230.out _; (with_reducible repeat (first | refine blk_drewN ?_ _ | refine blk_drew ?_ | refine blk_alloc ?_ _)); refine blk_far ?_ NB229_230.out _; (with_reducible repeat (first | refine blk_drewN ?_ _ | refine blk_drew ?_ | refine blk_alloc ?_ _)); refine blk_far ?_ NB229_230.out _; (with_reducible repeat (first | refine blk_drewN ?_ _ | refine blk_drew ?_ | refine blk_alloc ?_ _)); refine blk_far ?_ NB229_230.out _; (with_reducible repeat (first | refine blk_drewN ?_ _ | refine blk_drew ?_ | refine blk_alloc ?_ _)); exact BK229.out⟩, ⟨by (with_reducible repeat (first | refine blk_drewN ?_ _ | refine blk_drew ?_ | refine blk_alloc ?_ _)); refine blk_put (cs := #[.int .i64 0, .int .i64 0, .int .i64 0, .slice none 0 0]) ?_ 3 _ rfl; (with_reducible repeat (first | refine blk_drewN ?_ _ | refine blk_drew ?_ | refine blk_alloc ?_ _)); refine blk_put (cs := #[.int .i64 0, .int .i64 0, .int .i64 0, .slice none 0 0]) ?_ 2 _ rfl; (with_reducible repeat (first | refine blk_drewN ?_ _ | refine blk_drew ?_ | refine blk_alloc ?_ _)); refine blk_put (cs := #[.int .i64 0, .int .i64 0, .int .i64 0, .slice none 0 0]) ?_ 1 _ rfl; (with_reducible repeat (first | refine blk_drewN ?_ _ | refine blk_drew ?_ | refine blk_alloc ?_ _)); refine blk_put (cs := #[.int .i64 0, .int .i64 0, .int .i64 0, .slice none 0 0]) ?_ 0 _ rfl; (with_reducible repeat (first | refine blk_drewN ?_ _ | refine blk_drew ?_ | refine blk_alloc ?_ _)); exact BK230.out⟩, ⟨by repeat (first | (with_reducible first | exact HB.out | apply below_alloc | apply pw_below_drewN | apply below_drew1 | refine below_set ?_ GE229.out | refine below_set ?_ GE230.out) | exact HB.out)⟩⟩
       case round =>
        clear H'
        try clear c1
        try clear c2
        try clear p2
        try clear q2
        try clear hx2
        try clear c3
        try clear c3b0
        try clear c4
        try clear c4b0
        try clear c6
        try clear c6b0
        try clear c6b1
        try clear p6
        try clear c7
        try clear c8
        try clear c10
        try clear c13
        try clear hcz11_0
        try clear hcz11_1
        try clear hcz14_0
        try clear hcz14_1
        try clear hcz14_2
        try clear hcz14_3
        try clear hfz11_0
        try clear hfz11_1
        try clear hfz14_0
        try clear hfz14_1
        try clear hfz14_2
        try clear hfz14_3
        try clear hx227_0
        try clear hx227_1
        try clear hx227_2
        try clear hx227_3
        try clear p2
        try clear p227
        try clear p6
        try clear q2
        try clear q227
        obtain ⟨x9_3, x230000_3, x230001_3, x231000_3, x231001_3, x231002_3, x231003_3, u230000, u230001, u231003, rfl, HA, HK3, HO_230000, HO_230001, HL, BK229, BK230, HB⟩ := hrel
        have HO_231003 := phantom_ (fun k_ => some k_ ≠ (u230000 : Value).ownBlock ∧ some k_ ≠ (u230001 : Value).ownBlock) HO_230000
        cases gk with
        | zero => exact absurd HA.out (by simp [newellaw12_FlashGoes.l1])
        | succ k3 =>
         have H := HA.out
         clear HA
         simp only [newellaw12_FlashGoes.l1] at H
         have HC15 := Aside0.mk H
         clear H
         go_upto_region 11 with (fail)
         go_cut [50] (fun v50 wc => ∃ (kq : Nat) (x50_14 : Bool), v50 = .bool x50_14 ∧ Aside0 (newellaw12_FlashGoes.j3 kq l0 l1 x9_3 x50_14 x230000_3 x230001_3 x231000_3 x231001_3 x231002_3 x231003_3 = some r) ∧ Aside0 (kq ≤ k3) ∧ Aside0 (Kd.R (Kd.int .u8) 5 wc w.heap.size (fun k_ => some k_ ≠ (u230001 : Value).ownBlock ∧ some k_ ≠ (.slice none 0 0 : Value).ownBlock) u230000 x230000_3) ∧ Aside0 (Kd.R (Kd.int .u8) 5 wc w.heap.size (fun k_ => some k_ ≠ (u230000 : Value).ownBlock ∧ some k_ ≠ (.slice none 0 0 : Value).ownBlock) u230001 x230001_3) ∧ Aside0 (LastRow w u231003 x231003_3) ∧ Aside0 (wc.heap[gb229]? = some (.cells #[u230000, u230001] 24 (0, 0))) ∧ Aside0 (wc.heap[gb230]? = some (.cells #[.int .i64 x231000_3, .int .i64 x231001_3, .int .i64 x231002_3, u231003] 26 (0, 0))) ∧ Aside0 (Below w.heap.size w wc))
         case first =>
          have H := HC15.out
          clear HC15
          by_cases c16 : x9_3 < (l0.length : Int)
          ·rw [if_pos c16] at H
           have c16b0 : decide (x9_3 < (l0.length : Int)) = true := decide_eq_true c16
           clear c16
           (first | rw [c16b0] | (simp only [i64_w, i32_w]; rw [c16b0]) | skip)
           have H' := Aside0.mk H
           clear H
           go_wp2
           go_meet
           case rel => exact ⟨_, (decide (x9_3 < (l1.length : Int))), (by first | rfl | (simp; done) | (simp [*]; done)), H', ⟨by have := HK1.out; have := HJ4.out; have := HK3.out; first | omega | exact Nat.le_refl _⟩, ⟨by (with_reducible repeat (first | apply Kd.R_alloc | apply Kd.R_drewN | apply Kd.R_drew)); exact HO_230000.out⟩, ⟨by (with_reducible repeat (first | apply Kd.R_alloc | apply Kd.R_drewN | apply Kd.R_drew)); exact HO_230001.out⟩, HL, ⟨by (with_reducible repeat (first | refine blk_drewN ?_ _ | refine blk_drew ?_ | refine blk_alloc ?_ _)); exact BK229.out⟩, ⟨by (with_reducible repeat (first | refine blk_drewN ?_ _ | refine blk_drew ?_ | refine blk_alloc ?_ _)); exact BK230.out⟩, ⟨by repeat (first | (with_reducible first | exact HB.out | apply below_alloc | apply pw_below_drewN | apply below_drew1 | refine below_set ?_ GE229.out | refine below_set ?_ GE230.out) | exact HB.out)⟩⟩
          ·rw [if_neg c16] at H
           have c16b0 : decide (x9_3 < (l0.length : Int)) = false := decide_eq_false c16
           clear c16
           (first | rw [c16b0] | (simp only [i64_w, i32_w]; rw [c16b0]) | skip)
           have H' := Aside0.mk H
           clear H
           go_wp2
           go_meet
           case rel => exact ⟨_, (false), (by first | rfl | (simp; done) | (simp [*]; done)), H', ⟨by have := HK1.out; have := HJ4.out; have := HK3.out; first | omega | exact Nat.le_refl _⟩, ⟨by (with_reducible repeat (first | apply Kd.R_alloc | apply Kd.R_drewN | apply Kd.R_drew)); exact HO_230000.out⟩, ⟨by (with_reducible repeat (first | apply Kd.R_alloc | apply Kd.R_drewN | apply Kd.R_drew)); exact HO_230001.out⟩, HL, ⟨by (with_reducible repeat (first | refine blk_drewN ?_ _ | refine blk_drew ?_ | refine blk_alloc ?_ _)); exact BK229.out⟩, ⟨by (with_reducible repeat (first | refine blk_drewN ?_ _ | refine blk_drew ?_ | refine blk_alloc ?_ _)); exact BK230.out⟩, ⟨by repeat (first | (with_reducible first | exact HB.out | apply below_alloc | apply pw_below_drewN | apply below_drew1 | refine below_set ?_ GE229.out | refine below_set ?_ GE230.out) | exact HB.out)⟩⟩
         case rest =>
          clear HC15
          try clear c1
          try clear c2
          try clear p2
          try clear q2
          try clear hx2
          try clear c3
          try clear c3b0
          try clear c4
          try clear c4b0
          try clear c6
          try clear c6b0
          try clear c6b1
          try clear p6
          try clear c7
          try clear c8
          try clear c10
          try clear c13
          try clear c16
          try clear c16b0
          try clear hcz11_0
          try clear hcz11_1
          try clear hcz14_0
          try clear hcz14_1
          try clear hcz14_2
          try clear hcz14_3
          try clear hfz11_0
          try clear hfz11_1
          try clear hfz14_0
          try clear hfz14_1
          try clear hfz14_2
          try clear hfz14_3
          try clear hx227_0
          try clear hx227_1
          try clear hx227_2
          try clear hx227_3
          try clear p2
          try clear p227
          try clear p6
          try clear q2
          try clear q227
          obtain ⟨kq, x50_14, rfl, HA, HJ14, HO_230000, HO_230001, HL, BK229, BK230, HB⟩ := hcut
          have HO_231003 := phantom_ (fun k_ => some k_ ≠ (u230000 : Value).ownBlock ∧ some k_ ≠ (u230001 : Value).ownBlock) HO_230000
          cases kq with
          | zero => exact absurd HA.out (by simp [newellaw12_FlashGoes.j3])
          | succ kj14 =>
           have H := HA.out
           clear HA
           simp only [newellaw12_FlashGoes.j3] at H
           by_cases c17 : x50_14 = true
           ·subst c17
            have H1 : (if 0 ≤ x9_3 then (if x9_3 < (l0.length : Int) then (if x9_3 < (l1.length : Int) then ((flash_Write.f kj14 x230000_3 x230001_3 (wrap64 (x9_3 + 1)) ((rd_T26 l0 x9_3).f1) ((rd_T26 l0 x9_3).f2) ((rd_T26 l0 x9_3).f3) (rd l1 x9_3)).bind fun bt234 => (if bt234.2.2.2 = 0 then (if bt234.2.2.1 = true then (newellaw12_FlashGoes.j4 kj14 l0 l1 x9_3 bt234.1 bt234.2.1 (wrap64 (x9_3 + 1)) ((rd_T26 l0 x9_3).f1) ((rd_T26 l0 x9_3).f2) ((rd_T26 l0 x9_3).f3)) else (newellaw12_FlashGoes.j4 kj14 l0 l1 x9_3 bt234.1 bt234.2.1 x231000_3 x231001_3 x231002_3 x231003_3)) else ((newelref12_May.f (wrap64 (x9_3 + 1)) ((rd_T26 l0 x9_3).f1) ((rd_T26 l0 x9_3).f2) ((rd_T26 l0 x9_3).f3)).bind fun t243 => (if t243 = true then (none) else (newellaw12_FlashGoes.j6 kj14 l0 l1 x9_3 x230000_3 x230001_3 x231000_3 x231001_3 x231002_3 x231003_3))))) else (none)) else (none)) else (none)) = some r := by rw [if_pos rfl] at H; exact H
            clear H
            have H := H1
            clear H1
            have HC18 := Aside0.mk H
            clear H
            go_upto_block 3 with (fail)
            go_cut [] (fun wc => ∃ (kq : Nat) (x230000_17 : List Int) (x230001_17 : List Int) (x231000_17 : Int) (x231001_17 : Int) (x231002_17 : Int) (x231003_17 : List Int) (u230000 : Value) (u230001 : Value) (u231003 : Value), Aside0 (newellaw12_FlashGoes.j6 kq l0 l1 x9_3 x230000_17 x230001_17 x231000_17 x231001_17 x231002_17 x231003_17 = some r) ∧ Aside0 (kq ≤ kj14) ∧ Aside0 (Kd.R (Kd.int .u8) 5 wc w.heap.size (fun k_ => some k_ ≠ (u230001 : Value).ownBlock ∧ some k_ ≠ (.slice none 0 0 : Value).ownBlock) u230000 x230000_17) ∧ Aside0 (Kd.R (Kd.int .u8) 5 wc w.heap.size (fun k_ => some k_ ≠ (u230000 : Value).ownBlock ∧ some k_ ≠ (.slice none 0 0 : Value).ownBlock) u230001 x230001_17) ∧ Aside0 (LastRow w u231003 x231003_17) ∧ Aside0 (wc.heap[gb229]? = some (.cells #[u230000, u230001] 24 (0, 0))) ∧ Aside0 (wc.heap[gb230]? = some (.cells #[.int .i64 x231000_17, .int .i64 x231001_17, .int .i64 x231002_17, u231003] 26 (0, 0))) ∧ Aside0 (Below w.heap.size w wc))
            case first =>
             have H := HC18.out
             clear HC18
             by_cases c19 : 0 ≤ x9_3
             ·rw [if_pos c19] at H
              have c19b0 : decide (0 ≤ x9_3) = true := decide_eq_true c19
              clear c19
              (first | rw [c19b0] | (simp only [i64_w, i32_w]; rw [c19b0]) | skip)
              by_cases c20 : x9_3 < (l0.length : Int)
              ·rw [if_pos c20] at H
               have c20b0 : decide (x9_3 < (l0.length : Int)) = true := decide_eq_true c20
               clear c20
               by_cases c21 : x9_3 < (l1.length : Int)
               ·rw [if_pos c21] at H
                have c21b0 : decide (x9_3 < (l1.length : Int)) = true := decide_eq_true c21
                clear c21
                replace H := Option.bind_eq_some_iff.mp H
                obtain ⟨⟨t234, t237, t240, t241⟩, A220, H⟩ := H
                replace H : (if t241 = 0 then (if t240 = true then (newellaw12_FlashGoes.j4 kj14 l0 l1 x9_3 t234 t237 (wrap64 (x9_3 + 1)) ((rd_T26 l0 x9_3).f1) ((rd_T26 l0 x9_3).f2) ((rd_T26 l0 x9_3).f3)) else (newellaw12_FlashGoes.j4 kj14 l0 l1 x9_3 t234 t237 x231000_3 x231001_3 x231002_3 x231003_3)) else ((newelref12_May.f (wrap64 (x9_3 + 1)) ((rd_T26 l0 x9_3).f1) ((rd_T26 l0 x9_3).f2) ((rd_T26 l0 x9_3).f3)).bind fun t243 => (if t243 = true then (none) else (newellaw12_FlashGoes.j6 kj14 l0 l1 x9_3 x230000_3 x230001_3 x231000_3 x231001_3 x231002_3 x231003_3)))) = some r := H
                have A22 := Aside0.mk A220
                clear A220
                by_cases c23 : t241 = 0
                ·rw [if_pos c23] at H
                 have c23b0 : (t241 == 0) = true := beq_iff_eq.mpr c23
                 have c23b1 : (t241 != 0) = false := bne_eq_false_iff_eq.mpr c23
                 clear c23
                 have HC24 := Aside0.mk H
                 clear H
                 have p231 : 0 ≤ (x9_3 : Int) := of_decide_eq_true (by first | (with_reducible assumption) | assumption)
                 have q231 : x9_3 < (l0.length : Int) := of_decide_eq_true (by first | (with_reducible assumption) | assumption)
                 obtain ⟨ad231, A231_3, c231_3, e231, hx231_0, hx231_1, hx231_2, hx231_3, hl231_3, hi231_3⟩ := at_T26 HR0.out x9_3 p231 q231
                 cases e231
                 replace hx231_0 := (HB.out.cell (World.block_lt_of_cell? w _ hx231_0)).trans hx231_0
                 replace hx231_1 := (HB.out.cell (World.block_lt_of_cell? w _ hx231_1)).trans hx231_1
                 replace hx231_2 := (HB.out.cell (World.block_lt_of_cell? w _ hx231_2)).trans hx231_2
                 replace hx231_3 := (HB.out.cell (World.block_lt_of_cell? w _ hx231_3)).trans hx231_3
                 have HR231_3 := Aside0.mk hi231_3
                 have HC231_3 := Aside0.mk hl231_3
                 clear hi231_3 hl231_3
                 replace p231 := eq_true p231
                 replace q231 := eq_true q231
                 try go_wp2_with (first | ((with_reducible refine gate_dst (N := 10) rfl ?_); (try (refine gate_guard (by rfl) ?_; dsimp only)); refine box_event ?hg (N := 10) ?hd (cs := #[.int .i64 0, .int .i64 0, .int .i64 0, .slice none 0 0]) (t := 26) ?hr ?_; (case hd => rfl); (case hg => rfl); (case hr => first | (go_simp; done) | (go_simp; rfl)); intro gb232 hg w25 hbox hb; have n0_ := Aside0.mk (Kd.R_below (by (with_reducible repeat (first | apply Kd.R_alloc | apply Kd.R_drewN | apply Kd.R_drew)); exact HO_230000.out) hb); have n1_ := Aside0.mk (Kd.R_below (by (with_reducible repeat (first | apply Kd.R_alloc | apply Kd.R_drewN | apply Kd.R_drew)); exact HO_230001.out) hb); have n2_ := Aside0.mk (Kd.R_below (by (with_reducible repeat (first | apply Kd.R_alloc | apply Kd.R_drewN | apply Kd.R_drew)); exact HO_231003.out) hb); have n3_ := Aside0.mk (blk_below (g := gb229) (o := .cells #[u230000, u230001] 24 (0, 0)) (by (with_reducible repeat (first | refine blk_drewN ?_ _ | refine blk_drew ?_ | refine blk_alloc ?_ _)); exact BK229.out) hb); have n4_ := Aside0.mk (blk_below (g := gb230) (o := .cells #[.int .i64 x231000_3, .int .i64 x231001_3, .int .i64 x231002_3, u231003] 26 (0, 0)) (by (with_reducible repeat (first | refine blk_drewN ?_ _ | refine blk_drew ?_ | refine blk_alloc ?_ _)); exact BK230.out) hb); have n5_ := Aside0.mk (below_step (by repeat (first | (with_reducible first | exact HB.out | apply below_alloc | apply pw_below_drewN | apply below_drew1 | refine below_set ?_ GE229.out | refine below_set ?_ GE230.out) | exact HB.out)) hb); have n6_ := Aside0.mk (hbox); have n7_ := Aside0.mk ((by rw [hg]; exact (below_size (by repeat (first | (with_reducible first | exact HB.out | apply below_alloc | apply pw_below_drewN | apply below_drew1 | refine below_set ?_ GE229.out | refine below_set ?_ GE230.out) | exact HB.out))) : w.heap.size ≤ gb232)); have n8_ := Aside0.mk ((by rw [hg]; exact (below_size (by repeat (first | (with_reducible first | exact HB.out | apply below_alloc | apply pw_below_drewN | apply below_drew1 | refine below_set ?_ GE229.out | refine below_set ?_ GE230.out) | exact HB.out))) : w.heap.size ≤ gb232)); have n9_ := Aside0.mk ((by rw [hg]; exact Nat.ne_of_lt (blk_lt (g := gb229) (o := .cells #[u230000, u230001] 24 (0, 0)) (by (with_reducible repeat (first | refine blk_drewN ?_ _ | refine blk_drew ?_ | refine blk_alloc ?_ _)); exact BK229.out)) : gb229 ≠ gb232)); have n10_ := Aside0.mk ((by rw [hg]; exact Nat.ne_of_gt (blk_lt (g := gb229) (o := .cells #[u230000, u230001] 24 (0, 0)) (by (with_reducible repeat (first | refine blk_drewN ?_ _ | refine blk_drew ?_ | refine blk_alloc ?_ _)); exact BK229.out)) : gb232 ≠ gb229)); have n11_ := Aside0.mk ((by rw [hg]; exact Nat.ne_of_lt (blk_lt (g := gb230) (o := .cells #[.int .i64 x231000_3, .int .i64 x231001_3, .int .i64 x231002_3, u231003] 26 (0, 0)) (by (with_reducible repeat (first | refine blk_drewN ?_ _ | refine blk_drew ?_ | refine blk_alloc ?_ _)); exact BK230.out)) : gb230 ≠ gb232)); have n12_ := Aside0.mk ((by rw [hg]; exact Nat.ne_of_gt (blk_lt (g := gb230) (o := .cells #[.int .i64 x231000_3, .int .i64 x231001_3, .int .i64 x231002_3, u231003] 26 (0, 0)) (by (with_reducible repeat (first | refine blk_drewN ?_ _ | refine blk_drew ?_ | refine blk_alloc ?_ _)); exact BK230.out)) : gb232 ≠ gb230)); clear HO_230000; clear HO_230001; clear HO_231003; clear BK229; clear BK230; clear HB; have HO_230000 := n0_; have HO_230001 := n1_; have HO_231003 := n2_; have BK229 := n3_; have BK230 := n4_; have HB := n5_; have BK232 := n6_; have GW232 := n7_; have GE232 := n8_; have NB229_232 := n9_; have NB232_229 := n10_; have NB230_232 := n11_; have NB232_230 := n12_; clear n0_ n1_ n2_ n3_ n4_ n5_ n6_ n7_ n8_ n9_ n10_ n11_ n12_; clear hb hbox hg; have hnb26 := NB232_229.out; have hnc26 := NB229_232.out; have hnb27 := NB232_230.out; have hnc27 := NB230_232.out; have hcz28_0 : w25.cell? ⟨gb232, 0, none⟩ = some (.int .i64 0) := (blk_cell BK232.out 0).trans rfl; have hcz28_1 : w25.cell? ⟨gb232, 1, none⟩ = some (.int .i64 0) := (blk_cell BK232.out 1).trans rfl; have hcz28_2 : w25.cell? ⟨gb232, 2, none⟩ = some (.int .i64 0) := (blk_cell BK232.out 2).trans rfl; have hcz28_3 : w25.cell? ⟨gb232, 3, none⟩ = some (.slice none 0 0) := (blk_cell BK232.out 3).trans rfl; have hfz28_0 := blk_frozen BK232.out 0; have hfz28_1 := blk_frozen BK232.out 1; have hfz28_2 := blk_frozen BK232.out 2; have hfz28_3 := blk_frozen BK232.out 3; obtain ⟨Ao29, co29, eo29⟩ := Kd.R_slice HO_230000.out; subst eo29; obtain ⟨Ao30, co30, eo30⟩ := Kd.R_slice HO_230001.out; subst eo30))
                 have n0_ : Aside0 (Kd.R (Kd.int .u8) 5 (((((w25.setCell ⟨gb232, 0, none⟩ (.int .i64 ((rd_T26 l0 x9_3).f0))).setCell ⟨gb232, 1, none⟩ (.int .i64 ((rd_T26 l0 x9_3).f1))).setCell ⟨gb232, 2, none⟩ (.int .i64 ((rd_T26 l0 x9_3).f2))).setCell ⟨gb232, 3, none⟩ (.slice A231_3 ((rd_T26 l0 x9_3).f3).length c231_3)).setCell ⟨gb232, 0, none⟩ (.int .i64 (wrap64 (x9_3 + 1)))) w.heap.size (fun k_ => some k_ ≠ (.slice Ao30 x230001_3.length co30 : Value).ownBlock ∧ some k_ ≠ (.slice none 0 0 : Value).ownBlock) (.slice Ao29 x230000_3.length co29) x230000_3) := ⟨by (with_reducible repeat (first | apply Kd.R_alloc | apply Kd.R_drewN | apply Kd.R_drew)); exact Kd.R_mono (Kd.R_far (p := ⟨gb232, 0, none⟩) (Kd.R_far (p := ⟨gb232, 3, none⟩) (Kd.R_far (p := ⟨gb232, 2, none⟩) (Kd.R_far (p := ⟨gb232, 1, none⟩) (Kd.R_far (p := ⟨gb232, 0, none⟩) (Kd.R_types HO_230000.out BK232.out (by decide)) (fun _ hk => hk.2) (.int .i64 ((rd_T26 l0 x9_3).f0))) (fun _ hk => hk.2) (.int .i64 ((rd_T26 l0 x9_3).f1))) (fun _ hk => hk.2) (.int .i64 ((rd_T26 l0 x9_3).f2))) (fun _ hk => hk.2) (.slice A231_3 ((rd_T26 l0 x9_3).f3).length c231_3)) (fun _ hk => hk.2) (.int .i64 (wrap64 (x9_3 + 1)))) (fun _ hk => ⟨hk.1.1, hk.1.2⟩)⟩
                 have n1_ : Aside0 (Kd.R (Kd.int .u8) 5 (((((w25.setCell ⟨gb232, 0, none⟩ (.int .i64 ((rd_T26 l0 x9_3).f0))).setCell ⟨gb232, 1, none⟩ (.int .i64 ((rd_T26 l0 x9_3).f1))).setCell ⟨gb232, 2, none⟩ (.int .i64 ((rd_T26 l0 x9_3).f2))).setCell ⟨gb232, 3, none⟩ (.slice A231_3 ((rd_T26 l0 x9_3).f3).length c231_3)).setCell ⟨gb232, 0, none⟩ (.int .i64 (wrap64 (x9_3 + 1)))) w.heap.size (fun k_ => some k_ ≠ (.slice Ao29 x230000_3.length co29 : Value).ownBlock ∧ some k_ ≠ (.slice none 0 0 : Value).ownBlock) (.slice Ao30 x230001_3.length co30) x230001_3) := ⟨by (with_reducible repeat (first | apply Kd.R_alloc | apply Kd.R_drewN | apply Kd.R_drew)); exact Kd.R_mono (Kd.R_far (p := ⟨gb232, 0, none⟩) (Kd.R_far (p := ⟨gb232, 3, none⟩) (Kd.R_far (p := ⟨gb232, 2, none⟩) (Kd.R_far (p := ⟨gb232, 1, none⟩) (Kd.R_far (p := ⟨gb232, 0, none⟩) (Kd.R_types HO_230001.out BK232.out (by decide)) (fun _ hk => hk.2) (.int .i64 ((rd_T26 l0 x9_3).f0))) (fun _ hk => hk.2) (.int .i64 ((rd_T26 l0 x9_3).f1))) (fun _ hk => hk.2) (.int .i64 ((rd_T26 l0 x9_3).f2))) (fun _ hk => hk.2) (.slice A231_3 ((rd_T26 l0 x9_3).f3).length c231_3)) (fun _ hk => hk.2) (.int .i64 (wrap64 (x9_3 + 1)))) (fun _ hk => ⟨hk.1.1, hk.1.2⟩)⟩
                 have n2_ : Aside0 (Kd.R (Kd.int .u8) 5 (((((w25.setCell ⟨gb232, 0, none⟩ (.int .i64 ((rd_T26 l0 x9_3).f0))).setCell ⟨gb232, 1, none⟩ (.int .i64 ((rd_T26 l0 x9_3).f1))).setCell ⟨gb232, 2, none⟩ (.int .i64 ((rd_T26 l0 x9_3).f2))).setCell ⟨gb232, 3, none⟩ (.slice A231_3 ((rd_T26 l0 x9_3).f3).length c231_3)).setCell ⟨gb232, 0, none⟩ (.int .i64 (wrap64 (x9_3 + 1)))) w.heap.size (fun k_ => some k_ ≠ (.slice Ao29 x230000_3.length co29 : Value).ownBlock ∧ some k_ ≠ (.slice Ao30 x230001_3.length co30 : Value).ownBlock) (.slice none 0 0) ([] : List Int)) := ⟨by (with_reducible repeat (first | apply Kd.R_alloc | apply Kd.R_drewN | apply Kd.R_drew)); exact Kd.R_mono (Kd.R_far (p := ⟨gb232, 0, none⟩) (Kd.R_far (p := ⟨gb232, 3, none⟩) (Kd.R_far (p := ⟨gb232, 2, none⟩) (Kd.R_far (p := ⟨gb232, 1, none⟩) (Kd.R_far (p := ⟨gb232, 0, none⟩) (Kd.R_types HO_231003.out BK232.out (by decide)) (fun _ hk => hk.2) (.int .i64 ((rd_T26 l0 x9_3).f0))) (fun _ hk => hk.2) (.int .i64 ((rd_T26 l0 x9_3).f1))) (fun _ hk => hk.2) (.int .i64 ((rd_T26 l0 x9_3).f2))) (fun _ hk => hk.2) (.slice A231_3 ((rd_T26 l0 x9_3).f3).length c231_3)) (fun _ hk => hk.2) (.int .i64 (wrap64 (x9_3 + 1)))) (fun _ hk => ⟨hk.1.1, hk.1.2⟩)⟩
                 have n3_ : Aside0 ((((((w25.setCell ⟨gb232, 0, none⟩ (.int .i64 ((rd_T26 l0 x9_3).f0))).setCell ⟨gb232, 1, none⟩ (.int .i64 ((rd_T26 l0 x9_3).f1))).setCell ⟨gb232, 2, none⟩ (.int .i64 ((rd_T26 l0 x9_3).f2))).setCell ⟨gb232, 3, none⟩ (.slice A231_3 ((rd_T26 l0 x9_3).f3).length c231_3)).setCell ⟨gb232, 0, none⟩ (.int .i64 (wrap64 (x9_3 + 1)))).heap[gb229]? = some (.cells #[.slice Ao29 x230000_3.length co29, .slice Ao30 x230001_3.length co30] 24 (0, 0))) := ⟨by (with_reducible repeat (first | refine blk_drewN ?_ _ | refine blk_drew ?_ | refine blk_alloc ?_ _)); refine blk_far ?_ NB229_232.out _; (with_reducible repeat (first | refine blk_drewN ?_ _ | refine blk_drew ?_ | refine blk_alloc ?_ _)); refine blk_far ?_ NB229_232.out _; (with_reducible repeat (first | refine blk_drewN ?_ _ | refine blk_drew ?_ | refine blk_alloc ?_ _)); refine blk_far ?_ NB229_232.out _; (with_reducible repeat (first | refine blk_drewN ?_ _ | refine blk_drew ?_ | refine blk_alloc ?_ _)); refine blk_far ?_ NB229_232.out _; (with_reducible repeat (first | refine blk_drewN ?_ _ | refine blk_drew ?_ | refine blk_alloc ?_ _)); refine blk_far ?_ NB229_232.out _; (with_reducible repeat (first | refine blk_drewN ?_ _ | refine blk_drew ?_ | refine blk_alloc ?_ _)); exact BK229.out⟩
                 have n4_ : Aside0 ((((((w25.setCell ⟨gb232, 0, none⟩ (.int .i64 ((rd_T26 l0 x9_3).f0))).setCell ⟨gb232, 1, none⟩ (.int .i64 ((rd_T26 l0 x9_3).f1))).setCell ⟨gb232, 2, none⟩ (.int .i64 ((rd_T26 l0 x9_3).f2))).setCell ⟨gb232, 3, none⟩ (.slice A231_3 ((rd_T26 l0 x9_3).f3).length c231_3)).setCell ⟨gb232, 0, none⟩ (.int .i64 (wrap64 (x9_3 + 1)))).heap[gb230]? = some (.cells #[.int .i64 x231000_3, .int .i64 x231001_3, .int .i64 x231002_3, u231003] 26 (0, 0))) := ⟨by (with_reducible repeat (first | refine blk_drewN ?_ _ | refine blk_drew ?_ | refine blk_alloc ?_ _)); refine blk_far ?_ NB230_232.out _; (with_reducible repeat (first | refine blk_drewN ?_ _ | refine blk_drew ?_ | refine blk_alloc ?_ _)); refine blk_far ?_ NB230_232.out _; (with_reducible repeat (first | refine blk_drewN ?_ _ | refine blk_drew ?_ | refine blk_alloc ?_ _)); refine blk_far ?_ NB230_232.out _; (with_reducible repeat (first | refine blk_drewN ?_ _ | refine blk_drew ?_ | refine blk_alloc ?_ _)); refine blk_far ?_ NB230_232.out _; (with_reducible repeat (first | refine blk_drewN ?_ _ | refine blk_drew ?_ | refine blk_alloc ?_ _)); refine blk_far ?_ NB230_232.out _; (with_reducible repeat (first | refine blk_drewN ?_ _ | refine blk_drew ?_ | refine blk_alloc ?_ _)); exact BK230.out⟩
                 have n5_ : Aside0 ((((((w25.setCell ⟨gb232, 0, none⟩ (.int .i64 ((rd_T26 l0 x9_3).f0))).setCell ⟨gb232, 1, none⟩ (.int .i64 ((rd_T26 l0 x9_3).f1))).setCell ⟨gb232, 2, none⟩ (.int .i64 ((rd_T26 l0 x9_3).f2))).setCell ⟨gb232, 3, none⟩ (.slice A231_3 ((rd_T26 l0 x9_3).f3).length c231_3)).setCell ⟨gb232, 0, none⟩ (.int .i64 (wrap64 (x9_3 + 1)))).heap[gb232]? = some (.cells #[.int .i64 (wrap64 (x9_3 + 1)), .int .i64 ((rd_T26 l0 x9_3).f1), .int .i64 ((rd_T26 l0 x9_3).f2), .slice A231_3 ((rd_T26 l0 x9_3).f3).length c231_3] 26 (0, 0))) := ⟨by (with_reducible repeat (first | refine blk_drewN ?_ _ | refine blk_drew ?_ | refine blk_alloc ?_ _)); refine blk_put (cs := #[.int .i64 ((rd_T26 l0 x9_3).f0), .int .i64 ((rd_T26 l0 x9_3).f1), .int .i64 ((rd_T26 l0 x9_3).f2), .slice A231_3 ((rd_T26 l0 x9_3).f3).length c231_3]) ?_ 0 _ rfl; (with_reducible repeat (first | refine blk_drewN ?_ _ | refine blk_drew ?_ | refine blk_alloc ?_ _)); refine blk_put (cs := #[.int .i64 ((rd_T26 l0 x9_3).f0), .int .i64 ((rd_T26 l0 x9_3).f1), .int .i64 ((rd_T26 l0 x9_3).f2), .slice none 0 0]) ?_ 3 _ rfl; (with_reducible repeat (first | refine blk_drewN ?_ _ | refine blk_drew ?_ | refine blk_alloc ?_ _)); refine blk_put (cs := #[.int .i64 ((rd_T26 l0 x9_3).f0), .int .i64 ((rd_T26 l0 x9_3).f1), .int .i64 0, .slice none 0 0]) ?_ 2 _ rfl; (with_reducible repeat (first | refine blk_drewN ?_ _ | refine blk_drew ?_ | refine blk_alloc ?_ _)); refine blk_put (cs := #[.int .i64 ((rd_T26 l0 x9_3).f0), .int .i64 0, .int .i64 0, .slice none 0 0]) ?_ 1 _ rfl; (with_reducible repeat (first | refine blk_drewN ?_ _ | refine blk_drew ?_ | refine blk_alloc ?_ _)); refine blk_put (cs := #[.int .i64 0, .int .i64 0, .int .i64 0, .slice none 0 0]) ?_ 0 _ rfl; (with_reducible repeat (first | refine blk_drewN ?_ _ | refine blk_drew ?_ | refine blk_alloc ?_ _)); exact BK232.out⟩
                 have n6_ : Aside0 (Below w.heap.size w (((((w25.setCell ⟨gb232, 0, none⟩ (.int .i64 ((rd_T26 l0 x9_3).f0))).setCell ⟨gb232, 1, none⟩ (.int .i64 ((rd_T26 l0 x9_3).f1))).setCell ⟨gb232, 2, none⟩ (.int .i64 ((rd_T26 l0 x9_3).f2))).setCell ⟨gb232, 3, none⟩ (.slice A231_3 ((rd_T26 l0 x9_3).f3).length c231_3)).setCell ⟨gb232, 0, none⟩ (.int .i64 (wrap64 (x9_3 + 1))))) := ⟨by repeat (first | (with_reducible first | exact HB.out | apply below_alloc | apply pw_below_drewN | apply below_drew1 | refine below_set ?_ GE229.out | refine below_set ?_ GE230.out | refine below_set ?_ GE232.out) | exact HB.out)⟩
                 (try clear HO_230000)
                 (try clear HO_230001)
                 (try clear HO_231003)
                 (try clear BK229)
                 (try clear BK230)
                 (try clear BK232)
                 (try clear HB)
                 generalize (((((w25.setCell ⟨gb232, 0, none⟩ (.int .i64 ((rd_T26 l0 x9_3).f0))).setCell ⟨gb232, 1, none⟩ (.int .i64 ((rd_T26 l0 x9_3).f1))).setCell ⟨gb232, 2, none⟩ (.int .i64 ((rd_T26 l0 x9_3).f2))).setCell ⟨gb232, 3, none⟩ (.slice A231_3 ((rd_T26 l0 x9_3).f3).length c231_3)).setCell ⟨gb232, 0, none⟩ (.int .i64 (wrap64 (x9_3 + 1)))) = w31 at n0_ n1_ n2_ n3_ n4_ n5_ n6_ ⊢
                 have HO_230000 := n0_
                 have HO_230001 := n1_
                 have HO_231003 := n2_
                 have BK229 := n3_
                 have BK230 := n4_
                 have BK232 := n5_
                 have HB := n6_
                 clear n0_ n1_ n2_ n3_ n4_ n5_ n6_
                 have n0_ := Aside0.mk (Kd.R_drew HO_230000.out)
                 have n1_ := Aside0.mk (Kd.R_drew HO_230001.out)
                 have n2_ := Aside0.mk (Kd.R_drew HO_231003.out)
                 have n3_ := Aside0.mk (blk_drew BK229.out)
                 have n4_ := Aside0.mk (blk_drew BK230.out)
                 have n5_ := Aside0.mk (blk_drew BK232.out)
                 have n6_ := Aside0.mk (below_drew1 HB.out)
                 clear HO_230000
                 clear HO_230001
                 clear HO_231003
                 clear BK229
                 clear BK230
                 clear BK232
                 clear HB
                 have HO_230000 := n0_
                 have HO_230001 := n1_
                 have HO_231003 := n2_
                 have BK229 := n3_
                 have BK230 := n4_
                 have BK232 := n5_
                 have HB := n6_
                 clear n0_ n1_ n2_ n3_ n4_ n5_ n6_
                 have p233 : 0 ≤ (x9_3 : Int) := of_decide_eq_true (by first | (with_reducible assumption) | assumption)
                 have q233 : x9_3 < (l1.length : Int) := of_decide_eq_true (by first | (with_reducible assumption) | assumption)
                 obtain ⟨ad233, e233, hx233_0⟩ := Kd.at_int HR1.out x9_3 p233 q233
                 have hw233_0 := hx233_0
                 cases e233
                 replace hx233_0 := (HB.out.cell (World.block_lt_of_cell? w _ hx233_0)).trans hx233_0
                 replace p233 := eq_true p233
                 replace q233 := eq_true q233
                 refine start_ (n := 15) (S := fun w' => w'.cell? ⟨gb229, 0, none⟩ = some (.slice Ao29 x230000_3.length co29) ∧ w'.cell? ⟨gb229, 1, none⟩ = some (.slice Ao30 x230001_3.length co30) ∧ w'.cell? ⟨gb232, 0, none⟩ = some (.int .i64 (wrap64 (x9_3 + 1))) ∧ w'.cell? ⟨gb232, 1, none⟩ = some (.int .i64 ((rd_T26 l0 x9_3).f1)) ∧ w'.cell? ⟨gb232, 2, none⟩ = some (.int .i64 ((rd_T26 l0 x9_3).f2)) ∧ w'.cell? ⟨gb232, 3, none⟩ = some (.slice A231_3 ((rd_T26 l0 x9_3).f3).length c231_3) ∧ w'.cell? (ad233.add (x9_3).toNat) = some (.int .i64 (rd l1 x9_3))) (ds := []) #[false, false, false, false, false, false, false, false, false, false, false, false, false, false, false] (by kernel_rfl) rfl rfl ⟨(blk_cell BK229.out 0).trans rfl, (blk_cell BK229.out 1).trans rfl, (blk_cell BK232.out 0).trans rfl, (blk_cell BK232.out 1).trans rfl, (blk_cell BK232.out 2).trans rfl, (blk_cell BK232.out 3).trans rfl, ((HB.out.cell (World.block_lt_of_cell? w _ hw233_0)).trans hw233_0)⟩ (fun hHeld => ?_); refine with_tabW newellaw12_FlashGoes.tab15 newellaw12_FlashGoes.bits15 (fun HT_ HW_ => ?_)
                 generalize w31.drew = w32 at HO_230000 HO_230001 HO_231003 BK229 BK230 BK232 HB hx233_0 hHeld ⊢
                 refine pure_ (i := 2) (N := some 63) (v := ?_) (a' := ?_) #[false, false, true, false, false, false, false, false, false, false, false, false, false, false, false] rfl rfl (any_of HT_.out (by kernel_rfl)) (fun _ _ _ h => h) (Or.inl ⟨by rfl, ?_⟩) ?_ ?_
                 rotate_left
                 ·intro w'
                  go_simp
                  with_reducible rfl
                 rotate_left
                 ·simp only [Act.put, List.setIfInBounds_toArray, List.set_cons_zero, List.set_cons_succ, i64_w, i32_w]
                  rfl
                 refine pure_ (i := 3) (N := some 64) (v := ?_) (a' := ?_) #[false, false, true, true, false, false, false, false, false, false, false, false, false, false, false] rfl rfl (any_of HT_.out (by kernel_rfl)) (fun _ _ _ h => h) (Or.inl ⟨by rfl, ?_⟩) ?_ ?_
                 rotate_left
                 ·intro w'
                  go_simp
                  with_reducible rfl
                 rotate_left
                 ·simp only [Act.put, List.setIfInBounds_toArray, List.set_cons_zero, List.set_cons_succ, i64_w, i32_w]
                  rfl
                 refine pure_ (i := 4) (N := some 65) (v := ?_) (a' := ?_) #[false, false, true, true, true, false, false, false, false, false, false, false, false, false, false] rfl rfl (any_of HT_.out (by kernel_rfl)) (fun _ _ _ h => h) (Or.inl ⟨by rfl, ?_⟩) ?_ ?_
                 rotate_left
                 ·intro w'
                  go_simp
                  with_reducible rfl
                 rotate_left
                 ·simp only [Act.put, List.setIfInBounds_toArray, List.set_cons_zero, List.set_cons_succ, i64_w, i32_w]
                  rfl
                 refine take_ (i := 0) (N := some 61) (v := ?_) (a' := ?_) #[true, false, true, true, true, false, false, false, false, false, false, false, false, false, false] rfl rfl (take_ofW HT_.out HW_.out (by kernel_rfl)) (fun _ _ _ h => h) (Or.inl ⟨by rfl, ?_⟩) hHeld ?_ ?_
                 rotate_left
                 ·rintro w' ⟨s0, s1, s2, s3, s4, s5, s6⟩
                  go_simp
                  with_reducible rfl
                 rotate_left
                 ·simp only [Act.put, List.setIfInBounds_toArray, List.set_cons_zero, List.set_cons_succ, i64_w, i32_w]
                  rfl
                 refine take_ (i := 1) (N := some 62) (v := ?_) (a' := ?_) #[true, true, true, true, true, false, false, false, false, false, false, false, false, false, false] rfl rfl (take_ofW HT_.out HW_.out (by kernel_rfl)) (fun _ _ _ h => h) (Or.inl ⟨by rfl, ?_⟩) hHeld ?_ ?_
                 rotate_left
                 ·rintro w' ⟨s0, s1, s2, s3, s4, s5, s6⟩
                  go_simp
                  with_reducible rfl
                 rotate_left
                 ·simp only [Act.put, List.setIfInBounds_toArray, List.set_cons_zero, List.set_cons_succ, i64_w, i32_w]
                  rfl
                 refine take_ (i := 5) (N := some 66) (v := ?_) (a' := ?_) #[true, true, true, true, true, true, false, false, false, false, false, false, false, false, false] rfl rfl (take_ofW HT_.out HW_.out (by kernel_rfl)) (fun _ _ _ h => h) (Or.inl ⟨by rfl, ?_⟩) hHeld ?_ ?_
                 rotate_left
                 ·rintro w' ⟨s0, s1, s2, s3, s4, s5, s6⟩
                  go_simp
                  with_reducible rfl
                 rotate_left
                 ·simp only [Act.put, List.setIfInBounds_toArray, List.set_cons_zero, List.set_cons_succ, i64_w, i32_w]
                  rfl
                 refine join_ (σ := Value × Value × Nat) 3 #[true, true, true, true, true, true, true, true, true, true, true, true, false, false, false] (fun s_ => [(67, .tuple #[.agg #[s_.1, s_.2.1], .bool t240, .int .i64 t241]), (11, .pointer (some ⟨s_.2.2, 0, none⟩)), (60, .tuple #[.agg #[s_.1, s_.2.1], .bool t240, .int .i64 t241]), (68, .agg #[s_.1, s_.2.1]), (69, .bool t240), (70, .int .i64 t241)]) (fun s_ w' => (w'.cell? ⟨gb229, 0, none⟩ = some (.slice Ao29 x230000_3.length co29) ∧ w'.cell? ⟨gb229, 1, none⟩ = some (.slice Ao30 x230001_3.length co30) ∧ w'.cell? ⟨gb232, 0, none⟩ = some (.int .i64 (wrap64 (x9_3 + 1))) ∧ w'.cell? ⟨gb232, 1, none⟩ = some (.int .i64 ((rd_T26 l0 x9_3).f1)) ∧ w'.cell? ⟨gb232, 2, none⟩ = some (.int .i64 ((rd_T26 l0 x9_3).f2)) ∧ w'.cell? ⟨gb232, 3, none⟩ = some (.slice A231_3 ((rd_T26 l0 x9_3).f3).length c231_3) ∧ w'.cell? (ad233.add (x9_3).toNat) = some (.int .i64 (rd l1 x9_3))) ∧ (Kd.R (Kd.int .u8) 5 w' w.heap.size (fun k_ => some k_ ≠ (s_.2.1 : Value).ownBlock ∧ some k_ ≠ (.slice Ao29 x230000_3.length co29 : Value).ownBlock ∧ some k_ ≠ (.slice Ao30 x230001_3.length co30 : Value).ownBlock ∧ some k_ ≠ (.slice none 0 0 : Value).ownBlock) s_.1 t234) ∧ (Kd.R (Kd.int .u8) 5 w' w.heap.size (fun k_ => some k_ ≠ (s_.1 : Value).ownBlock ∧ some k_ ≠ (.slice Ao29 x230000_3.length co29 : Value).ownBlock ∧ some k_ ≠ (.slice Ao30 x230001_3.length co30 : Value).ownBlock ∧ some k_ ≠ (.slice none 0 0 : Value).ownBlock) s_.2.1 t237) ∧ (Kd.R (Kd.int .u8) 5 w' w.heap.size (fun k_ => some k_ ≠ (s_.1 : Value).ownBlock ∧ some k_ ≠ (s_.2.1 : Value).ownBlock ∧ some k_ ≠ (.slice Ao30 x230001_3.length co30 : Value).ownBlock ∧ some k_ ≠ (.slice none 0 0 : Value).ownBlock) (.slice Ao29 x230000_3.length co29) x230000_3) ∧ (Kd.R (Kd.int .u8) 5 w' w.heap.size (fun k_ => some k_ ≠ (s_.1 : Value).ownBlock ∧ some k_ ≠ (s_.2.1 : Value).ownBlock ∧ some k_ ≠ (.slice Ao29 x230000_3.length co29 : Value).ownBlock ∧ some k_ ≠ (.slice none 0 0 : Value).ownBlock) (.slice Ao30 x230001_3.length co30) x230001_3) ∧ (Kd.R (Kd.int .u8) 5 w' w.heap.size (fun k_ => some k_ ≠ (s_.1 : Value).ownBlock ∧ some k_ ≠ (s_.2.1 : Value).ownBlock ∧ some k_ ≠ (.slice Ao29 x230000_3.length co29 : Value).ownBlock ∧ some k_ ≠ (.slice Ao30 x230001_3.length co30 : Value).ownBlock) (.slice none 0 0) ([] : List Int)) ∧ (w'.heap[gb229]? = some (.cells #[.slice Ao29 x230000_3.length co29, .slice Ao30 x230001_3.length co30] 24 (0, 0))) ∧ (w'.heap[gb230]? = some (.cells #[.int .i64 x231000_3, .int .i64 x231001_3, .int .i64 x231002_3, u231003] 26 (0, 0))) ∧ (w'.heap[gb232]? = some (.cells #[.int .i64 (wrap64 (x9_3 + 1)), .int .i64 ((rd_T26 l0 x9_3).f1), .int .i64 ((rd_T26 l0 x9_3).f2), .slice A231_3 ((rd_T26 l0 x9_3).f3).length c231_3] 26 (0, 0))) ∧ (w'.heap[s_.2.2]? = some (.cells #[.slice none 0 0, .slice none 0 0] 24 (0, 0))) ∧ (w.heap.size ≤ s_.2.2) ∧ (w.heap.size ≤ s_.2.2) ∧ (gb229 ≠ s_.2.2) ∧ (s_.2.2 ≠ gb229) ∧ (gb230 ≠ s_.2.2) ∧ (s_.2.2 ≠ gb230) ∧ (gb232 ≠ s_.2.2) ∧ (s_.2.2 ≠ gb232) ∧ (Below w.heap.size w w')) ?_ ?_
                 rotate_left
                 ·intro hCont
                  refine two_ (i := 6) (j := 11) (Ni := some 67) (Nj := some 11) #[true, true, true, true, true, true, true, false, false, false, false, false, false, false, false] #[true, true, true, true, true, true, false, false, false, false, false, true, false, false, false] rfl rfl rfl rfl (two_of HT_.out (by kernel_rfl)) (by decide) (by decide) (fun K hK => ?_) (fun K hK => ?_)
                  ·skip
                   refine goes_ Tryd.func11 (by kernel_rfl) rfl #[.agg #[.slice Ao29 x230000_3.length co29, .slice Ao30 x230001_3.length co30], .agg #[.int .i64 (wrap64 (x9_3 + 1)), .int .i64 ((rd_T26 l0 x9_3).f1), .int .i64 ((rd_T26 l0 x9_3).f2), .slice A231_3 ((rd_T26 l0 x9_3).f3).length c231_3], .int .i64 (rd l1 x9_3)] (by rfl) rfl rfl (by (try simp only [List.map_toArray, List.map_cons, List.map_nil]); first | done | rfl | (simp only [List.length_drop, List.length_take]; rfl)) ?_
                   with_reducible refine (flash_Write.calls kj14 _ _ x230000_3 _ _ x230001_3 (wrap64 (x9_3 + 1)) ((rd_T26 l0 x9_3).f1) ((rd_T26 l0 x9_3).f2) _ _ ((rd_T26 l0 x9_3).f3) (rd l1 x9_3) t234 t237 t240 t241 _ ?side1 ?side2 ?side3 ?side4 ?side5 ?side6 A22.out (by first | exact HTAB.out | ((repeat (first | exact HTAB.out | (with_reducible refine Laid.tab_alloc ?_ _) | (with_reducible refine Laid.tab_drewN ?_ _) | (with_reducible refine Laid.tab_drew ?_))); done) | (refine Laid.tab_below' HTAB.out ?_; (repeat (first | (with_reducible first | exact HB.out | apply below_alloc | apply pw_below_drewN | apply below_drew1) | exact HB.out | (refine below_set ?_ (Aside0.out (by assumption)))))))).mono ?_
                   (case side1 => repeat (first | exact (Kd.R_reads' HO_230000.out).2.2 | (with_reducible refine Kd.C_alloc ?_ _) | (with_reducible refine Kd.C_drewN ?_ _) | (with_reducible refine Kd.C_drew ?_)))
                   (case side2 => exact (Kd.R_reads' HO_230000.out).2.1)
                   (case side3 => repeat (first | exact (Kd.R_reads' HO_230001.out).2.2 | (with_reducible refine Kd.C_alloc ?_ _) | (with_reducible refine Kd.C_drewN ?_ _) | (with_reducible refine Kd.C_drew ?_)))
                   (case side4 => exact (Kd.R_reads' HO_230001.out).2.1)
                   (case side5 => repeat (first | exact (Kd.C_below HR231_3.out HB.out) | (with_reducible refine Kd.C_alloc ?_ _) | (with_reducible refine Kd.C_drewN ?_ _) | (with_reducible refine Kd.C_drew ?_)))
                   (case side6 => exact HC231_3.out)
                   rintro e w33 ⟨v235, v238, rfl, ho0, ho1, hb⟩
                   refine ⟨_, rfl, ?_⟩
                   have n0_ := Aside0.mk (Kd.R_mono (Kd.R_told (Kd.R_told (Kd.R_old (by (with_reducible repeat (first | apply Kd.R_alloc | apply Kd.R_drewN | apply Kd.R_drew)); exact HO_230000.out) hb) (Kd.R_base ho0)) (Kd.R_base ho1)) (fun _ h_ => h_.1))
                   have n1_ := Aside0.mk (Kd.R_mono (Kd.R_told (Kd.R_told (Kd.R_old (by (with_reducible repeat (first | apply Kd.R_alloc | apply Kd.R_drewN | apply Kd.R_drew)); exact HO_230001.out) hb) (Kd.R_base ho0)) (Kd.R_base ho1)) (fun _ h_ => h_.1))
                   have n2_ := Aside0.mk (Kd.R_mono (Kd.R_told (Kd.R_told (Kd.R_old (by (with_reducible repeat (first | apply Kd.R_alloc | apply Kd.R_drewN | apply Kd.R_drew)); exact HO_231003.out) hb) (Kd.R_base ho0)) (Kd.R_base ho1)) (fun _ h_ => h_.1))
                   have n3_ := Aside0.mk (Kd.R_lower (Kd.R_new' (Kd.R_new' (Kd.R_new' ho0 (Kd.R_lt (by (with_reducible repeat (first | apply Kd.R_alloc | apply Kd.R_drewN | apply Kd.R_drew)); exact HO_230000.out))) (Kd.R_lt (by (with_reducible repeat (first | apply Kd.R_alloc | apply Kd.R_drewN | apply Kd.R_drew)); exact HO_230001.out))) (Kd.R_lt (by (with_reducible repeat (first | apply Kd.R_alloc | apply Kd.R_drewN | apply Kd.R_drew)); exact HO_231003.out))) (below_size (by repeat (first | (with_reducible first | exact HB.out | apply below_alloc | apply pw_below_drewN | apply below_drew1 | refine below_set ?_ GE229.out | refine below_set ?_ GE230.out | refine below_set ?_ GE232.out) | exact HB.out))))
                   have n4_ := Aside0.mk (Kd.R_lower (Kd.R_new' (Kd.R_new' (Kd.R_new' ho1 (Kd.R_lt (by (with_reducible repeat (first | apply Kd.R_alloc | apply Kd.R_drewN | apply Kd.R_drew)); exact HO_230000.out))) (Kd.R_lt (by (with_reducible repeat (first | apply Kd.R_alloc | apply Kd.R_drewN | apply Kd.R_drew)); exact HO_230001.out))) (Kd.R_lt (by (with_reducible repeat (first | apply Kd.R_alloc | apply Kd.R_drewN | apply Kd.R_drew)); exact HO_231003.out))) (below_size (by repeat (first | (with_reducible first | exact HB.out | apply below_alloc | apply pw_below_drewN | apply below_drew1 | refine below_set ?_ GE229.out | refine below_set ?_ GE230.out | refine below_set ?_ GE232.out) | exact HB.out))))
                   have n5_ := Aside0.mk (blk_below (g := gb229) (o := .cells #[.slice Ao29 x230000_3.length co29, .slice Ao30 x230001_3.length co30] 24 (0, 0)) (by (with_reducible repeat (first | refine blk_drewN ?_ _ | refine blk_drew ?_ | refine blk_alloc ?_ _)); exact BK229.out) hb)
                   have n6_ := Aside0.mk (blk_below (g := gb230) (o := .cells #[.int .i64 x231000_3, .int .i64 x231001_3, .int .i64 x231002_3, u231003] 26 (0, 0)) (by (with_reducible repeat (first | refine blk_drewN ?_ _ | refine blk_drew ?_ | refine blk_alloc ?_ _)); exact BK230.out) hb)
                   have n7_ := Aside0.mk (blk_below (g := gb232) (o := .cells #[.int .i64 (wrap64 (x9_3 + 1)), .int .i64 ((rd_T26 l0 x9_3).f1), .int .i64 ((rd_T26 l0 x9_3).f2), .slice A231_3 ((rd_T26 l0 x9_3).f3).length c231_3] 26 (0, 0)) (by (with_reducible repeat (first | refine blk_drewN ?_ _ | refine blk_drew ?_ | refine blk_alloc ?_ _)); exact BK232.out) hb)
                   have n8_ := Aside0.mk (below_step (by repeat (first | (with_reducible first | exact HB.out | apply below_alloc | apply pw_below_drewN | apply below_drew1 | refine below_set ?_ GE229.out | refine below_set ?_ GE230.out | refine below_set ?_ GE232.out) | exact HB.out)) hb)
                   clear HO_230000
                   clear HO_230001
                   clear HO_231003
                   clear BK229
                   clear BK230
                   clear BK232
                   clear HB
                   have HO_230000 := n0_
                   have HO_230001 := n1_
                   have HO_231003 := n2_
                   have HO236 := n3_
                   have HO239 := n4_
                   have BK229 := n5_
                   have BK230 := n6_
                   have BK232 := n7_
                   have HB := n8_
                   clear n0_ n1_ n2_ n3_ n4_ n5_ n6_ n7_ n8_
                   (try clear hb)
                   (try clear hb2)
                   (try clear hk)
                   (try clear hi)
                   (try clear ho0)
                   (try clear ho1)
                   refine hK.out _ _ ⟨(blk_cell BK229.out 0).trans rfl, (blk_cell BK229.out 1).trans rfl, (blk_cell BK232.out 0).trans rfl, (blk_cell BK232.out 1).trans rfl, (blk_cell BK232.out 2).trans rfl, (blk_cell BK232.out 3).trans rfl, ((HB.out.cell (World.block_lt_of_cell? w _ hw233_0)).trans hw233_0)⟩ (fun hHeld => ?_)
                   clear hK K
                   refine norm_ (a' := ?_) ?_ ?_
                   rotate_left
                   ·show Act.put _ (some 67) _ = _
                    simp only [Act.put, List.setIfInBounds_toArray, List.set_cons_zero, List.set_cons_succ, i64_w, i32_w]
                    rfl
                   refine pure_ (i := 7) (N := some 60) (v := ?_) (a' := ?_) #[true, true, true, true, true, true, true, true, false, false, false, false, false, false, false] rfl rfl (any_of HT_.out (by kernel_rfl)) (fun _ _ _ h => h) (Or.inl ⟨by rfl, ?_⟩) ?_ ?_
                   rotate_left
                   ·intro w'
                    go_simp
                    with_reducible rfl
                   rotate_left
                   ·simp only [Act.put, List.setIfInBounds_toArray, List.set_cons_zero, List.set_cons_succ, i64_w, i32_w]
                    rfl
                   refine pure_ (i := 8) (N := some 68) (v := ?_) (a' := ?_) #[true, true, true, true, true, true, true, true, true, false, false, false, false, false, false] rfl rfl (any_of HT_.out (by kernel_rfl)) (fun _ _ _ h => h) (Or.inl ⟨by rfl, ?_⟩) ?_ ?_
                   rotate_left
                   ·intro w'
                    go_simp
                    with_reducible rfl
                   rotate_left
                   ·simp only [Act.put, List.setIfInBounds_toArray, List.set_cons_zero, List.set_cons_succ, i64_w, i32_w]
                    rfl
                   refine pure_ (i := 9) (N := some 69) (v := ?_) (a' := ?_) #[true, true, true, true, true, true, true, true, true, true, false, false, false, false, false] rfl rfl (any_of HT_.out (by kernel_rfl)) (fun _ _ _ h => h) (Or.inl ⟨by rfl, ?_⟩) ?_ ?_
                   rotate_left
                   ·intro w'
                    go_simp
                    with_reducible rfl
                   rotate_left
                   ·simp only [Act.put, List.setIfInBounds_toArray, List.set_cons_zero, List.set_cons_succ, i64_w, i32_w]
                    rfl
                   refine pure_ (i := 10) (N := some 70) (v := ?_) (a' := ?_) #[true, true, true, true, true, true, true, true, true, true, true, false, false, false, false] rfl rfl (any_of HT_.out (by kernel_rfl)) (fun _ _ _ h => h) (Or.inl ⟨by rfl, ?_⟩) ?_ ?_
                   rotate_left
                   ·intro w'
                    go_simp
                    with_reducible rfl
                   rotate_left
                   ·simp only [Act.put, List.setIfInBounds_toArray, List.set_cons_zero, List.set_cons_succ, i64_w, i32_w]
                    rfl
                   refine one_ (i := 11) (N := some 11) #[true, true, true, true, true, true, true, true, true, true, true, true, false, false, false] rfl rfl (one_of HT_.out (by kernel_rfl)) (by decide) (fun K hK => ?_)
                   refine box_step ?hg (N := 11) ?hd (cs := #[.slice none 0 0, .slice none 0 0]) (t := 24) ?hr ?_; (case hd => rfl); (case hg => rfl); (case hr => first | (go_simp; done) | (go_simp; rfl))
                   intro gb242 hg w34 hbox hb
                   have n0_ := Aside0.mk (Kd.R_below (by (with_reducible repeat (first | apply Kd.R_alloc | apply Kd.R_drewN | apply Kd.R_drew)); exact HO_230000.out) hb)
                   have n1_ := Aside0.mk (Kd.R_below (by (with_reducible repeat (first | apply Kd.R_alloc | apply Kd.R_drewN | apply Kd.R_drew)); exact HO_230001.out) hb)
                   have n2_ := Aside0.mk (Kd.R_below (by (with_reducible repeat (first | apply Kd.R_alloc | apply Kd.R_drewN | apply Kd.R_drew)); exact HO_231003.out) hb)
                   have n3_ := Aside0.mk (Kd.R_below (by (with_reducible repeat (first | apply Kd.R_alloc | apply Kd.R_drewN | apply Kd.R_drew)); exact HO236.out) hb)
                   have n4_ := Aside0.mk (Kd.R_below (by (with_reducible repeat (first | apply Kd.R_alloc | apply Kd.R_drewN | apply Kd.R_drew)); exact HO239.out) hb)
                   have n5_ := Aside0.mk (blk_below (g := gb229) (o := .cells #[.slice Ao29 x230000_3.length co29, .slice Ao30 x230001_3.length co30] 24 (0, 0)) (by (with_reducible repeat (first | refine blk_drewN ?_ _ | refine blk_drew ?_ | refine blk_alloc ?_ _)); exact BK229.out) hb)
                   have n6_ := Aside0.mk (blk_below (g := gb230) (o := .cells #[.int .i64 x231000_3, .int .i64 x231001_3, .int .i64 x231002_3, u231003] 26 (0, 0)) (by (with_reducible repeat (first | refine blk_drewN ?_ _ | refine blk_drew ?_ | refine blk_alloc ?_ _)); exact BK230.out) hb)
                   have n7_ := Aside0.mk (blk_below (g := gb232) (o := .cells #[.int .i64 (wrap64 (x9_3 + 1)), .int .i64 ((rd_T26 l0 x9_3).f1), .int .i64 ((rd_T26 l0 x9_3).f2), .slice A231_3 ((rd_T26 l0 x9_3).f3).length c231_3] 26 (0, 0)) (by (with_reducible repeat (first | refine blk_drewN ?_ _ | refine blk_drew ?_ | refine blk_alloc ?_ _)); exact BK232.out) hb)
                   have n8_ := Aside0.mk (below_step (by repeat (first | (with_reducible first | exact HB.out | apply below_alloc | apply pw_below_drewN | apply below_drew1 | refine below_set ?_ GE229.out | refine below_set ?_ GE230.out | refine below_set ?_ GE232.out) | exact HB.out)) hb)
                   have n9_ := Aside0.mk (hbox)
                   have n10_ := Aside0.mk ((by rw [hg]; exact (below_size (by repeat (first | (with_reducible first | exact HB.out | apply below_alloc | apply pw_below_drewN | apply below_drew1 | refine below_set ?_ GE229.out | refine below_set ?_ GE230.out | refine below_set ?_ GE232.out) | exact HB.out))) : w.heap.size ≤ gb242))
                   have n11_ := Aside0.mk ((by rw [hg]; exact (below_size (by repeat (first | (with_reducible first | exact HB.out | apply below_alloc | apply pw_below_drewN | apply below_drew1 | refine below_set ?_ GE229.out | refine below_set ?_ GE230.out | refine below_set ?_ GE232.out) | exact HB.out))) : w.heap.size ≤ gb242))
                   have n12_ := Aside0.mk ((by rw [hg]; exact Nat.ne_of_lt (blk_lt (g := gb229) (o := .cells #[.slice Ao29 x230000_3.length co29, .slice Ao30 x230001_3.length co30] 24 (0, 0)) (by (with_reducible repeat (first | refine blk_drewN ?_ _ | refine blk_drew ?_ | refine blk_alloc ?_ _)); exact BK229.out)) : gb229 ≠ gb242))
                   have n13_ := Aside0.mk ((by rw [hg]; exact Nat.ne_of_gt (blk_lt (g := gb229) (o := .cells #[.slice Ao29 x230000_3.length co29, .slice Ao30 x230001_3.length co30] 24 (0, 0)) (by (with_reducible repeat (first | refine blk_drewN ?_ _ | refine blk_drew ?_ | refine blk_alloc ?_ _)); exact BK229.out)) : gb242 ≠ gb229))
                   have n14_ := Aside0.mk ((by rw [hg]; exact Nat.ne_of_lt (blk_lt (g := gb230) (o := .cells #[.int .i64 x231000_3, .int .i64 x231001_3, .int .i64 x231002_3, u231003] 26 (0, 0)) (by (with_reducible repeat (first | refine blk_drewN ?_ _ | refine blk_drew ?_ | refine blk_alloc ?_ _)); exact BK230.out)) : gb230 ≠ gb242))
                   have n15_ := Aside0.mk ((by rw [hg]; exact Nat.ne_of_gt (blk_lt (g := gb230) (o := .cells #[.int .i64 x231000_3, .int .i64 x231001_3, .int .i64 x231002_3, u231003] 26 (0, 0)) (by (with_reducible repeat (first | refine blk_drewN ?_ _ | refine blk_drew ?_ | refine blk_alloc ?_ _)); exact BK230.out)) : gb242 ≠ gb230))
                   have n16_ := Aside0.mk ((by rw [hg]; exact Nat.ne_of_lt (blk_lt (g := gb232) (o := .cells #[.int .i64 (wrap64 (x9_3 + 1)), .int .i64 ((rd_T26 l0 x9_3).f1), .int .i64 ((rd_T26 l0 x9_3).f2), .slice A231_3 ((rd_T26 l0 x9_3).f3).length c231_3] 26 (0, 0)) (by (with_reducible repeat (first | refine blk_drewN ?_ _ | refine blk_drew ?_ | refine blk_alloc ?_ _)); exact BK232.out)) : gb232 ≠ gb242))
                   have n17_ := Aside0.mk ((by rw [hg]; exact Nat.ne_of_gt (blk_lt (g := gb232) (o := .cells #[.int .i64 (wrap64 (x9_3 + 1)), .int .i64 ((rd_T26 l0 x9_3).f1), .int .i64 ((rd_T26 l0 x9_3).f2), .slice A231_3 ((rd_T26 l0 x9_3).f3).length c231_3] 26 (0, 0)) (by (with_reducible repeat (first | refine blk_drewN ?_ _ | refine blk_drew ?_ | refine blk_alloc ?_ _)); exact BK232.out)) : gb242 ≠ gb232))
                   clear HO_230000
                   clear HO_230001
                   clear HO_231003
                   clear HO236
                   clear HO239
                   clear BK229
                   clear BK230
                   clear BK232
                   clear HB
                   have HO_230000 := n0_
                   have HO_230001 := n1_
                   have HO_231003 := n2_
                   have HO236 := n3_
                   have HO239 := n4_
                   have BK229 := n5_
                   have BK230 := n6_
                   have BK232 := n7_
                   have HB := n8_
                   have BK242 := n9_
                   have GW242 := n10_
                   have GE242 := n11_
                   have NB229_242 := n12_
                   have NB242_229 := n13_
                   have NB230_242 := n14_
                   have NB242_230 := n15_
                   have NB232_242 := n16_
                   have NB242_232 := n17_
                   clear n0_ n1_ n2_ n3_ n4_ n5_ n6_ n7_ n8_ n9_ n10_ n11_ n12_ n13_ n14_ n15_ n16_ n17_
                   clear hb hbox hg
                   refine hK.out _ _ ⟨(blk_cell BK229.out 0).trans rfl, (blk_cell BK229.out 1).trans rfl, (blk_cell BK232.out 0).trans rfl, (blk_cell BK232.out 1).trans rfl, (blk_cell BK232.out 2).trans rfl, (blk_cell BK232.out 3).trans rfl, ((HB.out.cell (World.block_lt_of_cell? w _ hw233_0)).trans hw233_0)⟩ (fun hHeld => ?_)
                   clear hK K
                   refine norm_ (a' := ?_) ?_ ?_
                   rotate_left
                   ·show Act.put _ (some 11) _ = _
                    simp only [Act.put, List.setIfInBounds_toArray, List.set_cons_zero, List.set_cons_succ, i64_w, i32_w]
                    rfl
                   exact norm_ (by simp only [putAll, Act.put, List.setIfInBounds_toArray, List.set_cons_zero, List.set_cons_succ]) (hCont (v235, v238, gb242) _ ⟨hHeld, (by (with_reducible repeat (first | apply Kd.R_alloc | apply Kd.R_drewN | apply Kd.R_drew)); exact Kd.R_mono HO236.out (fun _ hk => ⟨hk.1.1.1, ⟨hk.1.1.2, ⟨hk.1.2, hk.2⟩⟩⟩)), (by (with_reducible repeat (first | apply Kd.R_alloc | apply Kd.R_drewN | apply Kd.R_drew)); exact Kd.R_mono HO239.out (fun _ hk => ⟨hk.1.1.1, ⟨hk.1.1.2, ⟨hk.1.2, hk.2⟩⟩⟩)), (by (with_reducible repeat (first | apply Kd.R_alloc | apply Kd.R_drewN | apply Kd.R_drew)); exact Kd.R_mono HO_230000.out (fun _ hk => ⟨hk.1.2, ⟨hk.2, ⟨hk.1.1.1, hk.1.1.2⟩⟩⟩)), (by (with_reducible repeat (first | apply Kd.R_alloc | apply Kd.R_drewN | apply Kd.R_drew)); exact Kd.R_mono HO_230001.out (fun _ hk => ⟨hk.1.2, ⟨hk.2, ⟨hk.1.1.1, hk.1.1.2⟩⟩⟩)), (by (with_reducible repeat (first | apply Kd.R_alloc | apply Kd.R_drewN | apply Kd.R_drew)); exact Kd.R_mono HO_231003.out (fun _ hk => ⟨hk.1.2, ⟨hk.2, ⟨hk.1.1.1, hk.1.1.2⟩⟩⟩)), (by (with_reducible repeat (first | refine blk_drewN ?_ _ | refine blk_drew ?_ | refine blk_alloc ?_ _)); exact BK229.out), (by (with_reducible repeat (first | refine blk_drewN ?_ _ | refine blk_drew ?_ | refine blk_alloc ?_ _)); exact BK230.out), (by (with_reducible repeat (first | refine blk_drewN ?_ _ | refine blk_drew ?_ | refine blk_alloc ?_ _)); exact BK232.out), (by (with_reducible repeat (first | refine blk_drewN ?_ _ | refine blk_drew ?_ | refine blk_alloc ?_ _)); exact BK242.out), GW242.out, GE242.out, NB229_242.out, NB242_229.out, NB230_242.out, NB242_230.out, NB232_242.out, NB242_232.out, (by repeat (first | (with_reducible first | exact HB.out | apply below_alloc | apply pw_below_drewN | apply below_drew1 | refine below_set ?_ GE229.out | refine below_set ?_ GE230.out | refine below_set ?_ GE232.out | refine below_set ?_ GE242.out) | exact HB.out))⟩)
                  ·skip
                   refine box_step ?hg (N := 11) ?hd (cs := #[.slice none 0 0, .slice none 0 0]) (t := 24) ?hr ?_; (case hd => rfl); (case hg => rfl); (case hr => first | (go_simp; done) | (go_simp; rfl))
                   intro gb242 hg w33 hbox hb
                   have n0_ := Aside0.mk (Kd.R_below (by (with_reducible repeat (first | apply Kd.R_alloc | apply Kd.R_drewN | apply Kd.R_drew)); exact HO_230000.out) hb)
                   have n1_ := Aside0.mk (Kd.R_below (by (with_reducible repeat (first | apply Kd.R_alloc | apply Kd.R_drewN | apply Kd.R_drew)); exact HO_230001.out) hb)
                   have n2_ := Aside0.mk (Kd.R_below (by (with_reducible repeat (first | apply Kd.R_alloc | apply Kd.R_drewN | apply Kd.R_drew)); exact HO_231003.out) hb)
                   have n3_ := Aside0.mk (blk_below (g := gb229) (o := .cells #[.slice Ao29 x230000_3.length co29, .slice Ao30 x230001_3.length co30] 24 (0, 0)) (by (with_reducible repeat (first | refine blk_drewN ?_ _ | refine blk_drew ?_ | refine blk_alloc ?_ _)); exact BK229.out) hb)
                   have n4_ := Aside0.mk (blk_below (g := gb230) (o := .cells #[.int .i64 x231000_3, .int .i64 x231001_3, .int .i64 x231002_3, u231003] 26 (0, 0)) (by (with_reducible repeat (first | refine blk_drewN ?_ _ | refine blk_drew ?_ | refine blk_alloc ?_ _)); exact BK230.out) hb)
                   have n5_ := Aside0.mk (blk_below (g := gb232) (o := .cells #[.int .i64 (wrap64 (x9_3 + 1)), .int .i64 ((rd_T26 l0 x9_3).f1), .int .i64 ((rd_T26 l0 x9_3).f2), .slice A231_3 ((rd_T26 l0 x9_3).f3).length c231_3] 26 (0, 0)) (by (with_reducible repeat (first | refine blk_drewN ?_ _ | refine blk_drew ?_ | refine blk_alloc ?_ _)); exact BK232.out) hb)
                   have n6_ := Aside0.mk (below_step (by repeat (first | (with_reducible first | exact HB.out | apply below_alloc | apply pw_below_drewN | apply below_drew1 | refine below_set ?_ GE229.out | refine below_set ?_ GE230.out | refine below_set ?_ GE232.out) | exact HB.out)) hb)
                   have n7_ := Aside0.mk (hbox)
                   have n8_ := Aside0.mk ((by rw [hg]; exact (below_size (by repeat (first | (with_reducible first | exact HB.out | apply below_alloc | apply pw_below_drewN | apply below_drew1 | refine below_set ?_ GE229.out | refine below_set ?_ GE230.out | refine below_set ?_ GE232.out) | exact HB.out))) : w.heap.size ≤ gb242))
                   have n9_ := Aside0.mk ((by rw [hg]; exact (below_size (by repeat (first | (with_reducible first | exact HB.out | apply below_alloc | apply pw_below_drewN | apply below_drew1 | refine below_set ?_ GE229.out | refine below_set ?_ GE230.out | refine below_set ?_ GE232.out) | exact HB.out))) : w.heap.size ≤ gb242))
                   have n10_ := Aside0.mk ((by rw [hg]; exact Nat.ne_of_lt (blk_lt (g := gb229) (o := .cells #[.slice Ao29 x230000_3.length co29, .slice Ao30 x230001_3.length co30] 24 (0, 0)) (by (with_reducible repeat (first | refine blk_drewN ?_ _ | refine blk_drew ?_ | refine blk_alloc ?_ _)); exact BK229.out)) : gb229 ≠ gb242))
                   have n11_ := Aside0.mk ((by rw [hg]; exact Nat.ne_of_gt (blk_lt (g := gb229) (o := .cells #[.slice Ao29 x230000_3.length co29, .slice Ao30 x230001_3.length co30] 24 (0, 0)) (by (with_reducible repeat (first | refine blk_drewN ?_ _ | refine blk_drew ?_ | refine blk_alloc ?_ _)); exact BK229.out)) : gb242 ≠ gb229))
                   have n12_ := Aside0.mk ((by rw [hg]; exact Nat.ne_of_lt (blk_lt (g := gb230) (o := .cells #[.int .i64 x231000_3, .int .i64 x231001_3, .int .i64 x231002_3, u231003] 26 (0, 0)) (by (with_reducible repeat (first | refine blk_drewN ?_ _ | refine blk_drew ?_ | refine blk_alloc ?_ _)); exact BK230.out)) : gb230 ≠ gb242))
                   have n13_ := Aside0.mk ((by rw [hg]; exact Nat.ne_of_gt (blk_lt (g := gb230) (o := .cells #[.int .i64 x231000_3, .int .i64 x231001_3, .int .i64 x231002_3, u231003] 26 (0, 0)) (by (with_reducible repeat (first | refine blk_drewN ?_ _ | refine blk_drew ?_ | refine blk_alloc ?_ _)); exact BK230.out)) : gb242 ≠ gb230))
                   have n14_ := Aside0.mk ((by rw [hg]; exact Nat.ne_of_lt (blk_lt (g := gb232) (o := .cells #[.int .i64 (wrap64 (x9_3 + 1)), .int .i64 ((rd_T26 l0 x9_3).f1), .int .i64 ((rd_T26 l0 x9_3).f2), .slice A231_3 ((rd_T26 l0 x9_3).f3).length c231_3] 26 (0, 0)) (by (with_reducible repeat (first | refine blk_drewN ?_ _ | refine blk_drew ?_ | refine blk_alloc ?_ _)); exact BK232.out)) : gb232 ≠ gb242))
                   have n15_ := Aside0.mk ((by rw [hg]; exact Nat.ne_of_gt (blk_lt (g := gb232) (o := .cells #[.int .i64 (wrap64 (x9_3 + 1)), .int .i64 ((rd_T26 l0 x9_3).f1), .int .i64 ((rd_T26 l0 x9_3).f2), .slice A231_3 ((rd_T26 l0 x9_3).f3).length c231_3] 26 (0, 0)) (by (with_reducible repeat (first | refine blk_drewN ?_ _ | refine blk_drew ?_ | refine blk_alloc ?_ _)); exact BK232.out)) : gb242 ≠ gb232))
                   clear HO_230000
                   clear HO_230001
                   clear HO_231003
                   clear BK229
                   clear BK230
                   clear BK232
                   clear HB
                   have HO_230000 := n0_
                   have HO_230001 := n1_
                   have HO_231003 := n2_
                   have BK229 := n3_
                   have BK230 := n4_
                   have BK232 := n5_
                   have HB := n6_
                   have BK242 := n7_
                   have GW242 := n8_
                   have GE242 := n9_
                   have NB229_242 := n10_
                   have NB242_229 := n11_
                   have NB230_242 := n12_
                   have NB242_230 := n13_
                   have NB232_242 := n14_
                   have NB242_232 := n15_
                   clear n0_ n1_ n2_ n3_ n4_ n5_ n6_ n7_ n8_ n9_ n10_ n11_ n12_ n13_ n14_ n15_
                   clear hb hbox hg
                   refine hK.out _ _ ⟨(blk_cell BK229.out 0).trans rfl, (blk_cell BK229.out 1).trans rfl, (blk_cell BK232.out 0).trans rfl, (blk_cell BK232.out 1).trans rfl, (blk_cell BK232.out 2).trans rfl, (blk_cell BK232.out 3).trans rfl, ((HB.out.cell (World.block_lt_of_cell? w _ hw233_0)).trans hw233_0)⟩ (fun hHeld => ?_)
                   clear hK K
                   refine norm_ (a' := ?_) ?_ ?_
                   rotate_left
                   ·show Act.put _ (some 11) _ = _
                    simp only [Act.put, List.setIfInBounds_toArray, List.set_cons_zero, List.set_cons_succ, i64_w, i32_w]
                    rfl
                   refine one_ (i := 6) (N := some 67) #[true, true, true, true, true, true, true, false, false, false, false, true, false, false, false] rfl rfl (one_of HT_.out (by kernel_rfl)) (by decide) (fun K hK => ?_)
                   refine goes_ Tryd.func11 (by kernel_rfl) rfl #[.agg #[.slice Ao29 x230000_3.length co29, .slice Ao30 x230001_3.length co30], .agg #[.int .i64 (wrap64 (x9_3 + 1)), .int .i64 ((rd_T26 l0 x9_3).f1), .int .i64 ((rd_T26 l0 x9_3).f2), .slice A231_3 ((rd_T26 l0 x9_3).f3).length c231_3], .int .i64 (rd l1 x9_3)] (by rfl) rfl rfl (by (try simp only [List.map_toArray, List.map_cons, List.map_nil]); first | done | rfl | (simp only [List.length_drop, List.length_take]; rfl)) ?_
                   with_reducible refine (flash_Write.calls kj14 _ _ x230000_3 _ _ x230001_3 (wrap64 (x9_3 + 1)) ((rd_T26 l0 x9_3).f1) ((rd_T26 l0 x9_3).f2) _ _ ((rd_T26 l0 x9_3).f3) (rd l1 x9_3) t234 t237 t240 t241 _ ?side1 ?side2 ?side3 ?side4 ?side5 ?side6 A22.out (by first | exact HTAB.out | ((repeat (first | exact HTAB.out | (with_reducible refine Laid.tab_alloc ?_ _) | (with_reducible refine Laid.tab_drewN ?_ _) | (with_reducible refine Laid.tab_drew ?_))); done) | (refine Laid.tab_below' HTAB.out ?_; (repeat (first | (with_reducible first | exact HB.out | apply below_alloc | apply pw_below_drewN | apply below_drew1) | exact HB.out | (refine below_set ?_ (Aside0.out (by assumption)))))))).mono ?_
                   (case side1 => repeat (first | exact (Kd.R_reads' HO_230000.out).2.2 | (with_reducible refine Kd.C_alloc ?_ _) | (with_reducible refine Kd.C_drewN ?_ _) | (with_reducible refine Kd.C_drew ?_)))
                   (case side2 => exact (Kd.R_reads' HO_230000.out).2.1)
                   (case side3 => repeat (first | exact (Kd.R_reads' HO_230001.out).2.2 | (with_reducible refine Kd.C_alloc ?_ _) | (with_reducible refine Kd.C_drewN ?_ _) | (with_reducible refine Kd.C_drew ?_)))
                   (case side4 => exact (Kd.R_reads' HO_230001.out).2.1)
                   (case side5 => repeat (first | exact (Kd.C_below HR231_3.out HB.out) | (with_reducible refine Kd.C_alloc ?_ _) | (with_reducible refine Kd.C_drewN ?_ _) | (with_reducible refine Kd.C_drew ?_)))
                   (case side6 => exact HC231_3.out)
                   rintro e w34 ⟨v235, v238, rfl, ho0, ho1, hb⟩
                   refine ⟨_, rfl, ?_⟩
                   have n0_ := Aside0.mk (Kd.R_mono (Kd.R_told (Kd.R_told (Kd.R_old (by (with_reducible repeat (first | apply Kd.R_alloc | apply Kd.R_drewN | apply Kd.R_drew)); exact HO_230000.out) hb) (Kd.R_base ho0)) (Kd.R_base ho1)) (fun _ h_ => h_.1))
                   have n1_ := Aside0.mk (Kd.R_mono (Kd.R_told (Kd.R_told (Kd.R_old (by (with_reducible repeat (first | apply Kd.R_alloc | apply Kd.R_drewN | apply Kd.R_drew)); exact HO_230001.out) hb) (Kd.R_base ho0)) (Kd.R_base ho1)) (fun _ h_ => h_.1))
                   have n2_ := Aside0.mk (Kd.R_mono (Kd.R_told (Kd.R_told (Kd.R_old (by (with_reducible repeat (first | apply Kd.R_alloc | apply Kd.R_drewN | apply Kd.R_drew)); exact HO_231003.out) hb) (Kd.R_base ho0)) (Kd.R_base ho1)) (fun _ h_ => h_.1))
                   have n3_ := Aside0.mk (Kd.R_lower (Kd.R_new' (Kd.R_new' (Kd.R_new' ho0 (Kd.R_lt (by (with_reducible repeat (first | apply Kd.R_alloc | apply Kd.R_drewN | apply Kd.R_drew)); exact HO_230000.out))) (Kd.R_lt (by (with_reducible repeat (first | apply Kd.R_alloc | apply Kd.R_drewN | apply Kd.R_drew)); exact HO_230001.out))) (Kd.R_lt (by (with_reducible repeat (first | apply Kd.R_alloc | apply Kd.R_drewN | apply Kd.R_drew)); exact HO_231003.out))) (below_size (by repeat (first | (with_reducible first | exact HB.out | apply below_alloc | apply pw_below_drewN | apply below_drew1 | refine below_set ?_ GE229.out | refine below_set ?_ GE230.out | refine below_set ?_ GE232.out | refine below_set ?_ GE242.out) | exact HB.out))))
                   have n4_ := Aside0.mk (Kd.R_lower (Kd.R_new' (Kd.R_new' (Kd.R_new' ho1 (Kd.R_lt (by (with_reducible repeat (first | apply Kd.R_alloc | apply Kd.R_drewN | apply Kd.R_drew)); exact HO_230000.out))) (Kd.R_lt (by (with_reducible repeat (first | apply Kd.R_alloc | apply Kd.R_drewN | apply Kd.R_drew)); exact HO_230001.out))) (Kd.R_lt (by (with_reducible repeat (first | apply Kd.R_alloc | apply Kd.R_drewN | apply Kd.R_drew)); exact HO_231003.out))) (below_size (by repeat (first | (with_reducible first | exact HB.out | apply below_alloc | apply pw_below_drewN | apply below_drew1 | refine below_set ?_ GE229.out | refine below_set ?_ GE230.out | refine below_set ?_ GE232.out | refine below_set ?_ GE242.out) | exact HB.out))))
                   have n5_ := Aside0.mk (blk_below (g := gb229) (o := .cells #[.slice Ao29 x230000_3.length co29, .slice Ao30 x230001_3.length co30] 24 (0, 0)) (by (with_reducible repeat (first | refine blk_drewN ?_ _ | refine blk_drew ?_ | refine blk_alloc ?_ _)); exact BK229.out) hb)
                   have n6_ := Aside0.mk (blk_below (g := gb230) (o := .cells #[.int .i64 x231000_3, .int .i64 x231001_3, .int .i64 x231002_3, u231003] 26 (0, 0)) (by (with_reducible repeat (first | refine blk_drewN ?_ _ | refine blk_drew ?_ | refine blk_alloc ?_ _)); exact BK230.out) hb)
                   have n7_ := Aside0.mk (blk_below (g := gb232) (o := .cells #[.int .i64 (wrap64 (x9_3 + 1)), .int .i64 ((rd_T26 l0 x9_3).f1), .int .i64 ((rd_T26 l0 x9_3).f2), .slice A231_3 ((rd_T26 l0 x9_3).f3).length c231_3] 26 (0, 0)) (by (with_reducible repeat (first | refine blk_drewN ?_ _ | refine blk_drew ?_ | refine blk_alloc ?_ _)); exact BK232.out) hb)
                   have n8_ := Aside0.mk (blk_below (g := gb242) (o := .cells #[.slice none 0 0, .slice none 0 0] 24 (0, 0)) (by (with_reducible repeat (first | refine blk_drewN ?_ _ | refine blk_drew ?_ | refine blk_alloc ?_ _)); exact BK242.out) hb)
                   have n9_ := Aside0.mk (below_step (by repeat (first | (with_reducible first | exact HB.out | apply below_alloc | apply pw_below_drewN | apply below_drew1 | refine below_set ?_ GE229.out | refine below_set ?_ GE230.out | refine below_set ?_ GE232.out | refine below_set ?_ GE242.out) | exact HB.out)) hb)
                   clear HO_230000
                   clear HO_230001
                   clear HO_231003
                   clear BK229
                   clear BK230
                   clear BK232
                   clear BK242
                   clear HB
                   have HO_230000 := n0_
                   have HO_230001 := n1_
                   have HO_231003 := n2_
                   have HO236 := n3_
                   have HO239 := n4_
                   have BK229 := n5_
                   have BK230 := n6_
                   have BK232 := n7_
                   have BK242 := n8_
                   have HB := n9_
                   clear n0_ n1_ n2_ n3_ n4_ n5_ n6_ n7_ n8_ n9_
                   (try clear hb)
                   (try clear hb2)
                   (try clear hk)
                   (try clear hi)
                   (try clear ho0)
                   (try clear ho1)
                   refine hK.out _ _ ⟨(blk_cell BK229.out 0).trans rfl, (blk_cell BK229.out 1).trans rfl, (blk_cell BK232.out 0).trans rfl, (blk_cell BK232.out 1).trans rfl, (blk_cell BK232.out 2).trans rfl, (blk_cell BK232.out 3).trans rfl, ((HB.out.cell (World.block_lt_of_cell? w _ hw233_0)).trans hw233_0)⟩ (fun hHeld => ?_)
                   clear hK K
                   refine norm_ (a' := ?_) ?_ ?_
                   rotate_left
                   ·show Act.put _ (some 67) _ = _
                    simp only [Act.put, List.setIfInBounds_toArray, List.set_cons_zero, List.set_cons_succ, i64_w, i32_w]
                    rfl
                   refine pure_ (i := 7) (N := some 60) (v := ?_) (a' := ?_) #[true, true, true, true, true, true, true, true, false, false, false, true, false, false, false] rfl rfl (any_of HT_.out (by kernel_rfl)) (fun _ _ _ h => h) (Or.inl ⟨by rfl, ?_⟩) ?_ ?_
                   rotate_left
                   ·intro w'
                    go_simp
                    with_reducible rfl
                   rotate_left
                   ·simp only [Act.put, List.setIfInBounds_toArray, List.set_cons_zero, List.set_cons_succ, i64_w, i32_w]
                    rfl
                   refine pure_ (i := 8) (N := some 68) (v := ?_) (a' := ?_) #[true, true, true, true, true, true, true, true, true, false, false, true, false, false, false] rfl rfl (any_of HT_.out (by kernel_rfl)) (fun _ _ _ h => h) (Or.inl ⟨by rfl, ?_⟩) ?_ ?_
                   rotate_left
                   ·intro w'
                    go_simp
                    with_reducible rfl
                   rotate_left
                   ·simp only [Act.put, List.setIfInBounds_toArray, List.set_cons_zero, List.set_cons_succ, i64_w, i32_w]
                    rfl
                   refine pure_ (i := 9) (N := some 69) (v := ?_) (a' := ?_) #[true, true, true, true, true, true, true, true, true, true, false, true, false, false, false] rfl rfl (any_of HT_.out (by kernel_rfl)) (fun _ _ _ h => h) (Or.inl ⟨by rfl, ?_⟩) ?_ ?_
                   rotate_left
                   ·intro w'
                    go_simp
                    with_reducible rfl
                   rotate_left
                   ·simp only [Act.put, List.setIfInBounds_toArray, List.set_cons_zero, List.set_cons_succ, i64_w, i32_w]
                    rfl
                   refine pure_ (i := 10) (N := some 70) (v := ?_) (a' := ?_) #[true, true, true, true, true, true, true, true, true, true, true, true, false, false, false] rfl rfl (any_of HT_.out (by kernel_rfl)) (fun _ _ _ h => h) (Or.inl ⟨by rfl, ?_⟩) ?_ ?_
                   rotate_left
                   ·intro w'
                    go_simp
                    with_reducible rfl
                   rotate_left
                   ·simp only [Act.put, List.setIfInBounds_toArray, List.set_cons_zero, List.set_cons_succ, i64_w, i32_w]
                    rfl
                   exact norm_ (by simp only [putAll, Act.put, List.setIfInBounds_toArray, List.set_cons_zero, List.set_cons_succ]) (hCont (v235, v238, gb242) _ ⟨hHeld, (by (with_reducible repeat (first | apply Kd.R_alloc | apply Kd.R_drewN | apply Kd.R_drew)); exact Kd.R_mono HO236.out (fun _ hk => ⟨hk.1.1.1, ⟨hk.1.1.2, ⟨hk.1.2, hk.2⟩⟩⟩)), (by (with_reducible repeat (first | apply Kd.R_alloc | apply Kd.R_drewN | apply Kd.R_drew)); exact Kd.R_mono HO239.out (fun _ hk => ⟨hk.1.1.1, ⟨hk.1.1.2, ⟨hk.1.2, hk.2⟩⟩⟩)), (by (with_reducible repeat (first | apply Kd.R_alloc | apply Kd.R_drewN | apply Kd.R_drew)); exact Kd.R_mono HO_230000.out (fun _ hk => ⟨hk.1.2, ⟨hk.2, ⟨hk.1.1.1, hk.1.1.2⟩⟩⟩)), (by (with_reducible repeat (first | apply Kd.R_alloc | apply Kd.R_drewN | apply Kd.R_drew)); exact Kd.R_mono HO_230001.out (fun _ hk => ⟨hk.1.2, ⟨hk.2, ⟨hk.1.1.1, hk.1.1.2⟩⟩⟩)), (by (with_reducible repeat (first | apply Kd.R_alloc | apply Kd.R_drewN | apply Kd.R_drew)); exact Kd.R_mono HO_231003.out (fun _ hk => ⟨hk.1.2, ⟨hk.2, ⟨hk.1.1.1, hk.1.1.2⟩⟩⟩)), (by (with_reducible repeat (first | refine blk_drewN ?_ _ | refine blk_drew ?_ | refine blk_alloc ?_ _)); exact BK229.out), (by (with_reducible repeat (first | refine blk_drewN ?_ _ | refine blk_drew ?_ | refine blk_alloc ?_ _)); exact BK230.out), (by (with_reducible repeat (first | refine blk_drewN ?_ _ | refine blk_drew ?_ | refine blk_alloc ?_ _)); exact BK232.out), (by (with_reducible repeat (first | refine blk_drewN ?_ _ | refine blk_drew ?_ | refine blk_alloc ?_ _)); exact BK242.out), GW242.out, GE242.out, NB229_242.out, NB242_229.out, NB230_242.out, NB242_230.out, NB232_242.out, NB242_232.out, (by repeat (first | (with_reducible first | exact HB.out | apply below_alloc | apply pw_below_drewN | apply below_drew1 | refine below_set ?_ GE229.out | refine below_set ?_ GE230.out | refine below_set ?_ GE232.out | refine below_set ?_ GE242.out) | exact HB.out))⟩)
                 rintro ⟨v235, v238, gb242⟩ w35 ⟨hS_, h0_, h1_, h2_, h3_, h4_, h5_, h6_, h7_, h8_, h9_, h10_, h11_, h12_, h13_, h14_, h15_, h16_, h17_⟩
                 have n0_ : Aside0 (Kd.R (Kd.int .u8) 5 w35 w.heap.size (fun k_ => some k_ ≠ (v238 : Value).ownBlock ∧ some k_ ≠ (.slice Ao29 x230000_3.length co29 : Value).ownBlock ∧ some k_ ≠ (.slice Ao30 x230001_3.length co30 : Value).ownBlock ∧ some k_ ≠ (.slice none 0 0 : Value).ownBlock) v235 t234) := ⟨h0_⟩
                 have n1_ : Aside0 (Kd.R (Kd.int .u8) 5 w35 w.heap.size (fun k_ => some k_ ≠ (v235 : Value).ownBlock ∧ some k_ ≠ (.slice Ao29 x230000_3.length co29 : Value).ownBlock ∧ some k_ ≠ (.slice Ao30 x230001_3.length co30 : Value).ownBlock ∧ some k_ ≠ (.slice none 0 0 : Value).ownBlock) v238 t237) := ⟨h1_⟩
                 have n2_ : Aside0 (Kd.R (Kd.int .u8) 5 w35 w.heap.size (fun k_ => some k_ ≠ (v235 : Value).ownBlock ∧ some k_ ≠ (v238 : Value).ownBlock ∧ some k_ ≠ (.slice Ao30 x230001_3.length co30 : Value).ownBlock ∧ some k_ ≠ (.slice none 0 0 : Value).ownBlock) (.slice Ao29 x230000_3.length co29) x230000_3) := ⟨h2_⟩
                 have n3_ : Aside0 (Kd.R (Kd.int .u8) 5 w35 w.heap.size (fun k_ => some k_ ≠ (v235 : Value).ownBlock ∧ some k_ ≠ (v238 : Value).ownBlock ∧ some k_ ≠ (.slice Ao29 x230000_3.length co29 : Value).ownBlock ∧ some k_ ≠ (.slice none 0 0 : Value).ownBlock) (.slice Ao30 x230001_3.length co30) x230001_3) := ⟨h3_⟩
                 have n4_ : Aside0 (Kd.R (Kd.int .u8) 5 w35 w.heap.size (fun k_ => some k_ ≠ (v235 : Value).ownBlock ∧ some k_ ≠ (v238 : Value).ownBlock ∧ some k_ ≠ (.slice Ao29 x230000_3.length co29 : Value).ownBlock ∧ some k_ ≠ (.slice Ao30 x230001_3.length co30 : Value).ownBlock) (.slice none 0 0) ([] : List Int)) := ⟨h4_⟩
                 have n5_ : Aside0 (w35.heap[gb229]? = some (.cells #[.slice Ao29 x230000_3.length co29, .slice Ao30 x230001_3.length co30] 24 (0, 0))) := ⟨h5_⟩
                 have n6_ : Aside0 (w35.heap[gb230]? = some (.cells #[.int .i64 x231000_3, .int .i64 x231001_3, .int .i64 x231002_3, u231003] 26 (0, 0))) := ⟨h6_⟩
                 have n7_ : Aside0 (w35.heap[gb232]? = some (.cells #[.int .i64 (wrap64 (x9_3 + 1)), .int .i64 ((rd_T26 l0 x9_3).f1), .int .i64 ((rd_T26 l0 x9_3).f2), .slice A231_3 ((rd_T26 l0 x9_3).f3).length c231_3] 26 (0, 0))) := ⟨h7_⟩
                 have n8_ : Aside0 (w35.heap[gb242]? = some (.cells #[.slice none 0 0, .slice none 0 0] 24 (0, 0))) := ⟨h8_⟩
                 have n9_ : Aside0 (w.heap.size ≤ gb242) := ⟨h9_⟩
                 have n10_ : Aside0 (w.heap.size ≤ gb242) := ⟨h10_⟩
                 have n11_ : Aside0 (gb229 ≠ gb242) := ⟨h11_⟩
                 have n12_ : Aside0 (gb242 ≠ gb229) := ⟨h12_⟩
                 have n13_ : Aside0 (gb230 ≠ gb242) := ⟨h13_⟩
                 have n14_ : Aside0 (gb242 ≠ gb230) := ⟨h14_⟩
                 have n15_ : Aside0 (gb232 ≠ gb242) := ⟨h15_⟩
                 have n16_ : Aside0 (gb242 ≠ gb232) := ⟨h16_⟩
                 have n17_ : Aside0 (Below w.heap.size w w35) := ⟨h17_⟩
                 clear HO_230000
                 clear HO_230001
                 clear HO_231003
                 clear BK229
                 clear BK230
                 clear BK232
                 clear HB
                 clear h0_ h1_ h2_ h3_ h4_ h5_ h6_ h7_ h8_ h9_ h10_ h11_ h12_ h13_ h14_ h15_ h16_ h17_
                 have HO236 := n0_
                 have HO239 := n1_
                 have HO_230000 := n2_
                 have HO_230001 := n3_
                 have HO_231003 := n4_
                 have BK229 := n5_
                 have BK230 := n6_
                 have BK232 := n7_
                 have BK242 := n8_
                 have GW242 := n9_
                 have GE242 := n10_
                 have NB229_242 := n11_
                 have NB242_229 := n12_
                 have NB230_242 := n13_
                 have NB242_230 := n14_
                 have NB232_242 := n15_
                 have NB242_232 := n16_
                 have HB := n17_
                 clear n0_ n1_ n2_ n3_ n4_ n5_ n6_ n7_ n8_ n9_ n10_ n11_ n12_ n13_ n14_ n15_ n16_ n17_
                 have hHeld : w35.cell? ⟨gb229, 0, none⟩ = some (.slice Ao29 x230000_3.length co29) ∧ w35.cell? ⟨gb229, 1, none⟩ = some (.slice Ao30 x230001_3.length co30) ∧ w35.cell? ⟨gb232, 0, none⟩ = some (.int .i64 (wrap64 (x9_3 + 1))) ∧ w35.cell? ⟨gb232, 1, none⟩ = some (.int .i64 ((rd_T26 l0 x9_3).f1)) ∧ w35.cell? ⟨gb232, 2, none⟩ = some (.int .i64 ((rd_T26 l0 x9_3).f2)) ∧ w35.cell? ⟨gb232, 3, none⟩ = some (.slice A231_3 ((rd_T26 l0 x9_3).f3).length c231_3) ∧ w35.cell? (ad233.add (x9_3).toNat) = some (.int .i64 (rd l1 x9_3)) := hS_
                 obtain ⟨Ao36, co36, eo36⟩ := Kd.R_slice HO236.out
                 (first | subst eo36 | (injection eo36 with f1_ f2_ f3_; have f4_ := f1_.symm; have f5_ := f3_.symm; clear f1_ f2_ f3_; subst f4_; subst f5_))
                 obtain ⟨Ao38, co38, eo38⟩ := Kd.R_slice HO239.out
                 (first | subst eo38 | (injection eo38 with f1_ f2_ f3_; have f4_ := f1_.symm; have f5_ := f3_.symm; clear f1_ f2_ f3_; subst f4_; subst f5_))
                 refine norm_ (a' := ?_) ?_ ?_
                 rotate_left
                 ·simp only [putAll, Act.put, List.setIfInBounds_toArray, List.set_cons_zero, List.set_cons_succ]
                  rfl
                 refine one_ (i := 12) (N := none) #[true, true, true, true, true, true, true, true, true, true, true, true, true, false, false] rfl rfl (one_of HT_.out (by kernel_rfl)) (by decide) (fun K hK => ?_)
                 have hs37 : w35.cell? ⟨gb242, 0, none⟩ = some (.slice none 0 0) := (blk_cell BK242.out 0).trans rfl
                 have hfs37 := blk_frozen BK242.out 0
                 have hns37_0 := NB229_242.out
                 have hns37_1 := NB230_242.out
                 have hns37_2 := NB232_242.out
                 have hms37_0 := NB242_229.out
                 have hms37_1 := NB242_230.out
                 have hms37_2 := NB242_232.out
                 have hs39 : w35.cell? ⟨gb242, 1, none⟩ = some (.slice none 0 0) := (blk_cell BK242.out 1).trans rfl
                 have hfs39 := blk_frozen BK242.out 1
                 have hns39_0 := NB229_242.out
                 have hns39_1 := NB230_242.out
                 have hns39_2 := NB232_242.out
                 have hms39_0 := NB242_229.out
                 have hms39_1 := NB242_230.out
                 have hms39_2 := NB242_232.out
                 refine skip_ (w1 := ?_) (by rfl) rfl ?_ ?_
                 rotate_left
                 ·go_simp
                  rfl
                 refine hK.out _ _ ⟨((cell_far (p := ⟨gb242, _, none⟩) NB229_242.out _).trans (((cell_far (p := ⟨gb242, _, none⟩) NB229_242.out _).trans (hHeld.1)))), ((cell_far (p := ⟨gb242, _, none⟩) NB229_242.out _).trans (((cell_far (p := ⟨gb242, _, none⟩) NB229_242.out _).trans (hHeld.2.1)))), ((cell_far (p := ⟨gb242, _, none⟩) NB232_242.out _).trans (((cell_far (p := ⟨gb242, _, none⟩) NB232_242.out _).trans (hHeld.2.2.1)))), ((cell_far (p := ⟨gb242, _, none⟩) NB232_242.out _).trans (((cell_far (p := ⟨gb242, _, none⟩) NB232_242.out _).trans (hHeld.2.2.2.1)))), ((cell_far (p := ⟨gb242, _, none⟩) NB232_242.out _).trans (((cell_far (p := ⟨gb242, _, none⟩) NB232_242.out _).trans (hHeld.2.2.2.2.1)))), ((cell_far (p := ⟨gb242, _, none⟩) NB232_242.out _).trans (((cell_far (p := ⟨gb242, _, none⟩) NB232_242.out _).trans (hHeld.2.2.2.2.2.1)))), ((cell_far (p := ⟨gb242, _, none⟩) (by first | exact Nat.ne_of_lt (Nat.lt_of_lt_of_le (by have := World.block_lt_of_cell? _ _ hw233_0; first | rwa [add_block] at this | exact this) GW242.out) | (rw [add_block]; exact Nat.ne_of_lt (Nat.lt_of_lt_of_le (by have := World.block_lt_of_cell? _ _ hw233_0; first | rwa [add_block] at this | exact this) GW242.out)) | (show (Addr.add _ _).block ≠ _; rw [add_block]; exact Nat.ne_of_lt (Nat.lt_of_lt_of_le (by have := World.block_lt_of_cell? _ _ hw233_0; first | rwa [add_block] at this | exact this) GW242.out)) | (dsimp only; exact Nat.ne_of_lt (Nat.lt_of_lt_of_le (by have := World.block_lt_of_cell? _ _ hw233_0; first | rwa [add_block] at this | exact this) GW242.out))) _).trans (((cell_far (p := ⟨gb242, _, none⟩) (by first | exact Nat.ne_of_lt (Nat.lt_of_lt_of_le (by have := World.block_lt_of_cell? _ _ hw233_0; first | rwa [add_block] at this | exact this) GW242.out) | (rw [add_block]; exact Nat.ne_of_lt (Nat.lt_of_lt_of_le (by have := World.block_lt_of_cell? _ _ hw233_0; first | rwa [add_block] at this | exact this) GW242.out)) | (show (Addr.add _ _).block ≠ _; rw [add_block]; exact Nat.ne_of_lt (Nat.lt_of_lt_of_le (by have := World.block_lt_of_cell? _ _ hw233_0; first | rwa [add_block] at this | exact this) GW242.out)) | (dsimp only; exact Nat.ne_of_lt (Nat.lt_of_lt_of_le (by have := World.block_lt_of_cell? _ _ hw233_0; first | rwa [add_block] at this | exact this) GW242.out))) _).trans (hHeld.2.2.2.2.2.2))))⟩ (fun hHeld => ?_)
                 clear hK K
                 refine pure_ (i := 13) (N := some 12) (v := ?_) (a' := ?_) #[true, true, true, true, true, true, true, true, true, true, true, true, true, true, false] rfl rfl (any_of HT_.out (by kernel_rfl)) (fun _ _ _ h => h) (Or.inl ⟨by rfl, ?_⟩) ?_ ?_
                 rotate_left
                 ·intro w'
                  go_simp
                  with_reducible rfl
                 rotate_left
                 ·simp only [Act.put, List.setIfInBounds_toArray, List.set_cons_zero, List.set_cons_succ, i64_w, i32_w]
                  rfl
                 refine pure_ (i := 14) (N := some 13) (v := ?_) (a' := ?_) #[true, true, true, true, true, true, true, true, true, true, true, true, true, true, true] rfl rfl (any_of HT_.out (by kernel_rfl)) (fun _ _ _ h => h) (Or.inl ⟨by rfl, ?_⟩) ?_ ?_
                 rotate_left
                 ·intro w'
                  go_simp
                  with_reducible rfl
                 rotate_left
                 ·simp only [Act.put, List.setIfInBounds_toArray, List.set_cons_zero, List.set_cons_succ, i64_w, i32_w]
                  rfl
                 refine done_ (done_of HT_.out (by kernel_rfl)) ?_
                 have hnb40 := NB242_229.out
                 have hnc40 := NB229_242.out
                 have hnb41 := NB242_230.out
                 have hnc41 := NB230_242.out
                 have hnb42 := NB242_232.out
                 have hnc42 := NB232_242.out
                 have hcz43_0 : w35.cell? ⟨gb242, 0, none⟩ = some (.slice none 0 0) := (blk_cell BK242.out 0).trans rfl
                 have hcz43_1 : w35.cell? ⟨gb242, 1, none⟩ = some (.slice none 0 0) := (blk_cell BK242.out 1).trans rfl
                 have hfz43_0 := blk_frozen BK242.out 0
                 have hfz43_1 := blk_frozen BK242.out 1
                 have hnb44 := NB229_230.out
                 have hnc44 := NB230_229.out
                 have hcz45_0 : w35.cell? ⟨gb229, 0, none⟩ = some (.slice Ao29 x230000_3.length co29) := (blk_cell BK229.out 0).trans rfl
                 have hcz45_1 : w35.cell? ⟨gb229, 1, none⟩ = some (.slice Ao30 x230001_3.length co30) := (blk_cell BK229.out 1).trans rfl
                 have hfz45_0 := blk_frozen BK229.out 0
                 have hfz45_1 := blk_frozen BK229.out 1
                 go_upto_if 76 with (fail)
                 go_cut [] (fun wc => ∃ (kq : Nat) (x231000_23 : Int) (x231001_23 : Int) (x231002_23 : Int) (x231003_23 : List Int) (u231003 : Value), Aside0 (newellaw12_FlashGoes.j4 kq l0 l1 x9_3 t234 t237 x231000_23 x231001_23 x231002_23 x231003_23 = some r) ∧ Aside0 (kq ≤ kj14) ∧ Aside0 (Kd.R (Kd.int .u8) 5 wc w.heap.size (fun k_ => some k_ ≠ ((.slice Ao38 t237.length co38) : Value).ownBlock ∧ some k_ ≠ (.slice none 0 0 : Value).ownBlock ∧ some k_ ≠ ((.slice Ao38 t237.length co38) : Value).ownBlock) (.slice Ao36 t234.length co36) t234) ∧ Aside0 (Kd.R (Kd.int .u8) 5 wc w.heap.size (fun k_ => some k_ ≠ ((.slice Ao36 t234.length co36) : Value).ownBlock ∧ some k_ ≠ (.slice none 0 0 : Value).ownBlock ∧ some k_ ≠ ((.slice Ao36 t234.length co36) : Value).ownBlock) (.slice Ao38 t237.length co38) t237) ∧ Aside0 (LastRow w u231003 x231003_23) ∧ Aside0 (Kd.R (Kd.int .u8) 5 wc w.heap.size (fun k_ => some k_ ≠ ((.slice Ao38 t237.length co38) : Value).ownBlock ∧ some k_ ≠ (.slice none 0 0 : Value).ownBlock ∧ some k_ ≠ ((.slice Ao38 t237.length co38) : Value).ownBlock) (.slice Ao36 t234.length co36) t234) ∧ Aside0 (Kd.R (Kd.int .u8) 5 wc w.heap.size (fun k_ => some k_ ≠ ((.slice Ao36 t234.length co36) : Value).ownBlock ∧ some k_ ≠ (.slice none 0 0 : Value).ownBlock ∧ some k_ ≠ ((.slice Ao36 t234.length co36) : Value).ownBlock) (.slice Ao38 t237.length co38) t237) ∧ Aside0 (wc.heap[gb229]? = some (.cells #[(.slice Ao36 t234.length co36), (.slice Ao38 t237.length co38)] 24 (0, 0))) ∧ Aside0 (wc.heap[gb230]? = some (.cells #[.int .i64 x231000_23, .int .i64 x231001_23, .int .i64 x231002_23, u231003] 26 (0, 0))) ∧ Aside0 (wc.heap[gb232]? = some (.cells #[.int .i64 (wrap64 (x9_3 + 1)), .int .i64 ((rd_T26 l0 x9_3).f1), .int .i64 ((rd_T26 l0 x9_3).f2), (.slice A231_3 ((rd_T26 l0 x9_3).f3).length c231_3)] 26 (0, 0))) ∧ Aside0 (wc.heap[gb242]? = some (.cells #[(.slice Ao36 t234.length co36), (.slice Ao38 t237.length co38)] 24 (0, 0))) ∧ Aside0 (Below w.heap.size w wc))
                 case first =>
                  have H := HC24.out
                  clear HC24
                  by_cases c46 : t240 = true
                  ·subst c46
                   have H1 : (newellaw12_FlashGoes.j4 kj14 l0 l1 x9_3 t234 t237 (wrap64 (x9_3 + 1)) ((rd_T26 l0 x9_3).f1) ((rd_T26 l0 x9_3).f2) ((rd_T26 l0 x9_3).f3)) = some r := by rw [if_pos rfl] at H; exact H
                   clear H
                   have H' := Aside0.mk H1
                   clear H1
                   have hnb48 := NB232_229.out
                   have hnc48 := NB229_232.out
                   have hnb49 := NB232_230.out
                   have hnc49 := NB230_232.out
                   have hnb50 := NB232_242.out
                   have hnc50 := NB242_232.out
                   have hcz51_0 : w35.cell? ⟨gb232, 0, none⟩ = some (.int .i64 (wrap64 (x9_3 + 1))) := (blk_cell BK232.out 0).trans rfl
                   have hcz51_1 : w35.cell? ⟨gb232, 1, none⟩ = some (.int .i64 ((rd_T26 l0 x9_3).f1)) := (blk_cell BK232.out 1).trans rfl
                   have hcz51_2 : w35.cell? ⟨gb232, 2, none⟩ = some (.int .i64 ((rd_T26 l0 x9_3).f2)) := (blk_cell BK232.out 2).trans rfl
                   have hcz51_3 : w35.cell? ⟨gb232, 3, none⟩ = some (.slice A231_3 ((rd_T26 l0 x9_3).f3).length c231_3) := (blk_cell BK232.out 3).trans rfl
                   have hfz51_0 := blk_frozen BK232.out 0
                   have hfz51_1 := blk_frozen BK232.out 1
                   have hfz51_2 := blk_frozen BK232.out 2
                   have hfz51_3 := blk_frozen BK232.out 3
                   have hnb901 := NB230_229.out
                   have hnc901 := NB229_230.out
                   have hnb902 := NB230_242.out
                   have hnc902 := NB242_230.out
                   have hcz903_0 : w35.cell? ⟨gb230, 0, none⟩ = some (.int .i64 x231000_3) := (blk_cell BK230.out 0).trans rfl
                   have hcz903_1 : w35.cell? ⟨gb230, 1, none⟩ = some (.int .i64 x231001_3) := (blk_cell BK230.out 1).trans rfl
                   have hcz903_2 : w35.cell? ⟨gb230, 2, none⟩ = some (.int .i64 x231002_3) := (blk_cell BK230.out 2).trans rfl
                   have hcz903_3 : w35.cell? ⟨gb230, 3, none⟩ = some (u231003) := (blk_cell BK230.out 3).trans rfl
                   have hfz903_0 := blk_frozen BK230.out 0
                   have hfz903_1 := blk_frozen BK230.out 1
                   have hfz903_2 := blk_frozen BK230.out 2
                   have hfz903_3 := blk_frozen BK230.out 3
                   go_wp2
                   go_meet
                   case rel => exact ⟨_, (wrap64 (x9_3 + 1)), ((rd_T26 l0 x9_3).f1), ((rd_T26 l0 x9_3).f2), ((rd_T26 l0 x9_3).f3), (.slice A231_3 ((rd_T26 l0 x9_3).f3).length c231_3), H', ⟨by have := HK1.out; have := HJ4.out; have := HK3.out; have := HJ14.out; first | omega | exact Nat.le_refl _⟩, ⟨by (with_reducible repeat (first | apply Kd.R_alloc | apply Kd.R_drewN | apply Kd.R_drew)); exact Kd.R_mono (Kd.R_far (p := ⟨gb230, 3, none⟩) (Kd.R_far (p := ⟨gb230, 2, none⟩) (Kd.R_far (p := ⟨gb230, 1, none⟩) (Kd.R_far (p := ⟨gb230, 0, none⟩) (Kd.R_far (p := ⟨gb229, 1, none⟩) (Kd.R_far (p := ⟨gb229, 0, none⟩) (Kd.R_far (p := ⟨gb242, 1, none⟩) (Kd.R_far (p := ⟨gb242, 0, none⟩) (Kd.R_types (Kd.R_types (Kd.R_types HO236.out BK242.out (by decide)) BK229.out (by decide)) BK230.out (by decide)) (fun _ hk => hk.1.1.2) (.slice Ao36 t234.length co36)) (fun _ hk => hk.1.1.2) (.slice Ao38 t237.length co38)) (fun _ hk => hk.1.2) (.slice Ao36 t234.length co36)) (fun _ hk => hk.1.2) (.slice Ao38 t237.length co38)) (fun _ hk => hk.2) (.int .i64 (wrap64 (x9_3 + 1)))) (fun _ hk => hk.2) (.int .i64 ((rd_T26 l0 x9_3).f1))) (fun _ hk => hk.2) (.int .i64 ((rd_T26 l0 x9_3).f2))) (fun _ hk => hk.2) (.slice A231_3 ((rd_T26 l0 x9_3).f3).length c231_3)) (fun _ hk => ⟨hk.1.1.1.1, ⟨hk.1.1.1.2.2.2, hk.1.1.1.1⟩⟩)⟩, ⟨by (with_reducible repeat (first | apply Kd.R_alloc | apply Kd.R_drewN | apply Kd.R_drew)); exact Kd.R_mono (Kd.R_far (p := ⟨gb230, 3, none⟩) (Kd.R_far (p := ⟨gb230, 2, none⟩) (Kd.R_far (p := ⟨gb230, 1, none⟩) (Kd.R_far (p := ⟨gb230, 0, none⟩) (Kd.R_far (p := ⟨gb229, 1, none⟩) (Kd.R_far (p := ⟨gb229, 0, none⟩) (Kd.R_far (p := ⟨gb242, 1, none⟩) (Kd.R_far (p := ⟨gb242, 0, none⟩) (Kd.R_types (Kd.R_types (Kd.R_types HO239.out BK242.out (by decide)) BK229.out (by decide)) BK230.out (by decide)) (fun _ hk => hk.1.1.2) (.slice Ao36 t234.length co36)) (fun _ hk => hk.1.1.2) (.slice Ao38 t237.length co38)) (fun _ hk => hk.1.2) (.slice Ao36 t234.length co36)) (fun _ hk => hk.1.2) (.slice Ao38 t237.length co38)) (fun _ hk => hk.2) (.int .i64 (wrap64 (x9_3 + 1)))) (fun _ hk => hk.2) (.int .i64 ((rd_T26 l0 x9_3).f1))) (fun _ hk => hk.2) (.int .i64 ((rd_T26 l0 x9_3).f2))) (fun _ hk => hk.2) (.slice A231_3 ((rd_T26 l0 x9_3).f3).length c231_3)) (fun _ hk => ⟨hk.1.1.1.1, ⟨hk.1.1.1.2.2.2, hk.1.1.1.1⟩⟩)⟩, ⟨⟨A231_3, c231_3, rfl, HC231_3.out, HR231_3.out⟩⟩, ⟨by (with_reducible repeat (first | apply Kd.R_alloc | apply Kd.R_drewN | apply Kd.R_drew)); exact Kd.R_mono (Kd.R_far (p := ⟨gb230, 3, none⟩) (Kd.R_far (p := ⟨gb230, 2, none⟩) (Kd.R_far (p := ⟨gb230, 1, none⟩) (Kd.R_far (p := ⟨gb230, 0, none⟩) (Kd.R_far (p := ⟨gb229, 1, none⟩) (Kd.R_far (p := ⟨gb229, 0, none⟩) (Kd.R_far (p := ⟨gb242, 1, none⟩) (Kd.R_far (p := ⟨gb242, 0, none⟩) (Kd.R_types (Kd.R_types (Kd.R_types HO236.out BK242.out (by decide)) BK229.out (by decide)) BK230.out (by decide)) (fun _ hk => hk.1.1.2) (.slice Ao36 t234.length co36)) (fun _ hk => hk.1.1.2) (.slice Ao38 t237.length co38)) (fun _ hk => hk.1.2) (.slice Ao36 t234.length co36)) (fun _ hk => hk.1.2) (.slice Ao38 t237.length co38)) (fun _ hk => hk.2) (.int .i64 (wrap64 (x9_3 + 1)))) (fun _ hk => hk.2) (.int .i64 ((rd_T26 l0 x9_3).f1))) (fun _ hk => hk.2) (.int .i64 ((rd_T26 l0 x9_3).f2))) (fun _ hk => hk.2) (.slice A231_3 ((rd_T26 l0 x9_3).f3).length c231_3)) (fun _ hk => ⟨hk.1.1.1.1, ⟨hk.1.1.1.2.2.2, hk.1.1.1.1⟩⟩)⟩, ⟨by (with_reducible repeat (first | apply Kd.R_alloc | apply Kd.R_drewN | apply Kd.R_drew)); exact Kd.R_mono (Kd.R_far (p := ⟨gb230, 3, none⟩) (Kd.R_far (p := ⟨gb230, 2, none⟩) (Kd.R_far (p := ⟨gb230, 1, none⟩) (Kd.R_far (p := ⟨gb230, 0, none⟩) (Kd.R_far (p := ⟨gb229, 1, none⟩) (Kd.R_far (p := ⟨gb229, 0, none⟩) (Kd.R_far (p := ⟨gb242, 1, none⟩) (Kd.R_far (p := ⟨gb242, 0, none⟩) (Kd.R_types (Kd.R_types (Kd.R_types HO239.out BK242.out (by decide)) BK229.out (by decide)) BK230.out (by decide)) (fun _ hk => hk.1.1.2) (.slice Ao36 t234.length co36)) (fun _ hk => hk.1.1.2) (.slice Ao38 t237.length co38)) (fun _ hk => hk.1.2) (.slice Ao36 t234.length co36)) (fun _ hk => hk.1.2) (.slice Ao38 t237.length co38)) (fun _ hk => hk.2) (.int .i64 (wrap64 (x9_3 + 1)))) (fun _ hk => hk.2) (.int .i64 ((rd_T26 l0 x9_3).f1))) (fun _ hk => hk.2) (.int .i64 ((rd_T26 l0 x9_3).f2))) (fun _ hk => hk.2) (.slice A231_3 ((rd_T26 l0 x9_3).f3).length c231_3)) (fun _ hk => ⟨hk.1.1.1.1, ⟨hk.1.1.1.2.2.2, hk.1.1.1.1⟩⟩)⟩, ⟨by (with_reducible repeat (first | refine blk_drewN ?_ _ | refine blk_drew ?_ | refine blk_alloc ?_ _)); refine blk_far ?_ NB229_230.out _; (with_reducible repeat (first | refine blk_drewN ?_ _ | refine blk_drew ?_ | refine blk_alloc ?_ _)); refine blk_far ?_ NB229_230.out _; (with_reducible repeat (first | refine blk_drewN ?_ _ | refine blk_drew ?_ | refine blk_alloc ?_ _)); refine blk_far ?_ NB229_230.out _; (with_reducible repeat (first | refine blk_drewN ?_ _ | refine blk_drew ?_ | refine blk_alloc ?_ _)); refine blk_far ?_ NB229_230.out _; (with_reducible repeat (first | refine blk_drewN ?_ _ | refine blk_drew ?_ | refine blk_alloc ?_ _)); refine blk_put (cs := #[.slice Ao36 t234.length co36, .slice Ao30 x230001_3.length co30]) ?_ 1 _ rfl; (with_reducible repeat (first | refine blk_drewN ?_ _ | refine blk_drew ?_ | refine blk_alloc ?_ _)); refine blk_put (cs := #[.slice Ao29 x230000_3.length co29, .slice Ao30 x230001_3.length co30]) ?_ 0 _ rfl; (with_reducible repeat (first | refine blk_drewN ?_ _ | refine blk_drew ?_ | refine blk_alloc ?_ _)); refine blk_far ?_ NB229_242.out _; (with_reducible repeat (first | refine blk_drewN ?_ _ | refine blk_drew ?_ | refine blk_alloc ?_ _)); refine blk_far ?_ NB229_242.out _; (with_reducible repeat (first | refine blk_drewN ?_ _ | refine blk_drew ?_ | refine blk_alloc ?_ _)); exact BK229.out⟩, ⟨by (with_reducible repeat (first | refine blk_drewN ?_ _ | refine blk_drew ?_ | refine blk_alloc ?_ _)); refine blk_put (cs := #[.int .i64 (wrap64 (x9_3 + 1)), .int .i64 ((rd_T26 l0 x9_3).f1), .int .i64 ((rd_T26 l0 x9_3).f2), u231003]) ?_ 3 _ rfl; (with_reducible repeat (first | refine blk_drewN ?_ _ | refine blk_drew ?_ | refine blk_alloc ?_ _)); refine blk_put (cs := #[.int .i64 (wrap64 (x9_3 + 1)), .int .i64 ((rd_T26 l0 x9_3).f1), .int .i64 x231002_3, u231003]) ?_ 2 _ rfl; (with_reducible repeat (first | refine blk_drewN ?_ _ | refine blk_drew ?_ | refine blk_alloc ?_ _)); refine blk_put (cs := #[.int .i64 (wrap64 (x9_3 + 1)), .int .i64 x231001_3, .int .i64 x231002_3, u231003]) ?_ 1 _ rfl; (with_reducible repeat (first | refine blk_drewN ?_ _ | refine blk_drew ?_ | refine blk_alloc ?_ _)); refine blk_put (cs := #[.int .i64 x231000_3, .int .i64 x231001_3, .int .i64 x231002_3, u231003]) ?_ 0 _ rfl; (with_reducible repeat (first | refine blk_drewN ?_ _ | refine blk_drew ?_ | refine blk_alloc ?_ _)); refine blk_far ?_ NB230_229.out _; (with_reducible repeat (first | refine blk_drewN ?_ _ | refine blk_drew ?_ | refine blk_alloc ?_ _)); refine blk_far ?_ NB230_229.out _; (with_reducible repeat (first | refine blk_drewN ?_ _ | refine blk_drew ?_ | refine blk_alloc ?_ _)); refine blk_far ?_ NB230_242.out _; (with_reducible repeat (first | refine blk_drewN ?_ _ | refine blk_drew ?_ | refine blk_alloc ?_ _)); refine blk_far ?_ NB230_242.out _; (with_reducible repeat (first | refine blk_drewN ?_ _ | refine blk_drew ?_ | refine blk_alloc ?_ _)); exact BK230.out⟩, ⟨by (with_reducible repeat (first | refine blk_drewN ?_ _ | refine blk_drew ?_ | refine blk_alloc ?_ _)); refine blk_far ?_ NB232_230.out _; (with_reducible repeat (first | refine blk_drewN ?_ _ | refine blk_drew ?_ | refine blk_alloc ?_ _)); refine blk_far ?_ NB232_230.out _; (with_reducible repeat (first | refine blk_drewN ?_ _ | refine blk_drew ?_ | refine blk_alloc ?_ _)); refine blk_far ?_ NB232_230.out _; (with_reducible repeat (first | refine blk_drewN ?_ _ | refine blk_drew ?_ | refine blk_alloc ?_ _)); refine blk_far ?_ NB232_230.out _; (with_reducible repeat (first | refine blk_drewN ?_ _ | refine blk_drew ?_ | refine blk_alloc ?_ _)); refine blk_far ?_ NB232_229.out _; (with_reducible repeat (first | refine blk_drewN ?_ _ | refine blk_drew ?_ | refine blk_alloc ?_ _)); refine blk_far ?_ NB232_229.out _; (with_reducible repeat (first | refine blk_drewN ?_ _ | refine blk_drew ?_ | refine blk_alloc ?_ _)); refine blk_far ?_ NB232_242.out _; (with_reducible repeat (first | refine blk_drewN ?_ _ | refine blk_drew ?_ | refine blk_alloc ?_ _)); refine blk_far ?_ NB232_242.out _; (with_reducible repeat (first | refine blk_drewN ?_ _ | refine blk_drew ?_ | refine blk_alloc ?_ _)); exact BK232.out⟩, ⟨by (with_reducible repeat (first | refine blk_drewN ?_ _ | refine blk_drew ?_ | refine blk_alloc ?_ _)); refine blk_far ?_ NB242_230.out _; (with_reducible repeat (first | refine blk_drewN ?_ _ | refine blk_drew ?_ | refine blk_alloc ?_ _)); refine blk_far ?_ NB242_230.out _; (with_reducible repeat (first | refine blk_drewN ?_ _ | refine blk_drew ?_ | refine blk_alloc ?_ _)); refine blk_far ?_ NB242_230.out _; (with_reducible repeat (first | refine blk_drewN ?_ _ | refine blk_drew ?_ | refine blk_alloc ?_ _)); refine blk_far ?_ NB242_230.out _; (with_reducible repeat (first | refine blk_drewN ?_ _ | refine blk_drew ?_ | refine blk_alloc ?_ _)); refine blk_far ?_ NB242_229.out _; (with_reducible repeat (first | refine blk_drewN ?_ _ | refine blk_drew ?_ | refine blk_alloc ?_ _)); refine blk_far ?_ NB242_229.out _; (with_reducible repeat (first | refine blk_drewN ?_ _ | refine blk_drew ?_ | refine blk_alloc ?_ _)); refine blk_put (cs := #[.slice Ao36 t234.length co36, .slice none 0 0]) ?_ 1 _ rfl; (with_reducible repeat (first | refine blk_drewN ?_ _ | refine blk_drew ?_ | refine blk_alloc ?_ _)); refine blk_put (cs := #[.slice none 0 0, .slice none 0 0]) ?_ 0 _ rfl; (with_reducible repeat (first | refine blk_drewN ?_ _ | refine blk_drew ?_ | refine blk_alloc ?_ _)); exact BK242.out⟩, ⟨by repeat (first | (with_reducible first | exact HB.out | apply below_alloc | apply pw_below_drewN | apply below_drew1 | refine below_set ?_ GE229.out | refine below_set ?_ GE230.out | refine below_set ?_ GE232.out | refine below_set ?_ GE242.out) | exact HB.out)⟩⟩
                  ·replace c46 := Bool.eq_false_iff.mpr c46
                   subst c46
                   have H1 : (newellaw12_FlashGoes.j4 kj14 l0 l1 x9_3 t234 t237 x231000_3 x231001_3 x231002_3 x231003_3) = some r := by rw [if_neg (show ¬ (false = true) by decide)] at H; exact H
                   clear H
                   have H := H1
                   clear H1
                   have H' := Aside0.mk H
                   clear H
                   go_wp2
                   go_meet
                   case rel => exact ⟨_, (x231000_3), (x231001_3), (x231002_3), (x231003_3), (u231003), H', ⟨by have := HK1.out; have := HJ4.out; have := HK3.out; have := HJ14.out; first | omega | exact Nat.le_refl _⟩, ⟨by (with_reducible repeat (first | apply Kd.R_alloc | apply Kd.R_drewN | apply Kd.R_drew)); exact Kd.R_mono (Kd.R_far (p := ⟨gb229, 1, none⟩) (Kd.R_far (p := ⟨gb229, 0, none⟩) (Kd.R_far (p := ⟨gb242, 1, none⟩) (Kd.R_far (p := ⟨gb242, 0, none⟩) (Kd.R_types (Kd.R_types HO236.out BK242.out (by decide)) BK229.out (by decide)) (fun _ hk => hk.1.2) (.slice Ao36 t234.length co36)) (fun _ hk => hk.1.2) (.slice Ao38 t237.length co38)) (fun _ hk => hk.2) (.slice Ao36 t234.length co36)) (fun _ hk => hk.2) (.slice Ao38 t237.length co38)) (fun _ hk => ⟨hk.1.1.1, ⟨hk.1.1.2.2.2, hk.1.1.1⟩⟩)⟩, ⟨by (with_reducible repeat (first | apply Kd.R_alloc | apply Kd.R_drewN | apply Kd.R_drew)); exact Kd.R_mono (Kd.R_far (p := ⟨gb229, 1, none⟩) (Kd.R_far (p := ⟨gb229, 0, none⟩) (Kd.R_far (p := ⟨gb242, 1, none⟩) (Kd.R_far (p := ⟨gb242, 0, none⟩) (Kd.R_types (Kd.R_types HO239.out BK242.out (by decide)) BK229.out (by decide)) (fun _ hk => hk.1.2) (.slice Ao36 t234.length co36)) (fun _ hk => hk.1.2) (.slice Ao38 t237.length co38)) (fun _ hk => hk.2) (.slice Ao36 t234.length co36)) (fun _ hk => hk.2) (.slice Ao38 t237.length co38)) (fun _ hk => ⟨hk.1.1.1, ⟨hk.1.1.2.2.2, hk.1.1.1⟩⟩)⟩, HL, ⟨by (with_reducible repeat (first | apply Kd.R_alloc | apply Kd.R_drewN | apply Kd.R_drew)); exact Kd.R_mono (Kd.R_far (p := ⟨gb229, 1, none⟩) (Kd.R_far (p := ⟨gb229, 0, none⟩) (Kd.R_far (p := ⟨gb242, 1, none⟩) (Kd.R_far (p := ⟨gb242, 0, none⟩) (Kd.R_types (Kd.R_types HO236.out BK242.out (by decide)) BK229.out (by decide)) (fun _ hk => hk.1.2) (.slice Ao36 t234.length co36)) (fun _ hk => hk.1.2) (.slice Ao38 t237.length co38)) (fun _ hk => hk.2) (.slice Ao36 t234.length co36)) (fun _ hk => hk.2) (.slice Ao38 t237.length co38)) (fun _ hk => ⟨hk.1.1.1, ⟨hk.1.1.2.2.2, hk.1.1.1⟩⟩)⟩, ⟨by (with_reducible repeat (first | apply Kd.R_alloc | apply Kd.R_drewN | apply Kd.R_drew)); exact Kd.R_mono (Kd.R_far (p := ⟨gb229, 1, none⟩) (Kd.R_far (p := ⟨gb229, 0, none⟩) (Kd.R_far (p := ⟨gb242, 1, none⟩) (Kd.R_far (p := ⟨gb242, 0, none⟩) (Kd.R_types (Kd.R_types HO239.out BK242.out (by decide)) BK229.out (by decide)) (fun _ hk => hk.1.2) (.slice Ao36 t234.length co36)) (fun _ hk => hk.1.2) (.slice Ao38 t237.length co38)) (fun _ hk => hk.2) (.slice Ao36 t234.length co36)) (fun _ hk => hk.2) (.slice Ao38 t237.length co38)) (fun _ hk => ⟨hk.1.1.1, ⟨hk.1.1.2.2.2, hk.1.1.1⟩⟩)⟩, ⟨by (with_reducible repeat (first | refine blk_drewN ?_ _ | refine blk_drew ?_ | refine blk_alloc ?_ _)); refine blk_put (cs := #[.slice Ao36 t234.length co36, .slice Ao30 x230001_3.length co30]) ?_ 1 _ rfl; (with_reducible repeat (first | refine blk_drewN ?_ _ | refine blk_drew ?_ | refine blk_alloc ?_ _)); refine blk_put (cs := #[.slice Ao29 x230000_3.length co29, .slice Ao30 x230001_3.length co30]) ?_ 0 _ rfl; (with_reducible repeat (first | refine blk_drewN ?_ _ | refine blk_drew ?_ | refine blk_alloc ?_ _)); refine blk_far ?_ NB229_242.out _; (with_reducible repeat (first | refine blk_drewN ?_ _ | refine blk_drew ?_ | refine blk_alloc ?_ _)); refine blk_far ?_ NB229_242.out _; (with_reducible repeat (first | refine blk_drewN ?_ _ | refine blk_drew ?_ | refine blk_alloc ?_ _)); exact BK229.out⟩, ⟨by (with_reducible repeat (first | refine blk_drewN ?_ _ | refine blk_drew ?_ | refine blk_alloc ?_ _)); refine blk_far ?_ NB230_229.out _; (with_reducible repeat (first | refine blk_drewN ?_ _ | refine blk_drew ?_ | refine blk_alloc ?_ _)); refine blk_far ?_ NB230_229.out _; (with_reducible repeat (first | refine blk_drewN ?_ _ | refine blk_drew ?_ | refine blk_alloc ?_ _)); refine blk_far ?_ NB230_242.out _; (with_reducible repeat (first | refine blk_drewN ?_ _ | refine blk_drew ?_ | refine blk_alloc ?_ _)); refine blk_far ?_ NB230_242.out _; (with_reducible repeat (first | refine blk_drewN ?_ _ | refine blk_drew ?_ | refine blk_alloc ?_ _)); exact BK230.out⟩, ⟨by (with_reducible repeat (first | refine blk_drewN ?_ _ | refine blk_drew ?_ | refine blk_alloc ?_ _)); refine blk_far ?_ NB232_229.out _; (with_reducible repeat (first | refine blk_drewN ?_ _ | refine blk_drew ?_ | refine blk_alloc ?_ _)); refine blk_far ?_ NB232_229.out _; (with_reducible repeat (first | refine blk_drewN ?_ _ | refine blk_drew ?_ | refine blk_alloc ?_ _)); refine blk_far ?_ NB232_242.out _; (with_reducible repeat (first | refine blk_drewN ?_ _ | refine blk_drew ?_ | refine blk_alloc ?_ _)); refine blk_far ?_ NB232_242.out _; (with_reducible repeat (first | refine blk_drewN ?_ _ | refine blk_drew ?_ | refine blk_alloc ?_ _)); exact BK232.out⟩, ⟨by (with_reducible repeat (first | refine blk_drewN ?_ _ | refine blk_drew ?_ | refine blk_alloc ?_ _)); refine blk_far ?_ NB242_229.out _; (with_reducible repeat (first | refine blk_drewN ?_ _ | refine blk_drew ?_ | refine blk_alloc ?_ _)); refine blk_far ?_ NB242_229.out _; (with_reducible repeat (first | refine blk_drewN ?_ _ | refine blk_drew ?_ | refine blk_alloc ?_ _)); refine blk_put (cs := #[.slice Ao36 t234.length co36, .slice none 0 0]) ?_ 1 _ rfl; (with_reducible repeat (first | refine blk_drewN ?_ _ | refine blk_drew ?_ | refine blk_alloc ?_ _)); refine blk_put (cs := #[.slice none 0 0, .slice none 0 0]) ?_ 0 _ rfl; (with_reducible repeat (first | refine blk_drewN ?_ _ | refine blk_drew ?_ | refine blk_alloc ?_ _)); exact BK242.out⟩, ⟨by repeat (first | (with_reducible first | exact HB.out | apply below_alloc | apply pw_below_drewN | apply below_drew1 | refine below_set ?_ GE229.out | refine below_set ?_ GE230.out | refine below_set ?_ GE232.out | refine below_set ?_ GE242.out) | exact HB.out)⟩⟩
                 case rest =>
                  clear HC24
                  try clear c1
                  try clear c2
                  try clear p2
                  try clear q2
                  try clear hx2
                  try clear c4
                  try clear c5
                  try clear p6
                  try clear c11
                  try clear c19
                  try clear c19b0
                  try clear c20
                  try clear c20b0
                  try clear c21
                  try clear c21b0
                  try clear c23
                  try clear c23b0
                  try clear c23b1
                  try clear p23
                  try clear q23
                  try clear hx23
                  try clear c26
                  try clear c27
                  try clear c40
                  try clear c41
                  try clear c42
                  try clear c44
                  try clear c46
                  try clear c47
                  try clear c48
                  try clear c49
                  try clear c50
                  try clear c57
                  try clear c58
                  try clear hcz28_0
                  try clear hcz28_1
                  try clear hcz28_2
                  try clear hcz28_3
                  try clear hcz43_0
                  try clear hcz43_1
                  try clear hcz45_0
                  try clear hcz45_1
                  try clear hcz51_0
                  try clear hcz51_1
                  try clear hcz51_2
                  try clear hcz51_3
                  try clear hcz54_0
                  try clear hcz54_1
                  try clear hcz54_2
                  try clear hcz54_3
                  try clear hcz59_0
                  try clear hcz59_1
                  try clear hcz59_2
                  try clear hcz59_3
                  try clear hfz28_0
                  try clear hfz28_1
                  try clear hfz28_2
                  try clear hfz28_3
                  try clear hfz43_0
                  try clear hfz43_1
                  try clear hfz45_0
                  try clear hfz45_1
                  try clear hfz51_0
                  try clear hfz51_1
                  try clear hfz51_2
                  try clear hfz51_3
                  try clear hfz54_0
                  try clear hfz54_1
                  try clear hfz54_2
                  try clear hfz54_3
                  try clear hfz59_0
                  try clear hfz59_1
                  try clear hfz59_2
                  try clear hfz59_3
                  try clear hx231_0
                  try clear hx231_1
                  try clear hx231_2
                  try clear hx231_3
                  try clear hx233_0
                  try clear p231
                  try clear p233
                  try clear q231
                  try clear q233
                  obtain ⟨kq, x231000_23, x231001_23, x231002_23, x231003_23, u231003, HA, HJ23, HO_230000, HO_230001, HL, HO_243000, HO_243001, BK229, BK230, BK232, BK242, HB⟩ := hcut
                  have HO_231003 := phantom_ (fun k_ => some k_ ≠ ((.slice Ao36 t234.length co36) : Value).ownBlock ∧ some k_ ≠ ((.slice Ao38 t237.length co38) : Value).ownBlock ∧ some k_ ≠ ((.slice Ao36 t234.length co36) : Value).ownBlock ∧ some k_ ≠ ((.slice Ao38 t237.length co38) : Value).ownBlock) HO_230000
                  cases kq with
                  | zero => exact absurd HA.out (by simp [newellaw12_FlashGoes.j4])
                  | succ kj23 =>
                   have H := HA.out
                   clear HA
                   simp only [newellaw12_FlashGoes.j4] at H
                   replace H := Option.bind_eq_some_iff.mp H
                   obtain ⟨⟨t250, t251, t252, t253, t256, t257⟩, A600, H⟩ := H
                   replace H : (if ((t257 == 0) != (decide (x231000_23 > 0))) = true then (none) else (if t257 = 0 then ((flash_Same.f t250 t251 t252 t253 x231000_23 x231001_23 x231002_23 x231003_23).bind fun t259 => (newellaw12_FlashGoes.j5 kj23 l0 l1 x9_3 (!t259) t234 t237 x231000_23 x231001_23 x231002_23 x231003_23)) else (newellaw12_FlashGoes.j5 kj23 l0 l1 x9_3 false t234 t237 x231000_23 x231001_23 x231002_23 x231003_23))) = some r := H
                   have A60 := Aside0.mk A600
                   clear A600
                   have HC61 := Aside0.mk H
                   clear H
                   have hnb62 := NB229_230.out
                   have hnc62 := NB230_229.out
                   have hnb63 := NB229_232.out
                   have hnc63 := NB232_229.out
                   have hnb64 := NB229_242.out
                   have hnc64 := NB242_229.out
                   have hcz65_0 : wc.cell? ⟨gb229, 0, none⟩ = some (.slice Ao36 t234.length co36) := (blk_cell BK229.out 0).trans rfl
                   have hcz65_1 : wc.cell? ⟨gb229, 1, none⟩ = some (.slice Ao38 t237.length co38) := (blk_cell BK229.out 1).trans rfl
                   have hfz65_0 := blk_frozen BK229.out 0
                   have hfz65_1 := blk_frozen BK229.out 1
                   go_upto_region 23 with (first | ((with_reducible refine gate_callee (f := 14) rfl ?_); refine goesL_ (some 80) rfl rfl Tryd.func14 (by kernel_rfl) rfl #[.agg #[.slice Ao36 t234.length co36, .slice Ao38 t237.length co38]] rfl (by (try simp only [List.map_toArray, List.map_cons, List.map_nil]); first | done | rfl | (simp only [List.length_drop, List.length_take]; rfl)) ?_; (with_reducible refine (flash_Recover.calls kj23 _ _ t234 _ _ t237 t250 t251 t252 t253 t256 t257 _ ?side1 ?side2 ?side3 ?side4 A60.out (by first | exact HTAB.out | ((repeat (first | exact HTAB.out | (with_reducible refine Laid.tab_alloc ?_ _) | (with_reducible refine Laid.tab_drewN ?_ _) | (with_reducible refine Laid.tab_drew ?_))); done) | (refine Laid.tab_below' HTAB.out ?_; (repeat (first | (with_reducible first | exact HB.out | apply below_alloc | apply pw_below_drewN | apply below_drew1) | exact HB.out | (refine below_set ?_ (Aside0.out (by assumption)))))))).mono ?_); (case side1 => repeat (first | exact (Kd.R_reads' HO_230000.out).2.2 | (with_reducible refine Kd.C_alloc ?_ _) | (with_reducible refine Kd.C_drewN ?_ _) | (with_reducible refine Kd.C_drew ?_))); (case side2 => exact (Kd.R_reads' HO_230000.out).2.1); (case side3 => repeat (first | exact (Kd.R_reads' HO_230001.out).2.2 | (with_reducible refine Kd.C_alloc ?_ _) | (with_reducible refine Kd.C_drewN ?_ _) | (with_reducible refine Kd.C_drew ?_))); (case side4 => exact (Kd.R_reads' HO_230001.out).2.1); rintro e w66 ⟨v254, rfl, ho0, hb⟩; refine ⟨_, rfl, ?_⟩; have n0_ := Aside0.mk (Kd.R_elder' (by (with_reducible repeat (first | apply Kd.R_alloc | apply Kd.R_drewN | apply Kd.R_drew)); exact HO_230000.out) (Kd.R_base ho0) hb); have n1_ := Aside0.mk (Kd.R_elder' (by (with_reducible repeat (first | apply Kd.R_alloc | apply Kd.R_drewN | apply Kd.R_drew)); exact HO_230001.out) (Kd.R_base ho0) hb); have n2_ := Aside0.mk (Kd.R_elder' (by (with_reducible repeat (first | apply Kd.R_alloc | apply Kd.R_drewN | apply Kd.R_drew)); exact HO_231003.out) (Kd.R_base ho0) hb); have n3_ := Aside0.mk (Kd.R_elder' (by (with_reducible repeat (first | apply Kd.R_alloc | apply Kd.R_drewN | apply Kd.R_drew)); exact HO_243000.out) (Kd.R_base ho0) hb); have n4_ := Aside0.mk (Kd.R_elder' (by (with_reducible repeat (first | apply Kd.R_alloc | apply Kd.R_drewN | apply Kd.R_drew)); exact HO_243001.out) (Kd.R_base ho0) hb); have n5_ := Aside0.mk (Kd.R_lower (Kd.R_new' (Kd.R_new' (Kd.R_new' (Kd.R_new' (Kd.R_new' ho0 (Kd.R_lt (by (with_reducible repeat (first | apply Kd.R_alloc | apply Kd.R_drewN | apply Kd.R_drew)); exact HO_230000.out))) (Kd.R_lt (by (with_reducible repeat (first | apply Kd.R_alloc | apply Kd.R_drewN | apply Kd.R_drew)); exact HO_230001.out))) (Kd.R_lt (by (with_reducible repeat (first | apply Kd.R_alloc | apply Kd.R_drewN | apply Kd.R_drew)); exact HO_231003.out))) (Kd.R_lt (by (with_reducible repeat (first | apply Kd.R_alloc | apply Kd.R_drewN | apply Kd.R_drew)); exact HO_243000.out))) (Kd.R_lt (by (with_reducible repeat (first | apply Kd.R_alloc | apply Kd.R_drewN | apply Kd.R_drew)); exact HO_243001.out))) (below_size (by repeat (first | (with_reducible first | exact HB.out | apply below_alloc | apply pw_below_drewN | apply below_drew1 | refine below_set ?_ GE229.out | refine below_set ?_ GE230.out | refine below_set ?_ GE232.out | refine below_set ?_ GE242.out) | exact HB.out)))); have n6_ := Aside0.mk (blk_below (g := gb229) (o := .cells #[.slice Ao36 t234.length co36, .slice Ao38 t237.length co38] 24 (0, 0)) (by (with_reducible repeat (first | refine blk_drewN ?_ _ | refine blk_drew ?_ | refine blk_alloc ?_ _)); exact BK229.out) hb); have n7_ := Aside0.mk (blk_below (g := gb230) (o := .cells #[.int .i64 x231000_23, .int .i64 x231001_23, .int .i64 x231002_23, u231003] 26 (0, 0)) (by (with_reducible repeat (first | refine blk_drewN ?_ _ | refine blk_drew ?_ | refine blk_alloc ?_ _)); exact BK230.out) hb); have n8_ := Aside0.mk (blk_below (g := gb232) (o := .cells #[.int .i64 (wrap64 (x9_3 + 1)), .int .i64 ((rd_T26 l0 x9_3).f1), .int .i64 ((rd_T26 l0 x9_3).f2), .slice A231_3 ((rd_T26 l0 x9_3).f3).length c231_3] 26 (0, 0)) (by (with_reducible repeat (first | refine blk_drewN ?_ _ | refine blk_drew ?_ | refine blk_alloc ?_ _)); exact BK232.out) hb); have n9_ := Aside0.mk (blk_below (g := gb242) (o := .cells #[.slice Ao36 t234.length co36, .slice Ao38 t237.length co38] 24 (0, 0)) (by (with_reducible repeat (first | refine blk_drewN ?_ _ | refine blk_drew ?_ | refine blk_alloc ?_ _)); exact BK242.out) hb); have n10_ := Aside0.mk (below_step (by repeat (first | (with_reducible first | exact HB.out | apply below_alloc | apply pw_below_drewN | apply below_drew1 | refine below_set ?_ GE229.out | refine below_set ?_ GE230.out | refine below_set ?_ GE232.out | refine below_set ?_ GE242.out) | exact HB.out)) hb); clear HO_230000; clear HO_230001; clear HO_231003; clear HO_243000; clear HO_243001; clear BK229; clear BK230; clear BK232; clear BK242; clear HB; have HO_230000 := n0_; have HO_230001 := n1_; have HO_231003 := n2_; have HO_243000 := n3_; have HO_243001 := n4_; have HO255 := n5_; have BK229 := n6_; have BK230 := n7_; have BK232 := n8_; have BK242 := n9_; have HB := n10_; clear n0_ n1_ n2_ n3_ n4_ n5_ n6_ n7_ n8_ n9_ n10_; (try clear hb); (try clear hb2); (try clear hk); (try clear hi); (try clear ho0)) | ((with_reducible refine gate_dst (N := 14) rfl ?_); (try (refine gate_guard (by rfl) ?_; dsimp only)); refine box_event ?hg (N := 14) ?hd (cs := #[.int .i64 0, .int .i64 0, .int .i64 0, .slice none 0 0]) (t := 26) ?hr ?_; (case hd => rfl); (case hg => rfl); (case hr => first | (go_simp; done) | (go_simp; rfl)); intro gb258 hg w67 hbox hb; have n0_ := Aside0.mk (Kd.R_below (by (with_reducible repeat (first | apply Kd.R_alloc | apply Kd.R_drewN | apply Kd.R_drew)); exact HO_230000.out) hb); have n1_ := Aside0.mk (Kd.R_below (by (with_reducible repeat (first | apply Kd.R_alloc | apply Kd.R_drewN | apply Kd.R_drew)); exact HO_230001.out) hb); have n2_ := Aside0.mk (Kd.R_below (by (with_reducible repeat (first | apply Kd.R_alloc | apply Kd.R_drewN | apply Kd.R_drew)); exact HO_231003.out) hb); have n3_ := Aside0.mk (Kd.R_below (by (with_reducible repeat (first | apply Kd.R_alloc | apply Kd.R_drewN | apply Kd.R_drew)); exact HO_243000.out) hb); have n4_ := Aside0.mk (Kd.R_below (by (with_reducible repeat (first | apply Kd.R_alloc | apply Kd.R_drewN | apply Kd.R_drew)); exact HO_243001.out) hb); have n5_ := Aside0.mk (Kd.R_below (by (with_reducible repeat (first | apply Kd.R_alloc | apply Kd.R_drewN | apply Kd.R_drew)); exact HO255.out) hb); have n6_ := Aside0.mk (blk_below (g := gb229) (o := .cells #[.slice Ao36 t234.length co36, .slice Ao38 t237.length co38] 24 (0, 0)) (by (with_reducible repeat (first | refine blk_drewN ?_ _ | refine blk_drew ?_ | refine blk_alloc ?_ _)); exact BK229.out) hb); have n7_ := Aside0.mk (blk_below (g := gb230) (o := .cells #[.int .i64 x231000_23, .int .i64 x231001_23, .int .i64 x231002_23, u231003] 26 (0, 0)) (by (with_reducible repeat (first | refine blk_drewN ?_ _ | refine blk_drew ?_ | refine blk_alloc ?_ _)); exact BK230.out) hb); have n8_ := Aside0.mk (blk_below (g := gb232) (o := .cells #[.int .i64 (wrap64 (x9_3 + 1)), .int .i64 ((rd_T26 l0 x9_3).f1), .int .i64 ((rd_T26 l0 x9_3).f2), .slice A231_3 ((rd_T26 l0 x9_3).f3).length c231_3] 26 (0, 0)) (by (with_reducible repeat (first | refine blk_drewN ?_ _ | refine blk_drew ?_ | refine blk_alloc ?_ _)); exact BK232.out) hb); have n9_ := Aside0.mk (blk_below (g := gb242) (o := .cells #[.slice Ao36 t234.length co36, .slice Ao38 t237.length co38] 24 (0, 0)) (by (with_reducible repeat (first | refine blk_drewN ?_ _ | refine blk_drew ?_ | refine blk_alloc ?_ _)); exact BK242.out) hb); have n10_ := Aside0.mk (below_step (by repeat (first | (with_reducible first | exact HB.out | apply below_alloc | apply pw_below_drewN | apply below_drew1 | refine below_set ?_ GE229.out | refine below_set ?_ GE230.out | refine below_set ?_ GE232.out | refine below_set ?_ GE242.out) | exact HB.out)) hb); have n11_ := Aside0.mk (hbox); have n12_ := Aside0.mk ((by rw [hg]; exact (below_size (by repeat (first | (with_reducible first | exact HB.out | apply below_alloc | apply pw_below_drewN | apply below_drew1 | refine below_set ?_ GE229.out | refine below_set ?_ GE230.out | refine below_set ?_ GE232.out | refine below_set ?_ GE242.out) | exact HB.out))) : w.heap.size ≤ gb258)); have n13_ := Aside0.mk ((by rw [hg]; exact (below_size (by repeat (first | (with_reducible first | exact HB.out | apply below_alloc | apply pw_below_drewN | apply below_drew1 | refine below_set ?_ GE229.out | refine below_set ?_ GE230.out | refine below_set ?_ GE232.out | refine below_set ?_ GE242.out) | exact HB.out))) : w.heap.size ≤ gb258)); have n14_ := Aside0.mk ((by rw [hg]; exact Nat.ne_of_lt (blk_lt (g := gb229) (o := .cells #[.slice Ao36 t234.length co36, .slice Ao38 t237.length co38] 24 (0, 0)) (by (with_reducible repeat (first | refine blk_drewN ?_ _ | refine blk_drew ?_ | refine blk_alloc ?_ _)); exact BK229.out)) : gb229 ≠ gb258)); have n15_ := Aside0.mk ((by rw [hg]; exact Nat.ne_of_gt (blk_lt (g := gb229) (o := .cells #[.slice Ao36 t234.length co36, .slice Ao38 t237.length co38] 24 (0, 0)) (by (with_reducible repeat (first | refine blk_drewN ?_ _ | refine blk_drew ?_ | refine blk_alloc ?_ _)); exact BK229.out)) : gb258 ≠ gb229)); have n16_ := Aside0.mk ((by rw [hg]; exact Nat.ne_of_lt (blk_lt (g := gb230) (o := .cells #[.int .i64 x231000_23, .int .i64 x231001_23, .int .i64 x231002_23, u231003] 26 (0, 0)) (by (with_reducible repeat (first | refine blk_drewN ?_ _ | refine blk_drew ?_ | refine blk_alloc ?_ _)); exact BK230.out)) : gb230 ≠ gb258)); have n17_ := Aside0.mk ((by rw [hg]; exact Nat.ne_of_gt (blk_lt (g := gb230) (o := .cells #[.int .i64 x231000_23, .int .i64 x231001_23, .int .i64 x231002_23, u231003] 26 (0, 0)) (by (with_reducible repeat (first | refine blk_drewN ?_ _ | refine blk_drew ?_ | refine blk_alloc ?_ _)); exact BK230.out)) : gb258 ≠ gb230)); have n18_ := Aside0.mk ((by rw [hg]; exact Nat.ne_of_lt (blk_lt (g := gb232) (o := .cells #[.int .i64 (wrap64 (x9_3 + 1)), .int .i64 ((rd_T26 l0 x9_3).f1), .int .i64 ((rd_T26 l0 x9_3).f2), .slice A231_3 ((rd_T26 l0 x9_3).f3).length c231_3] 26 (0, 0)) (by (with_reducible repeat (first | refine blk_drewN ?_ _ | refine blk_drew ?_ | refine blk_alloc ?_ _)); exact BK232.out)) : gb232 ≠ gb258)); have n19_ := Aside0.mk ((by rw [hg]; exact Nat.ne_of_gt (blk_lt (g := gb232) (o := .cells #[.int .i64 (wrap64 (x9_3 + 1)), .int .i64 ((rd_T26 l0 x9_3).f1), .int .i64 ((rd_T26 l0 x9_3).f2), .slice A231_3 ((rd_T26 l0 x9_3).f3).length c231_3] 26 (0, 0)) (by (with_reducible repeat (first | refine blk_drewN ?_ _ | refine blk_drew ?_ | refine blk_alloc ?_ _)); exact BK232.out)) : gb258 ≠ gb232)); have n20_ := Aside0.mk ((by rw [hg]; exact Nat.ne_of_lt (blk_lt (g := gb242) (o := .cells #[.slice Ao36 t234.length co36, .slice Ao38 t237.length co38] 24 (0, 0)) (by (with_reducible repeat (first | refine blk_drewN ?_ _ | refine blk_drew ?_ | refine blk_alloc ?_ _)); exact BK242.out)) : gb242 ≠ gb258)); have n21_ := Aside0.mk ((by rw [hg]; exact Nat.ne_of_gt (blk_lt (g := gb242) (o := .cells #[.slice Ao36 t234.length co36, .slice Ao38 t237.length co38] 24 (0, 0)) (by (with_reducible repeat (first | refine blk_drewN ?_ _ | refine blk_drew ?_ | refine blk_alloc ?_ _)); exact BK242.out)) : gb258 ≠ gb242)); clear HO_230000; clear HO_230001; clear HO_231003; clear HO_243000; clear HO_243001; clear HO255; clear BK229; clear BK230; clear BK232; clear BK242; clear HB; have HO_230000 := n0_; have HO_230001 := n1_; have HO_231003 := n2_; have HO_243000 := n3_; have HO_243001 := n4_; have HO255 := n5_; have BK229 := n6_; have BK230 := n7_; have BK232 := n8_; have BK242 := n9_; have HB := n10_; have BK258 := n11_; have GW258 := n12_; have GE258 := n13_; have NB229_258 := n14_; have NB258_229 := n15_; have NB230_258 := n16_; have NB258_230 := n17_; have NB232_258 := n18_; have NB258_232 := n19_; have NB242_258 := n20_; have NB258_242 := n21_; clear n0_ n1_ n2_ n3_ n4_ n5_ n6_ n7_ n8_ n9_ n10_ n11_ n12_ n13_ n14_ n15_ n16_ n17_ n18_ n19_ n20_ n21_; clear hb hbox hg; have hnb68 := NB258_229.out; have hnc68 := NB229_258.out; have hnb69 := NB258_230.out; have hnc69 := NB230_258.out; have hnb70 := NB258_232.out; have hnc70 := NB232_258.out; have hnb71 := NB258_242.out; have hnc71 := NB242_258.out; have hcz72_0 : w67.cell? ⟨gb258, 0, none⟩ = some (.int .i64 0) := (blk_cell BK258.out 0).trans rfl; have hcz72_1 : w67.cell? ⟨gb258, 1, none⟩ = some (.int .i64 0) := (blk_cell BK258.out 1).trans rfl; have hcz72_2 : w67.cell? ⟨gb258, 2, none⟩ = some (.int .i64 0) := (blk_cell BK258.out 2).trans rfl; have hcz72_3 : w67.cell? ⟨gb258, 3, none⟩ = some (.slice none 0 0) := (blk_cell BK258.out 3).trans rfl; have hfz72_0 := blk_frozen BK258.out 0; have hfz72_1 := blk_frozen BK258.out 1; have hfz72_2 := blk_frozen BK258.out 2; have hfz72_3 := blk_frozen BK258.out 3; obtain ⟨Ao73, co73, eo73⟩ := Kd.R_slice HO255.out; subst eo73))
                   (try simp only [Act.put, List.setIfInBounds_toArray, List.set_cons_zero, List.set_cons_succ])
                   go_cut [99] (fun v99 wc => ∃ (kq : Nat) (x99_60 : Bool), v99 = .bool x99_60 ∧ Aside0 (newellaw12_FlashGoes.j5 kq l0 l1 x9_3 x99_60 t234 t237 x231000_23 x231001_23 x231002_23 x231003_23 = some r) ∧ Aside0 (kq ≤ kj23) ∧ Aside0 (Kd.R (Kd.int .u8) 5 wc w.heap.size (fun k_ => some k_ ≠ ((.slice Ao38 t237.length co38) : Value).ownBlock ∧ some k_ ≠ (.slice none 0 0 : Value).ownBlock ∧ some k_ ≠ ((.slice Ao38 t237.length co38) : Value).ownBlock ∧ some k_ ≠ ((.slice Ao73 t253.length co73) : Value).ownBlock) (.slice Ao36 t234.length co36) t234) ∧ Aside0 (Kd.R (Kd.int .u8) 5 wc w.heap.size (fun k_ => some k_ ≠ ((.slice Ao36 t234.length co36) : Value).ownBlock ∧ some k_ ≠ (.slice none 0 0 : Value).ownBlock ∧ some k_ ≠ ((.slice Ao36 t234.length co36) : Value).ownBlock ∧ some k_ ≠ ((.slice Ao73 t253.length co73) : Value).ownBlock) (.slice Ao38 t237.length co38) t237) ∧ Aside0 (LastRow w u231003 x231003_23) ∧ Aside0 (Kd.R (Kd.int .u8) 5 wc w.heap.size (fun k_ => some k_ ≠ ((.slice Ao38 t237.length co38) : Value).ownBlock ∧ some k_ ≠ (.slice none 0 0 : Value).ownBlock ∧ some k_ ≠ ((.slice Ao38 t237.length co38) : Value).ownBlock ∧ some k_ ≠ ((.slice Ao73 t253.length co73) : Value).ownBlock) (.slice Ao36 t234.length co36) t234) ∧ Aside0 (Kd.R (Kd.int .u8) 5 wc w.heap.size (fun k_ => some k_ ≠ ((.slice Ao36 t234.length co36) : Value).ownBlock ∧ some k_ ≠ (.slice none 0 0 : Value).ownBlock ∧ some k_ ≠ ((.slice Ao36 t234.length co36) : Value).ownBlock ∧ some k_ ≠ ((.slice Ao73 t253.length co73) : Value).ownBlock) (.slice Ao38 t237.length co38) t237) ∧ Aside0 (Kd.R (Kd.int .u8) 5 wc w.heap.size (fun k_ => some k_ ≠ ((.slice Ao36 t234.length co36) : Value).ownBlock ∧ some k_ ≠ ((.slice Ao38 t237.length co38) : Value).ownBlock ∧ some k_ ≠ (.slice none 0 0 : Value).ownBlock ∧ some k_ ≠ ((.slice Ao36 t234.length co36) : Value).ownBlock ∧ some k_ ≠ ((.slice Ao38 t237.length co38) : Value).ownBlock) (.slice Ao73 t253.length co73) t253) ∧ Aside0 (wc.heap[gb229]? = some (.cells #[(.slice Ao36 t234.length co36), (.slice Ao38 t237.length co38)] 24 (0, 0))) ∧ Aside0 (wc.heap[gb230]? = some (.cells #[.int .i64 x231000_23, .int .i64 x231001_23, .int .i64 x231002_23, u231003] 26 (0, 0))) ∧ Aside0 (wc.heap[gb232]? = some (.cells #[.int .i64 (wrap64 (x9_3 + 1)), .int .i64 ((rd_T26 l0 x9_3).f1), .int .i64 ((rd_T26 l0 x9_3).f2), (.slice A231_3 ((rd_T26 l0 x9_3).f3).length c231_3)] 26 (0, 0))) ∧ Aside0 (wc.heap[gb242]? = some (.cells #[(.slice Ao36 t234.length co36), (.slice Ao38 t237.length co38)] 24 (0, 0))) ∧ Aside0 (wc.heap[gb258]? = some (.cells #[.int .i64 t250, .int .i64 t251, .int .i64 t252, (.slice Ao73 t253.length co73)] 26 (0, 0))) ∧ Aside0 (Below w.heap.size w wc))
                   case first =>
                    have H := HC61.out
                    clear HC61
                    by_cases c74 : ((t257 == 0) != (decide (x231000_23 > 0))) = true
                    ·rw [if_pos c74] at H
                     exact absurd H (by simp)
                    ·rw [if_neg c74] at H
                     have c74b0 : ((t257 == 0) != (decide (x231000_23 > 0))) = false := by simpa using c74
                     (try (have c74s0 := c74b0; simp only [beq_self_eq_true, bne_self_eq_false, Bool.not_true, Bool.not_false, Bool.true_and, Bool.and_true, Bool.false_or, Bool.or_false] at c74s0))
                     (try (have c74b1 : decide ((t257 == 0) = (decide (x231000_23 > 0))) = true := by simpa using c74))
                     (try (have c74b2 : ((t257 == 0) == (decide (x231000_23 > 0))) = true := by simpa using c74))
                     clear c74
                     (first | rw [c74b0] | (simp only [i64_w, i32_w]; rw [c74b0]) | skip)
                     by_cases c75 : t257 = 0
                     ·rw [if_pos c75] at H
                      have c75b0 : (t257 == 0) = true := beq_iff_eq.mpr c75
                      have c75b1 : (t257 != 0) = false := bne_eq_false_iff_eq.mpr c75
                      have c75d0 : decide (x231000_23 > 0) = true := by have h_ := c74b0; rw [c75b0] at h_; simpa using h_
                      have c75d1 : x231000_23 > 0 := of_decide_eq_true c75d0
                      have c75d2 := eq_true c75d1
                      have c75d3 : (x231000_23 ≤ 0) = False := eq_false (by omega)
                      clear c75d1
                      clear c75
                      replace H := Option.bind_eq_some_iff.mp H
                      obtain ⟨t259, A760, H⟩ := H
                      replace H : (newellaw12_FlashGoes.j5 kj23 l0 l1 x9_3 (!t259) t234 t237 x231000_23 x231001_23 x231002_23 x231003_23) = some r := H
                      have A76 := Aside0.mk A760
                      clear A760
                      have H' := Aside0.mk H
                      clear H
                      have hnb77 := NB230_229.out
                      have hnc77 := NB229_230.out
                      have hnb78 := NB230_232.out
                      have hnc78 := NB232_230.out
                      have hnb79 := NB230_242.out
                      have hnc79 := NB242_230.out
                      have hnb80 := NB230_258.out
                      have hnc80 := NB258_230.out
                      have hcz81_0 : w67.cell? ⟨gb230, 0, none⟩ = some (.int .i64 x231000_23) := (blk_cell BK230.out 0).trans rfl
                      have hcz81_1 : w67.cell? ⟨gb230, 1, none⟩ = some (.int .i64 x231001_23) := (blk_cell BK230.out 1).trans rfl
                      have hcz81_2 : w67.cell? ⟨gb230, 2, none⟩ = some (.int .i64 x231002_23) := (blk_cell BK230.out 2).trans rfl
                      have hcz81_3 : w67.cell? ⟨gb230, 3, none⟩ = some (u231003) := (blk_cell BK230.out 3).trans rfl
                      have hfz81_0 := blk_frozen BK230.out 0
                      have hfz81_1 := blk_frozen BK230.out 1
                      have hfz81_2 := blk_frozen BK230.out 2
                      have hfz81_3 := blk_frozen BK230.out 3
                      have hnb82 := NB258_229.out
                      have hnc82 := NB229_258.out
                      have hnb83 := NB258_232.out
                      have hnc83 := NB232_258.out
                      have hnb84 := NB258_242.out
                      have hnc84 := NB242_258.out
                      have hcz85_0 : w67.cell? ⟨gb258, 0, none⟩ = some (.int .i64 0) := (blk_cell BK258.out 0).trans rfl
                      have hcz85_1 : w67.cell? ⟨gb258, 1, none⟩ = some (.int .i64 0) := (blk_cell BK258.out 1).trans rfl
                      have hcz85_2 : w67.cell? ⟨gb258, 2, none⟩ = some (.int .i64 0) := (blk_cell BK258.out 2).trans rfl
                      have hcz85_3 : w67.cell? ⟨gb258, 3, none⟩ = some (.slice none 0 0) := (blk_cell BK258.out 3).trans rfl
                      have hfz85_0 := blk_frozen BK258.out 0
                      have hfz85_1 := blk_frozen BK258.out 1
                      have hfz85_2 := blk_frozen BK258.out 2
                      have hfz85_3 := blk_frozen BK258.out 3
                      obtain ⟨Ao86, co86, eo86, hlc_, hlr_⟩ := HL.out
                      have HCL := Aside0.mk hlc_
                      have HRL := Aside0.mk hlr_
                      clear hlc_ hlr_
                      subst eo86
                      go_wp2_with (first | (go_at_call 20; (with_reducible refine (flash_Same.calls t250 t251 t252 _ _ t253 x231000_23 x231001_23 x231002_23 _ _ x231003_23 t259 _ ?side1 ?side2 ?side3 ?side4 A76.out).mono ?_); (case side1 => refine (Kd.R_reads' (e := 5) (base := w.heap.size) (ok := fun k_ => (((((True ∧ some k_ ≠ (.slice Ao36 t234.length co36 : Value).ownBlock) ∧ some k_ ≠ (.slice Ao38 t237.length co38 : Value).ownBlock) ∧ some k_ ≠ (.slice none 0 0 : Value).ownBlock) ∧ some k_ ≠ (.slice Ao36 t234.length co36 : Value).ownBlock) ∧ some k_ ≠ (.slice Ao38 t237.length co38 : Value).ownBlock)) (n := t253.length) (c := co73) ?_).2.2; exact (by (with_reducible repeat (first | apply Kd.R_alloc | apply Kd.R_drewN | apply Kd.R_drew)); exact (Kd.R_mono (Kd.R_far (p := ⟨gb258, 3, none⟩) (Kd.R_far (p := ⟨gb258, 2, none⟩) (Kd.R_far (p := ⟨gb258, 1, none⟩) (Kd.R_far (p := ⟨gb258, 0, none⟩) (Kd.R_types HO255.out BK258.out (by decide)) (fun _ hk => hk.2) (.int .i64 t250)) (fun _ hk => hk.2) (.int .i64 t251)) (fun _ hk => hk.2) (.int .i64 t252)) (fun _ hk => hk.2) (.slice Ao73 t253.length co73)) (fun _ h_ => h_.1)))); (case side2 => exact (Kd.R_reads' HO255.out).2.1); (case side3 => exact Kd.C_below HRL.out (by repeat (first | (with_reducible first | exact HB.out | apply below_alloc | apply pw_below_drewN | apply below_drew1 | refine below_set ?_ GE229.out | refine below_set ?_ GE230.out | refine below_set ?_ GE232.out | refine below_set ?_ GE242.out | refine below_set ?_ GE258.out) | exact HB.out))); (case side4 => exact HCL.out); rintro e w87 ⟨rfl, hb⟩; have n0_ := Aside0.mk (Kd.R_below (by (with_reducible repeat (first | apply Kd.R_alloc | apply Kd.R_drewN | apply Kd.R_drew)); exact (Kd.R_mono (Kd.R_far (p := ⟨gb258, 3, none⟩) (Kd.R_far (p := ⟨gb258, 2, none⟩) (Kd.R_far (p := ⟨gb258, 1, none⟩) (Kd.R_far (p := ⟨gb258, 0, none⟩) (Kd.R_types HO_230000.out BK258.out (by decide)) (fun _ hk => hk.2) (.int .i64 t250)) (fun _ hk => hk.2) (.int .i64 t251)) (fun _ hk => hk.2) (.int .i64 t252)) (fun _ hk => hk.2) (.slice Ao73 t253.length co73)) (fun _ h_ => h_.1))) hb); have n1_ := Aside0.mk (Kd.R_below (by (with_reducible repeat (first | apply Kd.R_alloc | apply Kd.R_drewN | apply Kd.R_drew)); exact (Kd.R_mono (Kd.R_far (p := ⟨gb258, 3, none⟩) (Kd.R_far (p := ⟨gb258, 2, none⟩) (Kd.R_far (p := ⟨gb258, 1, none⟩) (Kd.R_far (p := ⟨gb258, 0, none⟩) (Kd.R_types HO_230001.out BK258.out (by decide)) (fun _ hk => hk.2) (.int .i64 t250)) (fun _ hk => hk.2) (.int .i64 t251)) (fun _ hk => hk.2) (.int .i64 t252)) (fun _ hk => hk.2) (.slice Ao73 t253.length co73)) (fun _ h_ => h_.1))) hb); have n2_ := Aside0.mk (Kd.R_below (by (with_reducible repeat (first | apply Kd.R_alloc | apply Kd.R_drewN | apply Kd.R_drew)); exact (Kd.R_mono (Kd.R_far (p := ⟨gb258, 3, none⟩) (Kd.R_far (p := ⟨gb258, 2, none⟩) (Kd.R_far (p := ⟨gb258, 1, none⟩) (Kd.R_far (p := ⟨gb258, 0, none⟩) (Kd.R_types HO_231003.out BK258.out (by decide)) (fun _ hk => hk.2) (.int .i64 t250)) (fun _ hk => hk.2) (.int .i64 t251)) (fun _ hk => hk.2) (.int .i64 t252)) (fun _ hk => hk.2) (.slice Ao73 t253.length co73)) (fun _ h_ => h_.1))) hb); have n3_ := Aside0.mk (Kd.R_below (by (with_reducible repeat (first | apply Kd.R_alloc | apply Kd.R_drewN | apply Kd.R_drew)); exact (Kd.R_mono (Kd.R_far (p := ⟨gb258, 3, none⟩) (Kd.R_far (p := ⟨gb258, 2, none⟩) (Kd.R_far (p := ⟨gb258, 1, none⟩) (Kd.R_far (p := ⟨gb258, 0, none⟩) (Kd.R_types HO_243000.out BK258.out (by decide)) (fun _ hk => hk.2) (.int .i64 t250)) (fun _ hk => hk.2) (.int .i64 t251)) (fun _ hk => hk.2) (.int .i64 t252)) (fun _ hk => hk.2) (.slice Ao73 t253.length co73)) (fun _ h_ => h_.1))) hb); have n4_ := Aside0.mk (Kd.R_below (by (with_reducible repeat (first | apply Kd.R_alloc | apply Kd.R_drewN | apply Kd.R_drew)); exact (Kd.R_mono (Kd.R_far (p := ⟨gb258, 3, none⟩) (Kd.R_far (p := ⟨gb258, 2, none⟩) (Kd.R_far (p := ⟨gb258, 1, none⟩) (Kd.R_far (p := ⟨gb258, 0, none⟩) (Kd.R_types HO_243001.out BK258.out (by decide)) (fun _ hk => hk.2) (.int .i64 t250)) (fun _ hk => hk.2) (.int .i64 t251)) (fun _ hk => hk.2) (.int .i64 t252)) (fun _ hk => hk.2) (.slice Ao73 t253.length co73)) (fun _ h_ => h_.1))) hb); have n5_ := Aside0.mk (Kd.R_below (by (with_reducible repeat (first | apply Kd.R_alloc | apply Kd.R_drewN | apply Kd.R_drew)); exact (Kd.R_mono (Kd.R_far (p := ⟨gb258, 3, none⟩) (Kd.R_far (p := ⟨gb258, 2, none⟩) (Kd.R_far (p := ⟨gb258, 1, none⟩) (Kd.R_far (p := ⟨gb258, 0, none⟩) (Kd.R_types HO255.out BK258.out (by decide)) (fun _ hk => hk.2) (.int .i64 t250)) (fun _ hk => hk.2) (.int .i64 t251)) (fun _ hk => hk.2) (.int .i64 t252)) (fun _ hk => hk.2) (.slice Ao73 t253.length co73)) (fun _ h_ => h_.1))) hb); have n6_ := Aside0.mk (blk_below (g := gb229) (o := .cells #[.slice Ao36 t234.length co36, .slice Ao38 t237.length co38] 24 (0, 0)) (by (with_reducible repeat (first | refine blk_drewN ?_ _ | refine blk_drew ?_ | refine blk_alloc ?_ _)); refine blk_far ?_ NB229_258.out _; (with_reducible repeat (first | refine blk_drewN ?_ _ | refine blk_drew ?_ | refine blk_alloc ?_ _)); refine blk_far ?_ NB229_258.out _; (with_reducible repeat (first | refine blk_drewN ?_ _ | refine blk_drew ?_ | refine blk_alloc ?_ _)); refine blk_far ?_ NB229_258.out _; (with_reducible repeat (first | refine blk_drewN ?_ _ | refine blk_drew ?_ | refine blk_alloc ?_ _)); refine blk_far ?_ NB229_258.out _; (with_reducible repeat (first | refine blk_drewN ?_ _ | refine blk_drew ?_ | refine blk_alloc ?_ _)); exact BK229.out) hb); have n7_ := Aside0.mk (blk_below (g := gb230) (o := .cells #[.int .i64 x231000_23, .int .i64 x231001_23, .int .i64 x231002_23, .slice Ao86 x231003_23.length co86] 26 (0, 0)) (by (with_reducible repeat (first | refine blk_drewN ?_ _ | refine blk_drew ?_ | refine blk_alloc ?_ _)); refine blk_far ?_ NB230_258.out _; (with_reducible repeat (first | refine blk_drewN ?_ _ | refine blk_drew ?_ | refine blk_alloc ?_ _)); refine blk_far ?_ NB230_258.out _; (with_reducible repeat (first | refine blk_drewN ?_ _ | refine blk_drew ?_ | refine blk_alloc ?_ _)); refine blk_far ?_ NB230_258.out _; (with_reducible repeat (first | refine blk_drewN ?_ _ | refine blk_drew ?_ | refine blk_alloc ?_ _)); refine blk_far ?_ NB230_258.out _; (with_reducible repeat (first | refine blk_drewN ?_ _ | refine blk_drew ?_ | refine blk_alloc ?_ _)); exact BK230.out) hb); have n8_ := Aside0.mk (blk_below (g := gb232) (o := .cells #[.int .i64 (wrap64 (x9_3 + 1)), .int .i64 ((rd_T26 l0 x9_3).f1), .int .i64 ((rd_T26 l0 x9_3).f2), .slice A231_3 ((rd_T26 l0 x9_3).f3).length c231_3] 26 (0, 0)) (by (with_reducible repeat (first | refine blk_drewN ?_ _ | refine blk_drew ?_ | refine blk_alloc ?_ _)); refine blk_far ?_ NB232_258.out _; (with_reducible repeat (first | refine blk_drewN ?_ _ | refine blk_drew ?_ | refine blk_alloc ?_ _)); refine blk_far ?_ NB232_258.out _; (with_reducible repeat (first | refine blk_drewN ?_ _ | refine blk_drew ?_ | refine blk_alloc ?_ _)); refine blk_far ?_ NB232_258.out _; (with_reducible repeat (first | refine blk_drewN ?_ _ | refine blk_drew ?_ | refine blk_alloc ?_ _)); refine blk_far ?_ NB232_258.out _; (with_reducible repeat (first | refine blk_drewN ?_ _ | refine blk_drew ?_ | refine blk_alloc ?_ _)); exact BK232.out) hb); have n9_ := Aside0.mk (blk_below (g := gb242) (o := .cells #[.slice Ao36 t234.length co36, .slice Ao38 t237.length co38] 24 (0, 0)) (by (with_reducible repeat (first | refine blk_drewN ?_ _ | refine blk_drew ?_ | refine blk_alloc ?_ _)); refine blk_far ?_ NB242_258.out _; (with_reducible repeat (first | refine blk_drewN ?_ _ | refine blk_drew ?_ | refine blk_alloc ?_ _)); refine blk_far ?_ NB242_258.out _; (with_reducible repeat (first | refine blk_drewN ?_ _ | refine blk_drew ?_ | refine blk_alloc ?_ _)); refine blk_far ?_ NB242_258.out _; (with_reducible repeat (first | refine blk_drewN ?_ _ | refine blk_drew ?_ | refine blk_alloc ?_ _)); refine blk_far ?_ NB242_258.out _; (with_reducible repeat (first | refine blk_drewN ?_ _ | refine blk_drew ?_ | refine blk_alloc ?_ _)); exact BK242.out) hb); have n10_ := Aside0.mk (blk_below (g := gb258) (o := .cells #[.int .i64 t250, .int .i64 t251, .int .i64 t252, .slice Ao73 t253.length co73] 26 (0, 0)) (by (with_reducible repeat (first | refine blk_drewN ?_ _ | refine blk_drew ?_ | refine blk_alloc ?_ _)); refine blk_put (cs := #[.int .i64 t250, .int .i64 t251, .int .i64 t252, .slice none 0 0]) ?_ 3 _ rfl; (with_reducible repeat (first | refine blk_drewN ?_ _ | refine blk_drew ?_ | refine blk_alloc ?_ _)); refine blk_put (cs := #[.int .i64 t250, .int .i64 t251, .int .i64 0, .slice none 0 0]) ?_ 2 _ rfl; (with_reducible repeat (first | refine blk_drewN ?_ _ | refine blk_drew ?_ | refine blk_alloc ?_ _)); refine blk_put (cs := #[.int .i64 t250, .int .i64 0, .int .i64 0, .slice none 0 0]) ?_ 1 _ rfl; (with_reducible repeat (first | refine blk_drewN ?_ _ | refine blk_drew ?_ | refine blk_alloc ?_ _)); refine blk_put (cs := #[.int .i64 0, .int .i64 0, .int .i64 0, .slice none 0 0]) ?_ 0 _ rfl; (with_reducible repeat (first | refine blk_drewN ?_ _ | refine blk_drew ?_ | refine blk_alloc ?_ _)); exact BK258.out) hb); have n11_ := Aside0.mk (below_step (by repeat (first | (with_reducible first | exact HB.out | apply below_alloc | apply pw_below_drewN | apply below_drew1 | refine below_set ?_ GE229.out | refine below_set ?_ GE230.out | refine below_set ?_ GE232.out | refine below_set ?_ GE242.out | refine below_set ?_ GE258.out) | exact HB.out)) hb); clear HO_230000; clear HO_230001; clear HO_231003; clear HO_243000; clear HO_243001; clear HO255; clear BK229; clear BK230; clear BK232; clear BK242; clear BK258; clear HB; have HO_230000 := n0_; have HO_230001 := n1_; have HO_231003 := n2_; have HO_243000 := n3_; have HO_243001 := n4_; have HO255 := n5_; have BK229 := n6_; have BK230 := n7_; have BK232 := n8_; have BK242 := n9_; have BK258 := n10_; have HB := n11_; clear n0_ n1_ n2_ n3_ n4_ n5_ n6_ n7_ n8_ n9_ n10_ n11_; (try clear hb); (try clear hb2); (try clear hk); (try clear hi)))
                      go_meet
                      case rel => exact ⟨_, (!t259), (by first | rfl | (simp; done) | (simp [*]; done)), H', ⟨by have := HK1.out; have := HJ4.out; have := HK3.out; have := HJ14.out; have := HJ23.out; first | omega | exact Nat.le_refl _⟩, ⟨by (with_reducible repeat (first | apply Kd.R_alloc | apply Kd.R_drewN | apply Kd.R_drew)); exact Kd.R_mono HO_230000.out (fun _ hk => ⟨hk.1.1, ⟨hk.1.2.1, ⟨hk.1.2.2, hk.2⟩⟩⟩)⟩, ⟨by (with_reducible repeat (first | apply Kd.R_alloc | apply Kd.R_drewN | apply Kd.R_drew)); exact Kd.R_mono HO_230001.out (fun _ hk => ⟨hk.1.1, ⟨hk.1.2.1, ⟨hk.1.2.2, hk.2⟩⟩⟩)⟩, HL, ⟨by (with_reducible repeat (first | apply Kd.R_alloc | apply Kd.R_drewN | apply Kd.R_drew)); exact Kd.R_mono HO_243000.out (fun _ hk => ⟨hk.1.1, ⟨hk.1.2.1, ⟨hk.1.2.2, hk.2⟩⟩⟩)⟩, ⟨by (with_reducible repeat (first | apply Kd.R_alloc | apply Kd.R_drewN | apply Kd.R_drew)); exact Kd.R_mono HO_243001.out (fun _ hk => ⟨hk.1.1, ⟨hk.1.2.1, ⟨hk.1.2.2, hk.2⟩⟩⟩)⟩, ⟨by (with_reducible repeat (first | apply Kd.R_alloc | apply Kd.R_drewN | apply Kd.R_drew)); exact Kd.R_mono HO255.out (fun _ hk => ⟨hk.1.1.1.1.2, ⟨hk.1.1.1.2, ⟨hk.1.1.2, ⟨hk.1.2, hk.2⟩⟩⟩⟩)⟩, ⟨by (with_reducible repeat (first | refine blk_drewN ?_ _ | refine blk_drew ?_ | refine blk_alloc ?_ _)); exact BK229.out⟩, ⟨by (with_reducible repeat (first | refine blk_drewN ?_ _ | refine blk_drew ?_ | refine blk_alloc ?_ _)); exact BK230.out⟩, ⟨by (with_reducible repeat (first | refine blk_drewN ?_ _ | refine blk_drew ?_ | refine blk_alloc ?_ _)); exact BK232.out⟩, ⟨by (with_reducible repeat (first | refine blk_drewN ?_ _ | refine blk_drew ?_ | refine blk_alloc ?_ _)); exact BK242.out⟩, ⟨by (with_reducible repeat (first | refine blk_drewN ?_ _ | refine blk_drew ?_ | refine blk_alloc ?_ _)); exact BK258.out⟩, ⟨by repeat (first | (with_reducible first | exact HB.out | apply below_alloc | apply pw_below_drewN | apply below_drew1 | refine below_set ?_ GE229.out | refine below_set ?_ GE230.out | refine below_set ?_ GE232.out | refine below_set ?_ GE242.out | refine below_set ?_ GE258.out) | exact HB.out)⟩⟩
                     ·rw [if_neg c75] at H
                      have c75b0 : (t257 == 0) = false := beq_eq_false_iff_ne.mpr c75
                      have c75b1 : (t257 != 0) = true := bne_iff_ne.mpr c75
                      have c75d0 : decide (x231000_23 > 0) = false := by have h_ := c74b0; rw [c75b0] at h_; simpa using h_
                      have c75d1 : x231000_23 ≤ 0 := Int.not_lt.mp (of_decide_eq_false c75d0)
                      have c75d2 := eq_true c75d1
                      have c75d3 : (x231000_23 > 0) = False := eq_false (by omega)
                      clear c75d1
                      have H' := Aside0.mk H
                      clear H
                      have hnb88 := NB230_229.out
                      have hnc88 := NB229_230.out
                      have hnb89 := NB230_232.out
                      have hnc89 := NB232_230.out
                      have hnb90 := NB230_242.out
                      have hnc90 := NB242_230.out
                      have hnb91 := NB230_258.out
                      have hnc91 := NB258_230.out
                      have hcz92_0 : w67.cell? ⟨gb230, 0, none⟩ = some (.int .i64 x231000_23) := (blk_cell BK230.out 0).trans rfl
                      have hcz92_1 : w67.cell? ⟨gb230, 1, none⟩ = some (.int .i64 x231001_23) := (blk_cell BK230.out 1).trans rfl
                      have hcz92_2 : w67.cell? ⟨gb230, 2, none⟩ = some (.int .i64 x231002_23) := (blk_cell BK230.out 2).trans rfl
                      have hcz92_3 : w67.cell? ⟨gb230, 3, none⟩ = some (u231003) := (blk_cell BK230.out 3).trans rfl
                      have hfz92_0 := blk_frozen BK230.out 0
                      have hfz92_1 := blk_frozen BK230.out 1
                      have hfz92_2 := blk_frozen BK230.out 2
                      have hfz92_3 := blk_frozen BK230.out 3
                      go_wp2
                      go_meet
                      case rel => exact ⟨_, (false), (by first | rfl | (simp; done) | (simp [*]; done)), H', ⟨by have := HK1.out; have := HJ4.out; have := HK3.out; have := HJ14.out; have := HJ23.out; first | omega | exact Nat.le_refl _⟩, ⟨by (with_reducible repeat (first | apply Kd.R_alloc | apply Kd.R_drewN | apply Kd.R_drew)); exact Kd.R_mono (Kd.R_far (p := ⟨gb258, 3, none⟩) (Kd.R_far (p := ⟨gb258, 2, none⟩) (Kd.R_far (p := ⟨gb258, 1, none⟩) (Kd.R_far (p := ⟨gb258, 0, none⟩) (Kd.R_types HO_230000.out BK258.out (by decide)) (fun _ hk => hk.2) (.int .i64 t250)) (fun _ hk => hk.2) (.int .i64 t251)) (fun _ hk => hk.2) (.int .i64 t252)) (fun _ hk => hk.2) (.slice Ao73 t253.length co73)) (fun _ hk => ⟨hk.1.1.1, ⟨hk.1.1.2.1, ⟨hk.1.1.2.2, hk.1.2⟩⟩⟩)⟩, ⟨by (with_reducible repeat (first | apply Kd.R_alloc | apply Kd.R_drewN | apply Kd.R_drew)); exact Kd.R_mono (Kd.R_far (p := ⟨gb258, 3, none⟩) (Kd.R_far (p := ⟨gb258, 2, none⟩) (Kd.R_far (p := ⟨gb258, 1, none⟩) (Kd.R_far (p := ⟨gb258, 0, none⟩) (Kd.R_types HO_230001.out BK258.out (by decide)) (fun _ hk => hk.2) (.int .i64 t250)) (fun _ hk => hk.2) (.int .i64 t251)) (fun _ hk => hk.2) (.int .i64 t252)) (fun _ hk => hk.2) (.slice Ao73 t253.length co73)) (fun _ hk => ⟨hk.1.1.1, ⟨hk.1.1.2.1, ⟨hk.1.1.2.2, hk.1.2⟩⟩⟩)⟩, HL, ⟨by (with_reducible repeat (first | apply Kd.R_alloc | apply Kd.R_drewN | apply Kd.R_drew)); exact Kd.R_mono (Kd.R_far (p := ⟨gb258, 3, none⟩) (Kd.R_far (p := ⟨gb258, 2, none⟩) (Kd.R_far (p := ⟨gb258, 1, none⟩) (Kd.R_far (p := ⟨gb258, 0, none⟩) (Kd.R_types HO_243000.out BK258.out (by decide)) (fun _ hk => hk.2) (.int .i64 t250)) (fun _ hk => hk.2) (.int .i64 t251)) (fun _ hk => hk.2) (.int .i64 t252)) (fun _ hk => hk.2) (.slice Ao73 t253.length co73)) (fun _ hk => ⟨hk.1.1.1, ⟨hk.1.1.2.1, ⟨hk.1.1.2.2, hk.1.2⟩⟩⟩)⟩, ⟨by (with_reducible repeat (first | apply Kd.R_alloc | apply Kd.R_drewN | apply Kd.R_drew)); exact Kd.R_mono (Kd.R_far (p := ⟨gb258, 3, none⟩) (Kd.R_far (p := ⟨gb258, 2, none⟩) (Kd.R_far (p := ⟨gb258, 1, none⟩) (Kd.R_far (p := ⟨gb258, 0, none⟩) (Kd.R_types HO_243001.out BK258.out (by decide)) (fun _ hk => hk.2) (.int .i64 t250)) (fun _ hk => hk.2) (.int .i64 t251)) (fun _ hk => hk.2) (.int .i64 t252)) (fun _ hk => hk.2) (.slice Ao73 t253.length co73)) (fun _ hk => ⟨hk.1.1.1, ⟨hk.1.1.2.1, ⟨hk.1.1.2.2, hk.1.2⟩⟩⟩)⟩, ⟨by (with_reducible repeat (first | apply Kd.R_alloc | apply Kd.R_drewN | apply Kd.R_drew)); exact Kd.R_mono (Kd.R_far (p := ⟨gb258, 3, none⟩) (Kd.R_far (p := ⟨gb258, 2, none⟩) (Kd.R_far (p := ⟨gb258, 1, none⟩) (Kd.R_far (p := ⟨gb258, 0, none⟩) (Kd.R_types HO255.out BK258.out (by decide)) (fun _ hk => hk.2) (.int .i64 t250)) (fun _ hk => hk.2) (.int .i64 t251)) (fun _ hk => hk.2) (.int .i64 t252)) (fun _ hk => hk.2) (.slice Ao73 t253.length co73)) (fun _ hk => ⟨hk.1.1.1.1.1.2, ⟨hk.1.1.1.1.2, ⟨hk.1.1.1.2, ⟨hk.1.1.2, hk.1.2⟩⟩⟩⟩)⟩, ⟨by (with_reducible repeat (first | refine blk_drewN ?_ _ | refine blk_drew ?_ | refine blk_alloc ?_ _)); refine blk_far ?_ NB229_258.out _; (with_reducible repeat (first | refine blk_drewN ?_ _ | refine blk_drew ?_ | refine blk_alloc ?_ _)); refine blk_far ?_ NB229_258.out _; (with_reducible repeat (first | refine blk_drewN ?_ _ | refine blk_drew ?_ | refine blk_alloc ?_ _)); refine blk_far ?_ NB229_258.out _; (with_reducible repeat (first | refine blk_drewN ?_ _ | refine blk_drew ?_ | refine blk_alloc ?_ _)); refine blk_far ?_ NB229_258.out _; (with_reducible repeat (first | refine blk_drewN ?_ _ | refine blk_drew ?_ | refine blk_alloc ?_ _)); exact BK229.out⟩, ⟨by (with_reducible repeat (first | refine blk_drewN ?_ _ | refine blk_drew ?_ | refine blk_alloc ?_ _)); refine blk_far ?_ NB230_258.out _; (with_reducible repeat (first | refine blk_drewN ?_ _ | refine blk_drew ?_ | refine blk_alloc ?_ _)); refine blk_far ?_ NB230_258.out _; (with_reducible repeat (first | refine blk_drewN ?_ _ | refine blk_drew ?_ | refine blk_alloc ?_ _)); refine blk_far ?_ NB230_258.out _; (with_reducible repeat (first | refine blk_drewN ?_ _ | refine blk_drew ?_ | refine blk_alloc ?_ _)); refine blk_far ?_ NB230_258.out _; (with_reducible repeat (first | refine blk_drewN ?_ _ | refine blk_drew ?_ | refine blk_alloc ?_ _)); exact BK230.out⟩, ⟨by (with_reducible repeat (first | refine blk_drewN ?_ _ | refine blk_drew ?_ | refine blk_alloc ?_ _)); refine blk_far ?_ NB232_258.out _; (with_reducible repeat (first | refine blk_drewN ?_ _ | refine blk_drew ?_ | refine blk_alloc ?_ _)); refine blk_far ?_ NB232_258.out _; (with_reducible repeat (first | refine blk_drewN ?_ _ | refine blk_drew ?_ | refine blk_alloc ?_ _)); refine blk_far ?_ NB232_258.out _; (with_reducible repeat (first | refine blk_drewN ?_ _ | refine blk_drew ?_ | refine blk_alloc ?_ _)); refine blk_far ?_ NB232_258.out _; (with_reducible repeat (first | refine blk_drewN ?_ _ | refine blk_drew ?_ | refine blk_alloc ?_ _)); exact BK232.out⟩, ⟨by (with_reducible repeat (first | refine blk_drewN ?_ _ | refine blk_drew ?_ | refine blk_alloc ?_ _)); refine blk_far ?_ NB242_258.out _; (with_reducible repeat (first | refine blk_drewN ?_ _ | refine blk_drew ?_ | refine blk_alloc ?_ _)); refine blk_far ?_ NB242_258.out _; (with_reducible repeat (first | refine blk_drewN ?_ _ | refine blk_drew ?_ | refine blk_alloc ?_ _)); refine blk_far ?_ NB242_258.out _; (with_reducible repeat (first | refine blk_drewN ?_ _ | refine blk_drew ?_ | refine blk_alloc ?_ _)); refine blk_far ?_ NB242_258.out _; (with_reducible repeat (first | refine blk_drewN ?_ _ | refine blk_drew ?_ | refine blk_alloc ?_ _)); exact BK242.out⟩, ⟨by (with_reducible repeat (first | refine blk_drewN ?_ _ | refine blk_drew ?_ | refine blk_alloc ?_ _)); refine blk_put (cs := #[.int .i64 t250, .int .i64 t251, .int .i64 t252, .slice none 0 0]) ?_ 3 _ rfl; (with_reducible repeat (first | refine blk_drewN ?_ _ | refine blk_drew ?_ | refine blk_alloc ?_ _)); refine blk_put (cs := #[.int .i64 t250, .int .i64 t251, .int .i64 0, .slice none 0 0]) ?_ 2 _ rfl; (with_reducible repeat (first | refine blk_drewN ?_ _ | refine blk_drew ?_ | refine blk_alloc ?_ _)); refine blk_put (cs := #[.int .i64 t250, .int .i64 0, .int .i64 0, .slice none 0 0]) ?_ 1 _ rfl; (with_reducible repeat (first | refine blk_drewN ?_ _ | refine blk_drew ?_ | refine blk_alloc ?_ _)); refine blk_put (cs := #[.int .i64 0, .int .i64 0, .int .i64 0, .slice none 0 0]) ?_ 0 _ rfl; (with_reducible repeat (first | refine blk_drewN ?_ _ | refine blk_drew ?_ | refine blk_alloc ?_ _)); exact BK258.out⟩, ⟨by repeat (first | (with_reducible first | exact HB.out | apply below_alloc | apply pw_below_drewN | apply below_drew1 | refine below_set ?_ GE229.out | refine below_set ?_ GE230.out | refine below_set ?_ GE232.out | refine below_set ?_ GE242.out | refine below_set ?_ GE258.out) | exact HB.out)⟩⟩
                   case rest =>
                    clear HC61
                    try clear c1
                    try clear c2
                    try clear p2
                    try clear q2
                    try clear hx2
                    try clear c4
                    try clear c5
                    try clear c6
                    try clear p6
                    try clear c7
                    try clear c8
                    try clear c9
                    try clear c11
                    try clear c14
                    try clear c19
                    try clear c19b0
                    try clear c20
                    try clear c20b0
                    try clear c21
                    try clear c21b0
                    try clear c23
                    try clear c23b0
                    try clear c23b1
                    try clear p23
                    try clear q23
                    try clear hx23
                    try clear c26
                    try clear c27
                    try clear c40
                    try clear c41
                    try clear c42
                    try clear c44
                    try clear c46
                    try clear c47
                    try clear c48
                    try clear c49
                    try clear c50
                    try clear c57
                    try clear c58
                    try clear c62
                    try clear c63
                    try clear c64
                    try clear p64
                    try clear c68
                    try clear c69
                    try clear c70
                    try clear c71
                    try clear c74
                    try clear c74b0
                    try clear c74b1
                    try clear c74b2
                    try clear c75
                    try clear c75b0
                    try clear c75b1
                    try clear c77
                    try clear c78
                    try clear c79
                    try clear c80
                    try clear c82
                    try clear c83
                    try clear c84
                    try clear c88
                    try clear c89
                    try clear c90
                    try clear c91
                    try clear hcz28_0
                    try clear hcz28_1
                    try clear hcz28_2
                    try clear hcz28_3
                    try clear hcz43_0
                    try clear hcz43_1
                    try clear hcz45_0
                    try clear hcz45_1
                    try clear hcz51_0
                    try clear hcz51_1
                    try clear hcz51_2
                    try clear hcz51_3
                    try clear hcz54_0
                    try clear hcz54_1
                    try clear hcz54_2
                    try clear hcz54_3
                    try clear hcz59_0
                    try clear hcz59_1
                    try clear hcz59_2
                    try clear hcz59_3
                    try clear hcz65_0
                    try clear hcz65_1
                    try clear hcz72_0
                    try clear hcz72_1
                    try clear hcz72_2
                    try clear hcz72_3
                    try clear hcz81_0
                    try clear hcz81_1
                    try clear hcz81_2
                    try clear hcz81_3
                    try clear hcz85_0
                    try clear hcz85_1
                    try clear hcz85_2
                    try clear hcz85_3
                    try clear hcz92_0
                    try clear hcz92_1
                    try clear hcz92_2
                    try clear hcz92_3
                    try clear hfz28_0
                    try clear hfz28_1
                    try clear hfz28_2
                    try clear hfz28_3
                    try clear hfz43_0
                    try clear hfz43_1
                    try clear hfz45_0
                    try clear hfz45_1
                    try clear hfz51_0
                    try clear hfz51_1
                    try clear hfz51_2
                    try clear hfz51_3
                    try clear hfz54_0
                    try clear hfz54_1
                    try clear hfz54_2
                    try clear hfz54_3
                    try clear hfz59_0
                    try clear hfz59_1
                    try clear hfz59_2
                    try clear hfz59_3
                    try clear hfz65_0
                    try clear hfz65_1
                    try clear hfz72_0
                    try clear hfz72_1
                    try clear hfz72_2
                    try clear hfz72_3
                    try clear hfz81_0
                    try clear hfz81_1
                    try clear hfz81_2
                    try clear hfz81_3
                    try clear hfz85_0
                    try clear hfz85_1
                    try clear hfz85_2
                    try clear hfz85_3
                    try clear hfz92_0
                    try clear hfz92_1
                    try clear hfz92_2
                    try clear hfz92_3
                    try clear hx231_0
                    try clear hx231_1
                    try clear hx231_2
                    try clear hx231_3
                    try clear hx233_0
                    try clear p2
                    try clear p23
                    try clear p231
                    try clear p233
                    try clear p6
                    try clear q2
                    try clear q23
                    try clear q231
                    try clear q233
                    obtain ⟨kq, x99_60, rfl, HA, HJ60, HO_230000, HO_230001, HL, HO_243000, HO_243001, HO_259003, BK229, BK230, BK232, BK242, BK258, HB⟩ := hcut
                    have HO_231003 := phantom_ (fun k_ => some k_ ≠ ((.slice Ao36 t234.length co36) : Value).ownBlock ∧ some k_ ≠ ((.slice Ao38 t237.length co38) : Value).ownBlock ∧ some k_ ≠ ((.slice Ao36 t234.length co36) : Value).ownBlock ∧ some k_ ≠ ((.slice Ao38 t237.length co38) : Value).ownBlock ∧ some k_ ≠ ((.slice Ao73 t253.length co73) : Value).ownBlock) HO_230000
                    cases kq with
                    | zero => exact absurd HA.out (by simp [newellaw12_FlashGoes.j5])
                    | succ kj60 =>
                     have H := HA.out
                     clear HA
                     simp only [newellaw12_FlashGoes.j5] at H
                     by_cases c93 : x99_60 = true
                     ·subst c93
                      have H1 : (none) = some r := by rw [if_pos rfl] at H; exact H
                      clear H
                      have H := H1
                      clear H1
                      exact absurd H (by simp)
                     ·replace c93 := Bool.eq_false_iff.mpr c93
                      subst c93
                      have H1 : (newellaw12_FlashGoes.j6 kj60 l0 l1 x9_3 t234 t237 x231000_23 x231001_23 x231002_23 x231003_23) = some r := by rw [if_neg (show ¬ (false = true) by decide)] at H; exact H
                      clear H
                      have H := H1
                      clear H1
                      have H' := Aside0.mk H
                      clear H
                      go_wp2
                      go_meet
                      case rel => exact ⟨_, (t234), (t237), (x231000_23), (x231001_23), (x231002_23), (x231003_23), (.slice Ao36 t234.length co36), (.slice Ao38 t237.length co38), (u231003), H', ⟨by have := HK1.out; have := HJ4.out; have := HK3.out; have := HJ14.out; have := HJ23.out; have := HJ60.out; first | omega | exact Nat.le_refl _⟩, ⟨by (with_reducible repeat (first | apply Kd.R_alloc | apply Kd.R_drewN | apply Kd.R_drew)); exact Kd.R_mono HO_230000.out (fun _ hk => ⟨hk.1, hk.2.1⟩)⟩, ⟨by (with_reducible repeat (first | apply Kd.R_alloc | apply Kd.R_drewN | apply Kd.R_drew)); exact Kd.R_mono HO_230001.out (fun _ hk => ⟨hk.1, hk.2.1⟩)⟩, HL, ⟨by (with_reducible repeat (first | refine blk_drewN ?_ _ | refine blk_drew ?_ | refine blk_alloc ?_ _)); exact BK229.out⟩, ⟨by (with_reducible repeat (first | refine blk_drewN ?_ _ | refine blk_drew ?_ | refine blk_alloc ?_ _)); exact BK230.out⟩, ⟨by repeat (first | (with_reducible first | exact HB.out | apply below_alloc | apply pw_below_drewN | apply below_drew1 | refine below_set ?_ GE229.out | refine below_set ?_ GE230.out | refine below_set ?_ GE232.out | refine below_set ?_ GE242.out | refine below_set ?_ GE258.out) | exact HB.out)⟩⟩
                ·rw [if_neg c23] at H
                 have c23b0 : (t241 == 0) = false := beq_eq_false_iff_ne.mpr c23
                 have c23b1 : (t241 != 0) = true := bne_iff_ne.mpr c23
                 replace H := Option.bind_eq_some_iff.mp H
                 obtain ⟨t243, A940, H⟩ := H
                 replace H : (if t243 = true then (none) else (newellaw12_FlashGoes.j6 kj14 l0 l1 x9_3 x230000_3 x230001_3 x231000_3 x231001_3 x231002_3 x231003_3)) = some r := H
                 have A94 := Aside0.mk A940
                 clear A940
                 by_cases c95 : t243 = true
                 ·subst c95
                  have H1 : (none) = some r := by rw [if_pos rfl] at H; exact H
                  clear H
                  have H := H1
                  clear H1
                  exact absurd H (by simp)
                 ·replace c95 := Bool.eq_false_iff.mpr c95
                  subst c95
                  have H1 : (newellaw12_FlashGoes.j6 kj14 l0 l1 x9_3 x230000_3 x230001_3 x231000_3 x231001_3 x231002_3 x231003_3) = some r := by rw [if_neg (show ¬ (false = true) by decide)] at H; exact H
                  clear H
                  have H := H1
                  clear H1
                  have H' := Aside0.mk H
                  clear H
                  have p231 : 0 ≤ (x9_3 : Int) := of_decide_eq_true (by first | (with_reducible assumption) | assumption)
                  have q231 : x9_3 < (l0.length : Int) := of_decide_eq_true (by first | (with_reducible assumption) | assumption)
                  obtain ⟨ad231, A231_3, c231_3, e231, hx231_0, hx231_1, hx231_2, hx231_3, hl231_3, hi231_3⟩ := at_T26 HR0.out x9_3 p231 q231
                  cases e231
                  replace hx231_0 := (HB.out.cell (World.block_lt_of_cell? w _ hx231_0)).trans hx231_0
                  replace hx231_1 := (HB.out.cell (World.block_lt_of_cell? w _ hx231_1)).trans hx231_1
                  replace hx231_2 := (HB.out.cell (World.block_lt_of_cell? w _ hx231_2)).trans hx231_2
                  replace hx231_3 := (HB.out.cell (World.block_lt_of_cell? w _ hx231_3)).trans hx231_3
                  have HR231_3 := Aside0.mk hi231_3
                  have HC231_3 := Aside0.mk hl231_3
                  clear hi231_3 hl231_3
                  replace p231 := eq_true p231
                  replace q231 := eq_true q231
                  try go_wp2_with (first | ((with_reducible refine gate_dst (N := 10) rfl ?_); (try (refine gate_guard (by rfl) ?_; dsimp only)); refine box_event ?hg (N := 10) ?hd (cs := #[.int .i64 0, .int .i64 0, .int .i64 0, .slice none 0 0]) (t := 26) ?hr ?_; (case hd => rfl); (case hg => rfl); (case hr => first | (go_simp; done) | (go_simp; rfl)); intro gb232 hg w96 hbox hb; have n0_ := Aside0.mk (Kd.R_below (by (with_reducible repeat (first | apply Kd.R_alloc | apply Kd.R_drewN | apply Kd.R_drew)); exact HO_230000.out) hb); have n1_ := Aside0.mk (Kd.R_below (by (with_reducible repeat (first | apply Kd.R_alloc | apply Kd.R_drewN | apply Kd.R_drew)); exact HO_230001.out) hb); have n2_ := Aside0.mk (Kd.R_below (by (with_reducible repeat (first | apply Kd.R_alloc | apply Kd.R_drewN | apply Kd.R_drew)); exact HO_231003.out) hb); have n3_ := Aside0.mk (blk_below (g := gb229) (o := .cells #[u230000, u230001] 24 (0, 0)) (by (with_reducible repeat (first | refine blk_drewN ?_ _ | refine blk_drew ?_ | refine blk_alloc ?_ _)); exact BK229.out) hb); have n4_ := Aside0.mk (blk_below (g := gb230) (o := .cells #[.int .i64 x231000_3, .int .i64 x231001_3, .int .i64 x231002_3, u231003] 26 (0, 0)) (by (with_reducible repeat (first | refine blk_drewN ?_ _ | refine blk_drew ?_ | refine blk_alloc ?_ _)); exact BK230.out) hb); have n5_ := Aside0.mk (below_step (by repeat (first | (with_reducible first | exact HB.out | apply below_alloc | apply pw_below_drewN | apply below_drew1 | refine below_set ?_ GE229.out | refine below_set ?_ GE230.out) | exact HB.out)) hb); have n6_ := Aside0.mk (hbox); have n7_ := Aside0.mk ((by rw [hg]; exact (below_size (by repeat (first | (with_reducible first | exact HB.out | apply below_alloc | apply pw_below_drewN | apply below_drew1 | refine below_set ?_ GE229.out | refine below_set ?_ GE230.out) | exact HB.out))) : w.heap.size ≤ gb232)); have n8_ := Aside0.mk ((by rw [hg]; exact (below_size (by repeat (first | (with_reducible first | exact HB.out | apply below_alloc | apply pw_below_drewN | apply below_drew1 | refine below_set ?_ GE229.out | refine below_set ?_ GE230.out) | exact HB.out))) : w.heap.size ≤ gb232)); have n9_ := Aside0.mk ((by rw [hg]; exact Nat.ne_of_lt (blk_lt (g := gb229) (o := .cells #[u230000, u230001] 24 (0, 0)) (by (with_reducible repeat (first | refine blk_drewN ?_ _ | refine blk_drew ?_ | refine blk_alloc ?_ _)); exact BK229.out)) : gb229 ≠ gb232)); have n10_ := Aside0.mk ((by rw [hg]; exact Nat.ne_of_gt (blk_lt (g := gb229) (o := .cells #[u230000, u230001] 24 (0, 0)) (by (with_reducible repeat (first | refine blk_drewN ?_ _ | refine blk_drew ?_ | refine blk_alloc ?_ _)); exact BK229.out)) : gb232 ≠ gb229)); have n11_ := Aside0.mk ((by rw [hg]; exact Nat.ne_of_lt (blk_lt (g := gb230) (o := .cells #[.int .i64 x231000_3, .int .i64 x231001_3, .int .i64 x231002_3, u231003] 26 (0, 0)) (by (with_reducible repeat (first | refine blk_drewN ?_ _ | refine blk_drew ?_ | refine blk_alloc ?_ _)); exact BK230.out)) : gb230 ≠ gb232)); have n12_ := Aside0.mk ((by rw [hg]; exact Nat.ne_of_gt (blk_lt (g := gb230) (o := .cells #[.int .i64 x231000_3, .int .i64 x231001_3, .int .i64 x231002_3, u231003] 26 (0, 0)) (by (with_reducible repeat (first | refine blk_drewN ?_ _ | refine blk_drew ?_ | refine blk_alloc ?_ _)); exact BK230.out)) : gb232 ≠ gb230)); clear HO_230000; clear HO_230001; clear HO_231003; clear BK229; clear BK230; clear HB; have HO_230000 := n0_; have HO_230001 := n1_; have HO_231003 := n2_; have BK229 := n3_; have BK230 := n4_; have HB := n5_; have BK232 := n6_; have GW232 := n7_; have GE232 := n8_; have NB229_232 := n9_; have NB232_229 := n10_; have NB230_232 := n11_; have NB232_230 := n12_; clear n0_ n1_ n2_ n3_ n4_ n5_ n6_ n7_ n8_ n9_ n10_ n11_ n12_; clear hb hbox hg; have hnb97 := NB232_229.out; have hnc97 := NB229_232.out; have hnb98 := NB232_230.out; have hnc98 := NB230_232.out; have hcz99_0 : w96.cell? ⟨gb232, 0, none⟩ = some (.int .i64 0) := (blk_cell BK232.out 0).trans rfl; have hcz99_1 : w96.cell? ⟨gb232, 1, none⟩ = some (.int .i64 0) := (blk_cell BK232.out 1).trans rfl; have hcz99_2 : w96.cell? ⟨gb232, 2, none⟩ = some (.int .i64 0) := (blk_cell BK232.out 2).trans rfl; have hcz99_3 : w96.cell? ⟨gb232, 3, none⟩ = some (.slice none 0 0) := (blk_cell BK232.out 3).trans rfl; have hfz99_0 := blk_frozen BK232.out 0; have hfz99_1 := blk_frozen BK232.out 1; have hfz99_2 := blk_frozen BK232.out 2; have hfz99_3 := blk_frozen BK232.out 3; obtain ⟨Ao100, co100, eo100⟩ := Kd.R_slice HO_230000.out; subst eo100; obtain ⟨Ao101, co101, eo101⟩ := Kd.R_slice HO_230001.out; subst eo101))
                  have n0_ : Aside0 (Kd.R (Kd.int .u8) 5 (((((w96.setCell ⟨gb232, 0, none⟩ (.int .i64 ((rd_T26 l0 x9_3).f0))).setCell ⟨gb232, 1, none⟩ (.int .i64 ((rd_T26 l0 x9_3).f1))).setCell ⟨gb232, 2, none⟩ (.int .i64 ((rd_T26 l0 x9_3).f2))).setCell ⟨gb232, 3, none⟩ (.slice A231_3 ((rd_T26 l0 x9_3).f3).length c231_3)).setCell ⟨gb232, 0, none⟩ (.int .i64 (wrap64 (x9_3 + 1)))) w.heap.size (fun k_ => some k_ ≠ (.slice Ao101 x230001_3.length co101 : Value).ownBlock ∧ some k_ ≠ (.slice none 0 0 : Value).ownBlock) (.slice Ao100 x230000_3.length co100) x230000_3) := ⟨by (with_reducible repeat (first | apply Kd.R_alloc | apply Kd.R_drewN | apply Kd.R_drew)); exact Kd.R_mono (Kd.R_far (p := ⟨gb232, 0, none⟩) (Kd.R_far (p := ⟨gb232, 3, none⟩) (Kd.R_far (p := ⟨gb232, 2, none⟩) (Kd.R_far (p := ⟨gb232, 1, none⟩) (Kd.R_far (p := ⟨gb232, 0, none⟩) (Kd.R_types HO_230000.out BK232.out (by decide)) (fun _ hk => hk.2) (.int .i64 ((rd_T26 l0 x9_3).f0))) (fun _ hk => hk.2) (.int .i64 ((rd_T26 l0 x9_3).f1))) (fun _ hk => hk.2) (.int .i64 ((rd_T26 l0 x9_3).f2))) (fun _ hk => hk.2) (.slice A231_3 ((rd_T26 l0 x9_3).f3).length c231_3)) (fun _ hk => hk.2) (.int .i64 (wrap64 (x9_3 + 1)))) (fun _ hk => ⟨hk.1.1, hk.1.2⟩)⟩
                  have n1_ : Aside0 (Kd.R (Kd.int .u8) 5 (((((w96.setCell ⟨gb232, 0, none⟩ (.int .i64 ((rd_T26 l0 x9_3).f0))).setCell ⟨gb232, 1, none⟩ (.int .i64 ((rd_T26 l0 x9_3).f1))).setCell ⟨gb232, 2, none⟩ (.int .i64 ((rd_T26 l0 x9_3).f2))).setCell ⟨gb232, 3, none⟩ (.slice A231_3 ((rd_T26 l0 x9_3).f3).length c231_3)).setCell ⟨gb232, 0, none⟩ (.int .i64 (wrap64 (x9_3 + 1)))) w.heap.size (fun k_ => some k_ ≠ (.slice Ao100 x230000_3.length co100 : Value).ownBlock ∧ some k_ ≠ (.slice none 0 0 : Value).ownBlock) (.slice Ao101 x230001_3.length co101) x230001_3) := ⟨by (with_reducible repeat (first | apply Kd.R_alloc | apply Kd.R_drewN | apply Kd.R_drew)); exact Kd.R_mono (Kd.R_far (p := ⟨gb232, 0, none⟩) (Kd.R_far (p := ⟨gb232, 3, none⟩) (Kd.R_far (p := ⟨gb232, 2, none⟩) (Kd.R_far (p := ⟨gb232, 1, none⟩) (Kd.R_far (p := ⟨gb232, 0, none⟩) (Kd.R_types HO_230001.out BK232.out (by decide)) (fun _ hk => hk.2) (.int .i64 ((rd_T26 l0 x9_3).f0))) (fun _ hk => hk.2) (.int .i64 ((rd_T26 l0 x9_3).f1))) (fun _ hk => hk.2) (.int .i64 ((rd_T26 l0 x9_3).f2))) (fun _ hk => hk.2) (.slice A231_3 ((rd_T26 l0 x9_3).f3).length c231_3)) (fun _ hk => hk.2) (.int .i64 (wrap64 (x9_3 + 1)))) (fun _ hk => ⟨hk.1.1, hk.1.2⟩)⟩
                  have n2_ : Aside0 (Kd.R (Kd.int .u8) 5 (((((w96.setCell ⟨gb232, 0, none⟩ (.int .i64 ((rd_T26 l0 x9_3).f0))).setCell ⟨gb232, 1, none⟩ (.int .i64 ((rd_T26 l0 x9_3).f1))).setCell ⟨gb232, 2, none⟩ (.int .i64 ((rd_T26 l0 x9_3).f2))).setCell ⟨gb232, 3, none⟩ (.slice A231_3 ((rd_T26 l0 x9_3).f3).length c231_3)).setCell ⟨gb232, 0, none⟩ (.int .i64 (wrap64 (x9_3 + 1)))) w.heap.size (fun k_ => some k_ ≠ (.slice Ao100 x230000_3.length co100 : Value).ownBlock ∧ some k_ ≠ (.slice Ao101 x230001_3.length co101 : Value).ownBlock) (.slice none 0 0) ([] : List Int)) := ⟨by (with_reducible repeat (first | apply Kd.R_alloc | apply Kd.R_drewN | apply Kd.R_drew)); exact Kd.R_mono (Kd.R_far (p := ⟨gb232, 0, none⟩) (Kd.R_far (p := ⟨gb232, 3, none⟩) (Kd.R_far (p := ⟨gb232, 2, none⟩) (Kd.R_far (p := ⟨gb232, 1, none⟩) (Kd.R_far (p := ⟨gb232, 0, none⟩) (Kd.R_types HO_231003.out BK232.out (by decide)) (fun _ hk => hk.2) (.int .i64 ((rd_T26 l0 x9_3).f0))) (fun _ hk => hk.2) (.int .i64 ((rd_T26 l0 x9_3).f1))) (fun _ hk => hk.2) (.int .i64 ((rd_T26 l0 x9_3).f2))) (fun _ hk => hk.2) (.slice A231_3 ((rd_T26 l0 x9_3).f3).length c231_3)) (fun _ hk => hk.2) (.int .i64 (wrap64 (x9_3 + 1)))) (fun _ hk => ⟨hk.1.1, hk.1.2⟩)⟩
                  have n3_ : Aside0 ((((((w96.setCell ⟨gb232, 0, none⟩ (.int .i64 ((rd_T26 l0 x9_3).f0))).setCell ⟨gb232, 1, none⟩ (.int .i64 ((rd_T26 l0 x9_3).f1))).setCell ⟨gb232, 2, none⟩ (.int .i64 ((rd_T26 l0 x9_3).f2))).setCell ⟨gb232, 3, none⟩ (.slice A231_3 ((rd_T26 l0 x9_3).f3).length c231_3)).setCell ⟨gb232, 0, none⟩ (.int .i64 (wrap64 (x9_3 + 1)))).heap[gb229]? = some (.cells #[.slice Ao100 x230000_3.length co100, .slice Ao101 x230001_3.length co101] 24 (0, 0))) := ⟨by (with_reducible repeat (first | refine blk_drewN ?_ _ | refine blk_drew ?_ | refine blk_alloc ?_ _)); refine blk_far ?_ NB229_232.out _; (with_reducible repeat (first | refine blk_drewN ?_ _ | refine blk_drew ?_ | refine blk_alloc ?_ _)); refine blk_far ?_ NB229_232.out _; (with_reducible repeat (first | refine blk_drewN ?_ _ | refine blk_drew ?_ | refine blk_alloc ?_ _)); refine blk_far ?_ NB229_232.out _; (with_reducible repeat (first | refine blk_drewN ?_ _ | refine blk_drew ?_ | refine blk_alloc ?_ _)); refine blk_far ?_ NB229_232.out _; (with_reducible repeat (first | refine blk_drewN ?_ _ | refine blk_drew ?_ | refine blk_alloc ?_ _)); refine blk_far ?_ NB229_232.out _; (with_reducible repeat (first | refine blk_drewN ?_ _ | refine blk_drew ?_ | refine blk_alloc ?_ _)); exact BK229.out⟩
                  have n4_ : Aside0 ((((((w96.setCell ⟨gb232, 0, none⟩ (.int .i64 ((rd_T26 l0 x9_3).f0))).setCell ⟨gb232, 1, none⟩ (.int .i64 ((rd_T26 l0 x9_3).f1))).setCell ⟨gb232, 2, none⟩ (.int .i64 ((rd_T26 l0 x9_3).f2))).setCell ⟨gb232, 3, none⟩ (.slice A231_3 ((rd_T26 l0 x9_3).f3).length c231_3)).setCell ⟨gb232, 0, none⟩ (.int .i64 (wrap64 (x9_3 + 1)))).heap[gb230]? = some (.cells #[.int .i64 x231000_3, .int .i64 x231001_3, .int .i64 x231002_3, u231003] 26 (0, 0))) := ⟨by (with_reducible repeat (first | refine blk_drewN ?_ _ | refine blk_drew ?_ | refine blk_alloc ?_ _)); refine blk_far ?_ NB230_232.out _; (with_reducible repeat (first | refine blk_drewN ?_ _ | refine blk_drew ?_ | refine blk_alloc ?_ _)); refine blk_far ?_ NB230_232.out _; (with_reducible repeat (first | refine blk_drewN ?_ _ | refine blk_drew ?_ | refine blk_alloc ?_ _)); refine blk_far ?_ NB230_232.out _; (with_reducible repeat (first | refine blk_drewN ?_ _ | refine blk_drew ?_ | refine blk_alloc ?_ _)); refine blk_far ?_ NB230_232.out _; (with_reducible repeat (first | refine blk_drewN ?_ _ | refine blk_drew ?_ | refine blk_alloc ?_ _)); refine blk_far ?_ NB230_232.out _; (with_reducible repeat (first | refine blk_drewN ?_ _ | refine blk_drew ?_ | refine blk_alloc ?_ _)); exact BK230.out⟩
                  have n5_ : Aside0 ((((((w96.setCell ⟨gb232, 0, none⟩ (.int .i64 ((rd_T26 l0 x9_3).f0))).setCell ⟨gb232, 1, none⟩ (.int .i64 ((rd_T26 l0 x9_3).f1))).setCell ⟨gb232, 2, none⟩ (.int .i64 ((rd_T26 l0 x9_3).f2))).setCell ⟨gb232, 3, none⟩ (.slice A231_3 ((rd_T26 l0 x9_3).f3).length c231_3)).setCell ⟨gb232, 0, none⟩ (.int .i64 (wrap64 (x9_3 + 1)))).heap[gb232]? = some (.cells #[.int .i64 (wrap64 (x9_3 + 1)), .int .i64 ((rd_T26 l0 x9_3).f1), .int .i64 ((rd_T26 l0 x9_3).f2), .slice A231_3 ((rd_T26 l0 x9_3).f3).length c231_3] 26 (0, 0))) := ⟨by (with_reducible repeat (first | refine blk_drewN ?_ _ | refine blk_drew ?_ | refine blk_alloc ?_ _)); refine blk_put (cs := #[.int .i64 ((rd_T26 l0 x9_3).f0), .int .i64 ((rd_T26 l0 x9_3).f1), .int .i64 ((rd_T26 l0 x9_3).f2), .slice A231_3 ((rd_T26 l0 x9_3).f3).length c231_3]) ?_ 0 _ rfl; (with_reducible repeat (first | refine blk_drewN ?_ _ | refine blk_drew ?_ | refine blk_alloc ?_ _)); refine blk_put (cs := #[.int .i64 ((rd_T26 l0 x9_3).f0), .int .i64 ((rd_T26 l0 x9_3).f1), .int .i64 ((rd_T26 l0 x9_3).f2), .slice none 0 0]) ?_ 3 _ rfl; (with_reducible repeat (first | refine blk_drewN ?_ _ | refine blk_drew ?_ | refine blk_alloc ?_ _)); refine blk_put (cs := #[.int .i64 ((rd_T26 l0 x9_3).f0), .int .i64 ((rd_T26 l0 x9_3).f1), .int .i64 0, .slice none 0 0]) ?_ 2 _ rfl; (with_reducible repeat (first | refine blk_drewN ?_ _ | refine blk_drew ?_ | refine blk_alloc ?_ _)); refine blk_put (cs := #[.int .i64 ((rd_T26 l0 x9_3).f0), .int .i64 0, .int .i64 0, .slice none 0 0]) ?_ 1 _ rfl; (with_reducible repeat (first | refine blk_drewN ?_ _ | refine blk_drew ?_ | refine blk_alloc ?_ _)); refine blk_put (cs := #[.int .i64 0, .int .i64 0, .int .i64 0, .slice none 0 0]) ?_ 0 _ rfl; (with_reducible repeat (first | refine blk_drewN ?_ _ | refine blk_drew ?_ | refine blk_alloc ?_ _)); exact BK232.out⟩
                  have n6_ : Aside0 (Below w.heap.size w (((((w96.setCell ⟨gb232, 0, none⟩ (.int .i64 ((rd_T26 l0 x9_3).f0))).setCell ⟨gb232, 1, none⟩ (.int .i64 ((rd_T26 l0 x9_3).f1))).setCell ⟨gb232, 2, none⟩ (.int .i64 ((rd_T26 l0 x9_3).f2))).setCell ⟨gb232, 3, none⟩ (.slice A231_3 ((rd_T26 l0 x9_3).f3).length c231_3)).setCell ⟨gb232, 0, none⟩ (.int .i64 (wrap64 (x9_3 + 1))))) := ⟨by repeat (first | (with_reducible first | exact HB.out | apply below_alloc | apply pw_below_drewN | apply below_drew1 | refine below_set ?_ GE229.out | refine below_set ?_ GE230.out | refine below_set ?_ GE232.out) | exact HB.out)⟩
                  (try clear HO_230000)
                  (try clear HO_230001)
                  (try clear HO_231003)
                  (try clear BK229)
                  (try clear BK230)
                  (try clear BK232)
                  (try clear HB)
                  generalize (((((w96.setCell ⟨gb232, 0, none⟩ (.int .i64 ((rd_T26 l0 x9_3).f0))).setCell ⟨gb232, 1, none⟩ (.int .i64 ((rd_T26 l0 x9_3).f1))).setCell ⟨gb232, 2, none⟩ (.int .i64 ((rd_T26 l0 x9_3).f2))).setCell ⟨gb232, 3, none⟩ (.slice A231_3 ((rd_T26 l0 x9_3).f3).length c231_3)).setCell ⟨gb232, 0, none⟩ (.int .i64 (wrap64 (x9_3 + 1)))) = w102 at n0_ n1_ n2_ n3_ n4_ n5_ n6_ ⊢
                  have HO_230000 := n0_
                  have HO_230001 := n1_
                  have HO_231003 := n2_
                  have BK229 := n3_
                  have BK230 := n4_
                  have BK232 := n5_
                  have HB := n6_
                  clear n0_ n1_ n2_ n3_ n4_ n5_ n6_
                  have n0_ := Aside0.mk (Kd.R_drew HO_230000.out)
                  have n1_ := Aside0.mk (Kd.R_drew HO_230001.out)
                  have n2_ := Aside0.mk (Kd.R_drew HO_231003.out)
                  have n3_ := Aside0.mk (blk_drew BK229.out)
                  have n4_ := Aside0.mk (blk_drew BK230.out)
                  have n5_ := Aside0.mk (blk_drew BK232.out)
                  have n6_ := Aside0.mk (below_drew1 HB.out)
                  clear HO_230000
                  clear HO_230001
                  clear HO_231003
                  clear BK229
                  clear BK230
                  clear BK232
                  clear HB
                  have HO_230000 := n0_
                  have HO_230001 := n1_
                  have HO_231003 := n2_
                  have BK229 := n3_
                  have BK230 := n4_
                  have BK232 := n5_
                  have HB := n6_
                  clear n0_ n1_ n2_ n3_ n4_ n5_ n6_
                  have p233 : 0 ≤ (x9_3 : Int) := of_decide_eq_true (by first | (with_reducible assumption) | assumption)
                  have q233 : x9_3 < (l1.length : Int) := of_decide_eq_true (by first | (with_reducible assumption) | assumption)
                  obtain ⟨ad233, e233, hx233_0⟩ := Kd.at_int HR1.out x9_3 p233 q233
                  have hw233_0 := hx233_0
                  cases e233
                  replace hx233_0 := (HB.out.cell (World.block_lt_of_cell? w _ hx233_0)).trans hx233_0
                  replace p233 := eq_true p233
                  replace q233 := eq_true q233
                  refine start_ (n := 15) (S := fun w' => w'.cell? ⟨gb229, 0, none⟩ = some (.slice Ao100 x230000_3.length co100) ∧ w'.cell? ⟨gb229, 1, none⟩ = some (.slice Ao101 x230001_3.length co101) ∧ w'.cell? ⟨gb232, 0, none⟩ = some (.int .i64 (wrap64 (x9_3 + 1))) ∧ w'.cell? ⟨gb232, 1, none⟩ = some (.int .i64 ((rd_T26 l0 x9_3).f1)) ∧ w'.cell? ⟨gb232, 2, none⟩ = some (.int .i64 ((rd_T26 l0 x9_3).f2)) ∧ w'.cell? ⟨gb232, 3, none⟩ = some (.slice A231_3 ((rd_T26 l0 x9_3).f3).length c231_3) ∧ w'.cell? (ad233.add (x9_3).toNat) = some (.int .i64 (rd l1 x9_3))) (ds := []) #[false, false, false, false, false, false, false, false, false, false, false, false, false, false, false] (by kernel_rfl) rfl rfl ⟨(blk_cell BK229.out 0).trans rfl, (blk_cell BK229.out 1).trans rfl, (blk_cell BK232.out 0).trans rfl, (blk_cell BK232.out 1).trans rfl, (blk_cell BK232.out 2).trans rfl, (blk_cell BK232.out 3).trans rfl, ((HB.out.cell (World.block_lt_of_cell? w _ hw233_0)).trans hw233_0)⟩ (fun hHeld => ?_); refine with_tabW newellaw12_FlashGoes.tab15 newellaw12_FlashGoes.bits15 (fun HT_ HW_ => ?_)
                  generalize w102.drew = w103 at HO_230000 HO_230001 HO_231003 BK229 BK230 BK232 HB hx233_0 hHeld ⊢
                  refine pure_ (i := 2) (N := some 63) (v := ?_) (a' := ?_) #[false, false, true, false, false, false, false, false, false, false, false, false, false, false, false] rfl rfl (any_of HT_.out (by kernel_rfl)) (fun _ _ _ h => h) (Or.inl ⟨by rfl, ?_⟩) ?_ ?_
                  rotate_left
                  ·intro w'
                   go_simp
                   with_reducible rfl
                  rotate_left
                  ·simp only [Act.put, List.setIfInBounds_toArray, List.set_cons_zero, List.set_cons_succ, i64_w, i32_w]
                   rfl
                  refine pure_ (i := 3) (N := some 64) (v := ?_) (a' := ?_) #[false, false, true, true, false, false, false, false, false, false, false, false, false, false, false] rfl rfl (any_of HT_.out (by kernel_rfl)) (fun _ _ _ h => h) (Or.inl ⟨by rfl, ?_⟩) ?_ ?_
                  rotate_left
                  ·intro w'
                   go_simp
                   with_reducible rfl
                  rotate_left
                  ·simp only [Act.put, List.setIfInBounds_toArray, List.set_cons_zero, List.set_cons_succ, i64_w, i32_w]
                   rfl
                  refine pure_ (i := 4) (N := some 65) (v := ?_) (a' := ?_) #[false, false, true, true, true, false, false, false, false, false, false, false, false, false, false] rfl rfl (any_of HT_.out (by kernel_rfl)) (fun _ _ _ h => h) (Or.inl ⟨by rfl, ?_⟩) ?_ ?_
                  rotate_left
                  ·intro w'
                   go_simp
                   with_reducible rfl
                  rotate_left
                  ·simp only [Act.put, List.setIfInBounds_toArray, List.set_cons_zero, List.set_cons_succ, i64_w, i32_w]
                   rfl
                  refine take_ (i := 0) (N := some 61) (v := ?_) (a' := ?_) #[true, false, true, true, true, false, false, false, false, false, false, false, false, false, false] rfl rfl (take_ofW HT_.out HW_.out (by kernel_rfl)) (fun _ _ _ h => h) (Or.inl ⟨by rfl, ?_⟩) hHeld ?_ ?_
                  rotate_left
                  ·rintro w' ⟨s0, s1, s2, s3, s4, s5, s6⟩
                   go_simp
                   with_reducible rfl
                  rotate_left
                  ·simp only [Act.put, List.setIfInBounds_toArray, List.set_cons_zero, List.set_cons_succ, i64_w, i32_w]
                   rfl
                  refine take_ (i := 1) (N := some 62) (v := ?_) (a' := ?_) #[true, true, true, true, true, false, false, false, false, false, false, false, false, false, false] rfl rfl (take_ofW HT_.out HW_.out (by kernel_rfl)) (fun _ _ _ h => h) (Or.inl ⟨by rfl, ?_⟩) hHeld ?_ ?_
                  rotate_left
                  ·rintro w' ⟨s0, s1, s2, s3, s4, s5, s6⟩
                   go_simp
                   with_reducible rfl
                  rotate_left
                  ·simp only [Act.put, List.setIfInBounds_toArray, List.set_cons_zero, List.set_cons_succ, i64_w, i32_w]
                   rfl
                  refine take_ (i := 5) (N := some 66) (v := ?_) (a' := ?_) #[true, true, true, true, true, true, false, false, false, false, false, false, false, false, false] rfl rfl (take_ofW HT_.out HW_.out (by kernel_rfl)) (fun _ _ _ h => h) (Or.inl ⟨by rfl, ?_⟩) hHeld ?_ ?_
                  rotate_left
                  ·rintro w' ⟨s0, s1, s2, s3, s4, s5, s6⟩
                   go_simp
                   with_reducible rfl
                  rotate_left
                  ·simp only [Act.put, List.setIfInBounds_toArray, List.set_cons_zero, List.set_cons_succ, i64_w, i32_w]
                   rfl
                  refine join_ (σ := Value × Value × Nat) 3 #[true, true, true, true, true, true, true, true, true, true, true, true, false, false, false] (fun s_ => [(67, .tuple #[.agg #[s_.1, s_.2.1], .bool t240, .int .i64 t241]), (11, .pointer (some ⟨s_.2.2, 0, none⟩)), (60, .tuple #[.agg #[s_.1, s_.2.1], .bool t240, .int .i64 t241]), (68, .agg #[s_.1, s_.2.1]), (69, .bool t240), (70, .int .i64 t241)]) (fun s_ w' => (w'.cell? ⟨gb229, 0, none⟩ = some (.slice Ao100 x230000_3.length co100) ∧ w'.cell? ⟨gb229, 1, none⟩ = some (.slice Ao101 x230001_3.length co101) ∧ w'.cell? ⟨gb232, 0, none⟩ = some (.int .i64 (wrap64 (x9_3 + 1))) ∧ w'.cell? ⟨gb232, 1, none⟩ = some (.int .i64 ((rd_T26 l0 x9_3).f1)) ∧ w'.cell? ⟨gb232, 2, none⟩ = some (.int .i64 ((rd_T26 l0 x9_3).f2)) ∧ w'.cell? ⟨gb232, 3, none⟩ = some (.slice A231_3 ((rd_T26 l0 x9_3).f3).length c231_3) ∧ w'.cell? (ad233.add (x9_3).toNat) = some (.int .i64 (rd l1 x9_3))) ∧ (Kd.R (Kd.int .u8) 5 w' w.heap.size (fun k_ => some k_ ≠ (s_.2.1 : Value).ownBlock ∧ some k_ ≠ (.slice Ao100 x230000_3.length co100 : Value).ownBlock ∧ some k_ ≠ (.slice Ao101 x230001_3.length co101 : Value).ownBlock ∧ some k_ ≠ (.slice none 0 0 : Value).ownBlock) s_.1 t234) ∧ (Kd.R (Kd.int .u8) 5 w' w.heap.size (fun k_ => some k_ ≠ (s_.1 : Value).ownBlock ∧ some k_ ≠ (.slice Ao100 x230000_3.length co100 : Value).ownBlock ∧ some k_ ≠ (.slice Ao101 x230001_3.length co101 : Value).ownBlock ∧ some k_ ≠ (.slice none 0 0 : Value).ownBlock) s_.2.1 t237) ∧ (Kd.R (Kd.int .u8) 5 w' w.heap.size (fun k_ => some k_ ≠ (s_.1 : Value).ownBlock ∧ some k_ ≠ (s_.2.1 : Value).ownBlock ∧ some k_ ≠ (.slice Ao101 x230001_3.length co101 : Value).ownBlock ∧ some k_ ≠ (.slice none 0 0 : Value).ownBlock) (.slice Ao100 x230000_3.length co100) x230000_3) ∧ (Kd.R (Kd.int .u8) 5 w' w.heap.size (fun k_ => some k_ ≠ (s_.1 : Value).ownBlock ∧ some k_ ≠ (s_.2.1 : Value).ownBlock ∧ some k_ ≠ (.slice Ao100 x230000_3.length co100 : Value).ownBlock ∧ some k_ ≠ (.slice none 0 0 : Value).ownBlock) (.slice Ao101 x230001_3.length co101) x230001_3) ∧ (Kd.R (Kd.int .u8) 5 w' w.heap.size (fun k_ => some k_ ≠ (s_.1 : Value).ownBlock ∧ some k_ ≠ (s_.2.1 : Value).ownBlock ∧ some k_ ≠ (.slice Ao100 x230000_3.length co100 : Value).ownBlock ∧ some k_ ≠ (.slice Ao101 x230001_3.length co101 : Value).ownBlock) (.slice none 0 0) ([] : List Int)) ∧ (w'.heap[gb229]? = some (.cells #[.slice Ao100 x230000_3.length co100, .slice Ao101 x230001_3.length co101] 24 (0, 0))) ∧ (w'.heap[gb230]? = some (.cells #[.int .i64 x231000_3, .int .i64 x231001_3, .int .i64 x231002_3, u231003] 26 (0, 0))) ∧ (w'.heap[gb232]? = some (.cells #[.int .i64 (wrap64 (x9_3 + 1)), .int .i64 ((rd_T26 l0 x9_3).f1), .int .i64 ((rd_T26 l0 x9_3).f2), .slice A231_3 ((rd_T26 l0 x9_3).f3).length c231_3] 26 (0, 0))) ∧ (w'.heap[s_.2.2]? = some (.cells #[.slice none 0 0, .slice none 0 0] 24 (0, 0))) ∧ (w.heap.size ≤ s_.2.2) ∧ (w.heap.size ≤ s_.2.2) ∧ (gb229 ≠ s_.2.2) ∧ (s_.2.2 ≠ gb229) ∧ (gb230 ≠ s_.2.2) ∧ (s_.2.2 ≠ gb230) ∧ (gb232 ≠ s_.2.2) ∧ (s_.2.2 ≠ gb232) ∧ (Below w.heap.size w w')) ?_ ?_
                  rotate_left
                  ·intro hCont
                   refine two_ (i := 6) (j := 11) (Ni := some 67) (Nj := some 11) #[true, true, true, true, true, true, true, false, false, false, false, false, false, false, false] #[true, true, true, true, true, true, false, false, false, false, false, true, false, false, false] rfl rfl rfl rfl (two_of HT_.out (by kernel_rfl)) (by decide) (by decide) (fun K hK => ?_) (fun K hK => ?_)
                   ·skip
                    refine goes_ Tryd.func11 (by kernel_rfl) rfl #[.agg #[.slice Ao100 x230000_3.length co100, .slice Ao101 x230001_3.length co101], .agg #[.int .i64 (wrap64 (x9_3 + 1)), .int .i64 ((rd_T26 l0 x9_3).f1), .int .i64 ((rd_T26 l0 x9_3).f2), .slice A231_3 ((rd_T26 l0 x9_3).f3).length c231_3], .int .i64 (rd l1 x9_3)] (by rfl) rfl rfl (by (try simp only [List.map_toArray, List.map_cons, List.map_nil]); first | done | rfl | (simp only [List.length_drop, List.length_take]; rfl)) ?_
                    with_reducible refine (flash_Write.calls kj14 _ _ x230000_3 _ _ x230001_3 (wrap64 (x9_3 + 1)) ((rd_T26 l0 x9_3).f1) ((rd_T26 l0 x9_3).f2) _ _ ((rd_T26 l0 x9_3).f3) (rd l1 x9_3) t234 t237 t240 t241 _ ?side1 ?side2 ?side3 ?side4 ?side5 ?side6 A22.out (by first | exact HTAB.out | ((repeat (first | exact HTAB.out | (with_reducible refine Laid.tab_alloc ?_ _) | (with_reducible refine Laid.tab_drewN ?_ _) | (with_reducible refine Laid.tab_drew ?_))); done) | (refine Laid.tab_below' HTAB.out ?_; (repeat (first | (with_reducible first | exact HB.out | apply below_alloc | apply pw_below_drewN | apply below_drew1) | exact HB.out | (refine below_set ?_ (Aside0.out (by assumption)))))))).mono ?_
                    (case side1 => repeat (first | exact (Kd.R_reads' HO_230000.out).2.2 | (with_reducible refine Kd.C_alloc ?_ _) | (with_reducible refine Kd.C_drewN ?_ _) | (with_reducible refine Kd.C_drew ?_)))
                    (case side2 => exact (Kd.R_reads' HO_230000.out).2.1)
                    (case side3 => repeat (first | exact (Kd.R_reads' HO_230001.out).2.2 | (with_reducible refine Kd.C_alloc ?_ _) | (with_reducible refine Kd.C_drewN ?_ _) | (with_reducible refine Kd.C_drew ?_)))
                    (case side4 => exact (Kd.R_reads' HO_230001.out).2.1)
                    (case side5 => repeat (first | exact (Kd.C_below HR231_3.out HB.out) | (with_reducible refine Kd.C_alloc ?_ _) | (with_reducible refine Kd.C_drewN ?_ _) | (with_reducible refine Kd.C_drew ?_)))
                    (case side6 => exact HC231_3.out)
                    rintro e w104 ⟨v235, v238, rfl, ho0, ho1, hb⟩
                    refine ⟨_, rfl, ?_⟩
                    have n0_ := Aside0.mk (Kd.R_mono (Kd.R_told (Kd.R_told (Kd.R_old (by (with_reducible repeat (first | apply Kd.R_alloc | apply Kd.R_drewN | apply Kd.R_drew)); exact HO_230000.out) hb) (Kd.R_base ho0)) (Kd.R_base ho1)) (fun _ h_ => h_.1))
                    have n1_ := Aside0.mk (Kd.R_mono (Kd.R_told (Kd.R_told (Kd.R_old (by (with_reducible repeat (first | apply Kd.R_alloc | apply Kd.R_drewN | apply Kd.R_drew)); exact HO_230001.out) hb) (Kd.R_base ho0)) (Kd.R_base ho1)) (fun _ h_ => h_.1))
                    have n2_ := Aside0.mk (Kd.R_mono (Kd.R_told (Kd.R_told (Kd.R_old (by (with_reducible repeat (first | apply Kd.R_alloc | apply Kd.R_drewN | apply Kd.R_drew)); exact HO_231003.out) hb) (Kd.R_base ho0)) (Kd.R_base ho1)) (fun _ h_ => h_.1))
                    have n3_ := Aside0.mk (Kd.R_lower (Kd.R_new' (Kd.R_new' (Kd.R_new' ho0 (Kd.R_lt (by (with_reducible repeat (first | apply Kd.R_alloc | apply Kd.R_drewN | apply Kd.R_drew)); exact HO_230000.out))) (Kd.R_lt (by (with_reducible repeat (first | apply Kd.R_alloc | apply Kd.R_drewN | apply Kd.R_drew)); exact HO_230001.out))) (Kd.R_lt (by (with_reducible repeat (first | apply Kd.R_alloc | apply Kd.R_drewN | apply Kd.R_drew)); exact HO_231003.out))) (below_size (by repeat (first | (with_reducible first | exact HB.out | apply below_alloc | apply pw_below_drewN | apply below_drew1 | refine below_set ?_ GE229.out | refine below_set ?_ GE230.out | refine below_set ?_ GE232.out) | exact HB.out))))
                    have n4_ := Aside0.mk (Kd.R_lower (Kd.R_new' (Kd.R_new' (Kd.R_new' ho1 (Kd.R_lt (by (with_reducible repeat (first | apply Kd.R_alloc | apply Kd.R_drewN | apply Kd.R_drew)); exact HO_230000.out))) (Kd.R_lt (by (with_reducible repeat (first | apply Kd.R_alloc | apply Kd.R_drewN | apply Kd.R_drew)); exact HO_230001.out))) (Kd.R_lt (by (with_reducible repeat (first | apply Kd.R_alloc | apply Kd.R_drewN | apply Kd.R_drew)); exact HO_231003.out))) (below_size (by repeat (first | (with_reducible first | exact HB.out | apply below_alloc | apply pw_below_drewN | apply below_drew1 | refine below_set ?_ GE229.out | refine below_set ?_ GE230.out | refine below_set ?_ GE232.out) | exact HB.out))))
                    have n5_ := Aside0.mk (blk_below (g := gb229) (o := .cells #[.slice Ao100 x230000_3.length co100, .slice Ao101 x230001_3.length co101] 24 (0, 0)) (by (with_reducible repeat (first | refine blk_drewN ?_ _ | refine blk_drew ?_ | refine blk_alloc ?_ _)); exact BK229.out) hb)
                    have n6_ := Aside0.mk (blk_below (g := gb230) (o := .cells #[.int .i64 x231000_3, .int .i64 x231001_3, .int .i64 x231002_3, u231003] 26 (0, 0)) (by (with_reducible repeat (first | refine blk_drewN ?_ _ | refine blk_drew ?_ | refine blk_alloc ?_ _)); exact BK230.out) hb)
                    have n7_ := Aside0.mk (blk_below (g := gb232) (o := .cells #[.int .i64 (wrap64 (x9_3 + 1)), .int .i64 ((rd_T26 l0 x9_3).f1), .int .i64 ((rd_T26 l0 x9_3).f2), .slice A231_3 ((rd_T26 l0 x9_3).f3).length c231_3] 26 (0, 0)) (by (with_reducible repeat (first | refine blk_drewN ?_ _ | refine blk_drew ?_ | refine blk_alloc ?_ _)); exact BK232.out) hb)
                    have n8_ := Aside0.mk (below_step (by repeat (first | (with_reducible first | exact HB.out | apply below_alloc | apply pw_below_drewN | apply below_drew1 | refine below_set ?_ GE229.out | refine below_set ?_ GE230.out | refine below_set ?_ GE232.out) | exact HB.out)) hb)
                    clear HO_230000
                    clear HO_230001
                    clear HO_231003
                    clear BK229
                    clear BK230
                    clear BK232
                    clear HB
                    have HO_230000 := n0_
                    have HO_230001 := n1_
                    have HO_231003 := n2_
                    have HO236 := n3_
                    have HO239 := n4_
                    have BK229 := n5_
                    have BK230 := n6_
                    have BK232 := n7_
                    have HB := n8_
                    clear n0_ n1_ n2_ n3_ n4_ n5_ n6_ n7_ n8_
                    (try clear hb)
                    (try clear hb2)
                    (try clear hk)
                    (try clear hi)
                    (try clear ho0)
                    (try clear ho1)
                    refine hK.out _ _ ⟨(blk_cell BK229.out 0).trans rfl, (blk_cell BK229.out 1).trans rfl, (blk_cell BK232.out 0).trans rfl, (blk_cell BK232.out 1).trans rfl, (blk_cell BK232.out 2).trans rfl, (blk_cell BK232.out 3).trans rfl, ((HB.out.cell (World.block_lt_of_cell? w _ hw233_0)).trans hw233_0)⟩ (fun hHeld => ?_)
                    clear hK K
                    refine norm_ (a' := ?_) ?_ ?_
                    rotate_left
                    ·show Act.put _ (some 67) _ = _
                     simp only [Act.put, List.setIfInBounds_toArray, List.set_cons_zero, List.set_cons_succ, i64_w, i32_w]
                     rfl
                    refine pure_ (i := 7) (N := some 60) (v := ?_) (a' := ?_) #[true, true, true, true, true, true, true, true, false, false, false, false, false, false, false] rfl rfl (any_of HT_.out (by kernel_rfl)) (fun _ _ _ h => h) (Or.inl ⟨by rfl, ?_⟩) ?_ ?_
                    rotate_left
                    ·intro w'
                     go_simp
                     with_reducible rfl
                    rotate_left
                    ·simp only [Act.put, List.setIfInBounds_toArray, List.set_cons_zero, List.set_cons_succ, i64_w, i32_w]
                     rfl
                    refine pure_ (i := 8) (N := some 68) (v := ?_) (a' := ?_) #[true, true, true, true, true, true, true, true, true, false, false, false, false, false, false] rfl rfl (any_of HT_.out (by kernel_rfl)) (fun _ _ _ h => h) (Or.inl ⟨by rfl, ?_⟩) ?_ ?_
                    rotate_left
                    ·intro w'
                     go_simp
                     with_reducible rfl
                    rotate_left
                    ·simp only [Act.put, List.setIfInBounds_toArray, List.set_cons_zero, List.set_cons_succ, i64_w, i32_w]
                     rfl
                    refine pure_ (i := 9) (N := some 69) (v := ?_) (a' := ?_) #[true, true, true, true, true, true, true, true, true, true, false, false, false, false, false] rfl rfl (any_of HT_.out (by kernel_rfl)) (fun _ _ _ h => h) (Or.inl ⟨by rfl, ?_⟩) ?_ ?_
                    rotate_left
                    ·intro w'
                     go_simp
                     with_reducible rfl
                    rotate_left
                    ·simp only [Act.put, List.setIfInBounds_toArray, List.set_cons_zero, List.set_cons_succ, i64_w, i32_w]
                     rfl
                    refine pure_ (i := 10) (N := some 70) (v := ?_) (a' := ?_) #[true, true, true, true, true, true, true, true, true, true, true, false, false, false, false] rfl rfl (any_of HT_.out (by kernel_rfl)) (fun _ _ _ h => h) (Or.inl ⟨by rfl, ?_⟩) ?_ ?_
                    rotate_left
                    ·intro w'
                     go_simp
                     with_reducible rfl
                    rotate_left
                    ·simp only [Act.put, List.setIfInBounds_toArray, List.set_cons_zero, List.set_cons_succ, i64_w, i32_w]
                     rfl
                    refine one_ (i := 11) (N := some 11) #[true, true, true, true, true, true, true, true, true, true, true, true, false, false, false] rfl rfl (one_of HT_.out (by kernel_rfl)) (by decide) (fun K hK => ?_)
                    refine box_step ?hg (N := 11) ?hd (cs := #[.slice none 0 0, .slice none 0 0]) (t := 24) ?hr ?_; (case hd => rfl); (case hg => rfl); (case hr => first | (go_simp; done) | (go_simp; rfl))
                    intro gb242 hg w105 hbox hb
                    have n0_ := Aside0.mk (Kd.R_below (by (with_reducible repeat (first | apply Kd.R_alloc | apply Kd.R_drewN | apply Kd.R_drew)); exact HO_230000.out) hb)
                    have n1_ := Aside0.mk (Kd.R_below (by (with_reducible repeat (first | apply Kd.R_alloc | apply Kd.R_drewN | apply Kd.R_drew)); exact HO_230001.out) hb)
                    have n2_ := Aside0.mk (Kd.R_below (by (with_reducible repeat (first | apply Kd.R_alloc | apply Kd.R_drewN | apply Kd.R_drew)); exact HO_231003.out) hb)
                    have n3_ := Aside0.mk (Kd.R_below (by (with_reducible repeat (first | apply Kd.R_alloc | apply Kd.R_drewN | apply Kd.R_drew)); exact HO236.out) hb)
                    have n4_ := Aside0.mk (Kd.R_below (by (with_reducible repeat (first | apply Kd.R_alloc | apply Kd.R_drewN | apply Kd.R_drew)); exact HO239.out) hb)
                    have n5_ := Aside0.mk (blk_below (g := gb229) (o := .cells #[.slice Ao100 x230000_3.length co100, .slice Ao101 x230001_3.length co101] 24 (0, 0)) (by (with_reducible repeat (first | refine blk_drewN ?_ _ | refine blk_drew ?_ | refine blk_alloc ?_ _)); exact BK229.out) hb)
                    have n6_ := Aside0.mk (blk_below (g := gb230) (o := .cells #[.int .i64 x231000_3, .int .i64 x231001_3, .int .i64 x231002_3, u231003] 26 (0, 0)) (by (with_reducible repeat (first | refine blk_drewN ?_ _ | refine blk_drew ?_ | refine blk_alloc ?_ _)); exact BK230.out) hb)
                    have n7_ := Aside0.mk (blk_below (g := gb232) (o := .cells #[.int .i64 (wrap64 (x9_3 + 1)), .int .i64 ((rd_T26 l0 x9_3).f1), .int .i64 ((rd_T26 l0 x9_3).f2), .slice A231_3 ((rd_T26 l0 x9_3).f3).length c231_3] 26 (0, 0)) (by (with_reducible repeat (first | refine blk_drewN ?_ _ | refine blk_drew ?_ | refine blk_alloc ?_ _)); exact BK232.out) hb)
                    have n8_ := Aside0.mk (below_step (by repeat (first | (with_reducible first | exact HB.out | apply below_alloc | apply pw_below_drewN | apply below_drew1 | refine below_set ?_ GE229.out | refine below_set ?_ GE230.out | refine below_set ?_ GE232.out) | exact HB.out)) hb)
                    have n9_ := Aside0.mk (hbox)
                    have n10_ := Aside0.mk ((by rw [hg]; exact (below_size (by repeat (first | (with_reducible first | exact HB.out | apply below_alloc | apply pw_below_drewN | apply below_drew1 | refine below_set ?_ GE229.out | refine below_set ?_ GE230.out | refine below_set ?_ GE232.out) | exact HB.out))) : w.heap.size ≤ gb242))
                    have n11_ := Aside0.mk ((by rw [hg]; exact (below_size (by repeat (first | (with_reducible first | exact HB.out | apply below_alloc | apply pw_below_drewN | apply below_drew1 | refine below_set ?_ GE229.out | refine below_set ?_ GE230.out | refine below_set ?_ GE232.out) | exact HB.out))) : w.heap.size ≤ gb242))
                    have n12_ := Aside0.mk ((by rw [hg]; exact Nat.ne_of_lt (blk_lt (g := gb229) (o := .cells #[.slice Ao100 x230000_3.length co100, .slice Ao101 x230001_3.length co101] 24 (0, 0)) (by (with_reducible repeat (first | refine blk_drewN ?_ _ | refine blk_drew ?_ | refine blk_alloc ?_ _)); exact BK229.out)) : gb229 ≠ gb242))
                    have n13_ := Aside0.mk ((by rw [hg]; exact Nat.ne_of_gt (blk_lt (g := gb229) (o := .cells #[.slice Ao100 x230000_3.length co100, .slice Ao101 x230001_3.length co101] 24 (0, 0)) (by (with_reducible repeat (first | refine blk_drewN ?_ _ | refine blk_drew ?_ | refine blk_alloc ?_ _)); exact BK229.out)) : gb242 ≠ gb229))
                    have n14_ := Aside0.mk ((by rw [hg]; exact Nat.ne_of_lt (blk_lt (g := gb230) (o := .cells #[.int .i64 x231000_3, .int .i64 x231001_3, .int .i64 x231002_3, u231003] 26 (0, 0)) (by (with_reducible repeat (first | refine blk_drewN ?_ _ | refine blk_drew ?_ | refine blk_alloc ?_ _)); exact BK230.out)) : gb230 ≠ gb242))
                    have n15_ := Aside0.mk ((by rw [hg]; exact Nat.ne_of_gt (blk_lt (g := gb230) (o := .cells #[.int .i64 x231000_3, .int .i64 x231001_3, .int .i64 x231002_3, u231003] 26 (0, 0)) (by (with_reducible repeat (first | refine blk_drewN ?_ _ | refine blk_drew ?_ | refine blk_alloc ?_ _)); exact BK230.out)) : gb242 ≠ gb230))
                    have n16_ := Aside0.mk ((by rw [hg]; exact Nat.ne_of_lt (blk_lt (g := gb232) (o := .cells #[.int .i64 (wrap64 (x9_3 + 1)), .int .i64 ((rd_T26 l0 x9_3).f1), .int .i64 ((rd_T26 l0 x9_3).f2), .slice A231_3 ((rd_T26 l0 x9_3).f3).length c231_3] 26 (0, 0)) (by (with_reducible repeat (first | refine blk_drewN ?_ _ | refine blk_drew ?_ | refine blk_alloc ?_ _)); exact BK232.out)) : gb232 ≠ gb242))
                    have n17_ := Aside0.mk ((by rw [hg]; exact Nat.ne_of_gt (blk_lt (g := gb232) (o := .cells #[.int .i64 (wrap64 (x9_3 + 1)), .int .i64 ((rd_T26 l0 x9_3).f1), .int .i64 ((rd_T26 l0 x9_3).f2), .slice A231_3 ((rd_T26 l0 x9_3).f3).length c231_3] 26 (0, 0)) (by (with_reducible repeat (first | refine blk_drewN ?_ _ | refine blk_drew ?_ | refine blk_alloc ?_ _)); exact BK232.out)) : gb242 ≠ gb232))
                    clear HO_230000
                    clear HO_230001
                    clear HO_231003
                    clear HO236
                    clear HO239
                    clear BK229
                    clear BK230
                    clear BK232
                    clear HB
                    have HO_230000 := n0_
                    have HO_230001 := n1_
                    have HO_231003 := n2_
                    have HO236 := n3_
                    have HO239 := n4_
                    have BK229 := n5_
                    have BK230 := n6_
                    have BK232 := n7_
                    have HB := n8_
                    have BK242 := n9_
                    have GW242 := n10_
                    have GE242 := n11_
                    have NB229_242 := n12_
                    have NB242_229 := n13_
                    have NB230_242 := n14_
                    have NB242_230 := n15_
                    have NB232_242 := n16_
                    have NB242_232 := n17_
                    clear n0_ n1_ n2_ n3_ n4_ n5_ n6_ n7_ n8_ n9_ n10_ n11_ n12_ n13_ n14_ n15_ n16_ n17_
                    clear hb hbox hg
                    refine hK.out _ _ ⟨(blk_cell BK229.out 0).trans rfl, (blk_cell BK229.out 1).trans rfl, (blk_cell BK232.out 0).trans rfl, (blk_cell BK232.out 1).trans rfl, (blk_cell BK232.out 2).trans rfl, (blk_cell BK232.out 3).trans rfl, ((HB.out.cell (World.block_lt_of_cell? w _ hw233_0)).trans hw233_0)⟩ (fun hHeld => ?_)
                    clear hK K
                    refine norm_ (a' := ?_) ?_ ?_
                    rotate_left
                    ·show Act.put _ (some 11) _ = _
                     simp only [Act.put, List.setIfInBounds_toArray, List.set_cons_zero, List.set_cons_succ, i64_w, i32_w]
                     rfl
                    exact norm_ (by simp only [putAll, Act.put, List.setIfInBounds_toArray, List.set_cons_zero, List.set_cons_succ]) (hCont (v235, v238, gb242) _ ⟨hHeld, (by (with_reducible repeat (first | apply Kd.R_alloc | apply Kd.R_drewN | apply Kd.R_drew)); exact Kd.R_mono HO236.out (fun _ hk => ⟨hk.1.1.1, ⟨hk.1.1.2, ⟨hk.1.2, hk.2⟩⟩⟩)), (by (with_reducible repeat (first | apply Kd.R_alloc | apply Kd.R_drewN | apply Kd.R_drew)); exact Kd.R_mono HO239.out (fun _ hk => ⟨hk.1.1.1, ⟨hk.1.1.2, ⟨hk.1.2, hk.2⟩⟩⟩)), (by (with_reducible repeat (first | apply Kd.R_alloc | apply Kd.R_drewN | apply Kd.R_drew)); exact Kd.R_mono HO_230000.out (fun _ hk => ⟨hk.1.2, ⟨hk.2, ⟨hk.1.1.1, hk.1.1.2⟩⟩⟩)), (by (with_reducible repeat (first | apply Kd.R_alloc | apply Kd.R_drewN | apply Kd.R_drew)); exact Kd.R_mono HO_230001.out (fun _ hk => ⟨hk.1.2, ⟨hk.2, ⟨hk.1.1.1, hk.1.1.2⟩⟩⟩)), (by (with_reducible repeat (first | apply Kd.R_alloc | apply Kd.R_drewN | apply Kd.R_drew)); exact Kd.R_mono HO_231003.out (fun _ hk => ⟨hk.1.2, ⟨hk.2, ⟨hk.1.1.1, hk.1.1.2⟩⟩⟩)), (by (with_reducible repeat (first | refine blk_drewN ?_ _ | refine blk_drew ?_ | refine blk_alloc ?_ _)); exact BK229.out), (by (with_reducible repeat (first | refine blk_drewN ?_ _ | refine blk_drew ?_ | refine blk_alloc ?_ _)); exact BK230.out), (by (with_reducible repeat (first | refine blk_drewN ?_ _ | refine blk_drew ?_ | refine blk_alloc ?_ _)); exact BK232.out), (by (with_reducible repeat (first | refine blk_drewN ?_ _ | refine blk_drew ?_ | refine blk_alloc ?_ _)); exact BK242.out), GW242.out, GE242.out, NB229_242.out, NB242_229.out, NB230_242.out, NB242_230.out, NB232_242.out, NB242_232.out, (by repeat (first | (with_reducible first | exact HB.out | apply below_alloc | apply pw_below_drewN | apply below_drew1 | refine below_set ?_ GE229.out | refine below_set ?_ GE230.out | refine below_set ?_ GE232.out | refine below_set ?_ GE242.out) | exact HB.out))⟩)
                   ·skip
                    refine box_step ?hg (N := 11) ?hd (cs := #[.slice none 0 0, .slice none 0 0]) (t := 24) ?hr ?_; (case hd => rfl); (case hg => rfl); (case hr => first | (go_simp; done) | (go_simp; rfl))
                    intro gb242 hg w104 hbox hb
                    have n0_ := Aside0.mk (Kd.R_below (by (with_reducible repeat (first | apply Kd.R_alloc | apply Kd.R_drewN | apply Kd.R_drew)); exact HO_230000.out) hb)
                    have n1_ := Aside0.mk (Kd.R_below (by (with_reducible repeat (first | apply Kd.R_alloc | apply Kd.R_drewN | apply Kd.R_drew)); exact HO_230001.out) hb)
                    have n2_ := Aside0.mk (Kd.R_below (by (with_reducible repeat (first | apply Kd.R_alloc | apply Kd.R_drewN | apply Kd.R_drew)); exact HO_231003.out) hb)
                    have n3_ := Aside0.mk (blk_below (g := gb229) (o := .cells #[.slice Ao100 x230000_3.length co100, .slice Ao101 x230001_3.length co101] 24 (0, 0)) (by (with_reducible repeat (first | refine blk_drewN ?_ _ | refine blk_drew ?_ | refine blk_alloc ?_ _)); exact BK229.out) hb)
                    have n4_ := Aside0.mk (blk_below (g := gb230) (o := .cells #[.int .i64 x231000_3, .int .i64 x231001_3, .int .i64 x231002_3, u231003] 26 (0, 0)) (by (with_reducible repeat (first | refine blk_drewN ?_ _ | refine blk_drew ?_ | refine blk_alloc ?_ _)); exact BK230.out) hb)
                    have n5_ := Aside0.mk (blk_below (g := gb232) (o := .cells #[.int .i64 (wrap64 (x9_3 + 1)), .int .i64 ((rd_T26 l0 x9_3).f1), .int .i64 ((rd_T26 l0 x9_3).f2), .slice A231_3 ((rd_T26 l0 x9_3).f3).length c231_3] 26 (0, 0)) (by (with_reducible repeat (first | refine blk_drewN ?_ _ | refine blk_drew ?_ | refine blk_alloc ?_ _)); exact BK232.out) hb)
                    have n6_ := Aside0.mk (below_step (by repeat (first | (with_reducible first | exact HB.out | apply below_alloc | apply pw_below_drewN | apply below_drew1 | refine below_set ?_ GE229.out | refine below_set ?_ GE230.out | refine below_set ?_ GE232.out) | exact HB.out)) hb)
                    have n7_ := Aside0.mk (hbox)
                    have n8_ := Aside0.mk ((by rw [hg]; exact (below_size (by repeat (first | (with_reducible first | exact HB.out | apply below_alloc | apply pw_below_drewN | apply below_drew1 | refine below_set ?_ GE229.out | refine below_set ?_ GE230.out | refine below_set ?_ GE232.out) | exact HB.out))) : w.heap.size ≤ gb242))
                    have n9_ := Aside0.mk ((by rw [hg]; exact (below_size (by repeat (first | (with_reducible first | exact HB.out | apply below_alloc | apply pw_below_drewN | apply below_drew1 | refine below_set ?_ GE229.out | refine below_set ?_ GE230.out | refine below_set ?_ GE232.out) | exact HB.out))) : w.heap.size ≤ gb242))
                    have n10_ := Aside0.mk ((by rw [hg]; exact Nat.ne_of_lt (blk_lt (g := gb229) (o := .cells #[.slice Ao100 x230000_3.length co100, .slice Ao101 x230001_3.length co101] 24 (0, 0)) (by (with_reducible repeat (first | refine blk_drewN ?_ _ | refine blk_drew ?_ | refine blk_alloc ?_ _)); exact BK229.out)) : gb229 ≠ gb242))
                    have n11_ := Aside0.mk ((by rw [hg]; exact Nat.ne_of_gt (blk_lt (g := gb229) (o := .cells #[.slice Ao100 x230000_3.length co100, .slice Ao101 x230001_3.length co101] 24 (0, 0)) (by (with_reducible repeat (first | refine blk_drewN ?_ _ | refine blk_drew ?_ | refine blk_alloc ?_ _)); exact BK229.out)) : gb242 ≠ gb229))
                    have n12_ := Aside0.mk ((by rw [hg]; exact Nat.ne_of_lt (blk_lt (g := gb230) (o := .cells #[.int .i64 x231000_3, .int .i64 x231001_3, .int .i64 x231002_3, u231003] 26 (0, 0)) (by (with_reducible repeat (first | refine blk_drewN ?_ _ | refine blk_drew ?_ | refine blk_alloc ?_ _)); exact BK230.out)) : gb230 ≠ gb242))
                    have n13_ := Aside0.mk ((by rw [hg]; exact Nat.ne_of_gt (blk_lt (g := gb230) (o := .cells #[.int .i64 x231000_3, .int .i64 x231001_3, .int .i64 x231002_3, u231003] 26 (0, 0)) (by (with_reducible repeat (first | refine blk_drewN ?_ _ | refine blk_drew ?_ | refine blk_alloc ?_ _)); exact BK230.out)) : gb242 ≠ gb230))
                    have n14_ := Aside0.mk ((by rw [hg]; exact Nat.ne_of_lt (blk_lt (g := gb232) (o := .cells #[.int .i64 (wrap64 (x9_3 + 1)), .int .i64 ((rd_T26 l0 x9_3).f1), .int .i64 ((rd_T26 l0 x9_3).f2), .slice A231_3 ((rd_T26 l0 x9_3).f3).length c231_3] 26 (0, 0)) (by (with_reducible repeat (first | refine blk_drewN ?_ _ | refine blk_drew ?_ | refine blk_alloc ?_ _)); exact BK232.out)) : gb232 ≠ gb242))
                    have n15_ := Aside0.mk ((by rw [hg]; exact Nat.ne_of_gt (blk_lt (g := gb232) (o := .cells #[.int .i64 (wrap64 (x9_3 + 1)), .int .i64 ((rd_T26 l0 x9_3).f1), .int .i64 ((rd_T26 l0 x9_3).f2), .slice A231_3 ((rd_T26 l0 x9_3).f3).length c231_3] 26 (0, 0)) (by (with_reducible repeat (first | refine blk_drewN ?_ _ | refine blk_drew ?_ | refine blk_alloc ?_ _)); exact BK232.out)) : gb242 ≠ gb232))
                    clear HO_230000
                    clear HO_230001
                    clear HO_231003
                    clear BK229
                    clear BK230
                    clear BK232
                    clear HB
                    have HO_230000 := n0_
                    have HO_230001 := n1_
                    have HO_231003 := n2_
                    have BK229 := n3_
                    have BK230 := n4_
                    have BK232 := n5_
                    have HB := n6_
                    have BK242 := n7_
                    have GW242 := n8_
                    have GE242 := n9_
                    have NB229_242 := n10_
                    have NB242_229 := n11_
                    have NB230_242 := n12_
                    have NB242_230 := n13_
                    have NB232_242 := n14_
                    have NB242_232 := n15_
                    clear n0_ n1_ n2_ n3_ n4_ n5_ n6_ n7_ n8_ n9_ n10_ n11_ n12_ n13_ n14_ n15_
                    clear hb hbox hg
                    refine hK.out _ _ ⟨(blk_cell BK229.out 0).trans rfl, (blk_cell BK229.out 1).trans rfl, (blk_cell BK232.out 0).trans rfl, (blk_cell BK232.out 1).trans rfl, (blk_cell BK232.out 2).trans rfl, (blk_cell BK232.out 3).trans rfl, ((HB.out.cell (World.block_lt_of_cell? w _ hw233_0)).trans hw233_0)⟩ (fun hHeld => ?_)
                    clear hK K
                    refine norm_ (a' := ?_) ?_ ?_
                    rotate_left
                    ·show Act.put _ (some 11) _ = _
                     simp only [Act.put, List.setIfInBounds_toArray, List.set_cons_zero, List.set_cons_succ, i64_w, i32_w]
                     rfl
                    refine one_ (i := 6) (N := some 67) #[true, true, true, true, true, true, true, false, false, false, false, true, false, false, false] rfl rfl (one_of HT_.out (by kernel_rfl)) (by decide) (fun K hK => ?_)
                    refine goes_ Tryd.func11 (by kernel_rfl) rfl #[.agg #[.slice Ao100 x230000_3.length co100, .slice Ao101 x230001_3.length co101], .agg #[.int .i64 (wrap64 (x9_3 + 1)), .int .i64 ((rd_T26 l0 x9_3).f1), .int .i64 ((rd_T26 l0 x9_3).f2), .slice A231_3 ((rd_T26 l0 x9_3).f3).length c231_3], .int .i64 (rd l1 x9_3)] (by rfl) rfl rfl (by (try simp only [List.map_toArray, List.map_cons, List.map_nil]); first | done | rfl | (simp only [List.length_drop, List.length_take]; rfl)) ?_
                    with_reducible refine (flash_Write.calls kj14 _ _ x230000_3 _ _ x230001_3 (wrap64 (x9_3 + 1)) ((rd_T26 l0 x9_3).f1) ((rd_T26 l0 x9_3).f2) _ _ ((rd_T26 l0 x9_3).f3) (rd l1 x9_3) t234 t237 t240 t241 _ ?side1 ?side2 ?side3 ?side4 ?side5 ?side6 A22.out (by first | exact HTAB.out | ((repeat (first | exact HTAB.out | (with_reducible refine Laid.tab_alloc ?_ _) | (with_reducible refine Laid.tab_drewN ?_ _) | (with_reducible refine Laid.tab_drew ?_))); done) | (refine Laid.tab_below' HTAB.out ?_; (repeat (first | (with_reducible first | exact HB.out | apply below_alloc | apply pw_below_drewN | apply below_drew1) | exact HB.out | (refine below_set ?_ (Aside0.out (by assumption)))))))).mono ?_
                    (case side1 => repeat (first | exact (Kd.R_reads' HO_230000.out).2.2 | (with_reducible refine Kd.C_alloc ?_ _) | (with_reducible refine Kd.C_drewN ?_ _) | (with_reducible refine Kd.C_drew ?_)))
                    (case side2 => exact (Kd.R_reads' HO_230000.out).2.1)
                    (case side3 => repeat (first | exact (Kd.R_reads' HO_230001.out).2.2 | (with_reducible refine Kd.C_alloc ?_ _) | (with_reducible refine Kd.C_drewN ?_ _) | (with_reducible refine Kd.C_drew ?_)))
                    (case side4 => exact (Kd.R_reads' HO_230001.out).2.1)
                    (case side5 => repeat (first | exact (Kd.C_below HR231_3.out HB.out) | (with_reducible refine Kd.C_alloc ?_ _) | (with_reducible refine Kd.C_drewN ?_ _) | (with_reducible refine Kd.C_drew ?_)))
                    (case side6 => exact HC231_3.out)
                    rintro e w105 ⟨v235, v238, rfl, ho0, ho1, hb⟩
                    refine ⟨_, rfl, ?_⟩
                    have n0_ := Aside0.mk (Kd.R_mono (Kd.R_told (Kd.R_told (Kd.R_old (by (with_reducible repeat (first | apply Kd.R_alloc | apply Kd.R_drewN | apply Kd.R_drew)); exact HO_230000.out) hb) (Kd.R_base ho0)) (Kd.R_base ho1)) (fun _ h_ => h_.1))
                    have n1_ := Aside0.mk (Kd.R_mono (Kd.R_told (Kd.R_told (Kd.R_old (by (with_reducible repeat (first | apply Kd.R_alloc | apply Kd.R_drewN | apply Kd.R_drew)); exact HO_230001.out) hb) (Kd.R_base ho0)) (Kd.R_base ho1)) (fun _ h_ => h_.1))
                    have n2_ := Aside0.mk (Kd.R_mono (Kd.R_told (Kd.R_told (Kd.R_old (by (with_reducible repeat (first | apply Kd.R_alloc | apply Kd.R_drewN | apply Kd.R_drew)); exact HO_231003.out) hb) (Kd.R_base ho0)) (Kd.R_base ho1)) (fun _ h_ => h_.1))
                    have n3_ := Aside0.mk (Kd.R_lower (Kd.R_new' (Kd.R_new' (Kd.R_new' ho0 (Kd.R_lt (by (with_reducible repeat (first | apply Kd.R_alloc | apply Kd.R_drewN | apply Kd.R_drew)); exact HO_230000.out))) (Kd.R_lt (by (with_reducible repeat (first | apply Kd.R_alloc | apply Kd.R_drewN | apply Kd.R_drew)); exact HO_230001.out))) (Kd.R_lt (by (with_reducible repeat (first | apply Kd.R_alloc | apply Kd.R_drewN | apply Kd.R_drew)); exact HO_231003.out))) (below_size (by repeat (first | (with_reducible first | exact HB.out | apply below_alloc | apply pw_below_drewN | apply below_drew1 | refine below_set ?_ GE229.out | refine below_set ?_ GE230.out | refine below_set ?_ GE232.out | refine below_set ?_ GE242.out) | exact HB.out))))
                    have n4_ := Aside0.mk (Kd.R_lower (Kd.R_new' (Kd.R_new' (Kd.R_new' ho1 (Kd.R_lt (by (with_reducible repeat (first | apply Kd.R_alloc | apply Kd.R_drewN | apply Kd.R_drew)); exact HO_230000.out))) (Kd.R_lt (by (with_reducible repeat (first | apply Kd.R_alloc | apply Kd.R_drewN | apply Kd.R_drew)); exact HO_230001.out))) (Kd.R_lt (by (with_reducible repeat (first | apply Kd.R_alloc | apply Kd.R_drewN | apply Kd.R_drew)); exact HO_231003.out))) (below_size (by repeat (first | (with_reducible first | exact HB.out | apply below_alloc | apply pw_below_drewN | apply below_drew1 | refine below_set ?_ GE229.out | refine below_set ?_ GE230.out | refine below_set ?_ GE232.out | refine below_set ?_ GE242.out) | exact HB.out))))
                    have n5_ := Aside0.mk (blk_below (g := gb229) (o := .cells #[.slice Ao100 x230000_3.length co100, .slice Ao101 x230001_3.length co101] 24 (0, 0)) (by (with_reducible repeat (first | refine blk_drewN ?_ _ | refine blk_drew ?_ | refine blk_alloc ?_ _)); exact BK229.out) hb)
                    have n6_ := Aside0.mk (blk_below (g := gb230) (o := .cells #[.int .i64 x231000_3, .int .i64 x231001_3, .int .i64 x231002_3, u231003] 26 (0, 0)) (by (with_reducible repeat (first | refine blk_drewN ?_ _ | refine blk_drew ?_ | refine blk_alloc ?_ _)); exact BK230.out) hb)
                    have n7_ := Aside0.mk (blk_below (g := gb232) (o := .cells #[.int .i64 (wrap64 (x9_3 + 1)), .int .i64 ((rd_T26 l0 x9_3).f1), .int .i64 ((rd_T26 l0 x9_3).f2), .slice A231_3 ((rd_T26 l0 x9_3).f3).length c231_3] 26 (0, 0)) (by (with_reducible repeat (first | refine blk_drewN ?_ _ | refine blk_drew ?_ | refine blk_alloc ?_ _)); exact BK232.out) hb)
                    have n8_ := Aside0.mk (blk_below (g := gb242) (o := .cells #[.slice none 0 0, .slice none 0 0] 24 (0, 0)) (by (with_reducible repeat (first | refine blk_drewN ?_ _ | refine blk_drew ?_ | refine blk_alloc ?_ _)); exact BK242.out) hb)
                    have n9_ := Aside0.mk (below_step (by repeat (first | (with_reducible first | exact HB.out | apply below_alloc | apply pw_below_drewN | apply below_drew1 | refine below_set ?_ GE229.out | refine below_set ?_ GE230.out | refine below_set ?_ GE232.out | refine below_set ?_ GE242.out) | exact HB.out)) hb)
                    clear HO_230000
                    clear HO_230001
                    clear HO_231003
                    clear BK229
                    clear BK230
                    clear BK232
                    clear BK242
                    clear HB
                    have HO_230000 := n0_
                    have HO_230001 := n1_
                    have HO_231003 := n2_
                    have HO236 := n3_
                    have HO239 := n4_
                    have BK229 := n5_
                    have BK230 := n6_
                    have BK232 := n7_
                    have BK242 := n8_
                    have HB := n9_
                    clear n0_ n1_ n2_ n3_ n4_ n5_ n6_ n7_ n8_ n9_
                    (try clear hb)
                    (try clear hb2)
                    (try clear hk)
                    (try clear hi)
                    (try clear ho0)
                    (try clear ho1)
                    refine hK.out _ _ ⟨(blk_cell BK229.out 0).trans rfl, (blk_cell BK229.out 1).trans rfl, (blk_cell BK232.out 0).trans rfl, (blk_cell BK232.out 1).trans rfl, (blk_cell BK232.out 2).trans rfl, (blk_cell BK232.out 3).trans rfl, ((HB.out.cell (World.block_lt_of_cell? w _ hw233_0)).trans hw233_0)⟩ (fun hHeld => ?_)
                    clear hK K
                    refine norm_ (a' := ?_) ?_ ?_
                    rotate_left
                    ·show Act.put _ (some 67) _ = _
                     simp only [Act.put, List.setIfInBounds_toArray, List.set_cons_zero, List.set_cons_succ, i64_w, i32_w]
                     rfl
                    refine pure_ (i := 7) (N := some 60) (v := ?_) (a' := ?_) #[true, true, true, true, true, true, true, true, false, false, false, true, false, false, false] rfl rfl (any_of HT_.out (by kernel_rfl)) (fun _ _ _ h => h) (Or.inl ⟨by rfl, ?_⟩) ?_ ?_
                    rotate_left
                    ·intro w'
                     go_simp
                     with_reducible rfl
                    rotate_left
                    ·simp only [Act.put, List.setIfInBounds_toArray, List.set_cons_zero, List.set_cons_succ, i64_w, i32_w]
                     rfl
                    refine pure_ (i := 8) (N := some 68) (v := ?_) (a' := ?_) #[true, true, true, true, true, true, true, true, true, false, false, true, false, false, false] rfl rfl (any_of HT_.out (by kernel_rfl)) (fun _ _ _ h => h) (Or.inl ⟨by rfl, ?_⟩) ?_ ?_
                    rotate_left
                    ·intro w'
                     go_simp
                     with_reducible rfl
                    rotate_left
                    ·simp only [Act.put, List.setIfInBounds_toArray, List.set_cons_zero, List.set_cons_succ, i64_w, i32_w]
                     rfl
                    refine pure_ (i := 9) (N := some 69) (v := ?_) (a' := ?_) #[true, true, true, true, true, true, true, true, true, true, false, true, false, false, false] rfl rfl (any_of HT_.out (by kernel_rfl)) (fun _ _ _ h => h) (Or.inl ⟨by rfl, ?_⟩) ?_ ?_
                    rotate_left
                    ·intro w'
                     go_simp
                     with_reducible rfl
                    rotate_left
                    ·simp only [Act.put, List.setIfInBounds_toArray, List.set_cons_zero, List.set_cons_succ, i64_w, i32_w]
                     rfl
                    refine pure_ (i := 10) (N := some 70) (v := ?_) (a' := ?_) #[true, true, true, true, true, true, true, true, true, true, true, true, false, false, false] rfl rfl (any_of HT_.out (by kernel_rfl)) (fun _ _ _ h => h) (Or.inl ⟨by rfl, ?_⟩) ?_ ?_
                    rotate_left
                    ·intro w'
                     go_simp
                     with_reducible rfl
                    rotate_left
                    ·simp only [Act.put, List.setIfInBounds_toArray, List.set_cons_zero, List.set_cons_succ, i64_w, i32_w]
                     rfl
                    exact norm_ (by simp only [putAll, Act.put, List.setIfInBounds_toArray, List.set_cons_zero, List.set_cons_succ]) (hCont (v235, v238, gb242) _ ⟨hHeld, (by (with_reducible repeat (first | apply Kd.R_alloc | apply Kd.R_drewN | apply Kd.R_drew)); exact Kd.R_mono HO236.out (fun _ hk => ⟨hk.1.1.1, ⟨hk.1.1.2, ⟨hk.1.2, hk.2⟩⟩⟩)), (by (with_reducible repeat (first | apply Kd.R_alloc | apply Kd.R_drewN | apply Kd.R_drew)); exact Kd.R_mono HO239.out (fun _ hk => ⟨hk.1.1.1, ⟨hk.1.1.2, ⟨hk.1.2, hk.2⟩⟩⟩)), (by (with_reducible repeat (first | apply Kd.R_alloc | apply Kd.R_drewN | apply Kd.R_drew)); exact Kd.R_mono HO_230000.out (fun _ hk => ⟨hk.1.2, ⟨hk.2, ⟨hk.1.1.1, hk.1.1.2⟩⟩⟩)), (by (with_reducible repeat (first | apply Kd.R_alloc | apply Kd.R_drewN | apply Kd.R_drew)); exact Kd.R_mono HO_230001.out (fun _ hk => ⟨hk.1.2, ⟨hk.2, ⟨hk.1.1.1, hk.1.1.2⟩⟩⟩)), (by (with_reducible repeat (first | apply Kd.R_alloc | apply Kd.R_drewN | apply Kd.R_drew)); exact Kd.R_mono HO_231003.out (fun _ hk => ⟨hk.1.2, ⟨hk.2, ⟨hk.1.1.1, hk.1.1.2⟩⟩⟩)), (by (with_reducible repeat (first | refine blk_drewN ?_ _ | refine blk_drew ?_ | refine blk_alloc ?_ _)); exact BK229.out), (by (with_reducible repeat (first | refine blk_drewN ?_ _ | refine blk_drew ?_ | refine blk_alloc ?_ _)); exact BK230.out), (by (with_reducible repeat (first | refine blk_drewN ?_ _ | refine blk_drew ?_ | refine blk_alloc ?_ _)); exact BK232.out), (by (with_reducible repeat (first | refine blk_drewN ?_ _ | refine blk_drew ?_ | refine blk_alloc ?_ _)); exact BK242.out), GW242.out, GE242.out, NB229_242.out, NB242_229.out, NB230_242.out, NB242_230.out, NB232_242.out, NB242_232.out, (by repeat (first | (with_reducible first | exact HB.out | apply below_alloc | apply pw_below_drewN | apply below_drew1 | refine below_set ?_ GE229.out | refine below_set ?_ GE230.out | refine below_set ?_ GE232.out | refine below_set ?_ GE242.out) | exact HB.out))⟩)
                  rintro ⟨v235, v238, gb242⟩ w106 ⟨hS_, h0_, h1_, h2_, h3_, h4_, h5_, h6_, h7_, h8_, h9_, h10_, h11_, h12_, h13_, h14_, h15_, h16_, h17_⟩
                  have n0_ : Aside0 (Kd.R (Kd.int .u8) 5 w106 w.heap.size (fun k_ => some k_ ≠ (v238 : Value).ownBlock ∧ some k_ ≠ (.slice Ao100 x230000_3.length co100 : Value).ownBlock ∧ some k_ ≠ (.slice Ao101 x230001_3.length co101 : Value).ownBlock ∧ some k_ ≠ (.slice none 0 0 : Value).ownBlock) v235 t234) := ⟨h0_⟩
                  have n1_ : Aside0 (Kd.R (Kd.int .u8) 5 w106 w.heap.size (fun k_ => some k_ ≠ (v235 : Value).ownBlock ∧ some k_ ≠ (.slice Ao100 x230000_3.length co100 : Value).ownBlock ∧ some k_ ≠ (.slice Ao101 x230001_3.length co101 : Value).ownBlock ∧ some k_ ≠ (.slice none 0 0 : Value).ownBlock) v238 t237) := ⟨h1_⟩
                  have n2_ : Aside0 (Kd.R (Kd.int .u8) 5 w106 w.heap.size (fun k_ => some k_ ≠ (v235 : Value).ownBlock ∧ some k_ ≠ (v238 : Value).ownBlock ∧ some k_ ≠ (.slice Ao101 x230001_3.length co101 : Value).ownBlock ∧ some k_ ≠ (.slice none 0 0 : Value).ownBlock) (.slice Ao100 x230000_3.length co100) x230000_3) := ⟨h2_⟩
                  have n3_ : Aside0 (Kd.R (Kd.int .u8) 5 w106 w.heap.size (fun k_ => some k_ ≠ (v235 : Value).ownBlock ∧ some k_ ≠ (v238 : Value).ownBlock ∧ some k_ ≠ (.slice Ao100 x230000_3.length co100 : Value).ownBlock ∧ some k_ ≠ (.slice none 0 0 : Value).ownBlock) (.slice Ao101 x230001_3.length co101) x230001_3) := ⟨h3_⟩
                  have n4_ : Aside0 (Kd.R (Kd.int .u8) 5 w106 w.heap.size (fun k_ => some k_ ≠ (v235 : Value).ownBlock ∧ some k_ ≠ (v238 : Value).ownBlock ∧ some k_ ≠ (.slice Ao100 x230000_3.length co100 : Value).ownBlock ∧ some k_ ≠ (.slice Ao101 x230001_3.length co101 : Value).ownBlock) (.slice none 0 0) ([] : List Int)) := ⟨h4_⟩
                  have n5_ : Aside0 (w106.heap[gb229]? = some (.cells #[.slice Ao100 x230000_3.length co100, .slice Ao101 x230001_3.length co101] 24 (0, 0))) := ⟨h5_⟩
                  have n6_ : Aside0 (w106.heap[gb230]? = some (.cells #[.int .i64 x231000_3, .int .i64 x231001_3, .int .i64 x231002_3, u231003] 26 (0, 0))) := ⟨h6_⟩
                  have n7_ : Aside0 (w106.heap[gb232]? = some (.cells #[.int .i64 (wrap64 (x9_3 + 1)), .int .i64 ((rd_T26 l0 x9_3).f1), .int .i64 ((rd_T26 l0 x9_3).f2), .slice A231_3 ((rd_T26 l0 x9_3).f3).length c231_3] 26 (0, 0))) := ⟨h7_⟩
                  have n8_ : Aside0 (w106.heap[gb242]? = some (.cells #[.slice none 0 0, .slice none 0 0] 24 (0, 0))) := ⟨h8_⟩
                  have n9_ : Aside0 (w.heap.size ≤ gb242) := ⟨h9_⟩
                  have n10_ : Aside0 (w.heap.size ≤ gb242) := ⟨h10_⟩
                  have n11_ : Aside0 (gb229 ≠ gb242) := ⟨h11_⟩
                  have n12_ : Aside0 (gb242 ≠ gb229) := ⟨h12_⟩
                  have n13_ : Aside0 (gb230 ≠ gb242) := ⟨h13_⟩
                  have n14_ : Aside0 (gb242 ≠ gb230) := ⟨h14_⟩
                  have n15_ : Aside0 (gb232 ≠ gb242) := ⟨h15_⟩
                  have n16_ : Aside0 (gb242 ≠ gb232) := ⟨h16_⟩
                  have n17_ : Aside0 (Below w.heap.size w w106) := ⟨h17_⟩
                  clear HO_230000
                  clear HO_230001
                  clear HO_231003
                  clear BK229
                  clear BK230
                  clear BK232
                  clear HB
                  clear h0_ h1_ h2_ h3_ h4_ h5_ h6_ h7_ h8_ h9_ h10_ h11_ h12_ h13_ h14_ h15_ h16_ h17_
                  have HO236 := n0_
                  have HO239 := n1_
                  have HO_230000 := n2_
                  have HO_230001 := n3_
                  have HO_231003 := n4_
                  have BK229 := n5_
                  have BK230 := n6_
                  have BK232 := n7_
                  have BK242 := n8_
                  have GW242 := n9_
                  have GE242 := n10_
                  have NB229_242 := n11_
                  have NB242_229 := n12_
                  have NB230_242 := n13_
                  have NB242_230 := n14_
                  have NB232_242 := n15_
                  have NB242_232 := n16_
                  have HB := n17_
                  clear n0_ n1_ n2_ n3_ n4_ n5_ n6_ n7_ n8_ n9_ n10_ n11_ n12_ n13_ n14_ n15_ n16_ n17_
                  have hHeld : w106.cell? ⟨gb229, 0, none⟩ = some (.slice Ao100 x230000_3.length co100) ∧ w106.cell? ⟨gb229, 1, none⟩ = some (.slice Ao101 x230001_3.length co101) ∧ w106.cell? ⟨gb232, 0, none⟩ = some (.int .i64 (wrap64 (x9_3 + 1))) ∧ w106.cell? ⟨gb232, 1, none⟩ = some (.int .i64 ((rd_T26 l0 x9_3).f1)) ∧ w106.cell? ⟨gb232, 2, none⟩ = some (.int .i64 ((rd_T26 l0 x9_3).f2)) ∧ w106.cell? ⟨gb232, 3, none⟩ = some (.slice A231_3 ((rd_T26 l0 x9_3).f3).length c231_3) ∧ w106.cell? (ad233.add (x9_3).toNat) = some (.int .i64 (rd l1 x9_3)) := hS_
                  obtain ⟨Ao107, co107, eo107⟩ := Kd.R_slice HO236.out
                  (first | subst eo107 | (injection eo107 with f1_ f2_ f3_; have f4_ := f1_.symm; have f5_ := f3_.symm; clear f1_ f2_ f3_; subst f4_; subst f5_))
                  obtain ⟨Ao109, co109, eo109⟩ := Kd.R_slice HO239.out
                  (first | subst eo109 | (injection eo109 with f1_ f2_ f3_; have f4_ := f1_.symm; have f5_ := f3_.symm; clear f1_ f2_ f3_; subst f4_; subst f5_))
                  refine norm_ (a' := ?_) ?_ ?_
                  rotate_left
                  ·simp only [putAll, Act.put, List.setIfInBounds_toArray, List.set_cons_zero, List.set_cons_succ]
                   rfl
                  refine one_ (i := 12) (N := none) #[true, true, true, true, true, true, true, true, true, true, true, true, true, false, false] rfl rfl (one_of HT_.out (by kernel_rfl)) (by decide) (fun K hK => ?_)
                  have hs108 : w106.cell? ⟨gb242, 0, none⟩ = some (.slice none 0 0) := (blk_cell BK242.out 0).trans rfl
                  have hfs108 := blk_frozen BK242.out 0
                  have hns108_0 := NB229_242.out
                  have hns108_1 := NB230_242.out
                  have hns108_2 := NB232_242.out
                  have hms108_0 := NB242_229.out
                  have hms108_1 := NB242_230.out
                  have hms108_2 := NB242_232.out
                  have hs110 : w106.cell? ⟨gb242, 1, none⟩ = some (.slice none 0 0) := (blk_cell BK242.out 1).trans rfl
                  have hfs110 := blk_frozen BK242.out 1
                  have hns110_0 := NB229_242.out
                  have hns110_1 := NB230_242.out
                  have hns110_2 := NB232_242.out
                  have hms110_0 := NB242_229.out
                  have hms110_1 := NB242_230.out
                  have hms110_2 := NB242_232.out
                  refine skip_ (w1 := ?_) (by rfl) rfl ?_ ?_
                  rotate_left
                  ·go_simp
                   rfl
                  refine hK.out _ _ ⟨((cell_far (p := ⟨gb242, _, none⟩) NB229_242.out _).trans (((cell_far (p := ⟨gb242, _, none⟩) NB229_242.out _).trans (hHeld.1)))), ((cell_far (p := ⟨gb242, _, none⟩) NB229_242.out _).trans (((cell_far (p := ⟨gb242, _, none⟩) NB229_242.out _).trans (hHeld.2.1)))), ((cell_far (p := ⟨gb242, _, none⟩) NB232_242.out _).trans (((cell_far (p := ⟨gb242, _, none⟩) NB232_242.out _).trans (hHeld.2.2.1)))), ((cell_far (p := ⟨gb242, _, none⟩) NB232_242.out _).trans (((cell_far (p := ⟨gb242, _, none⟩) NB232_242.out _).trans (hHeld.2.2.2.1)))), ((cell_far (p := ⟨gb242, _, none⟩) NB232_242.out _).trans (((cell_far (p := ⟨gb242, _, none⟩) NB232_242.out _).trans (hHeld.2.2.2.2.1)))), ((cell_far (p := ⟨gb242, _, none⟩) NB232_242.out _).trans (((cell_far (p := ⟨gb242, _, none⟩) NB232_242.out _).trans (hHeld.2.2.2.2.2.1)))), ((cell_far (p := ⟨gb242, _, none⟩) (by first | exact Nat.ne_of_lt (Nat.lt_of_lt_of_le (by have := World.block_lt_of_cell? _ _ hw233_0; first | rwa [add_block] at this | exact this) GW242.out) | (rw [add_block]; exact Nat.ne_of_lt (Nat.lt_of_lt_of_le (by have := World.block_lt_of_cell? _ _ hw233_0; first | rwa [add_block] at this | exact this) GW242.out)) | (show (Addr.add _ _).block ≠ _; rw [add_block]; exact Nat.ne_of_lt (Nat.lt_of_lt_of_le (by have := World.block_lt_of_cell? _ _ hw233_0; first | rwa [add_block] at this | exact this) GW242.out)) | (dsimp only; exact Nat.ne_of_lt (Nat.lt_of_lt_of_le (by have := World.block_lt_of_cell? _ _ hw233_0; first | rwa [add_block] at this | exact this) GW242.out))) _).trans (((cell_far (p := ⟨gb242, _, none⟩) (by first | exact Nat.ne_of_lt (Nat.lt_of_lt_of_le (by have := World.block_lt_of_cell? _ _ hw233_0; first | rwa [add_block] at this | exact this) GW242.out) | (rw [add_block]; exact Nat.ne_of_lt (Nat.lt_of_lt_of_le (by have := World.block_lt_of_cell? _ _ hw233_0; first | rwa [add_block] at this | exact this) GW242.out)) | (show (Addr.add _ _).block ≠ _; rw [add_block]; exact Nat.ne_of_lt (Nat.lt_of_lt_of_le (by have := World.block_lt_of_cell? _ _ hw233_0; first | rwa [add_block] at this | exact this) GW242.out)) | (dsimp only; exact Nat.ne_of_lt (Nat.lt_of_lt_of_le (by have := World.block_lt_of_cell? _ _ hw233_0; first | rwa [add_block] at this | exact this) GW242.out))) _).trans (hHeld.2.2.2.2.2.2))))⟩ (fun hHeld => ?_)
                  clear hK K
                  refine pure_ (i := 13) (N := some 12) (v := ?_) (a' := ?_) #[true, true, true, true, true, true, true, true, true, true, true, true, true, true, false] rfl rfl (any_of HT_.out (by kernel_rfl)) (fun _ _ _ h => h) (Or.inl ⟨by rfl, ?_⟩) ?_ ?_
                  rotate_left
                  ·intro w'
                   go_simp
                   with_reducible rfl
                  rotate_left
                  ·simp only [Act.put, List.setIfInBounds_toArray, List.set_cons_zero, List.set_cons_succ, i64_w, i32_w]
                   rfl
                  refine pure_ (i := 14) (N := some 13) (v := ?_) (a' := ?_) #[true, true, true, true, true, true, true, true, true, true, true, true, true, true, true] rfl rfl (any_of HT_.out (by kernel_rfl)) (fun _ _ _ h => h) (Or.inl ⟨by rfl, ?_⟩) ?_ ?_
                  rotate_left
                  ·intro w'
                   go_simp
                   with_reducible rfl
                  rotate_left
                  ·simp only [Act.put, List.setIfInBounds_toArray, List.set_cons_zero, List.set_cons_succ, i64_w, i32_w]
                   rfl
                  refine done_ (done_of HT_.out (by kernel_rfl)) ?_
                  have hnb111 := NB232_242.out
                  have hnc111 := NB242_232.out
                  have hcz112_0 : w106.cell? ⟨gb232, 0, none⟩ = some (.int .i64 (wrap64 (x9_3 + 1))) := (blk_cell BK232.out 0).trans rfl
                  have hcz112_1 : w106.cell? ⟨gb232, 1, none⟩ = some (.int .i64 ((rd_T26 l0 x9_3).f1)) := (blk_cell BK232.out 1).trans rfl
                  have hcz112_2 : w106.cell? ⟨gb232, 2, none⟩ = some (.int .i64 ((rd_T26 l0 x9_3).f2)) := (blk_cell BK232.out 2).trans rfl
                  have hcz112_3 : w106.cell? ⟨gb232, 3, none⟩ = some (.slice A231_3 ((rd_T26 l0 x9_3).f3).length c231_3) := (blk_cell BK232.out 3).trans rfl
                  have hfz112_0 := blk_frozen BK232.out 0
                  have hfz112_1 := blk_frozen BK232.out 1
                  have hfz112_2 := blk_frozen BK232.out 2
                  have hfz112_3 := blk_frozen BK232.out 3
                  try go_wp2_with (first | ((with_reducible refine gate_callee (f := 21) rfl ?_); refine goesL_ (some 74) rfl rfl Tryd.func21 (by kernel_rfl) rfl #[.agg #[.int .i64 (wrap64 (x9_3 + 1)), .int .i64 ((rd_T26 l0 x9_3).f1), .int .i64 ((rd_T26 l0 x9_3).f2), .slice A231_3 ((rd_T26 l0 x9_3).f3).length c231_3]] rfl (by (try simp only [List.map_toArray, List.map_cons, List.map_nil]); first | done | rfl | (simp only [List.length_drop, List.length_take]; rfl)) ?_; (with_reducible refine (newelref12_May.calls (wrap64 (x9_3 + 1)) ((rd_T26 l0 x9_3).f1) ((rd_T26 l0 x9_3).f2) _ _ ((rd_T26 l0 x9_3).f3) false _ ?side1 ?side2 A94.out).mono ?_); (case side1 => exact Kd.C_below HR231_3.out (by repeat (first | (with_reducible first | exact HB.out | apply below_alloc | apply pw_below_drewN | apply below_drew1 | refine below_set ?_ GE229.out | refine below_set ?_ GE230.out | refine below_set ?_ GE232.out | refine below_set ?_ GE242.out) | exact HB.out))); (case side2 => exact HC231_3.out); rintro e w113 ⟨rfl, hb⟩; refine ⟨_, rfl, ?_⟩; have n0_ := Aside0.mk (Kd.R_below (by (with_reducible repeat (first | apply Kd.R_alloc | apply Kd.R_drewN | apply Kd.R_drew)); exact (Kd.R_mono (Kd.R_far (p := ⟨gb242, 1, none⟩) (Kd.R_far (p := ⟨gb242, 0, none⟩) (Kd.R_types HO_230000.out BK242.out (by decide)) (fun _ hk => hk.2) (.slice Ao107 t234.length co107)) (fun _ hk => hk.2) (.slice Ao109 t237.length co109)) (fun _ h_ => h_.1))) hb); have n1_ := Aside0.mk (Kd.R_below (by (with_reducible repeat (first | apply Kd.R_alloc | apply Kd.R_drewN | apply Kd.R_drew)); exact (Kd.R_mono (Kd.R_far (p := ⟨gb242, 1, none⟩) (Kd.R_far (p := ⟨gb242, 0, none⟩) (Kd.R_types HO_230001.out BK242.out (by decide)) (fun _ hk => hk.2) (.slice Ao107 t234.length co107)) (fun _ hk => hk.2) (.slice Ao109 t237.length co109)) (fun _ h_ => h_.1))) hb); have n2_ := Aside0.mk (Kd.R_below (by (with_reducible repeat (first | apply Kd.R_alloc | apply Kd.R_drewN | apply Kd.R_drew)); exact (Kd.R_mono (Kd.R_far (p := ⟨gb242, 1, none⟩) (Kd.R_far (p := ⟨gb242, 0, none⟩) (Kd.R_types HO_231003.out BK242.out (by decide)) (fun _ hk => hk.2) (.slice Ao107 t234.length co107)) (fun _ hk => hk.2) (.slice Ao109 t237.length co109)) (fun _ h_ => h_.1))) hb); have n3_ := Aside0.mk (Kd.R_below (by (with_reducible repeat (first | apply Kd.R_alloc | apply Kd.R_drewN | apply Kd.R_drew)); exact (Kd.R_mono (Kd.R_far (p := ⟨gb242, 1, none⟩) (Kd.R_far (p := ⟨gb242, 0, none⟩) (Kd.R_types HO236.out BK242.out (by decide)) (fun _ hk => hk.2) (.slice Ao107 t234.length co107)) (fun _ hk => hk.2) (.slice Ao109 t237.length co109)) (fun _ h_ => h_.1))) hb); have n4_ := Aside0.mk (Kd.R_below (by (with_reducible repeat (first | apply Kd.R_alloc | apply Kd.R_drewN | apply Kd.R_drew)); exact (Kd.R_mono (Kd.R_far (p := ⟨gb242, 1, none⟩) (Kd.R_far (p := ⟨gb242, 0, none⟩) (Kd.R_types HO239.out BK242.out (by decide)) (fun _ hk => hk.2) (.slice Ao107 t234.length co107)) (fun _ hk => hk.2) (.slice Ao109 t237.length co109)) (fun _ h_ => h_.1))) hb); have n5_ := Aside0.mk (blk_below (g := gb229) (o := .cells #[.slice Ao100 x230000_3.length co100, .slice Ao101 x230001_3.length co101] 24 (0, 0)) (by (with_reducible repeat (first | refine blk_drewN ?_ _ | refine blk_drew ?_ | refine blk_alloc ?_ _)); refine blk_far ?_ NB229_242.out _; (with_reducible repeat (first | refine blk_drewN ?_ _ | refine blk_drew ?_ | refine blk_alloc ?_ _)); refine blk_far ?_ NB229_242.out _; (with_reducible repeat (first | refine blk_drewN ?_ _ | refine blk_drew ?_ | refine blk_alloc ?_ _)); exact BK229.out) hb); have n6_ := Aside0.mk (blk_below (g := gb230) (o := .cells #[.int .i64 x231000_3, .int .i64 x231001_3, .int .i64 x231002_3, u231003] 26 (0, 0)) (by (with_reducible repeat (first | refine blk_drewN ?_ _ | refine blk_drew ?_ | refine blk_alloc ?_ _)); refine blk_far ?_ NB230_242.out _; (with_reducible repeat (first | refine blk_drewN ?_ _ | refine blk_drew ?_ | refine blk_alloc ?_ _)); refine blk_far ?_ NB230_242.out _; (with_reducible repeat (first | refine blk_drewN ?_ _ | refine blk_drew ?_ | refine blk_alloc ?_ _)); exact BK230.out) hb); have n7_ := Aside0.mk (blk_below (g := gb232) (o := .cells #[.int .i64 (wrap64 (x9_3 + 1)), .int .i64 ((rd_T26 l0 x9_3).f1), .int .i64 ((rd_T26 l0 x9_3).f2), .slice A231_3 ((rd_T26 l0 x9_3).f3).length c231_3] 26 (0, 0)) (by (with_reducible repeat (first | refine blk_drewN ?_ _ | refine blk_drew ?_ | refine blk_alloc ?_ _)); refine blk_far ?_ NB232_242.out _; (with_reducible repeat (first | refine blk_drewN ?_ _ | refine blk_drew ?_ | refine blk_alloc ?_ _)); refine blk_far ?_ NB232_242.out _; (with_reducible repeat (first | refine blk_drewN ?_ _ | refine blk_drew ?_ | refine blk_alloc ?_ _)); exact BK232.out) hb); have n8_ := Aside0.mk (blk_below (g := gb242) (o := .cells #[.slice Ao107 t234.length co107, .slice Ao109 t237.length co109] 24 (0, 0)) (by (with_reducible repeat (first | refine blk_drewN ?_ _ | refine blk_drew ?_ | refine blk_alloc ?_ _)); refine blk_put (cs := #[.slice Ao107 t234.length co107, .slice none 0 0]) ?_ 1 _ rfl; (with_reducible repeat (first | refine blk_drewN ?_ _ | refine blk_drew ?_ | refine blk_alloc ?_ _)); refine blk_put (cs := #[.slice none 0 0, .slice none 0 0]) ?_ 0 _ rfl; (with_reducible repeat (first | refine blk_drewN ?_ _ | refine blk_drew ?_ | refine blk_alloc ?_ _)); exact BK242.out) hb); have n9_ := Aside0.mk (below_step (by repeat (first | (with_reducible first | exact HB.out | apply below_alloc | apply pw_below_drewN | apply below_drew1 | refine below_set ?_ GE229.out | refine below_set ?_ GE230.out | refine below_set ?_ GE232.out | refine below_set ?_ GE242.out) | exact HB.out)) hb); clear HO_230000; clear HO_230001; clear HO_231003; clear HO236; clear HO239; clear BK229; clear BK230; clear BK232; clear BK242; clear HB; have HO_230000 := n0_; have HO_230001 := n1_; have HO_231003 := n2_; have HO236 := n3_; have HO239 := n4_; have BK229 := n5_; have BK230 := n6_; have BK232 := n7_; have BK242 := n8_; have HB := n9_; clear n0_ n1_ n2_ n3_ n4_ n5_ n6_ n7_ n8_ n9_; (try clear hb); (try clear hb2); (try clear hk); (try clear hi)))
                  go_meet
                  case rel => exact ⟨_, (x230000_3), (x230001_3), (x231000_3), (x231001_3), (x231002_3), (x231003_3), (.slice Ao100 x230000_3.length co100), (.slice Ao101 x230001_3.length co101), (u231003), H', ⟨by have := HK1.out; have := HJ4.out; have := HK3.out; have := HJ14.out; first | omega | exact Nat.le_refl _⟩, ⟨by (with_reducible repeat (first | apply Kd.R_alloc | apply Kd.R_drewN | apply Kd.R_drew)); exact Kd.R_mono HO_230000.out (fun _ hk => ⟨hk.2.2.1, hk.2.2.2⟩)⟩, ⟨by (with_reducible repeat (first | apply Kd.R_alloc | apply Kd.R_drewN | apply Kd.R_drew)); exact Kd.R_mono HO_230001.out (fun _ hk => ⟨hk.2.2.1, hk.2.2.2⟩)⟩, HL, ⟨by (with_reducible repeat (first | refine blk_drewN ?_ _ | refine blk_drew ?_ | refine blk_alloc ?_ _)); exact BK229.out⟩, ⟨by (with_reducible repeat (first | refine blk_drewN ?_ _ | refine blk_drew ?_ | refine blk_alloc ?_ _)); exact BK230.out⟩, ⟨by repeat (first | (with_reducible first | exact HB.out | apply below_alloc | apply pw_below_drewN | apply below_drew1 | refine below_set ?_ GE229.out | refine below_set ?_ GE230.out | refine below_set ?_ GE232.out | refine below_set ?_ GE242.out) | exact HB.out)⟩⟩
               ·rw [if_neg c21] at H
                exact absurd H (by simp)
              ·rw [if_neg c20] at H
               exact absurd H (by simp)
             ·rw [if_neg c19] at H
              exact absurd H (by simp)
            case rest =>
             clear HC18
             try clear c1
             try clear c2
             try clear p2
             try clear q2
             try clear hx2
             try clear p6
             try clear c9
             try clear c11
             try clear c19
             try clear c20
             try clear c21
             try clear c23
             try clear c23b0
             try clear c23b1
             try clear p23
             try clear q23
             try clear hx23
             try clear p64
             try clear c93
             try clear c95
             try clear c97
             try clear c98
             try clear c111
             try clear hcz112_0
             try clear hcz112_1
             try clear hcz112_2
             try clear hcz112_3
             try clear hcz99_0
             try clear hcz99_1
             try clear hcz99_2
             try clear hcz99_3
             try clear hfz112_0
             try clear hfz112_1
             try clear hfz112_2
             try clear hfz112_3
             try clear hfz54_2
             try clear hfz54_3
             try clear hfz59_0
             try clear hfz59_1
             try clear hfz59_2
             try clear hfz59_3
             try clear hfz65_0
             try clear hfz65_1
             try clear hfz72_0
             try clear hfz72_1
             try clear hfz72_2
             try clear hfz72_3
             try clear hfz81_0
             try clear hfz81_1
             try clear hfz81_2
             try clear hfz81_3
             try clear hfz85_0
             try clear hfz85_1
             try clear hfz85_2
             try clear hfz85_3
             try clear hfz92_0
             try clear hfz92_1
             try clear hfz92_2
             try clear hfz92_3
             try clear hfz99_0
             try clear hfz99_1
             try clear hfz99_2
             try clear hfz99_3
             try clear hx231_0
             try clear hx231_1
             try clear hx231_2
             try clear hx231_3
             try clear hx233_0
             try clear p2
             try clear p23
             try clear p231
             try clear p233
             try clear p6
             try clear q2
             try clear q23
             try clear q231
             try clear q233
             obtain ⟨kq, x230000_17, x230001_17, x231000_17, x231001_17, x231002_17, x231003_17, u230000, u230001, u231003, HA, HJ17, HO_230000, HO_230001, HL, BK229, BK230, HB⟩ := hcut
             have HO_231003 := phantom_ (fun k_ => some k_ ≠ (u230000 : Value).ownBlock ∧ some k_ ≠ (u230001 : Value).ownBlock) HO_230000
             cases kq with
             | zero => exact absurd HA.out (by simp [newellaw12_FlashGoes.j6])
             | succ kj17 =>
              have H := HA.out
              clear HA
              simp only [newellaw12_FlashGoes.j6] at H
              have H' := Aside0.mk H
              clear H
              go_wp2
              go_roundg kj17
              case measure => have := HK1.out; have := HJ4.out; have := HK3.out; have := HJ14.out; have := HJ17.out; omega
              case rel => exact ⟨(wrap64 (x9_3 + 1)), (x230000_17), (x230001_17), (x231000_17), (x231001_17), (x231002_17), (x231003_17), (u230000), (u230001), (u231003), (by first | rfl | (simp; done) | (simp [*]; done)), H', ⟨by have := HK1.out; have := HJ4.out; have := HK3.out; have := HJ14.out; have := HJ17.out; omega⟩, ⟨by (with_reducible repeat (first | apply Kd.R_alloc | apply Kd.R_drewN | apply Kd.R_drew)); exact HO_230000.out⟩, ⟨by (with_reducible repeat (first | apply Kd.R_alloc | apply Kd.R_drewN | apply Kd.R_drew)); exact HO_230001.out⟩, HL, ⟨by (with_reducible repeat (first | refine blk_drewN ?_ _ | refine blk_drew ?_ | refine blk_alloc ?_ _)); exact BK229.out⟩, ⟨by (with_reducible repeat (first | refine blk_drewN ?_ _ | refine blk_drew ?_ | refine blk_alloc ?_ _)); exact BK230.out⟩, ⟨by repeat (first | (with_reducible first | exact HB.out | apply below_alloc | apply pw_below_drewN | apply below_drew1 | refine below_set ?_ GE229.out | refine below_set ?_ GE230.out) | exact HB.out)⟩⟩
           ·replace c17 := Bool.eq_false_iff.mpr c17
            subst c17
            have H1 : ((newellaw12_awake.f kj14).bind fun t260 => (some t260)) = some r := by rw [if_neg (show ¬ (false = true) by decide)] at H; exact H
            clear H
            have H := H1
            clear H1
            replace H := Option.bind_eq_some_iff.mp H
            obtain ⟨t260, A1140, H⟩ := H
            replace H : (some t260) = some r := H
            have A114 := Aside0.mk A1140
            clear A1140
            obtain rfl := Option.some.inj H
            go_wp2_with (first | ((with_reducible refine gate_callee (f := 10) rfl ?_); refine goesL_ (some 100) rfl rfl Tryd.func10 (by kernel_rfl) rfl #[] rfl (by (try simp only [List.map_toArray, List.map_cons, List.map_nil]); first | done | rfl | (simp only [List.length_drop, List.length_take]; rfl)) ?_; (with_reducible refine (newellaw12_awake.calls kj14  t260 _ A114.out (by first | exact HTAB.out | ((repeat (first | exact HTAB.out | (with_reducible refine Laid.tab_alloc ?_ _) | (with_reducible refine Laid.tab_drewN ?_ _) | (with_reducible refine Laid.tab_drew ?_))); done) | (refine Laid.tab_below' HTAB.out ?_; (repeat (first | (with_reducible first | exact HB.out | apply below_alloc | apply pw_below_drewN | apply below_drew1) | exact HB.out | (refine below_set ?_ (Aside0.out (by assumption)))))))).mono ?_); rintro e w115 ⟨rfl, hb⟩; refine ⟨_, rfl, ?_⟩; have n0_ := Aside0.mk (Kd.R_below (by (with_reducible repeat (first | apply Kd.R_alloc | apply Kd.R_drewN | apply Kd.R_drew)); exact HO_230000.out) hb); have n1_ := Aside0.mk (Kd.R_below (by (with_reducible repeat (first | apply Kd.R_alloc | apply Kd.R_drewN | apply Kd.R_drew)); exact HO_230001.out) hb); have n2_ := Aside0.mk (Kd.R_below (by (with_reducible repeat (first | apply Kd.R_alloc | apply Kd.R_drewN | apply Kd.R_drew)); exact HO_231003.out) hb); have n3_ := Aside0.mk (blk_below (g := gb229) (o := .cells #[u230000, u230001] 24 (0, 0)) (by (with_reducible repeat (first | refine blk_drewN ?_ _ | refine blk_drew ?_ | refine blk_alloc ?_ _)); exact BK229.out) hb); have n4_ := Aside0.mk (blk_below (g := gb230) (o := .cells #[.int .i64 x231000_3, .int .i64 x231001_3, .int .i64 x231002_3, u231003] 26 (0, 0)) (by (with_reducible repeat (first | refine blk_drewN ?_ _ | refine blk_drew ?_ | refine blk_alloc ?_ _)); exact BK230.out) hb); have n5_ := Aside0.mk (below_step (by repeat (first | (with_reducible first | exact HB.out | apply below_alloc | apply pw_below_drewN | apply below_drew1 | refine below_set ?_ GE229.out | refine below_set ?_ GE230.out) | exact HB.out)) hb); clear HO_230000; clear HO_230001; clear HO_231003; clear BK229; clear BK230; clear HB; have HO_230000 := n0_; have HO_230001 := n1_; have HO_231003 := n2_; have BK229 := n3_; have BK230 := n4_; have HB := n5_; clear n0_ n1_ n2_ n3_ n4_ n5_; (try clear hb); (try clear hb2); (try clear hk); (try clear hi)))
            go_ret
            exact ⟨by first | rfl | (simp [errW_none, errW_some] <;> rfl) | (simp [*, errW_none, errW_some] <;> rfl), by repeat (first | (with_reducible first | exact HB.out | apply below_alloc | apply pw_below_drewN | apply below_drew1 | refine below_set ?_ GE229.out | refine below_set ?_ GE230.out) | exact HB.out)⟩
end Go.Proofs.YtickbejailcehaaDoor.C
