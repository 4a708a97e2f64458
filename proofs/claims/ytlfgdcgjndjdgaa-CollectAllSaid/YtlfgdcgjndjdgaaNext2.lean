/- The function collect.Next, walked by hand (function values, a range over a function, a map): what a car does next. -/
import Derived.Test.YtlfgdcgjndjdgaaNext3
import Derived.Test.YtlfgdcgjndjdgaaRound
import Derived.Test.YtlfgdcgjndjdgaaCxf16
namespace Go.Proofs.Ytlfgdcgjndjdgaa.C
open Go.RowKit Go.Shelf Go.Proofs.YtlfgdcgjndjdgaaW.PrintWords Go.Proofs.YtlfgdcgjndjdgaaW.PrintLast Go.Proofs.YtlfgdcgjndjdgaaW.PrintMore Go.Proofs.Ytlfgdcgjndjdgaa.Iter
set_option linter.unusedVariables false
attribute [local go_sem] Oper.semAt_some
theorem v_of_C {w : World} {A : Option Addr} {c : Nat} {l : List Int} (h : Kd.C (Kd.int .i64) w A l.length l) (hc : l.length ≤ c) : Kd.V (Kd.int .i64) 3 w w.heap.size (fun k => k < w.heap.size) (.slice A l.length c) l :=
  ⟨A, c, rfl, hc, Kd.C_F (Kd.heap_int _) h⟩
theorem blk_kept {b : Nat} {t : TypeId} {cs : Array Value} {W W' : World} {row : Option Nat} (h : W.heap[b]? = some (.cells cs t (0, 0))) (hg : W.grownBy W' row) (hr : ∀ r, row = some r → ∃ o : Obj, W.heap[r]? = some o ∧ o.isCells = false) : W'.heap[b]? = some (.cells cs t (0, 0)) :=
  (hg.block b (blk_lt h) (fun e => by obtain ⟨o, ho, hc⟩ := hr b e.symm; rw [h] at ho; cases ho; cases hc)).trans h
theorem rowAt_kept {b0 : Nat} {W W' : World} {A : Option Addr} {xs : List Int} {row : Option Nat} (h : RowAt b0 W A xs) (hg : W.grownBy W' row) (hr : ∀ r, row = some r → ∃ o : Obj, W.heap[r]? = some o ∧ o.isCells = false) : RowAt b0 W' A xs :=
  ⟨h.1, fun hp => by
    obtain ⟨ad, e, hb, hc⟩ := h.2 hp
    exact ⟨ad, e, hb, fun j hj => cell_kept (hc j hj) hg hr⟩⟩
theorem rowAt_mono {b0 b1 : Nat} {W : World} {A : Option Addr} {xs : List Int} (h : RowAt b0 W A xs) (hb : b0 ≤ b1) : RowAt b1 W A xs :=
  ⟨h.1, fun hp => by obtain ⟨ad, e, hb', hc⟩ := h.2 hp; exact ⟨ad, e, by omega, hc⟩⟩
theorem anyUp_snoc (f : Int) (l : List Int) (x : Int) : anyUp f (l ++ [x]) = (anyUp f l || decide (f < x)) := by simp [anyUp]
theorem anyDown_snoc (f : Int) (l : List Int) (x : Int) : anyDown f (l ++ [x]) = (anyDown f l || decide (x < f)) := by simp [anyDown]
theorem blk_far' {W : World} {b g j : Nat} {v : Value} {o : Obj} (h : W.heap[b]? = some o) (hne : b ≠ g) : (W.setCell ⟨g, j, none⟩ v).heap[b]? = some o := by
  unfold World.setCell
  simp only
  rw [Array.getElem?_modify]
  rw [if_neg (fun e => hne e.symm)]
  exact h
theorem kp_set {b0 b1 g j : Nat} {A W : World} {v : Value} (h : Kp b0 b1 A W) (h0 : b0 ≤ g) (h1 : g < b1) : Kp b0 b1 A (W.setCell ⟨g, j, none⟩ v) := fun b o hb ho hc => blk_far' (h b o hb ho hc) (by omega)
theorem round_end {w W : World} {ub sb : Nat} {a0 a1 a2 : Int} {a3 a4 : Bool} {A5 : Option Addr} {c5 : Nat} {l5 : List Int} {A6 : Option Addr} {c6 : Nat} {l6 : List Int} {A7 : Option Addr} {c7 : Nat} {l7 pre : List Int} {x : Int} {U D u' d' : Bool}
    (hu : W.heap[ub]? = some (.cells #[.bool U] 4 (0, 0))) (hd : W.heap[ub + 1]? = some (.cells #[.bool D] 4 (0, 0))) (ha : W.heap[ub + 1 + 1]? = some (.cells #[.bool (!pre.isEmpty)] 4 (0, 0))) (hs : SBox W sb a0 a1 a2 a3 a4 A5 c5 l5 A6 c6 l6 A7 c7 l7) (hB : Below w.heap.size w W)
    (hsb : sb < ub) (hw : w.heap.size ≤ ub) (eu : u' = anyUp a1 (pre ++ [x])) (ed : d' = anyDown a1 (pre ++ [x])) :
    KeepsOthers W (((W.drew.setCell ⟨ub, 0, none⟩ (.bool u')).setCell ⟨ub + 1, 0, none⟩ (.bool d')).setCell ⟨ub + 1 + 1, 0, none⟩ (.bool true)) ∧
    Kp ub (ub + 1 + 1 + 1) W (((W.drew.setCell ⟨ub, 0, none⟩ (.bool u')).setCell ⟨ub + 1, 0, none⟩ (.bool d')).setCell ⟨ub + 1 + 1, 0, none⟩ (.bool true)) ∧
    ((((W.drew.setCell ⟨ub, 0, none⟩ (.bool u')).setCell ⟨ub + 1, 0, none⟩ (.bool d')).setCell ⟨ub + 1 + 1, 0, none⟩ (.bool true)).heap[ub]? = some (.cells #[.bool (anyUp a1 (pre ++ [x]))] 4 (0, 0)) ∧
     (((W.drew.setCell ⟨ub, 0, none⟩ (.bool u')).setCell ⟨ub + 1, 0, none⟩ (.bool d')).setCell ⟨ub + 1 + 1, 0, none⟩ (.bool true)).heap[ub + 1]? = some (.cells #[.bool (anyDown a1 (pre ++ [x]))] 4 (0, 0)) ∧
     (((W.drew.setCell ⟨ub, 0, none⟩ (.bool u')).setCell ⟨ub + 1, 0, none⟩ (.bool d')).setCell ⟨ub + 1 + 1, 0, none⟩ (.bool true)).heap[ub + 1 + 1]? = some (.cells #[.bool (!(pre ++ [x]).isEmpty)] 4 (0, 0)) ∧
     SBox (((W.drew.setCell ⟨ub, 0, none⟩ (.bool u')).setCell ⟨ub + 1, 0, none⟩ (.bool d')).setCell ⟨ub + 1 + 1, 0, none⟩ (.bool true)) sb a0 a1 a2 a3 a4 A5 c5 l5 A6 c6 l6 A7 c7 l7) ∧
    Below w.heap.size w (((W.drew.setCell ⟨ub, 0, none⟩ (.bool u')).setCell ⟨ub + 1, 0, none⟩ (.bool d')).setCell ⟨ub + 1 + 1, 0, none⟩ (.bool true)) := by
  subst eu ed
  refine ⟨?_, ?_, ⟨?_, ?_, ?_, ?_⟩, ?_⟩
  · exact ((((KeepsOthers.drew W).trans (KeepsOthers.setCell _ _ _)).trans (KeepsOthers.setCell _ _ _)).trans (KeepsOthers.setCell _ _ _))
  · refine kp_set (kp_set (kp_set ?_ (Nat.le_refl _) (by omega)) (by omega) (by omega)) (by omega) (by omega)
    exact fun b o _ ho _ => ho
  · exact blk_far' (blk_far' (blk_set (w := W.drew) hu 0 _) (by omega)) (by omega)
  · exact blk_far' (blk_set (blk_far' (W := W.drew) hd (by omega)) 0 _) (by omega)
  · have := blk_set (blk_far' (blk_far' (W := W.drew) (g := ub) (j := 0) (v := .bool (anyUp a1 (pre ++ [x]))) ha (by omega)) (g := ub + 1) (j := 0) (v := .bool (anyDown a1 (pre ++ [x]))) (by omega)) 0 (.bool true)
    have e : (!(pre ++ [x]).isEmpty) = true := by simp
    rw [e]
    exact this
  · exact blk_far' (blk_far' (blk_far' (W := W.drew) hs (by omega)) (by omega)) (by omega)
  · exact below_set (below_set (below_set (below_drew1 hB) hw) (by omega)) (by omega)
theorem check_dir {k : Nat} {a0 a1 a2 : Int} {a3 a4 : Bool} {l5 l6 l7 : List Int} (h : collect_Check.f k a0 a1 a2 a3 a4 l5 l6 l7 = some 0) : -1 ≤ a2 ∧ a2 ≤ 1 := by
  have q : ∀ n, collect_Check.j0 n true a0 a1 a2 a3 a4 l5 l6 l7 ≠ some 0 := by
    intro n
    cases n with
    | zero => simp [collect_Check.j0]
    | succ n => simp [collect_Check.j0]
  unfold collect_Check.f at h
  split at h
  · exact absurd h (q _)
  · split at h
    · exact absurd h (q _)
    · split at h
      · exact absurd h (q _)
      · split at h
        · exact absurd h (q _)
        · split at h
          · exact absurd h (q _)
          · by_cases e : a2 > 1
            · rw [decide_eq_true e] at h
              exact absurd h (q _)
            · omega
set_option maxRecDepth 100000 in
set_option maxHeartbeats 8000000 in
theorem next_wide (k : Nat) (a0 a1 a2 : Int) (a3 a4 : Bool) (A5 : Option Addr) (c5 : Nat) (l5 : List Int) (A6 : Option Addr) (c6 : Nat) (l6 : List Int) (A7 : Option Addr) (c7 : Nat) (l7 : List Int) (w : World)
    (r5 : Kd.C (Kd.int .i64) w A5 l5.length l5) (k5 : l5.length ≤ c5) (m5 : l5.length ≤ 140737488351232) (r6 : Kd.C (Kd.int .i64) w A6 l6.length l6) (k6 : l6.length ≤ c6) (m6 : l6.length ≤ 140737488351232) (r7 : Kd.C (Kd.int .i64) w A7 l7.length l7) (k7 : l7.length ≤ c7) (m7 : l7.length ≤ 140737488351232)
    (hk : collect_Check.f k a0 a1 a2 a3 a4 l5 l6 l7 = some 0) (R : Ending → World → Prop)
    (hR : ∀ W', Below w.heap.size w W' → R (.returned (.tuple #[.int .i64 (nextB a1 a2 a3 a4 l5 l6 l7).1, .int .i64 (nextB a1 a2 a3 a4 l5 l6 l7).2.1, .int .i64 (nextB a1 a2 a3 a4 l5 l6 l7).2.2])) W') :
    CallsIn Fence.wide 3 Try.prog 11 #[.agg #[.int .i64 a0, .int .i64 a1, .int .i64 a2, .bool a3, .bool a4, .slice A5 l5.length c5, .slice A6 l6.length c6, .slice A7 l7.length c7]] w R := by
  have h1 : 1 ≤ 3 := by omega
  have V5 := Aside0.mk (fun o => v_of_C (w := w.alloc o) (Kd.C_alloc r5 o) k5)
  have V6 := Aside0.mk (fun o => v_of_C (w := w.alloc o) (Kd.C_alloc r6 o) k6)
  have V7 := Aside0.mk (fun o => v_of_C (w := w.alloc o) (Kd.C_alloc r7 o) k7)
  have HA2 := Aside0.mk (check_dir hk)
  have HRR := Aside0.mk hR
  have HK := Aside0.mk hk
  have K5 := Aside0.mk k5
  have K6 := Aside0.mk k6
  have K7 := Aside0.mk k7
  have R5 := Aside0.mk r5
  have R6 := Aside0.mk r6
  have R7 := Aside0.mk r7
  have M5 := Aside0.mk m5
  have M6 := Aside0.mk m6
  have M7 := Aside0.mk m7
  clear r5 r6 r7 k5 k6 k7 m5 m6 m7 hk hR
  refine callsIn_of_wp_marks Try.func11 rfl trivial ?_ rfl
  simp only [Try.ntmps11, List.size_toArray, List.length_cons, List.length_nil, Nat.reduceAdd, Nat.reduceSub, Array.replicate_succ, Array.replicate_zero, List.push_toArray, List.append_toArray, List.nil_append, List.cons_append]
  gi_wp2_with fail
  refine ⟨trivial, ?_⟩
  refine (callsIn_wide.2 (collect_Check.calls k a0 a1 a2 a3 a4 _ A5 c5 l5 _ A6 c6 l6 _ A7 c7 l7 0 _ (V5.out _) (V6.out _) (V7.out _) HK.out)).mono ?_
  rintro e w1 ⟨rfl, hb1⟩
  have BS : Aside0 (SBox w1 w.heap.size a0 a1 a2 a3 a4 A5 c5 l5 A6 c6 l6 A7 c7 l7) := ⟨blk_below (blk_new w _) hb1⟩
  have HB1 : Aside0 (Below w.heap.size w w1) := ⟨below_step (below_alloc (Below.refl _ _) _) hb1⟩
  have HS1 : Aside0 (w.heap.size + 1 ≤ w1.heap.size) := ⟨by have := hb1.size; simpa using this⟩
  clear hb1
  have BS4 : Aside0 (SBox (((w1.alloc (.cells #[.bool false] 4)).alloc (.cells #[.bool false] 4)).alloc (.cells #[.bool false] 4)) w.heap.size a0 a1 a2 a3 a4 A5 c5 l5 A6 c6 l6 A7 c7 l7) := ⟨blk_alloc (blk_alloc (blk_alloc BS.out _) _) _⟩
  have s5 : (((w1.alloc (.cells #[.bool false] 4)).alloc (.cells #[.bool false] 4)).alloc (.cells #[.bool false] 4)).cell? ⟨w.heap.size, 5, none⟩ = some (.slice A5 l5.length c5) := (blk_cell BS4.out 5).trans rfl
  have s6 : (((w1.alloc (.cells #[.bool false] 4)).alloc (.cells #[.bool false] 4)).alloc (.cells #[.bool false] 4)).cell? ⟨w.heap.size, 6, none⟩ = some (.slice A6 l6.length c6) := (blk_cell BS4.out 6).trans rfl
  have s7 : (((w1.alloc (.cells #[.bool false] 4)).alloc (.cells #[.bool false] 4)).alloc (.cells #[.bool false] 4)).cell? ⟨w.heap.size, 7, none⟩ = some (.slice A7 l7.length c7) := (blk_cell BS4.out 7).trans rfl
  gi_wp2_with fail
  refine ⟨trivial, ?_⟩
  refine (called_in Fence.wide _ trivial rfl _ _ _ _).mono ?_
  rintro e w' ⟨rfl, rfl⟩
  clear s5 s6 s7
  gi_wp2_with fail
  have hB4 : Below w.heap.size w ((((w1.alloc (.cells #[.bool false] 4)).alloc (.cells #[.bool false] 4)).alloc (.cells #[.bool false] 4)).alloc (.cells #[.slice A5 l5.length c5, .slice A6 l6.length c6, .slice A7 l7.length c7] 24)) :=
    below_alloc (below_alloc (below_alloc (below_alloc HB1.out _) _) _) _
  have hu0 := blk_alloc (blk_alloc (blk_alloc (blk_new w1 (.cells #[.bool false] 4)) (.cells #[.bool false] 4)) (.cells #[.bool false] 4)) (.cells #[.slice A5 l5.length c5, .slice A6 l6.length c6, .slice A7 l7.length c7] 24)
  have hd0 := blk_alloc (blk_alloc (blk_new (w1.alloc (.cells #[.bool false] 4)) (.cells #[.bool false] 4)) (.cells #[.bool false] 4)) (.cells #[.slice A5 l5.length c5, .slice A6 l6.length c6, .slice A7 l7.length c7] 24)
  have ha0 := blk_alloc (blk_new ((w1.alloc (.cells #[.bool false] 4)).alloc (.cells #[.bool false] 4)) (.cells #[.bool false] 4)) (.cells #[.slice A5 l5.length c5, .slice A6 l6.length c6, .slice A7 l7.length c7] 24)
  have hv0 := blk_new (((w1.alloc (.cells #[.bool false] 4)).alloc (.cells #[.bool false] 4)).alloc (.cells #[.bool false] 4)) (.cells #[.slice A5 l5.length c5, .slice A6 l6.length c6, .slice A7 l7.length c7] 24)
  simp only [World.size_alloc] at hd0 ha0 hv0
  have hw1 := HB1.out.size
  have hstops := called_stops Fence.wide (3 - 1) trivial rfl (by omega) (w1.heap.size + 1 + 1 + 1) w1.heap.size (w1.heap.size + 1 + 1 + 1) [(A5, c5, l5), (A6, c6, l6), (A7, c7, l7)] (A5, c5, l5) (A6, c6, l6) (A7, c7, l7) rfl _ hv0 (by simp) (by
    intro r hr
    have q : ∀ (A : Option Addr) (l : List Int), Kd.C (Kd.int .i64) w A l.length l → l.length ≤ 140737488351232 → RowAt w1.heap.size ((((w1.alloc (.cells #[.bool false] 4)).alloc (.cells #[.bool false] 4)).alloc (.cells #[.bool false] 4)).alloc (.cells #[.slice A5 l5.length c5, .slice A6 l6.length c6, .slice A7 l7.length c7] 24)) A l := fun A l hC hm =>
      rowAt_mono ((rowAt_of_C hC hm).below hB4 (Nat.le_refl _)) hw1
    simp only [List.mem_cons, List.not_mem_nil, or_false] at hr
    rcases hr with rfl | rfl | rfl
    · exact q A5 l5 R5.out M5.out
    · exact q A6 l6 R6.out M6.out
    · exact q A7 l7 R7.out M7.out) (by simp; omega)
  clear hv0
  refine wpIn_rangeFunc_ownF (n := 3) rfl h1 (gf := 34) (lb := #[.pointer (some ⟨w1.heap.size + 1 + 1 + 1, 0, none⟩)]) rfl trivial (enters_of Try.func34 (by kernel_rfl) rfl)
    hstops kp_t kp_b (Below.refl _ _) (fun _ => rfl)
    (fun pre W => (W.heap[w1.heap.size]? = some (.cells #[.bool (anyUp a1 pre)] 4 (0, 0)) ∧ W.heap[w1.heap.size + 1]? = some (.cells #[.bool (anyDown a1 pre)] 4 (0, 0)) ∧ W.heap[w1.heap.size + 1 + 1]? = some (.cells #[.bool (!pre.isEmpty)] 4 (0, 0)) ∧ SBox W w.heap.size a0 a1 a2 a3 a4 A5 c5 l5 A6 c6 l6 A7 c7 l7) ∧ Below w.heap.size w W)
    (fun _ _ _ => False)
    (OwnFrom.and (Own.from (fun s A B row hs hg hr => ⟨blk_kept hs.1 hg hr, blk_kept hs.2.1 hg hr, blk_kept hs.2.2.1 hg hr, blk_kept hs.2.2.2 hg hr⟩) _) (ownFrom_below (Nat.le_refl _) (by simp; omega)))
    (fun c _ _ _ _ hs _ _ => hs)
    ⟨⟨hu0, hd0, ha0, blk_alloc BS4.out _⟩, hB4⟩ ?a1 ?assign ?body ?done ?stop
  case assign =>
    intro l x W K hK
    gi_wp2
    exact hK
  case body =>
    rintro l pre x W ⟨⟨hu, hd, ha, hs⟩, hB⟩ _
    have cu : W.cell? ⟨w1.heap.size, 0, none⟩ = some (.bool (anyUp a1 pre)) := (blk_cell hu 0).trans rfl
    have cd : W.cell? ⟨w1.heap.size + 1, 0, none⟩ = some (.bool (anyDown a1 pre)) := (blk_cell hd 0).trans rfl
    have ca : W.cell? ⟨w1.heap.size + 1 + 1, 0, none⟩ = some (.bool (!pre.isEmpty)) := (blk_cell ha 0).trans rfl
    have fu := blk_frozen hu 0
    have fd := blk_frozen hd 0
    have fa := blk_frozen ha 0
    have c1 : W.cell? ⟨w.heap.size, 1, none⟩ = some (.int .i64 a1) := (blk_cell hs 1).trans rfl
    have HU := Aside0.mk hu
    have HD := Aside0.mk hd
    have HA := Aside0.mk ha
    have HS := Aside0.mk hs
    have HBW := Aside0.mk hB
    have HSTOPS := hstops
    clear hu hd ha hs hB hstops HSTOPS hu0 hd0 ha0 hB4
    have hlt : w.heap.size < w1.heap.size := by have := HS1.out; omega
    have hsd : ∀ v : Value, w.heap.size ≠ w1.heap.size := fun _ => by omega
    have HLE : Aside0 (∀ v : Value, Below w.heap.size w W) := ⟨fun _ => HBW.out⟩
    gi_wp2
    generalize eU : anyUp a1 pre = U at cu
    generalize eD : anyDown a1 pre = D at cd
    have EU := Aside0.mk eU
    have ED := Aside0.mk eD
    clear eU eD hsd HLE
    have HUX : Aside0 (W.heap[w1.heap.size]? = some (.cells #[.bool U] 4 (0, 0))) := ⟨by rw [← EU.out]; exact HU.out⟩
    have HDX : Aside0 (W.heap[w1.heap.size + 1]? = some (.cells #[.bool D] 4 (0, 0))) := ⟨by rw [← ED.out]; exact HD.out⟩
    have HW1 := Aside0.mk HB1.out.size
    have HSW : Aside0 (W.drew.cell? ⟨w.heap.size, 1, none⟩ = some (.int .i64 a1) ∧ W.drew.cell? ⟨w1.heap.size + 1, 0, none⟩ = some (.bool D) ∧ True) := ⟨c1, cd, trivial⟩
    have HST : ∀ v : Value, (W.drew.setCell ⟨w1.heap.size, 0, none⟩ v).cell? ⟨w.heap.size, 1, none⟩ = some (.int .i64 a1) ∧ (W.drew.setCell ⟨w1.heap.size, 0, none⟩ v).cell? ⟨w1.heap.size + 1, 0, none⟩ = some (.bool D) ∧ True := fun v =>
      ⟨(World.cell?_setCell_other _ _ _ _ (by intro e; simp at e; try omega)).trans c1, (World.cell?_setCell_other _ _ _ _ (by intro e; simp at e)).trans cd, trivial⟩
    refine start_in (S := fun w' => w'.cell? ⟨w.heap.size, 1, none⟩ = some (.int .i64 a1) ∧ w'.cell? ⟨w1.heap.size + 1, 0, none⟩ = some (.bool D) ∧ True) (ds := [15, 16]) #[false, false, false, false, false, false, false, false, false, false, false, false, false, false, false, false, false] (by kernel_rfl) rfl rfl HSW.out (by kernel_rfl) ?_ ?_
    · rintro ⟨a', w', h'⟩
      exact h'
    cases U <;> cases D
    · skip
      refine take_ (i := 7) (N := some 34) (v := ?_) (a' := ?_) #[false, false, false, false, false, false, false, true, false, false, false, false, false, false, false, false, false] rfl rfl (by kernel_rfl) (fun _ _ _ h => h) (Or.inl ⟨by rfl, ?_⟩) HSW.out ?_ ?_
      rotate_left
      · intro w' hS_
        have hS1_ := hS_.1
        have hS2_ := hS_.2.1
        clear hS_
        go_simp
        with_reducible rfl
      rotate_left
      · simp only [Act.put, List.setIfInBounds_toArray, List.set_cons_zero, List.set_cons_succ]
        rfl
      refine one_ (i := 0) (N := some 27) #[true, false, false, false, false, false, false, true, false, false, false, false, false, false, false, false, false] rfl rfl (by kernel_rfl) (by decide) (fun K hK => ?_)
      refine value_ (v := .bool false) (w1 := W.drew) (by rfl) rfl ?_ ?_
      · go_simp
      refine hK.out _ _ HSW.out (fun _ => ?_)
      clear hK K
      refine norm_ (a' := ?_) ?_ ?_
      rotate_left
      · simp only [Act.put, List.setIfInBounds_toArray, List.set_cons_zero, List.set_cons_succ]
        rfl
      refine pure_ (i := 1) (N := some 28) (v := ?_) (a' := ?_) #[true, true, false, false, false, false, false, true, false, false, false, false, false, false, false, false, false] rfl rfl (by kernel_rfl) (fun _ _ _ h => h) (Or.inl ⟨by rfl, ?_⟩) ?_ ?_
      rotate_left
      · intro w'
        go_simp
        with_reducible rfl
      rotate_left
      · simp only [Act.put, List.setIfInBounds_toArray, List.set_cons_zero, List.set_cons_succ]
        rfl
      refine pure_ (i := 2) (N := some 29) (v := ?_) (a' := ?_) #[true, true, true, false, false, false, false, true, false, false, false, false, false, false, false, false, false] rfl rfl (by kernel_rfl) (fun _ _ _ h => h) (Or.inl ⟨by rfl, ?_⟩) ?_ ?_
      rotate_left
      · intro w'
        go_simp
        with_reducible rfl
      rotate_left
      · simp only [Act.put, List.setIfInBounds_toArray, List.set_cons_zero, List.set_cons_succ]
        rfl
      refine pure_ (i := 3) (N := some 30) (v := ?_) (a' := ?_) #[true, true, true, true, false, false, false, true, false, false, false, false, false, false, false, false, false] rfl rfl (by kernel_rfl) (fun _ _ _ h => h) (Or.inl ⟨by rfl, ?_⟩) ?_ ?_
      rotate_left
      · intro w'
        go_simp
        with_reducible rfl
      rotate_left
      · simp only [Act.put, List.setIfInBounds_toArray, List.set_cons_zero, List.set_cons_succ]
        rfl
      refine take_ (i := 4) (N := some 31) (v := ?_) (a' := ?_) #[true, true, true, true, true, false, false, true, false, false, false, false, false, false, false, false, false] rfl rfl (by kernel_rfl) (fun _ _ _ h => h) (Or.inl ⟨by rfl, ?_⟩) HSW.out ?_ ?_
      rotate_left
      · intro w' hS_
        have hS1_ := hS_.1
        have hS2_ := hS_.2.1
        clear hS_
        go_simp
        with_reducible rfl
      rotate_left
      · simp only [Act.put, List.setIfInBounds_toArray, List.set_cons_zero, List.set_cons_succ]
        rfl
      refine pure_ (i := 5) (N := some 32) (v := ?_) (a' := ?_) #[true, true, true, true, true, true, false, true, false, false, false, false, false, false, false, false, false] rfl rfl (by kernel_rfl) (fun _ _ _ h => h) (Or.inl ⟨by rfl, ?_⟩) ?_ ?_
      rotate_left
      · intro w'
        go_simp
        with_reducible rfl
      rotate_left
      · simp only [Act.put, List.setIfInBounds_toArray, List.set_cons_zero, List.set_cons_succ]
        rfl
      refine pure_ (i := 6) (N := some 33) (v := ?_) (a' := ?_) #[true, true, true, true, true, true, true, true, false, false, false, false, false, false, false, false, false] rfl rfl (by kernel_rfl) (fun _ _ _ h => h) (Or.inl ⟨by rfl, ?_⟩) ?_ ?_
      rotate_left
      · intro w'
        go_simp
        with_reducible rfl
      rotate_left
      · simp only [Act.put, List.setIfInBounds_toArray, List.set_cons_zero, List.set_cons_succ]
        rfl
      refine pure_ (i := 8) (N := some 35) (v := ?_) (a' := ?_) #[true, true, true, true, true, true, true, true, true, false, false, false, false, false, false, false, false] rfl rfl (by kernel_rfl) (fun _ _ _ h => h) (Or.inl ⟨by rfl, ?_⟩) ?_ ?_
      rotate_left
      · intro w'
        go_simp
        with_reducible rfl
      rotate_left
      · simp only [Act.put, List.setIfInBounds_toArray, List.set_cons_zero, List.set_cons_succ]
        rfl
      refine pure_ (i := 9) (N := some 36) (v := ?_) (a' := ?_) #[true, true, true, true, true, true, true, true, true, true, false, false, false, false, false, false, false] rfl rfl (by kernel_rfl) (fun _ _ _ h => h) (Or.inl ⟨by rfl, ?_⟩) ?_ ?_
      rotate_left
      · intro w'
        go_simp
        with_reducible rfl
      rotate_left
      · simp only [Act.put, List.setIfInBounds_toArray, List.set_cons_zero, List.set_cons_succ]
        rfl
      refine pure_ (i := 10) (N := some 37) (v := ?_) (a' := ?_) #[true, true, true, true, true, true, true, true, true, true, true, false, false, false, false, false, false] rfl rfl (by kernel_rfl) (fun _ _ _ h => h) (Or.inl ⟨by rfl, ?_⟩) ?_ ?_
      rotate_left
      · intro w'
        go_simp
        with_reducible rfl
      rotate_left
      · simp only [Act.put, List.setIfInBounds_toArray, List.set_cons_zero, List.set_cons_succ]
        rfl
      refine take_ (i := 11) (N := some 38) (v := ?_) (a' := ?_) #[true, true, true, true, true, true, true, true, true, true, true, true, false, false, false, false, false] rfl rfl (by kernel_rfl) (fun _ _ _ h => h) (Or.inl ⟨by rfl, ?_⟩) HSW.out ?_ ?_
      rotate_left
      · intro w' hS_
        have hS1_ := hS_.1
        have hS2_ := hS_.2.1
        clear hS_
        go_simp
        with_reducible rfl
      rotate_left
      · simp only [Act.put, List.setIfInBounds_toArray, List.set_cons_zero, List.set_cons_succ]
        rfl
      refine pure_ (i := 12) (N := some 39) (v := ?_) (a' := ?_) #[true, true, true, true, true, true, true, true, true, true, true, true, true, false, false, false, false] rfl rfl (by kernel_rfl) (fun _ _ _ h => h) (Or.inl ⟨by rfl, ?_⟩) ?_ ?_
      rotate_left
      · intro w'
        go_simp
        with_reducible rfl
      rotate_left
      · simp only [Act.put, List.setIfInBounds_toArray, List.set_cons_zero, List.set_cons_succ]
        rfl
      refine pure_ (i := 13) (N := some 40) (v := ?_) (a' := ?_) #[true, true, true, true, true, true, true, true, true, true, true, true, true, true, false, false, false] rfl rfl (by kernel_rfl) (fun _ _ _ h => h) (Or.inl ⟨by rfl, ?_⟩) ?_ ?_
      rotate_left
      · intro w'
        go_simp
        with_reducible rfl
      rotate_left
      · simp only [Act.put, List.setIfInBounds_toArray, List.set_cons_zero, List.set_cons_succ]
        rfl
      refine one_ (i := 14) (N := none) #[true, true, true, true, true, true, true, true, true, true, true, true, true, true, true, false, false] rfl rfl (by kernel_rfl) (by decide) (fun K hK => ?_)
      refine skip_ (w1 := ?_) (by rfl) rfl ?_ ?_
      rotate_left
      · go_simp
        rfl
      refine hK.out _ _ (HST _) (fun _ => ?_)
      clear hK K
      refine last_ (i := 15) (N := none) #[true, true, true, true, true, true, true, true, true, true, true, true, true, true, true, true, false] rfl rfl (by kernel_rfl) (by decide) (fun K hK => ?_)
      refine skip_ (w1 := ?_) (by rfl) rfl ?_ ?_
      rotate_left
      · go_simp
        rfl
      refine hK.out _ _ ?_
      clear hK K
      refine last_ (i := 16) (N := none) #[true, true, true, true, true, true, true, true, true, true, true, true, true, true, true, true, true] rfl rfl (by kernel_rfl) (by decide) (fun K hK => ?_)
      refine skip_ (w1 := ?_) (by rfl) rfl ?_ ?_
      rotate_left
      · go_simp
        rfl
      refine hK.out _ _ ?_
      clear hK K
      refine done_ (by kernel_rfl) ?_
      exact round_end HUX.out HDX.out HA.out HS.out HBW.out hlt HW1.out (by rw [anyUp_snoc, EU.out]; simp) (by rw [anyDown_snoc, ED.out]; simp)
    · skip
      refine take_ (i := 7) (N := some 34) (v := ?_) (a' := ?_) #[false, false, false, false, false, false, false, true, false, false, false, false, false, false, false, false, false] rfl rfl (by kernel_rfl) (fun _ _ _ h => h) (Or.inl ⟨by rfl, ?_⟩) HSW.out ?_ ?_
      rotate_left
      · intro w' hS_
        have hS1_ := hS_.1
        have hS2_ := hS_.2.1
        clear hS_
        go_simp
        with_reducible rfl
      rotate_left
      · simp only [Act.put, List.setIfInBounds_toArray, List.set_cons_zero, List.set_cons_succ]
        rfl
      refine one_ (i := 0) (N := some 27) #[true, false, false, false, false, false, false, true, false, false, false, false, false, false, false, false, false] rfl rfl (by kernel_rfl) (by decide) (fun K hK => ?_)
      refine value_ (v := .bool false) (w1 := W.drew) (by rfl) rfl ?_ ?_
      · go_simp
      refine hK.out _ _ HSW.out (fun _ => ?_)
      clear hK K
      refine norm_ (a' := ?_) ?_ ?_
      rotate_left
      · simp only [Act.put, List.setIfInBounds_toArray, List.set_cons_zero, List.set_cons_succ]
        rfl
      refine pure_ (i := 1) (N := some 28) (v := ?_) (a' := ?_) #[true, true, false, false, false, false, false, true, false, false, false, false, false, false, false, false, false] rfl rfl (by kernel_rfl) (fun _ _ _ h => h) (Or.inl ⟨by rfl, ?_⟩) ?_ ?_
      rotate_left
      · intro w'
        go_simp
        with_reducible rfl
      rotate_left
      · simp only [Act.put, List.setIfInBounds_toArray, List.set_cons_zero, List.set_cons_succ]
        rfl
      refine pure_ (i := 2) (N := some 29) (v := ?_) (a' := ?_) #[true, true, true, false, false, false, false, true, false, false, false, false, false, false, false, false, false] rfl rfl (by kernel_rfl) (fun _ _ _ h => h) (Or.inl ⟨by rfl, ?_⟩) ?_ ?_
      rotate_left
      · intro w'
        go_simp
        with_reducible rfl
      rotate_left
      · simp only [Act.put, List.setIfInBounds_toArray, List.set_cons_zero, List.set_cons_succ]
        rfl
      refine pure_ (i := 3) (N := some 30) (v := ?_) (a' := ?_) #[true, true, true, true, false, false, false, true, false, false, false, false, false, false, false, false, false] rfl rfl (by kernel_rfl) (fun _ _ _ h => h) (Or.inl ⟨by rfl, ?_⟩) ?_ ?_
      rotate_left
      · intro w'
        go_simp
        with_reducible rfl
      rotate_left
      · simp only [Act.put, List.setIfInBounds_toArray, List.set_cons_zero, List.set_cons_succ]
        rfl
      refine take_ (i := 4) (N := some 31) (v := ?_) (a' := ?_) #[true, true, true, true, true, false, false, true, false, false, false, false, false, false, false, false, false] rfl rfl (by kernel_rfl) (fun _ _ _ h => h) (Or.inl ⟨by rfl, ?_⟩) HSW.out ?_ ?_
      rotate_left
      · intro w' hS_
        have hS1_ := hS_.1
        have hS2_ := hS_.2.1
        clear hS_
        go_simp
        with_reducible rfl
      rotate_left
      · simp only [Act.put, List.setIfInBounds_toArray, List.set_cons_zero, List.set_cons_succ]
        rfl
      refine pure_ (i := 5) (N := some 32) (v := ?_) (a' := ?_) #[true, true, true, true, true, true, false, true, false, false, false, false, false, false, false, false, false] rfl rfl (by kernel_rfl) (fun _ _ _ h => h) (Or.inl ⟨by rfl, ?_⟩) ?_ ?_
      rotate_left
      · intro w'
        go_simp
        with_reducible rfl
      rotate_left
      · simp only [Act.put, List.setIfInBounds_toArray, List.set_cons_zero, List.set_cons_succ]
        rfl
      refine pure_ (i := 6) (N := some 33) (v := ?_) (a' := ?_) #[true, true, true, true, true, true, true, true, false, false, false, false, false, false, false, false, false] rfl rfl (by kernel_rfl) (fun _ _ _ h => h) (Or.inl ⟨by rfl, ?_⟩) ?_ ?_
      rotate_left
      · intro w'
        go_simp
        with_reducible rfl
      rotate_left
      · simp only [Act.put, List.setIfInBounds_toArray, List.set_cons_zero, List.set_cons_succ]
        rfl
      refine pure_ (i := 8) (N := some 35) (v := ?_) (a' := ?_) #[true, true, true, true, true, true, true, true, true, false, false, false, false, false, false, false, false] rfl rfl (by kernel_rfl) (fun _ _ _ h => h) (Or.inl ⟨by rfl, ?_⟩) ?_ ?_
      rotate_left
      · intro w'
        go_simp
        with_reducible rfl
      rotate_left
      · simp only [Act.put, List.setIfInBounds_toArray, List.set_cons_zero, List.set_cons_succ]
        rfl
      refine pure_ (i := 9) (N := some 36) (v := undef) (a' := ?_) #[true, true, true, true, true, true, true, true, true, true, false, false, false, false, false, false, false] rfl rfl (by kernel_rfl) (fun _ _ _ h => h) (Or.inr ⟨by rfl, rfl⟩) ?_ ?_
      rotate_left
      · simp only [Act.put, List.setIfInBounds_toArray, List.set_cons_zero, List.set_cons_succ]
        rfl
      refine pure_ (i := 10) (N := some 37) (v := undef) (a' := ?_) #[true, true, true, true, true, true, true, true, true, true, true, false, false, false, false, false, false] rfl rfl (by kernel_rfl) (fun _ _ _ h => h) (Or.inr ⟨by rfl, rfl⟩) ?_ ?_
      rotate_left
      · simp only [Act.put, List.setIfInBounds_toArray, List.set_cons_zero, List.set_cons_succ]
        rfl
      refine pure_ (i := 11) (N := some 38) (v := undef) (a' := ?_) #[true, true, true, true, true, true, true, true, true, true, true, true, false, false, false, false, false] rfl rfl (by kernel_rfl) (fun _ _ _ h => h) (Or.inr ⟨by rfl, rfl⟩) ?_ ?_
      rotate_left
      · simp only [Act.put, List.setIfInBounds_toArray, List.set_cons_zero, List.set_cons_succ]
        rfl
      refine pure_ (i := 12) (N := some 39) (v := undef) (a' := ?_) #[true, true, true, true, true, true, true, true, true, true, true, true, true, false, false, false, false] rfl rfl (by kernel_rfl) (fun _ _ _ h => h) (Or.inr ⟨by rfl, rfl⟩) ?_ ?_
      rotate_left
      · simp only [Act.put, List.setIfInBounds_toArray, List.set_cons_zero, List.set_cons_succ]
        rfl
      refine pure_ (i := 13) (N := some 40) (v := ?_) (a' := ?_) #[true, true, true, true, true, true, true, true, true, true, true, true, true, true, false, false, false] rfl rfl (by kernel_rfl) (fun _ _ _ h => h) (Or.inl ⟨by rfl, ?_⟩) ?_ ?_
      rotate_left
      · intro w'
        go_simp
        with_reducible rfl
      rotate_left
      · simp only [Act.put, List.setIfInBounds_toArray, List.set_cons_zero, List.set_cons_succ]
        rfl
      refine one_ (i := 14) (N := none) #[true, true, true, true, true, true, true, true, true, true, true, true, true, true, true, false, false] rfl rfl (by kernel_rfl) (by decide) (fun K hK => ?_)
      refine skip_ (w1 := ?_) (by rfl) rfl ?_ ?_
      rotate_left
      · go_simp
        rfl
      refine hK.out _ _ (HST _) (fun _ => ?_)
      clear hK K
      refine last_ (i := 15) (N := none) #[true, true, true, true, true, true, true, true, true, true, true, true, true, true, true, true, false] rfl rfl (by kernel_rfl) (by decide) (fun K hK => ?_)
      refine skip_ (w1 := ?_) (by rfl) rfl ?_ ?_
      rotate_left
      · go_simp
        rfl
      refine hK.out _ _ ?_
      clear hK K
      refine last_ (i := 16) (N := none) #[true, true, true, true, true, true, true, true, true, true, true, true, true, true, true, true, true] rfl rfl (by kernel_rfl) (by decide) (fun K hK => ?_)
      refine skip_ (w1 := ?_) (by rfl) rfl ?_ ?_
      rotate_left
      · go_simp
        rfl
      refine hK.out _ _ ?_
      clear hK K
      refine done_ (by kernel_rfl) ?_
      exact round_end HUX.out HDX.out HA.out HS.out HBW.out hlt HW1.out (by rw [anyUp_snoc, EU.out]; simp) (by rw [anyDown_snoc, ED.out]; simp)
    · skip
      refine take_ (i := 7) (N := some 34) (v := ?_) (a' := ?_) #[false, false, false, false, false, false, false, true, false, false, false, false, false, false, false, false, false] rfl rfl (by kernel_rfl) (fun _ _ _ h => h) (Or.inl ⟨by rfl, ?_⟩) HSW.out ?_ ?_
      rotate_left
      · intro w' hS_
        have hS1_ := hS_.1
        have hS2_ := hS_.2.1
        clear hS_
        go_simp
        with_reducible rfl
      rotate_left
      · simp only [Act.put, List.setIfInBounds_toArray, List.set_cons_zero, List.set_cons_succ]
        rfl
      refine one_ (i := 0) (N := some 27) #[true, false, false, false, false, false, false, true, false, false, false, false, false, false, false, false, false] rfl rfl (by kernel_rfl) (by decide) (fun K hK => ?_)
      refine value_ (v := .bool true) (w1 := W.drew) (by rfl) rfl ?_ ?_
      · go_simp
      refine hK.out _ _ HSW.out (fun _ => ?_)
      clear hK K
      refine norm_ (a' := ?_) ?_ ?_
      rotate_left
      · simp only [Act.put, List.setIfInBounds_toArray, List.set_cons_zero, List.set_cons_succ]
        rfl
      refine pure_ (i := 1) (N := some 28) (v := ?_) (a' := ?_) #[true, true, false, false, false, false, false, true, false, false, false, false, false, false, false, false, false] rfl rfl (by kernel_rfl) (fun _ _ _ h => h) (Or.inl ⟨by rfl, ?_⟩) ?_ ?_
      rotate_left
      · intro w'
        go_simp
        with_reducible rfl
      rotate_left
      · simp only [Act.put, List.setIfInBounds_toArray, List.set_cons_zero, List.set_cons_succ]
        rfl
      refine pure_ (i := 2) (N := some 29) (v := undef) (a' := ?_) #[true, true, true, false, false, false, false, true, false, false, false, false, false, false, false, false, false] rfl rfl (by kernel_rfl) (fun _ _ _ h => h) (Or.inr ⟨by rfl, rfl⟩) ?_ ?_
      rotate_left
      · simp only [Act.put, List.setIfInBounds_toArray, List.set_cons_zero, List.set_cons_succ]
        rfl
      refine pure_ (i := 3) (N := some 30) (v := undef) (a' := ?_) #[true, true, true, true, false, false, false, true, false, false, false, false, false, false, false, false, false] rfl rfl (by kernel_rfl) (fun _ _ _ h => h) (Or.inr ⟨by rfl, rfl⟩) ?_ ?_
      rotate_left
      · simp only [Act.put, List.setIfInBounds_toArray, List.set_cons_zero, List.set_cons_succ]
        rfl
      refine pure_ (i := 4) (N := some 31) (v := undef) (a' := ?_) #[true, true, true, true, true, false, false, true, false, false, false, false, false, false, false, false, false] rfl rfl (by kernel_rfl) (fun _ _ _ h => h) (Or.inr ⟨by rfl, rfl⟩) ?_ ?_
      rotate_left
      · simp only [Act.put, List.setIfInBounds_toArray, List.set_cons_zero, List.set_cons_succ]
        rfl
      refine pure_ (i := 5) (N := some 32) (v := undef) (a' := ?_) #[true, true, true, true, true, true, false, true, false, false, false, false, false, false, false, false, false] rfl rfl (by kernel_rfl) (fun _ _ _ h => h) (Or.inr ⟨by rfl, rfl⟩) ?_ ?_
      rotate_left
      · simp only [Act.put, List.setIfInBounds_toArray, List.set_cons_zero, List.set_cons_succ]
        rfl
      refine pure_ (i := 6) (N := some 33) (v := ?_) (a' := ?_) #[true, true, true, true, true, true, true, true, false, false, false, false, false, false, false, false, false] rfl rfl (by kernel_rfl) (fun _ _ _ h => h) (Or.inl ⟨by rfl, ?_⟩) ?_ ?_
      rotate_left
      · intro w'
        go_simp
        with_reducible rfl
      rotate_left
      · simp only [Act.put, List.setIfInBounds_toArray, List.set_cons_zero, List.set_cons_succ]
        rfl
      refine pure_ (i := 8) (N := some 35) (v := ?_) (a' := ?_) #[true, true, true, true, true, true, true, true, true, false, false, false, false, false, false, false, false] rfl rfl (by kernel_rfl) (fun _ _ _ h => h) (Or.inl ⟨by rfl, ?_⟩) ?_ ?_
      rotate_left
      · intro w'
        go_simp
        with_reducible rfl
      rotate_left
      · simp only [Act.put, List.setIfInBounds_toArray, List.set_cons_zero, List.set_cons_succ]
        rfl
      refine pure_ (i := 9) (N := some 36) (v := ?_) (a' := ?_) #[true, true, true, true, true, true, true, true, true, true, false, false, false, false, false, false, false] rfl rfl (by kernel_rfl) (fun _ _ _ h => h) (Or.inl ⟨by rfl, ?_⟩) ?_ ?_
      rotate_left
      · intro w'
        go_simp
        with_reducible rfl
      rotate_left
      · simp only [Act.put, List.setIfInBounds_toArray, List.set_cons_zero, List.set_cons_succ]
        rfl
      refine pure_ (i := 10) (N := some 37) (v := ?_) (a' := ?_) #[true, true, true, true, true, true, true, true, true, true, true, false, false, false, false, false, false] rfl rfl (by kernel_rfl) (fun _ _ _ h => h) (Or.inl ⟨by rfl, ?_⟩) ?_ ?_
      rotate_left
      · intro w'
        go_simp
        with_reducible rfl
      rotate_left
      · simp only [Act.put, List.setIfInBounds_toArray, List.set_cons_zero, List.set_cons_succ]
        rfl
      refine take_ (i := 11) (N := some 38) (v := ?_) (a' := ?_) #[true, true, true, true, true, true, true, true, true, true, true, true, false, false, false, false, false] rfl rfl (by kernel_rfl) (fun _ _ _ h => h) (Or.inl ⟨by rfl, ?_⟩) HSW.out ?_ ?_
      rotate_left
      · intro w' hS_
        have hS1_ := hS_.1
        have hS2_ := hS_.2.1
        clear hS_
        go_simp
        with_reducible rfl
      rotate_left
      · simp only [Act.put, List.setIfInBounds_toArray, List.set_cons_zero, List.set_cons_succ]
        rfl
      refine pure_ (i := 12) (N := some 39) (v := ?_) (a' := ?_) #[true, true, true, true, true, true, true, true, true, true, true, true, true, false, false, false, false] rfl rfl (by kernel_rfl) (fun _ _ _ h => h) (Or.inl ⟨by rfl, ?_⟩) ?_ ?_
      rotate_left
      · intro w'
        go_simp
        with_reducible rfl
      rotate_left
      · simp only [Act.put, List.setIfInBounds_toArray, List.set_cons_zero, List.set_cons_succ]
        rfl
      refine pure_ (i := 13) (N := some 40) (v := ?_) (a' := ?_) #[true, true, true, true, true, true, true, true, true, true, true, true, true, true, false, false, false] rfl rfl (by kernel_rfl) (fun _ _ _ h => h) (Or.inl ⟨by rfl, ?_⟩) ?_ ?_
      rotate_left
      · intro w'
        go_simp
        with_reducible rfl
      rotate_left
      · simp only [Act.put, List.setIfInBounds_toArray, List.set_cons_zero, List.set_cons_succ]
        rfl
      refine one_ (i := 14) (N := none) #[true, true, true, true, true, true, true, true, true, true, true, true, true, true, true, false, false] rfl rfl (by kernel_rfl) (by decide) (fun K hK => ?_)
      refine skip_ (w1 := ?_) (by rfl) rfl ?_ ?_
      rotate_left
      · go_simp
        rfl
      refine hK.out _ _ (HST _) (fun _ => ?_)
      clear hK K
      refine last_ (i := 15) (N := none) #[true, true, true, true, true, true, true, true, true, true, true, true, true, true, true, true, false] rfl rfl (by kernel_rfl) (by decide) (fun K hK => ?_)
      refine skip_ (w1 := ?_) (by rfl) rfl ?_ ?_
      rotate_left
      · go_simp
        rfl
      refine hK.out _ _ ?_
      clear hK K
      refine last_ (i := 16) (N := none) #[true, true, true, true, true, true, true, true, true, true, true, true, true, true, true, true, true] rfl rfl (by kernel_rfl) (by decide) (fun K hK => ?_)
      refine skip_ (w1 := ?_) (by rfl) rfl ?_ ?_
      rotate_left
      · go_simp
        rfl
      refine hK.out _ _ ?_
      clear hK K
      refine done_ (by kernel_rfl) ?_
      exact round_end HUX.out HDX.out HA.out HS.out HBW.out hlt HW1.out (by rw [anyUp_snoc, EU.out]; simp) (by rw [anyDown_snoc, ED.out]; simp)
    · skip
      refine take_ (i := 7) (N := some 34) (v := ?_) (a' := ?_) #[false, false, false, false, false, false, false, true, false, false, false, false, false, false, false, false, false] rfl rfl (by kernel_rfl) (fun _ _ _ h => h) (Or.inl ⟨by rfl, ?_⟩) HSW.out ?_ ?_
      rotate_left
      · intro w' hS_
        have hS1_ := hS_.1
        have hS2_ := hS_.2.1
        clear hS_
        go_simp
        with_reducible rfl
      rotate_left
      · simp only [Act.put, List.setIfInBounds_toArray, List.set_cons_zero, List.set_cons_succ]
        rfl
      refine one_ (i := 0) (N := some 27) #[true, false, false, false, false, false, false, true, false, false, false, false, false, false, false, false, false] rfl rfl (by kernel_rfl) (by decide) (fun K hK => ?_)
      refine value_ (v := .bool true) (w1 := W.drew) (by rfl) rfl ?_ ?_
      · go_simp
      refine hK.out _ _ HSW.out (fun _ => ?_)
      clear hK K
      refine norm_ (a' := ?_) ?_ ?_
      rotate_left
      · simp only [Act.put, List.setIfInBounds_toArray, List.set_cons_zero, List.set_cons_succ]
        rfl
      refine pure_ (i := 1) (N := some 28) (v := ?_) (a' := ?_) #[true, true, false, false, false, false, false, true, false, false, false, false, false, false, false, false, false] rfl rfl (by kernel_rfl) (fun _ _ _ h => h) (Or.inl ⟨by rfl, ?_⟩) ?_ ?_
      rotate_left
      · intro w'
        go_simp
        with_reducible rfl
      rotate_left
      · simp only [Act.put, List.setIfInBounds_toArray, List.set_cons_zero, List.set_cons_succ]
        rfl
      refine pure_ (i := 2) (N := some 29) (v := undef) (a' := ?_) #[true, true, true, false, false, false, false, true, false, false, false, false, false, false, false, false, false] rfl rfl (by kernel_rfl) (fun _ _ _ h => h) (Or.inr ⟨by rfl, rfl⟩) ?_ ?_
      rotate_left
      · simp only [Act.put, List.setIfInBounds_toArray, List.set_cons_zero, List.set_cons_succ]
        rfl
      refine pure_ (i := 3) (N := some 30) (v := undef) (a' := ?_) #[true, true, true, true, false, false, false, true, false, false, false, false, false, false, false, false, false] rfl rfl (by kernel_rfl) (fun _ _ _ h => h) (Or.inr ⟨by rfl, rfl⟩) ?_ ?_
      rotate_left
      · simp only [Act.put, List.setIfInBounds_toArray, List.set_cons_zero, List.set_cons_succ]
        rfl
      refine pure_ (i := 4) (N := some 31) (v := undef) (a' := ?_) #[true, true, true, true, true, false, false, true, false, false, false, false, false, false, false, false, false] rfl rfl (by kernel_rfl) (fun _ _ _ h => h) (Or.inr ⟨by rfl, rfl⟩) ?_ ?_
      rotate_left
      · simp only [Act.put, List.setIfInBounds_toArray, List.set_cons_zero, List.set_cons_succ]
        rfl
      refine pure_ (i := 5) (N := some 32) (v := undef) (a' := ?_) #[true, true, true, true, true, true, false, true, false, false, false, false, false, false, false, false, false] rfl rfl (by kernel_rfl) (fun _ _ _ h => h) (Or.inr ⟨by rfl, rfl⟩) ?_ ?_
      rotate_left
      · simp only [Act.put, List.setIfInBounds_toArray, List.set_cons_zero, List.set_cons_succ]
        rfl
      refine pure_ (i := 6) (N := some 33) (v := ?_) (a' := ?_) #[true, true, true, true, true, true, true, true, false, false, false, false, false, false, false, false, false] rfl rfl (by kernel_rfl) (fun _ _ _ h => h) (Or.inl ⟨by rfl, ?_⟩) ?_ ?_
      rotate_left
      · intro w'
        go_simp
        with_reducible rfl
      rotate_left
      · simp only [Act.put, List.setIfInBounds_toArray, List.set_cons_zero, List.set_cons_succ]
        rfl
      refine pure_ (i := 8) (N := some 35) (v := ?_) (a' := ?_) #[true, true, true, true, true, true, true, true, true, false, false, false, false, false, false, false, false] rfl rfl (by kernel_rfl) (fun _ _ _ h => h) (Or.inl ⟨by rfl, ?_⟩) ?_ ?_
      rotate_left
      · intro w'
        go_simp
        with_reducible rfl
      rotate_left
      · simp only [Act.put, List.setIfInBounds_toArray, List.set_cons_zero, List.set_cons_succ]
        rfl
      refine pure_ (i := 9) (N := some 36) (v := undef) (a' := ?_) #[true, true, true, true, true, true, true, true, true, true, false, false, false, false, false, false, false] rfl rfl (by kernel_rfl) (fun _ _ _ h => h) (Or.inr ⟨by rfl, rfl⟩) ?_ ?_
      rotate_left
      · simp only [Act.put, List.setIfInBounds_toArray, List.set_cons_zero, List.set_cons_succ]
        rfl
      refine pure_ (i := 10) (N := some 37) (v := undef) (a' := ?_) #[true, true, true, true, true, true, true, true, true, true, true, false, false, false, false, false, false] rfl rfl (by kernel_rfl) (fun _ _ _ h => h) (Or.inr ⟨by rfl, rfl⟩) ?_ ?_
      rotate_left
      · simp only [Act.put, List.setIfInBounds_toArray, List.set_cons_zero, List.set_cons_succ]
        rfl
      refine pure_ (i := 11) (N := some 38) (v := undef) (a' := ?_) #[true, true, true, true, true, true, true, true, true, true, true, true, false, false, false, false, false] rfl rfl (by kernel_rfl) (fun _ _ _ h => h) (Or.inr ⟨by rfl, rfl⟩) ?_ ?_
      rotate_left
      · simp only [Act.put, List.setIfInBounds_toArray, List.set_cons_zero, List.set_cons_succ]
        rfl
      refine pure_ (i := 12) (N := some 39) (v := undef) (a' := ?_) #[true, true, true, true, true, true, true, true, true, true, true, true, true, false, false, false, false] rfl rfl (by kernel_rfl) (fun _ _ _ h => h) (Or.inr ⟨by rfl, rfl⟩) ?_ ?_
      rotate_left
      · simp only [Act.put, List.setIfInBounds_toArray, List.set_cons_zero, List.set_cons_succ]
        rfl
      refine pure_ (i := 13) (N := some 40) (v := ?_) (a' := ?_) #[true, true, true, true, true, true, true, true, true, true, true, true, true, true, false, false, false] rfl rfl (by kernel_rfl) (fun _ _ _ h => h) (Or.inl ⟨by rfl, ?_⟩) ?_ ?_
      rotate_left
      · intro w'
        go_simp
        with_reducible rfl
      rotate_left
      · simp only [Act.put, List.setIfInBounds_toArray, List.set_cons_zero, List.set_cons_succ]
        rfl
      refine one_ (i := 14) (N := none) #[true, true, true, true, true, true, true, true, true, true, true, true, true, true, true, false, false] rfl rfl (by kernel_rfl) (by decide) (fun K hK => ?_)
      refine skip_ (w1 := ?_) (by rfl) rfl ?_ ?_
      rotate_left
      · go_simp
        rfl
      refine hK.out _ _ (HST _) (fun _ => ?_)
      clear hK K
      refine last_ (i := 15) (N := none) #[true, true, true, true, true, true, true, true, true, true, true, true, true, true, true, true, false] rfl rfl (by kernel_rfl) (by decide) (fun K hK => ?_)
      refine skip_ (w1 := ?_) (by rfl) rfl ?_ ?_
      rotate_left
      · go_simp
        rfl
      refine hK.out _ _ ?_
      clear hK K
      refine last_ (i := 16) (N := none) #[true, true, true, true, true, true, true, true, true, true, true, true, true, true, true, true, true] rfl rfl (by kernel_rfl) (by decide) (fun K hK => ?_)
      refine skip_ (w1 := ?_) (by rfl) rfl ?_ ?_
      rotate_left
      · go_simp
        rfl
      refine hK.out _ _ ?_
      clear hK K
      refine done_ (by kernel_rfl) ?_
      exact round_end HUX.out HDX.out HA.out HS.out HBW.out hlt HW1.out (by rw [anyUp_snoc, EU.out]; simp) (by rw [anyDown_snoc, ED.out]; simp)
  case stop =>
    rintro D c pre W hD _ h _
    exact h.elim
  case done =>
    rename_i K0 hK0
    rintro D ys W hD rfl ⟨⟨hu, hd, ha, hs⟩, hB⟩ hK
    have hDw : w.heap.size ≤ D := by
      have := HB1.out.size
      simp at hD
      omega
    show K0 _ W
    refine hK0 _ _ ?_
    refine wpIn_wide.2 ?_
    have ec : cat [(A5, c5, l5), (A6, c6, l6), (A7, c7, l7)] 3 = l5 ++ l6 ++ l7 := by simp [cat]
    rw [ec] at hu hd ha
    by_cases he : l5 ++ l6 ++ l7 = []
    · have hn : nextB a1 a2 a3 a4 l5 l6 l7 = (0, 0, 0) := by unfold nextB; rw [if_pos he]
      have hr := HRR.out (W.putObj D (.deferred none)) (hB.grown (grownBy_putObj' _ _ _) hB.size (fun k e => by have := Option.some.inj e; omega))
      rw [hn] at hr
      rw [he] at ha
      exact tail_none R W w.heap.size w1.heap.size D _ _ _ _ _ rfl ha hK hr
    · have hn : nextB a1 a2 a3 a4 l5 l6 l7 = nextD a1 (dirB a1 a2 (anyUp a1 (l5 ++ l6 ++ l7)) l6) (anyUp a1 (l5 ++ l6 ++ l7)) (anyDown a1 (l5 ++ l6 ++ l7)) a3 a4 l5 l6 l7 := by unfold nextB; rw [if_neg he]
      have hr := HRR.out
      rw [hn] at hr
      have et : (!(l5 ++ l6 ++ l7).isEmpty) = true := by
        cases h : (l5 ++ l6 ++ l7) with
        | nil => exact absurd h he
        | cons x l => rfl
      rw [et] at ha
      exact tail_some R 0 w W w.heap.size w1.heap.size D _ _ _ _ _ rfl _ _ hu hd ha a0 a1 a2 a3 a4 A5 c5 l5 A6 c6 l6 A7 c7 l7 hs (Kd.C_below R5.out hB) K5.out M5.out (Kd.C_below R6.out hB) K6.out M6.out (Kd.C_below R7.out hB) K7.out M7.out HA2.out hK hDw hB hr
set_option maxRecDepth 100000 in
set_option maxHeartbeats 2000000 in
theorem next_bad (k : Nat) (a0 a1 a2 : Int) (a3 a4 : Bool) (A5 : Option Addr) (c5 : Nat) (l5 : List Int) (A6 : Option Addr) (c6 : Nat) (l6 : List Int) (A7 : Option Addr) (c7 : Nat) (l7 : List Int) (w : World) (e : Int)
    (r5 : Kd.C (Kd.int .i64) w A5 l5.length l5) (k5 : l5.length ≤ c5) (r6 : Kd.C (Kd.int .i64) w A6 l6.length l6) (k6 : l6.length ≤ c6) (r7 : Kd.C (Kd.int .i64) w A7 l7.length l7) (k7 : l7.length ≤ c7)
    (hk : collect_Check.f k a0 a1 a2 a3 a4 l5 l6 l7 = some e) (he : e ≠ 0) :
    Calls Try.prog 11 #[.agg #[.int .i64 a0, .int .i64 a1, .int .i64 a2, .bool a3, .bool a4, .slice A5 l5.length c5, .slice A6 l6.length c6, .slice A7 l7.length c7]] w fun en w' => en = .returned (.tuple #[.int .i64 0, .int .i64 0, .int .i64 e]) ∧ Below w.heap.size w w' := by
  have V5 := Aside0.mk (fun o => v_of_C (w := w.alloc o) (Kd.C_alloc r5 o) k5)
  have V6 := Aside0.mk (fun o => v_of_C (w := w.alloc o) (Kd.C_alloc r6 o) k6)
  have V7 := Aside0.mk (fun o => v_of_C (w := w.alloc o) (Kd.C_alloc r7 o) k7)
  have HK := Aside0.mk hk
  have hne : (e != 0) = true := by simpa using he
  clear r5 r6 r7 k5 k6 k7 hk he
  go_enter Try.func11, Try.ntmps11
  go_wp2_with fail
  refine (collect_Check.calls k a0 a1 a2 a3 a4 _ A5 c5 l5 _ A6 c6 l6 _ A7 c7 l7 e _ (V5.out _) (V6.out _) (V7.out _) HK.out).mono ?_
  rintro en w1 ⟨rfl, hb1⟩
  have HB1 : Aside0 (Below w.heap.size w w1) := ⟨below_step (below_alloc (Below.refl _ _) _) hb1⟩
  clear hb1
  go_wp2
  go_ret3
  exact ⟨rfl, HB1.out⟩
def collect_Next.f (k : Nat) (a0 a1 a2 : Int) (a3 a4 : Bool) (l5 l6 l7 : List Int) : Option (Int × Int × Int) :=
  (collect_Check.f k a0 a1 a2 a3 a4 l5 l6 l7).bind fun e => if e = 0 then (if l5.length ≤ 140737488351232 ∧ l6.length ≤ 140737488351232 ∧ l7.length ≤ 140737488351232 then some (nextB a1 a2 a3 a4 l5 l6 l7) else none) else some (0, 0, e)
theorem collect_Next.mono : ∀ a0 a1 a2 a3 a4 a5 a6 a7 k, LeO (collect_Next.f k a0 a1 a2 a3 a4 a5 a6 a7) (collect_Next.f (k + 1) a0 a1 a2 a3 a4 a5 a6 a7) := by
  intro a0 a1 a2 a3 a4 a5 a6 a7 k
  unfold collect_Next.f
  exact LeO.bind (collect_Check.mono _ _ _ _ _ _ _ _ _) (fun _ => LeO.refl _)
theorem collect_Next.calls (k : Nat) (a0_0 : Int) (a0_1 : Int) (a0_2 : Int) (a0_3 : Bool) (a0_4 : Bool) (A0_5 : Option Addr) (c0_5 : Nat) (l0_5 : List Int) (A0_6 : Option Addr) (c0_6 : Nat) (l0_6 : List Int) (A0_7 : Option Addr) (c0_7 : Nat) (l0_7 : List Int) (r1 r2 r3 : Int) (w : World) (hr0_5 : Kd.C (Kd.int .i64) w A0_5 l0_5.length l0_5) (hc0_5 : l0_5.length ≤ c0_5) (hr0_6 : Kd.C (Kd.int .i64) w A0_6 l0_6.length l0_6) (hc0_6 : l0_6.length ≤ c0_6) (hr0_7 : Kd.C (Kd.int .i64) w A0_7 l0_7.length l0_7) (hc0_7 : l0_7.length ≤ c0_7) (h : collect_Next.f k a0_0 a0_1 a0_2 a0_3 a0_4 l0_5 l0_6 l0_7 = some (r1, r2, r3)) :
  Calls Try.prog 11 #[.agg #[.int .i64 a0_0, .int .i64 a0_1, .int .i64 a0_2, .bool a0_3, .bool a0_4, .slice A0_5 l0_5.length c0_5, .slice A0_6 l0_6.length c0_6, .slice A0_7 l0_7.length c0_7]] w fun e w' => e = .returned (.tuple #[.int .i64 r1, .int .i64 r2, .int .i64 r3]) ∧ Below w.heap.size w w' := by
  unfold collect_Next.f at h
  obtain ⟨e, he, h⟩ := Option.bind_eq_some_iff.mp h
  split at h
  · rename_i h0
    subst h0
    split at h
    · rename_i hl
      have hr := Option.some.inj h
      refine callsIn_wide.1 (next_wide k a0_0 a0_1 a0_2 a0_3 a0_4 A0_5 c0_5 l0_5 A0_6 c0_6 l0_6 A0_7 c0_7 l0_7 w hr0_5 hc0_5 hl.1 hr0_6 hc0_6 hl.2.1 hr0_7 hc0_7 hl.2.2 he _ ?_)
      intro W' hb
      rw [hr]
      exact ⟨rfl, hb⟩
    · cases h
  · rename_i h0
    have hr := Option.some.inj h
    obtain ⟨rfl, rfl, rfl⟩ : 0 = r1 ∧ 0 = r2 ∧ e = r3 := by simpa using hr
    exact next_bad k a0_0 a0_1 a0_2 a0_3 a0_4 A0_5 c0_5 l0_5 A0_6 c0_6 l0_6 A0_7 c0_7 l0_7 w e hr0_5 hc0_5 hr0_6 hc0_6 hr0_7 hc0_7 he h0
end Go.Proofs.Ytlfgdcgjndjdgaa.C
