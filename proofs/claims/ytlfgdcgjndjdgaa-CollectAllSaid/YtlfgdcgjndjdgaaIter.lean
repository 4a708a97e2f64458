/- The iterator of the package collect, walked by hand: all floors that are called, row by row: what a loop over it may lean on. -/
import Derived.RangeFuncNested
import Derived.RangeFuncFrom
import Derived.RangeFuncBound
import Derived.RangeFuncCalls
import Derived.RangeFuncLeaves
import Derived.Shelf.Abstract
import Derived.WalkKit
import Derived.OwnWalkIn
import Derived.TacticsInMore
import Derived.LoopNIn
import Derived.LoopIn
import Derived.Test.YtlfgdcgjndjdgaaCx0
namespace Go.Proofs.Ytlfgdcgjndjdgaa.Iter
open Go.RowKit Go.Shelf Go.Proofs.YtlfgdcgjndjdgaaW.PrintWords
set_option linter.unusedVariables false
attribute [local go_sem] Oper.semAt_some
/-- What a round that goes on keeps: whatever is cells, but the blocks from b0 on, below b1. -/
def Kp (b0 b1 : Nat) (W W' : World) : Prop := ∀ b o, (b < b0 ∨ b1 ≤ b) → W.heap[b]? = some o → o.isCells = true → W'.heap[b]? = some o
theorem Kp.refl (b0 b1 : Nat) (W : World) : Kp b0 b1 W W := fun _ _ _ h _ => h
theorem Kp.trans {b0 b1 : Nat} {A B C : World} (h : Kp b0 b1 A B) (k : Kp b0 b1 B C) : Kp b0 b1 A C := fun b o hb ho hc => k b o hb (h b o hb ho hc) hc
theorem Kp.blk {b0 b1 : Nat} {W W' : World} (h : Kp b0 b1 W W') {b : Nat} {t : TypeId} {cs : Array Value} (hb : b < b0 ∨ b1 ≤ b) (ho : W.heap[b]? = some (.cells cs t (0, 0))) : W'.heap[b]? = some (.cells cs t (0, 0)) := h b _ hb ho rfl
theorem Kp.cell {b0 b1 : Nat} {W W' : World} (h : Kp b0 b1 W W') {p : Addr} {v : Value} (hb : p.block < b0 ∨ b1 ≤ p.block) (hc : W.cell? p = some v) : W'.cell? p = some v := by
  obtain ⟨o, ho, hi⟩ := cells_of_cell hc
  have := h p.block o hb ho hi
  rw [World.cell?_of_block (w := W) (w' := W') (by rw [this, ho])]
  exact hc
/-- A row that is read, in blocks below b0. -/
def RowAt (b0 : Nat) (W : World) (A : Option Addr) (xs : List Int) : Prop :=
  xs.length ≤ 140737488351232 ∧ (0 < xs.length → ∃ ad, A = some ad ∧ ad.block < b0 ∧ ∀ j, j < xs.length → W.cell? (ad.add j) = some (.int .i64 (xs[j]?.getD 0)))
theorem RowAt.kp {b0 b1 : Nat} {W W' : World} {A : Option Addr} {xs : List Int} (h : RowAt b0 W A xs) (k : Kp b0 b1 W W') : RowAt b0 W' A xs :=
  ⟨h.1, fun hp => by
    obtain ⟨ad, e, hb, hc⟩ := h.2 hp
    exact ⟨ad, e, hb, fun j hj => k.cell (.inl (by unfold Addr.add; split <;> exact hb)) (hc j hj)⟩⟩
theorem RowAt.below {b0 : Nat} {W W' : World} {A : Option Addr} {xs : List Int} {n : Nat} (h : RowAt b0 W A xs) (k : Below n W W') (hn : b0 ≤ n) : RowAt b0 W' A xs :=
  ⟨h.1, fun hp => by
    obtain ⟨ad, e, hb, hc⟩ := h.2 hp
    exact ⟨ad, e, hb, fun j hj => (k.cell (by unfold Addr.add; split <;> (show ad.block < n; omega))).trans (hc j hj)⟩⟩
def rowV (r : Option Addr × Nat × List Int) : Value := .slice r.1 r.2.2.length r.2.1
/-- What has come when k rows are over. -/
def cat (rows : List (Option Addr × Nat × List Int)) (k : Nat) : List Int := (rows.take k).flatMap (·.2.2)
theorem cat_succ (rows : List (Option Addr × Nat × List Int)) (k : Nat) (r : Option Addr × Nat × List Int) (h : rows[k]? = some r) : cat rows (k + 1) = cat rows k ++ r.2.2 := by
  unfold cat
  obtain ⟨hk, rfl⟩ := List.getElem?_eq_some_iff.1 h
  rw [List.take_succ_eq_append_getElem hk, List.flatMap_append]
  simp
set_option maxRecDepth 100000 in
set_option maxHeartbeats 4000000 in
theorem called1_in (F : Fence) (n : Nat) (h34 : F.fn 34) (hro : F.round = none) (hn : 1 ≤ n) (l Bn b0 b1 : Nat) (rows : List (Option Addr × Nat × List Int)) (r0 r1 r2 : Option Addr × Nat × List Int) (hrows : rows = [r0, r1, r2]) (J Jx : List Int → World → Prop)
    (hY : ∀ pre x W, J pre W → pre.length < (cat rows 3).length → YieldAt F (n - 1) Try.prog l #[.int .i64 x] W fun e W' =>
      (e = .returned (.bool true) ∧ J (pre ++ [x]) W' ∧ Kp b0 b1 W W') ∨ (e = .returned (.bool false) ∧ Jx (pre ++ [x]) W'))
    (W : World) (hBn : W.heap[Bn]? = some (.cells #[rowV r0, rowV r1, rowV r2] 24 (0, 0))) (hb1 : b1 ≤ W.heap.size) (hr : ∀ r ∈ rows, RowAt b0 W r.1 r.2.2) (hb0 : b0 ≤ W.heap.size) (hJ : AbidesFrom W.heap.size J) (h0 : J [] W) :
    CallsIn F n Try.prog 34 #[.func (.yield l) #[] #[], .pointer (some ⟨Bn, 0, none⟩)] W fun e W' => (∃ v, e = .returned v) ∧
      ((∃ ys, ys = cat rows 3 ∧ J ys W') ∨ (∃ pre, (∀ y ∈ pre, y ∈ cat rows 3) ∧ Jx pre W')) := by
  have hc0 := (blk_cell hBn 0)
  have hc1 := (blk_cell hBn 1)
  have hc2 := (blk_cell hBn 2)
  simp only [List.getElem?_toArray, List.getElem?_cons_zero, List.getElem?_cons_succ] at hc0 hc1 hc2
  unfold rowV at hc0 hc1 hc2
  have HBN := Aside0.mk hBn
  have HR := Aside0.mk hr
  have H0 := Aside0.mk h0
  have HJ := Aside0.mk hJ
  have HY := Aside0.mk hY
  have HRW := Aside0.mk hrows
  have HB1 := Aside0.mk hb1
  have HB0 := Aside0.mk hb0
  clear hBn hr h0 hJ hY hrows hb1 hb0
  refine callsIn_of_wp Try.func34 rfl h34 ?_ hro
  simp only [Try.ntmps34, List.size_toArray, List.length_cons, List.length_nil, Nat.reduceAdd, Nat.reduceSub, Array.replicate_succ, Array.replicate_zero, List.push_toArray, List.append_toArray, List.nil_append, List.cons_append]
  gi_wp2
  gi_loopw [15] (fun i wr => ∃ k : Nat, k ≤ 3 ∧ i = .int .i64 k ∧ Aside0 (J (cat rows k) wr) ∧ Aside0 (wr.heap[W.heap.size]? = some (.cells #[rowV r0, rowV r1, rowV r2] 22 (0, 0))) ∧ Aside0 (∀ r ∈ rows, RowAt b0 wr r.1 r.2.2))
    (fun i _ => 3 - (intOf i).toNat)
  case atStart =>
    refine ⟨0, by omega, rfl, ⟨?_⟩, ⟨blk_new W _⟩, ⟨fun r h => (HR.out r h).below (below_alloc (Below.refl _ _) _) HB0.out⟩⟩
    exact HJ.out _ _ _ none H0.out (World.grownBy_alloc W _ none) (fun r e => by cases e)
  case round =>
    obtain ⟨k, hk, rfl, HJ1, HL, HR1⟩ := hrel
    clear HR H0 hc0 hc1 hc2
    by_cases hlt : k < 3
    · obtain ⟨⟨Ak, Ck, Vk⟩, hrow⟩ : ∃ r, rows[k]? = some r := ⟨_, List.getElem?_eq_getElem (by rw [HRW.out]; exact hlt)⟩
      have hck : wr.cell? ⟨W.heap.size, k, none⟩ = some (.slice Ak Vk.length Ck) := by
        rw [blk_cell HL.out k]
        have e : (#[rowV r0, rowV r1, rowV r2] : Array Value) = (rows.map rowV).toArray := by rw [HRW.out]; rfl
        rw [e, List.getElem?_toArray, List.getElem?_map, hrow]
        rfl
      have HROW := Aside0.mk hrow
      have HRA := Aside0.mk (HR1.out _ (List.mem_of_getElem? hrow))
      have HVL := Aside0.mk HRA.out.1
      have hvl := HVL.out
      dsimp only at hvl
      have HVL2 := Aside0.mk hvl
      clear hrow
      have hlt' : (k : Int) < 3 := by omega
      gi_wp2
      gi_loopw [21] (fun jj wr2 => ∃ j : Nat, j ≤ Vk.length ∧ jj = .int .i64 j ∧ Aside0 (J (cat rows k ++ Vk.take j) wr2) ∧ Aside0 (Kp b0 b1 wr wr2))
        (fun jj _ => Vk.length - (intOf jj).toNat)
      case atStart => exact ⟨0, by omega, rfl, ⟨by simpa using HJ1.out⟩, ⟨Kp.refl _ _ _⟩⟩
      case round =>
        obtain ⟨j, hj, rfl, HJ2, HK2⟩ := hrel
        by_cases hjl : j < Vk.length
        · obtain ⟨ad, e, hb, hc⟩ := (HRA.out.kp HK2.out).2 (show 0 < Vk.length by omega)
          try dsimp only at e hc
          subst e
          have hcx : wr.cell? (ad.add j) = some (.int .i64 Vk[j]) := by
            have := hc j hjl
            rwa [List.getElem?_eq_getElem hjl] at this
          clear hc hb
          have hjl' : (j : Int) < (Vk.length : Int) := by omega
          have hcat : ∃ more, cat rows 3 = cat rows k ++ Vk ++ more := by
            obtain ⟨m, hm⟩ : ∃ m, 3 = (k + 1) + m := ⟨3 - (k + 1), by omega⟩
            have h3 : cat rows (k + 1 + m) = cat rows (k + 1) ++ ((rows.drop (k + 1)).take m).flatMap (·.2.2) := by
              unfold cat
              rw [List.take_add (i := k + 1) (j := m), List.flatMap_append]
            exact ⟨_, by rw [hm, h3, cat_succ rows k _ HROW.out]⟩
          have hlen : (cat rows k ++ Vk.take j).length < (cat rows 3).length := by
            obtain ⟨more, hm⟩ := hcat
            rw [hm]
            simp only [List.length_append, List.length_take]
            omega
          have HIN : Aside0 (∀ y ∈ cat rows k ++ Vk.take j ++ [Vk[j]], y ∈ cat rows 3) := ⟨by
            obtain ⟨more, hm⟩ := hcat
            rw [hm]
            intro y hy
            refine List.mem_append.2 (.inl ?_)
            rcases List.mem_append.1 hy with h | h
            · rcases List.mem_append.1 h with h | h
              · exact List.mem_append.2 (.inl h)
              · exact List.mem_append.2 (.inr (List.mem_of_mem_take h))
            · rw [List.mem_singleton.1 h]
              exact List.mem_append.2 (.inr (List.getElem_mem hjl))⟩
          clear hcat
          obtain ⟨fn, tmps, assign, body, hy, hRd⟩ := HY.out _ Vk[j] wr HJ2.out hlen
          clear hlen
          gi_wp2
          refine hRd.mono ?_
          rintro e W3 (⟨rfl, hJ3, hk3⟩ | ⟨rfl, hJx3⟩)
          · have HJ3 := Aside0.mk hJ3
            have HK3 := Aside0.mk (HK2.out.trans hk3)
            clear hJ3 hk3 hcx hy hRd HJ2 HK2
            gi_wp2
            go_roundw
            case rel =>
              refine ⟨j + 1, by omega, by simp, ⟨?_⟩, HK3⟩
              have e2 : cat rows k ++ Vk.take (j + 1) = cat rows k ++ Vk.take j ++ [Vk[j]] := by
                rw [List.take_succ_eq_append_getElem hjl, List.append_assoc]
              rw [e2]
              exact HJ3.out
            case measure => simp [intOf]; omega
          · have HJX := Aside0.mk hJx3
            clear hJx3 hcx hy hRd
            gi_wp2
            refine bodyPost_ret (results_none rfl _ _ _) rfl ?_
            exact ⟨⟨_, rfl⟩, .inr ⟨_, HIN.out, HJX.out⟩⟩
        · obtain rfl : j = Vk.length := by omega
          gi_wp2
          go_roundw
          case rel =>
            refine ⟨k + 1, by omega, by simp, ⟨?_⟩, ⟨HK2.out.blk (.inr HB1.out) HL.out⟩, ⟨fun r h => (HR1.out r h).kp HK2.out⟩⟩
            rw [cat_succ rows k _ HROW.out]
            have := HJ2.out
            rwa [List.take_length] at this
          case measure => simp [intOf]; omega
    · obtain rfl : k = 3 := by omega
      gi_wp2
      go_end0
      exact ⟨⟨_, rfl⟩, .inl ⟨_, rfl, HJ1.out⟩⟩
/-- called(v): the rows' struct is boxed; the function value captures the box. -/
theorem called_in (F : Fence) (n : Nat) (h21 : F.fn 21) (hro : F.round = none) (v0 v1 v2 : Value) (w : World) :
    CallsIn F n Try.prog 21 #[.agg #[v0, v1, v2]] w fun e w' => e = .returned (.func (.func 34) #[] #[.pointer (some ⟨w.heap.size, 0, none⟩)]) ∧ w' = w.alloc (.cells #[v0, v1, v2] 24) := by
  refine callsIn_of_wp Try.func21 rfl h21 ?_ hro
  simp only [Try.ntmps21, List.size_toArray, List.length_cons, List.length_nil, Nat.reduceAdd, Nat.reduceSub, Array.replicate_succ, Array.replicate_zero, List.push_toArray, List.append_toArray, List.nil_append, List.cons_append]
  gi_wp2
  go_ret
  exact ⟨rfl, rfl⟩
theorem called_stops (F : Fence) (n : Nat) (h34 : F.fn 34) (hro : F.round = none) (hn : 1 ≤ n) (Bn b0 b1 : Nat) (rows : List (Option Addr × Nat × List Int)) (r0 r1 r2 : Option Addr × Nat × List Int) (hrows : rows = [r0, r1, r2])
    (w : World) (hBn : w.heap[Bn]? = some (.cells #[rowV r0, rowV r1, rowV r2] 24 (0, 0))) (hb1 : b1 ≤ w.heap.size) (hr : ∀ r ∈ rows, RowAt b0 w r.1 r.2.2) (hb0 : b0 ≤ w.heap.size) :
    SeqStopsK F n Try.prog 34 #[.pointer (some ⟨Bn, 0, none⟩)] (fun x : Int => #[Value.int .i64 x]) (Kp b0 b1) (fun ys => ys = cat rows 3) (fun pre => ∀ y ∈ pre, y ∈ cat rows 3) (cat rows 3).length w := fun l J Jx W hW hJ hJx hY h0 =>
  called1_in F n h34 hro hn l Bn b0 b1 rows r0 r1 r2 hrows J Jx hY W (blk_below hBn hW) (Nat.le_trans hb1 hW.size) (fun r h => (hr r h).below hW hb0) (Nat.le_trans hb0 hW.size) hJ h0
theorem kp_t {b0 b1 : Nat} {A B C : World} (h : Kp b0 b1 A B) (k : Kp b0 b1 B C) : Kp b0 b1 A C := h.trans k
theorem kp_b {b0 b1 : Nat} {w : World} (W : World) (l : Nat) (o o' : Obj) (_ : w.heap.size ≤ l) (h : W.heap[l]? = some o) (hc : o.isCells = false) (_ : o.isWalk = false) : Kp b0 b1 W (W.putObj l o') := by
  intro b ob hb ho hi
  rw [World.putObj_heap_other (fun e => by subst e; rw [h] at ho; cases ho; rw [hc] at hi; cases hi)]
  exact ho
theorem cell_new_l (W : World) (v : Value) (t : TypeId) : (W.alloc (.cells #[v] t)).cell? ⟨W.heap.size, 0, none⟩ = some v ∧ (W.alloc (.cells #[v] t)).frozen? ⟨W.heap.size, 0, none⟩ = false :=
  ⟨(blk_cell (blk_new W _) 0).trans rfl, blk_frozen (blk_new W _) 0⟩
theorem cell_alloc_l {W : World} {a : Addr} {v : Value} (o : Obj) (h : W.cell? a = some v) : (W.alloc o).cell? a = some v := cell_kept h (World.grownBy_alloc W o none) (fun r e => by cases e)
theorem frozen_alloc_l {W : World} {a : Addr} {v : Value} (o : Obj) (h : W.cell? a = some v) (hf : W.frozen? a = false) : (W.alloc o).frozen? a = false := (frozen_kept h (World.grownBy_alloc W o none) (fun r e => by cases e)).trans hf
/-- A row of an argument. -/
theorem rowAt_of_C {w : World} {A : Option Addr} {xs : List Int} (h : Kd.C (Kd.int .i64) w A xs.length xs) (hl : xs.length ≤ 140737488351232) : RowAt w.heap.size w A xs := by
  have h2 := Kd.reads_of_C (enc := Value.int .i64) (d := (0 : Int)) (h1 := fun _ => rfl) h
  refine ⟨hl, fun hp => ?_⟩
  obtain ⟨ad, e, hc⟩ := h2.2.2 hp
  refine ⟨ad, e, ?_, fun j hj => ?_⟩
  · have h0 := hc 0 hp
    have hb := World.block_lt_of_cell? w _ h0
    have eb : (ad.add 0).block = ad.block := by unfold Addr.add; split <;> rfl
    rwa [eb] at hb
  · have := hc j hj
    rwa [List.getD_eq_getElem?_getD] at this
end Go.Proofs.Ytlfgdcgjndjdgaa.Iter
