/- The function crc.Seal, walked by hand (the print takes no cut with a capacity): bytes, and their sum behind them, in memory of their own. -/
import Derived.Test.YtcnjaeeghfmkfaaDoorCxf12
import Derived.ArgAppend
namespace Go.Proofs.YtcnjaeeghfmkfaaDoor.C
open Go.RowKit Go.Proofs.YtcnjaeeghfmkfaaDoorW.PrintWords Go.Proofs.YtcnjaeeghfmkfaaDoorW.PrintLast Go.Proofs.YtcnjaeeghfmkfaaDoorW.PrintMore
set_option linter.unusedVariables false
set_option linter.unusedSimpArgs false
def crc_Seal.f (k : Nat) (l0 : List Int) : Option (List Int) := (crc_Sum.f k l0).bind fun s => if l0.length + 2 < 140737488355328 then some (l0 ++ [s / 256 % 256, s % 256]) else none
theorem crc_Seal.mono : ∀ a0 k, LeO (crc_Seal.f k a0) (crc_Seal.f (k + 1) a0) := by
  intro a0 k
  unfold crc_Seal.f
  exact LeO.bind (crc_Sum.mono _ _) (fun _ => LeO.refl _)
/-- x[:len(x):len(x)] is x, without room behind. -/
theorem seal_cut (A0 : Option Addr) (n c0 : Nat) (h : n ≤ c0) (W : World) : (Instr.slice 22 (.slice A0 n c0) none (some (.int .i64 (n : Int))) (some (.int .i64 (n : Int)))).run Tryd.prog W = .ok (.slice A0 n n) W := by
  obtain ⟨i, hi, _, hsz, _⟩ := info_parts info5
  have ht := Tryd.underlying22
  have hel : Tryd.prog.elem 22 = 5 := by simp [Program.elem, ht]
  have hu : Tryd.prog.underlying 22 = some (.slice (Tryd.prog.elem 22)) := by rw [hel]; exact ht
  have ha : (A0.map fun x => x.add 0) = A0 := by cases A0 <;> simp [Addr.add]
  have h1 : (n : Int) ≤ (c0 : Int) := by omega
  have h0 : (0 : Int) ≤ (n : Int) := by omega
  simp [Instr.slice, run_underlying hu, Instr.sliceBounds, run_sliceBound, h0, h1, sizeOf, typeInfo, hel, hi, hsz, ha]
set_option maxHeartbeats 1000000 in
set_option maxRecDepth 100000 in
theorem crc_Seal.calls (k : Nat) (A0 : Option Addr) (c0 : Nat) (l0 : List Int) (r : List Int) (w : World) (hr0 : Kd.C (Kd.int .u8) w A0 l0.length l0) (hc0 : l0.length ≤ c0) (h : crc_Seal.f k l0 = some r) (ht_ : Laid.TabAt w) :
    Calls Tryd.prog 16 #[.slice A0 l0.length c0] w fun e w' => ∃ v0_ : Value, e = .returned (v0_) ∧ Kd.R (Kd.int .u8) 5 w' w.heap.size (fun _ => True) v0_ r ∧ Below w.heap.size w w' := by
  unfold crc_Seal.f at h
  obtain ⟨s, hs, h⟩ := Option.bind_eq_some_iff.mp h
  split at h
  case isFalse => cases h
  case isTrue hlen =>
  have hm := Aside0.mk (Option.some.inj h)
  have HS := Aside0.mk hs
  have HR := Aside0.mk hr0
  have HC := Aside0.mk hc0
  have hcut := seal_cut A0 l0.length c0 hc0
  have HT := Aside0.mk ht_
  clear h hs hr0 hc0 ht_
  go_enter Tryd.func16, Tryd.ntmps16
  have HRD := Aside0.mk (Kd.reads_of_C (enc := Value.int .u8) (d := (0 : Int)) (h1 := fun _ => rfl) HR.out)
  have hc1 : Aside0 (A0 = none → l0.length = 0 ∧ l0.length = 0) := ⟨fun e => by
    have h3 := HRD.out.2.2
    rcases Nat.eq_zero_or_pos l0.length with h | h
    · exact ⟨h, h⟩
    · obtain ⟨ad, e2, _⟩ := h3 h
      rw [e] at e2; cases e2⟩
  have hc3 : Aside0 (∀ W : World, Below w.heap.size w W → ∀ b, A0 = some b → ∀ j u, (l0.map (Value.int .u8))[j]? = some u → W.cell? (b.add j) = some u) := ⟨fun W hb b e j u hj => by
    have hjl : j < l0.length := by simpa using (List.getElem?_eq_some_iff.1 hj).1
    obtain ⟨ad, e2, hc⟩ := HRD.out.2.2 (by omega)
    have e3 : b = ad := by rw [e] at e2; exact Option.some.inj e2
    subst e3
    have h1 := hc j hjl
    rw [(hb.cell (World.block_lt_of_cell? w _ h1)).trans h1]
    rw [← hj, List.getElem?_map, List.getElem?_eq_getElem hjl]
    simp [List.getD_eq_getElem?_getD, List.getElem?_eq_getElem hjl]⟩
  obtain ⟨i5, hi5, hz5, hsz5, hby5⟩ := info_parts info5
  go_wp2_with (first | (go_at_call 12; refine (crc_Sum.calls k _ _ l0 s _ HR.out HC.out HS.out HT.out).mono ?_; rintro e w' ⟨rfl, ⟨nd, rfl⟩⟩) | (at_builtin; refine wpList_append_grows _ rfl (.tmp 11) (.tmp 17) 22 rfl 5 i5 (.int .u8 0) 1 1 Tryd.underlying22 hi5 hz5 hsz5 hby5 rfl (by decide) A0 l0.length l0.length (l0.map (Value.int .u8)) rfl hc1.out (by simp) (hc3.out _ ?c3) ⟨w.heap.size, 0, none⟩ 2 2 [.int .u8 (s / 256 % 256), .int .u8 (s % 256)] rfl rfl ?c4 ?c5 ?c6 ?c7 ?c8 ?_; (case c3 => exact below_alloc (pw_below_drewN (Below.refl _ _) _) _); (case c4 => exact fun j u hj => by rw [add_plain]; exact (blk_cell (blk_new (w.drewN nd) _) j).trans (by simpa using hj)); (case c5 => exact fun u hu => by simp at hu; rcases hu with rfl | rfl <;> rfl); (case c6 => omega); (case c7 => unfold maxLen; omega); (case c8 => omega); intro v' w1 hown hgrow))
  go_ret
  refine ⟨_, rfl, ?_, ?_⟩
  · have h1 : w1.ownsRow (w.heap.size + 1) 5 1 v' (l0 ++ [s / 256 % 256, s % 256]).length (encs (Value.int .u8) (l0 ++ [s / 256 % 256, s % 256])) := by simpa [encs] using hown
    rw [← hm.out]
    exact Kd.R_lower (Kd.R_of_own (h1 := fun _ => rfl) h1 (fun _ _ => trivial)) (by omega)
  · exact ((below_alloc (pw_below_drewN (Below.refl _ _) _) _).grown hgrow (by simp) (fun k e => by cases e))
end Go.Proofs.YtcnjaeeghfmkfaaDoor.C
