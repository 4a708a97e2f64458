/- The function wire.Put, walked by hand (the print does not take a variable that is an array): a number's code, its digits to the base 128, the lowest first. -/
import Derived.Test.YtjfikeahafflfaaCx0
import Derived.Test.YtjfikeahafflfaaCxf34
import Derived.Laws.CopyOwn
namespace Go.Proofs.Ytjfikeahafflfaa.C
open Go.RowKit Go.Proofs.YtjfikeahafflfaaW.PrintWords Go.Proofs.YtjfikeahafflfaaW.PrintLast Go.Proofs.YtjfikeahafflfaaW.PrintMore
set_option linter.unusedVariables false
set_option linter.unusedSimpArgs false

/-- Digits to the base 128, the lowest first; all but the last bear 128 more. -/
def leb : Nat → Nat → List Int
  | 0, c => [(c : Int)]
  | f + 1, c => if 128 ≤ c then ((c % 128 + 128 : Nat) : Int) :: leb f (c / 128) else [(c : Int)]
def wire_Put.f (a0 : Int) : Option (List Int) := (wire_code.f a0).bind fun c => some (leb 9 c.toNat)
theorem u64_range (x : Int) : 0 ≤ IntKind.u64.wrap x ∧ IntKind.u64.wrap x < 18446744073709551616 := by rw [IntKind.wrap_u64]; omega
theorem code_range {a0 c : Int} (h : wire_code.f a0 = some c) : 0 ≤ c ∧ c < 18446744073709551616 := by
  unfold wire_code.f at h
  split at h
  · rw [← Option.some.inj h]; exact u64_range _
  · rw [← Option.some.inj h]; exact u64_range _

def lebB (k : Nat) : Nat := 2 ^ (64 - 7 * k)
theorem lebB_step (k c : Nat) (hk : k ≤ 8) (h : c < lebB k) : c / 128 < lebB (k + 1) := by
  unfold lebB at *
  have e : (2 : Nat) ^ (64 - 7 * k) = 2 ^ (64 - 7 * (k + 1)) * 128 := by
    have : 64 - 7 * k = (64 - 7 * (k + 1)) + 7 := by omega
    rw [this, Nat.pow_add]
  rw [e] at h
  exact Nat.div_lt_of_lt_mul (by omega)
theorem lebB_last (c : Nat) (h : c < lebB 9) : c < 2 := h
theorem lebB_first (c : Nat) (h : c < 18446744073709551616) : c < lebB 0 := h
set_option maxRecDepth 10000 in
theorem or128 : ∀ x : Fin 256, (x.val ||| 128) = x.val % 128 + 128 := by decide
theorem or128_u8 (c : Nat) : Go.bits .or .u8 ((c : Int) % 256) 128 = ((c % 128 + 128 : Nat) : Int) := by
  have h1 : ((c : Int) % 256) = ((c % 256 : Nat) : Int) := by omega
  rw [h1, show (128 : Int) = ((128 : Nat) : Int) from rfl, u8_or_nat _ _ (by omega) (by omega)]
  have := or128 ⟨c % 256, by omega⟩
  simp only at this
  rw [this]
  omega
def room (bs : List Int) : Array Value := (bs.map (Value.int .u8) ++ List.replicate (10 - bs.length) (Value.int .u8 0)).toArray
theorem room_set (bs : List Int) (x : Int) (h : bs.length ≤ 9) : (room bs).setIfInBounds bs.length (.int .u8 x) = room (bs ++ [x]) := by
  unfold room
  rw [List.setIfInBounds_toArray]
  congr 1
  rw [List.set_append_right _ _ (by simp)]
  simp only [List.length_map, Nat.sub_self, List.map_append, List.map_cons, List.map_nil, List.length_append, List.length_cons, List.length_nil, List.append_assoc]
  congr 1
  obtain ⟨m, hm⟩ : ∃ m, 10 - bs.length = m + 1 := ⟨9 - bs.length, by omega⟩
  rw [hm, List.replicate_succ, List.set_cons_zero, show 10 - (bs.length + (0 + 1)) = m from by omega]
  rfl
theorem room_get (bs : List Int) (h : bs.length ≤ 9) : (room bs)[bs.length]? = some (.int .u8 0) := by
  unfold room
  rw [List.getElem?_toArray, List.getElem?_append_right (by simp)]
  simp only [List.length_map, Nat.sub_self]
  rw [List.getElem?_replicate, if_pos (by omega)]
def roomInts (bs : List Int) : List Int := bs ++ List.replicate (10 - bs.length) 0
theorem room_reads {W : World} {g : Nat} {bs : List Int} {T : TypeId} (hg : W.heap[g]? = some (.cells (room bs) T (0, 0))) (hb : bs.length ≤ 10) : Kd.C (Kd.int .u8) W (some ⟨g, 0, none⟩) 10 (roomInts bs) := by
  refine ⟨by simp [roomInts]; omega, by omega, fun _ => ⟨_, rfl, fun j p hp => ⟨[.int .u8 p], rfl, rfl, fun i u hu => ?_⟩⟩⟩
  obtain rfl : i = 0 := by
    have := (List.getElem?_eq_some_iff.1 hu).1
    simp only [List.length_cons, List.length_nil] at this
    omega
  obtain rfl : Value.int .u8 p = u := by simpa using hu
  rw [add_plain, show j * (Kd.int .u8).sz + 0 = j from by show j * 1 + 0 = j; omega, blk_cell hg]
  show (room bs)[j]? = _
  have e : room bs = ((roomInts bs).map (Value.int .u8)).toArray := by simp [room, roomInts]
  rw [e, List.getElem?_toArray, List.getElem?_map, hp]
  rfl
theorem made_row (W : World) (base m : Nat) (e : TypeId) (hb : base ≤ W.heap.size) (hm : m ≤ 9223372036854775807) : Kd.R (Kd.int .u8) e (W.alloc (.cells (madeCells #[.int .u8 0] m) e)) base (fun _ => True) (.slice (some ⟨W.heap.size, 0, none⟩) m m) (List.replicate m 0) := by
  have h := own_made W base e .u8 m hb hm
  exact Kd.R_of_own (enc := Value.int .u8) (by simpa [encs, nums] using h) (fun _ _ => trivial)
theorem room_size (bs : List Int) (h : bs.length ≤ 10) : (room bs).size = 10 := by simp [room]; omega
set_option maxHeartbeats 1000000 in
set_option maxRecDepth 100000 in
theorem wire_Put.calls (a0 : Int) (r : List Int) (w : World) (h : wire_Put.f a0 = some r) :
    Calls Try.prog 16 #[.int .i64 a0] w fun e w' => ∃ v0_ : Value, e = .returned (v0_) ∧ Kd.R (Kd.int .u8) 5 w' w.heap.size (fun _ => True) v0_ r ∧ Below w.heap.size w w' := by
  unfold wire_Put.f at h
  obtain ⟨cI, A1, h⟩ := Option.bind_eq_some_iff.mp h
  obtain ⟨hc0, hc1⟩ := code_range A1
  obtain ⟨c0, rfl⟩ := Int.eq_ofNat_of_zero_le hc0
  rw [Int.toNat_natCast] at h
  have hc2 : c0 < lebB 0 := lebB_first c0 (by omega)
  clear hc0 hc1
  have A2 := Aside0.mk A1
  have HR := Aside0.mk (Option.some.inj h)
  have HC2 := Aside0.mk hc2
  clear A1 h hc2
  have HB0 := Aside0.mk (Below.refl w.heap.size w)
  go_enter Try.func16, Try.ntmps16
  go_wp2_with (go_at_call 34; refine (wire_code.calls a0 (c0 : Int) _ A2.out).mono ?_; rintro e w' ⟨rfl, ⟨nd, rfl⟩⟩)
  go_loopw [4, 5] (fun v4 v5 wr => ∃ (k c : Nat) (bs : List Int), v4 = .int .u64 (c : Int) ∧ v5 = .int .i64 (k : Int) ∧ k ≤ 9 ∧ Aside0 (bs.length = k ∧ c < lebB k ∧ bs ++ leb (9 - k) c = r) ∧ Aside0 (wr.heap[w.heap.size]? = some (.cells (room bs) 69 (0, 0))) ∧ Aside0 (Below w.heap.size w wr))
    (fun _ v5 _ => 10 - (intOf v5).toNat)
  case atStart =>
    exact ⟨0, c0, [], rfl, rfl, by omega, ⟨rfl, HC2.out, HR.out⟩, ⟨blk_drewN (blk_new w _) _⟩, ⟨by repeat (first | exact HB0.out | apply below_alloc | apply pw_below_drewN)⟩⟩
  case round =>
    obtain ⟨k, c, bs, rfl, rfl, hk, H1, H2, H3⟩ := hrel
    clear HB0 HR HC2
    have hbl := Aside0.mk H1.out.1
    have hcz : wr.cell? ⟨w.heap.size, k, none⟩ = some (.int .u8 0) := (blk_cell H2.out k).trans (by rw [← H1.out.1]; exact room_get bs (by rw [H1.out.1]; omega))
    have hfz := blk_frozen H2.out k
    have hk8 : (k : Int) < 10 := by omega
    by_cases hge : 128 ≤ c
    · have hge' : decide ((128 : Int) ≤ (c : Int)) = true := by simp; omega
      go_wp2
      have h8 : k ≤ 8 := by
        rcases Nat.lt_or_ge k 9 with h | h
        · omega
        · have : k = 9 := by omega
          subst this
          have := lebB_last c H1.out.2.1
          omega
      refine ⟨⟨k + 1, c / 128, bs ++ [((c % 128 + 128 : Nat) : Int)], by simp, by simp, by omega, ⟨by simp [H1.out.1], lebB_step k c h8 H1.out.2.1, ?_⟩, ⟨?_⟩, ⟨?_⟩⟩, by simp [intOf]; omega⟩
      · rw [← H1.out.2.2, List.append_assoc, show 9 - k = (9 - (k + 1)) + 1 from by omega]
        simp only [leb, if_pos hge]
        rfl
      · rw [or128_u8, ← room_set _ _ (by rw [H1.out.1]; omega), H1.out.1]
        exact blk_set H2.out _ _
      · exact below_set H3.out (Nat.le_refl _)
    · have hge' : decide ((128 : Int) ≤ (c : Int)) = false := by simp; omega
      have hmk := print_make (P := Try.prog) 22 5 .u8 1 Try.underlying22 info5 (by omega) (k + 1) (by omega)
      rw [show ((k + 1 : Nat) : Int) = (k : Int) + 1 from by omega] at hmk
      have HG1 : Aside0 ((wr.setCell ⟨w.heap.size, k, none⟩ (.int .u8 (c : Int))).heap[w.heap.size]? = some (.cells (room (bs ++ [(c : Int)])) 69 (0, 0))) := ⟨by rw [← room_set _ _ (by rw [H1.out.1]; omega), H1.out.1]; exact blk_set H2.out k _⟩
      have HB1 := Aside0.mk (below_set (v := .int .u8 (c : Int)) (j := k) H3.out (Nat.le_refl _))
      have HS := Aside0.mk HB1.out.size
      have HM : Aside0 (Kd.R (Kd.int .u8) 5 ((wr.setCell ⟨w.heap.size, k, none⟩ (.int .u8 (c : Int))).alloc (.cells (madeCells #[.int .u8 0] (k + 1)) 5)) w.heap.size (fun _ => True) (.slice (some ⟨wr.heap.size, 0, none⟩) (k + 1) (k + 1)) (List.replicate (k + 1) 0)) := ⟨by
        have h := made_row (wr.setCell ⟨w.heap.size, k, none⟩ (.int .u8 (c : Int))) w.heap.size (k + 1) 5 HS.out (by omega)
        have e : (wr.setCell ⟨w.heap.size, k, none⟩ (.int .u8 (c : Int))).heap.size = wr.heap.size := by simp
        rwa [e] at h⟩
      have HL : Aside0 ((bs ++ [(c : Int)]).length = k + 1) := ⟨by simp [H1.out.1]⟩
      have HE : Aside0 (bs ++ [(c : Int)] = r) := ⟨by
        rw [← H1.out.2.2]
        congr 1
        cases 9 - k with
        | zero => rfl
        | succ m => simp only [leb, if_neg hge]⟩
      go_wp2_with (refine Kd.R_copy (enc := Value.int .u8) (h1 := fun _ => rfl) (0 : Int) (w0 := w) w.heap.size rfl (.tmp 27) (.tmp 28) 22 22 5 rfl Try.underlying22 ?hinf _ (List.replicate (k + 1) 0) (roomInts (bs ++ [(c : Int)])) (some ⟨w.heap.size, 0, none⟩) 10 10 (fun _ => True) rfl rfl ?HO ?HR ?HB ?hb ?_; (case hinf => kernel_rfl); (case HO => exact HM.out); (case HR => exact room_reads (blk_alloc HG1.out _) (by rw [HL.out]; omega)); (case HB => exact below_alloc HB1.out _); (case hb => exact (below_alloc HB1.out _).size); intro w1 HO1 HB1' hg1)
      go_ret
      refine ⟨_, rfl, ?_, HB1'⟩
      have e : (roomInts (bs ++ [(c : Int)])).take (min 10 (List.replicate (k + 1) (0 : Int)).length) ++ (List.replicate (k + 1) (0 : Int)).drop (min 10 (List.replicate (k + 1) (0 : Int)).length) = r := by
        rw [List.length_replicate, show min 10 (k + 1) = k + 1 from by omega, List.drop_of_length_le (by simp), List.append_nil]
        unfold roomInts
        rw [List.take_append_of_le_length (by rw [HL.out]; exact Nat.le_refl _), ← HL.out, List.take_length]
        exact HE.out
      rw [e] at HO1
      exact HO1
end Go.Proofs.Ytjfikeahafflfaa.C
