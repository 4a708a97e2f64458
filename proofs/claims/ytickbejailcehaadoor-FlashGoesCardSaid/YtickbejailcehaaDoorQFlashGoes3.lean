/- Texts of this claim, one behind the other: what the law's functions come to, walked (printed by a program, with the words that the print uses), and what that is, in plain Lean. No conditions of their own. -/
import Derived.Test.YtickbejailcehaaDoorQFlashGoes2
import Derived.Laws.CopyOwn
namespace Go.Proofs.YtickbejailcehaaDoor.C
open Go.RowKit Go.Proofs.YtickbejailcehaaDoorW.PrintWords Go.Proofs.YtickbejailcehaaDoorW.PrintLast Go.Proofs.YtickbejailcehaaDoorW.PrintMore
set_option linter.unusedVariables false
set_option linter.unusedSimpArgs false
def leb : Nat → Nat → List Int
  | 0, c => [(c : Int)]
  | f + 1, c => if 128 ≤ c then ((c % 128 + 128 : Nat) : Int) :: leb f (c / 128) else [(c : Int)]
def wire_Put.f (a0 : Int) : Option (List Int) := (wire_code.f a0).bind fun c => some (leb 9 c.toNat)
theorem u64_range (x : Int) : 0 ≤ IntKind.u64.wrap x ∧ IntKind.u64.wrap x < 18446744073709551616 := by rw [IntKind.wrap_u64]; omega
theorem code_range {a0 c : Int} (h : wire_code.f a0 = some c) : 0 ≤ c ∧ c < 18446744073709551616 := by
  unfold wire_code.f at h
  split at h
  · rw [← Option.some.inj h]; exact u64_range _
  · rw [← Option.some.inj h]; exact u64_range _
def lebB (k : Nat) : Nat := 2 ^ (64 - 7 * k)
theorem lebB_step (k c : Nat) (hk : k ≤ 8) (h : c < lebB k) : c / 128 < lebB (k + 1) := by
  unfold lebB at *
  have e : (2 : Nat) ^ (64 - 7 * k) = 2 ^ (64 - 7 * (k + 1)) * 128 := by
    have : 64 - 7 * k = (64 - 7 * (k + 1)) + 7 := by omega
    rw [this, Nat.pow_add]
  rw [e] at h
  exact Nat.div_lt_of_lt_mul (by omega)
theorem lebB_last (c : Nat) (h : c < lebB 9) : c < 2 := h
theorem lebB_first (c : Nat) (h : c < 18446744073709551616) : c < lebB 0 := h
set_option maxRecDepth 10000 in
theorem or128 : ∀ x : Fin 256, (x.val ||| 128) = x.val % 128 + 128 := by decide
theorem or128_u8 (c : Nat) : Go.bits .or .u8 ((c : Int) % 256) 128 = ((c % 128 + 128 : Nat) : Int) := by
  have h1 : ((c : Int) % 256) = ((c % 256 : Nat) : Int) := by omega
  rw [h1, show (128 : Int) = ((128 : Nat) : Int) from rfl, u8_or_nat _ _ (by omega) (by omega)]
  have := or128 ⟨c % 256, by omega⟩
  simp only at this
  rw [this]
  omega
def room (bs : List Int) : Array Value := (bs.map (Value.int .u8) ++ List.replicate (10 - bs.length) (Value.int .u8 0)).toArray
theorem room_set (bs : List Int) (x : Int) (h : bs.length ≤ 9) : (room bs).setIfInBounds bs.length (.int .u8 x) = room (bs ++ [x]) := by
  unfold room
  rw [List.setIfInBounds_toArray]
  congr 1
  rw [List.set_append_right _ _ (by simp)]
  simp only [List.length_map, Nat.sub_self, List.map_append, List.map_cons, List.map_nil, List.length_append, List.length_cons, List.length_nil, List.append_assoc]
  congr 1
  obtain ⟨m, hm⟩ : ∃ m, 10 - bs.length = m + 1 := ⟨9 - bs.length, by omega⟩
  rw [hm, List.replicate_succ, List.set_cons_zero, show 10 - (bs.length + (0 + 1)) = m from by omega]
  rfl
theorem room_get (bs : List Int) (h : bs.length ≤ 9) : (room bs)[bs.length]? = some (.int .u8 0) := by
  unfold room
  rw [List.getElem?_toArray, List.getElem?_append_right (by simp)]
  simp only [List.length_map, Nat.sub_self]
  rw [List.getElem?_replicate, if_pos (by omega)]
def roomInts (bs : List Int) : List Int := bs ++ List.replicate (10 - bs.length) 0
theorem room_reads {W : World} {g : Nat} {bs : List Int} {T : TypeId} (hg : W.heap[g]? = some (.cells (room bs) T (0, 0))) (hb : bs.length ≤ 10) : Kd.C (Kd.int .u8) W (some ⟨g, 0, none⟩) 10 (roomInts bs) := by
  refine ⟨by simp [roomInts]; omega, by omega, fun _ => ⟨_, rfl, fun j p hp => ⟨[.int .u8 p], rfl, rfl, fun i u hu => ?_⟩⟩⟩
  obtain rfl : i = 0 := by
    have := (List.getElem?_eq_some_iff.1 hu).1
    simp only [List.length_cons, List.length_nil] at this
    omega
  obtain rfl : Value.int .u8 p = u := by simpa using hu
  rw [add_plain, show j * (Kd.int .u8).sz + 0 = j from by show j * 1 + 0 = j; omega, blk_cell hg]
  show (room bs)[j]? = _
  have e : room bs = ((roomInts bs).map (Value.int .u8)).toArray := by simp [room, roomInts]
  rw [e, List.getElem?_toArray, List.getElem?_map, hp]
  rfl
theorem made_row (W : World) (base m : Nat) (e : TypeId) (hb : base ≤ W.heap.size) (hm : m ≤ 9223372036854775807) : Kd.R (Kd.int .u8) e (W.alloc (.cells (madeCells #[.int .u8 0] m) e)) base (fun _ => True) (.slice (some ⟨W.heap.size, 0, none⟩) m m) (List.replicate m 0) := by
  have h := own_made W base e .u8 m hb hm
  exact Kd.R_of_own (enc := Value.int .u8) (by simpa [encs, nums] using h) (fun _ _ => trivial)
set_option maxHeartbeats 1000000 in
set_option maxRecDepth 100000 in
theorem wire_Put.calls (a0 : Int) (r : List Int) (w : World) (h : wire_Put.f a0 = some r) :
    Calls Tryd.prog 29 #[.int .i64 a0] w fun e w' => ∃ v0_ : Value, e = .returned (v0_) ∧ Kd.R (Kd.int .u8) 5 w' w.heap.size (fun _ => True) v0_ r ∧ Below w.heap.size w w' := by
  unfold wire_Put.f at h
  obtain ⟨cI, A1, h⟩ := Option.bind_eq_some_iff.mp h
  obtain ⟨hc0, hc1⟩ := code_range A1
  obtain ⟨c0, rfl⟩ := Int.eq_ofNat_of_zero_le hc0
  rw [Int.toNat_natCast] at h
  have hc2 : c0 < lebB 0 := lebB_first c0 (by omega)
  clear hc0 hc1
  have A2 := Aside0.mk A1
  have HR := Aside0.mk (Option.some.inj h)
  have HC2 := Aside0.mk hc2
  clear A1 h hc2
  have HB0 := Aside0.mk (Below.refl w.heap.size w)
  go_enter Tryd.func29, Tryd.ntmps29
  go_wp2_with (go_at_call 41; refine (wire_code.calls a0 (c0 : Int) _ A2.out).mono ?_; rintro e w' ⟨rfl, ⟨nd, rfl⟩⟩)
  go_loopw [4, 5] (fun v4 v5 wr => ∃ (k c : Nat) (bs : List Int), v4 = .int .u64 (c : Int) ∧ v5 = .int .i64 (k : Int) ∧ k ≤ 9 ∧ Aside0 (bs.length = k ∧ c < lebB k ∧ bs ++ leb (9 - k) c = r) ∧ Aside0 (wr.heap[w.heap.size]? = some (.cells (room bs) 77 (0, 0))) ∧ Aside0 (Below w.heap.size w wr))
    (fun _ v5 _ => 10 - (intOf v5).toNat)
  case atStart =>
    exact ⟨0, c0, [], rfl, rfl, by omega, ⟨rfl, HC2.out, HR.out⟩, ⟨blk_drewN (blk_new w _) _⟩, ⟨by repeat (first | exact HB0.out | apply below_alloc | apply pw_below_drewN)⟩⟩
  case round =>
    obtain ⟨k, c, bs, rfl, rfl, hk, H1, H2, H3⟩ := hrel
    clear HB0 HR HC2
    have hbl := Aside0.mk H1.out.1
    have hcz : wr.cell? ⟨w.heap.size, k, none⟩ = some (.int .u8 0) := (blk_cell H2.out k).trans (by rw [← H1.out.1]; exact room_get bs (by rw [H1.out.1]; omega))
    have hfz := blk_frozen H2.out k
    have hk8 : (k : Int) < 10 := by omega
    by_cases hge : 128 ≤ c
    · have hge' : decide ((128 : Int) ≤ (c : Int)) = true := by simp; omega
      go_wp2
      have h8 : k ≤ 8 := by
        rcases Nat.lt_or_ge k 9 with h | h
        · omega
        · have : k = 9 := by omega
          subst this
          have := lebB_last c H1.out.2.1
          omega
      refine ⟨⟨k + 1, c / 128, bs ++ [((c % 128 + 128 : Nat) : Int)], by simp, by simp, by omega, ⟨by simp [H1.out.1], lebB_step k c h8 H1.out.2.1, ?_⟩, ⟨?_⟩, ⟨?_⟩⟩, by simp [intOf]; omega⟩
      · rw [← H1.out.2.2, List.append_assoc, show 9 - k = (9 - (k + 1)) + 1 from by omega]
        simp only [leb, if_pos hge]
        rfl
      · rw [or128_u8, ← room_set _ _ (by rw [H1.out.1]; omega), H1.out.1]
        exact blk_set H2.out _ _
      · exact below_set H3.out (Nat.le_refl _)
    · have hge' : decide ((128 : Int) ≤ (c : Int)) = false := by simp; omega
      have hmk := print_make (P := Tryd.prog) 22 5 .u8 1 Tryd.underlying22 info5 (by omega) (k + 1) (by omega)
      rw [show ((k + 1 : Nat) : Int) = (k : Int) + 1 from by omega] at hmk
      have HG1 : Aside0 ((wr.setCell ⟨w.heap.size, k, none⟩ (.int .u8 (c : Int))).heap[w.heap.size]? = some (.cells (room (bs ++ [(c : Int)])) 77 (0, 0))) := ⟨by rw [← room_set _ _ (by rw [H1.out.1]; omega), H1.out.1]; exact blk_set H2.out k _⟩
      have HB1 := Aside0.mk (below_set (v := .int .u8 (c : Int)) (j := k) H3.out (Nat.le_refl _))
      have HS := Aside0.mk HB1.out.size
      have HM : Aside0 (Kd.R (Kd.int .u8) 5 ((wr.setCell ⟨w.heap.size, k, none⟩ (.int .u8 (c : Int))).alloc (.cells (madeCells #[.int .u8 0] (k + 1)) 5)) w.heap.size (fun _ => True) (.slice (some ⟨wr.heap.size, 0, none⟩) (k + 1) (k + 1)) (List.replicate (k + 1) 0)) := ⟨by
        have h := made_row (wr.setCell ⟨w.heap.size, k, none⟩ (.int .u8 (c : Int))) w.heap.size (k + 1) 5 HS.out (by omega)
        have e : (wr.setCell ⟨w.heap.size, k, none⟩ (.int .u8 (c : Int))).heap.size = wr.heap.size := by simp
        rwa [e] at h⟩
      have HL : Aside0 ((bs ++ [(c : Int)]).length = k + 1) := ⟨by simp [H1.out.1]⟩
      have HE : Aside0 (bs ++ [(c : Int)] = r) := ⟨by
        rw [← H1.out.2.2]
        congr 1
        cases 9 - k with
        | zero => rfl
        | succ m => simp only [leb, if_neg hge]⟩
      go_wp2_with (refine Kd.R_copy (enc := Value.int .u8) (h1 := fun _ => rfl) (0 : Int) (w0 := w) w.heap.size rfl (.tmp 27) (.tmp 28) 22 22 5 rfl Tryd.underlying22 ?hinf _ (List.replicate (k + 1) 0) (roomInts (bs ++ [(c : Int)])) (some ⟨w.heap.size, 0, none⟩) 10 10 (fun _ => True) rfl rfl ?HO ?HR ?HB ?hb ?_; (case hinf => kernel_rfl); (case HO => exact HM.out); (case HR => exact room_reads (blk_alloc HG1.out _) (by rw [HL.out]; omega)); (case HB => exact below_alloc HB1.out _); (case hb => exact (below_alloc HB1.out _).size); intro w1 HO1 HB1' hg1)
      go_ret
      refine ⟨_, rfl, ?_, HB1'⟩
      have e : (roomInts (bs ++ [(c : Int)])).take (min 10 (List.replicate (k + 1) (0 : Int)).length) ++ (List.replicate (k + 1) (0 : Int)).drop (min 10 (List.replicate (k + 1) (0 : Int)).length) = r := by
        rw [List.length_replicate, show min 10 (k + 1) = k + 1 from by omega, List.drop_of_length_le (by simp), List.append_nil]
        unfold roomInts
        rw [List.take_append_of_le_length (by rw [HL.out]; exact Nat.le_refl _), ← HL.out, List.take_length]
        exact HE.out
      rw [e] at HO1
      exact HO1
end Go.Proofs.YtickbejailcehaaDoor.C
namespace Go.Proofs.YtickbejailcehaaDoor.C
open Go.RowKit Go.Proofs.YtickbejailcehaaDoorW.PrintWords Go.Proofs.YtickbejailcehaaDoorW.PrintLast Go.Proofs.YtickbejailcehaaDoorW.PrintMore
attribute [local go_sem] max2_int min2_int max_two min_two max_three min_three max_four min_four
set_option linter.unusedVariables false
set_option linter.unusedSimpArgs false
def wire_Row.l0 : Nat → List Int → List Int → Int → Int → Option (List Int)
 | 0, _, _, _, _ => none
 | k + 1, x3, x9, x10, x11 => if x11 < x10 then (if 0 ≤ x11 then (if x11 < (x9.length : Int) then ((wire_Put.f (rd x9 x11)).bind fun t154 => (if x3.length + t154.length < 140737488355328 then (wire_Row.l0 k (x3 ++ t154) x9 x10 (wrap64 (x11 + 1))) else (none))) else (none)) else (none)) else (some x3)
def wire_Row.f (k : Nat) (l0 : List Int) : Option (List Int) := (wire_Put.f (l0.length : Int)).bind fun t150 => (wire_Row.l0 k t150 l0 (l0.length : Int) 0)
set_option maxHeartbeats 8000000 in
set_option maxRecDepth 100000 in
theorem wire_Row.calls (k : Nat) (A0 : Option Addr) (c0 : Nat) (l0 : List Int) (r : List Int) (w : World) (hr0 : Kd.C (Kd.int .i64) w A0 l0.length l0) (hc0 : l0.length ≤ c0) (h : wire_Row.f k l0 = some r) :
  Calls Tryd.prog 28 #[.slice A0 l0.length c0] w fun e w' => ∃ v0_ : Value, e = .returned (v0_) ∧ Kd.R (Kd.int .u8) 5 w' w.heap.size (fun _ => True) v0_ r ∧ Below w.heap.size w w' := by
 have HR0 := Aside0.mk hr0
 have HC0 := Aside0.mk hc0
 clear hr0 hc0
 have HB := Aside0.mk (Below.refl w.heap.size w)
 have H : ((wire_Put.f (l0.length : Int)).bind fun t150 => (wire_Row.l0 k t150 l0 (l0.length : Int) 0)) = some r := h
 clear h
 replace H := Option.bind_eq_some_iff.mp H
 obtain ⟨t150, A20, H⟩ := H
 replace H : (wire_Row.l0 k t150 l0 (l0.length : Int) 0) = some r := H
 have A2 := Aside0.mk A20
 clear A20
 have H' := Aside0.mk H
 clear H
 go_enter Tryd.func28, Tryd.ntmps28
 go_wp2_with (first | ((with_reducible refine gate_callee (f := 29) rfl ?_); refine goesL_ (some 8) rfl rfl Tryd.func29 (by kernel_rfl) rfl #[.int .i64 (l0.length : Int)] rfl (by (try simp only [List.map_toArray, List.map_cons, List.map_nil]); first | done | rfl | (simp only [List.length_drop, List.length_take]; rfl)) ?_; (with_reducible refine (wire_Put.calls (l0.length : Int) t150 _ A2.out).mono ?_); rintro e w3 ⟨v151, rfl, ho0, hb⟩; refine ⟨_, rfl, ?_⟩; have n0_ := Aside0.mk (Kd.R_lower ho0 (below_size (by repeat (first | (with_reducible first | exact HB.out | apply below_alloc | apply pw_below_drewN | apply below_drew1) | exact HB.out)))); have n1_ := Aside0.mk (below_step (by repeat (first | (with_reducible first | exact HB.out | apply below_alloc | apply pw_below_drewN | apply below_drew1) | exact HB.out)) hb); clear HB; have HO152 := n0_; have HB := n1_; clear n0_ n1_; (try clear hb); (try clear hb2); (try clear hk); (try clear hi); (try clear ho0)))
 go_loopg [3, 11] k (fun kq v3 v11 w' => ∃ (x3_1 : List Int) (x11_1 : Int), v11 = .int .i64 x11_1 ∧ Aside0 (wire_Row.l0 kq x3_1 l0 (l0.length : Int) x11_1 = some r) ∧ Aside0 (kq ≤ k) ∧ Aside0 (Kd.R (Kd.int .u8) 5 w' w.heap.size (fun _ => True) v3 x3_1) ∧ Aside0 (Below w.heap.size w w'))
 case atStart => exact ⟨(t150), (0), (by first | rfl | (simp; done) | (simp [*]; done)), H', ⟨Nat.le_refl _⟩, ⟨by (with_reducible repeat (first | apply Kd.R_alloc | apply Kd.R_drewN | apply Kd.R_drew)); exact HO152.out⟩, ⟨by repeat (first | (with_reducible first | exact HB.out | apply below_alloc | apply pw_below_drewN | apply below_drew1) | exact HB.out)⟩⟩
 case round =>
  clear H'
  try clear c2
  try clear p2
  obtain ⟨x3_1, x11_1, rfl, HA, HK1, HO_3, HB⟩ := hrel
  cases gk with
  | zero => exact absurd HA.out (by simp [wire_Row.l0])
  | succ k1 =>
   have H := HA.out
   clear HA
   simp only [wire_Row.l0] at H
   by_cases c4 : x11_1 < (l0.length : Int)
   ·rw [if_pos c4] at H
    have c4b0 : decide (x11_1 < (l0.length : Int)) = true := decide_eq_true c4
    clear c4
    by_cases c5 : 0 ≤ x11_1
    ·rw [if_pos c5] at H
     have c5b0 : decide (0 ≤ x11_1) = true := decide_eq_true c5
     clear c5
     by_cases c6 : x11_1 < (l0.length : Int)
     ·rw [if_pos c6] at H
      have c6b0 : decide (x11_1 < (l0.length : Int)) = true := decide_eq_true c6
      clear c6
      replace H := Option.bind_eq_some_iff.mp H
      obtain ⟨t154, A70, H⟩ := H
      replace H : (if x3_1.length + t154.length < 140737488355328 then (wire_Row.l0 k1 (x3_1 ++ t154) l0 (l0.length : Int) (wrap64 (x11_1 + 1))) else (none)) = some r := H
      have A7 := Aside0.mk A70
      clear A70
      by_cases c8 : x3_1.length + t154.length < 140737488355328
      ·rw [if_pos c8] at H
       have LMc8 := Aside0.mk c8
       clear c8
       obtain ⟨y157, hy157⟩ : ∃ y_ : List Int, y_ = (x3_1 ++ t154) := ⟨_, rfl⟩
       replace H : (wire_Row.l0 k1 y157 l0 (l0.length : Int) (wrap64 (x11_1 + 1))) = some r := by first | (rw [hy157]; with_reducible exact H) | (have H2_ := (Option.bind_some _ _).symm.trans H; rw [hy157]; with_reducible exact H2_) | (have H2_ := (Option.bind_some _ _).symm.trans H; with_reducible exact H2_) | with_reducible exact H | (rw [hy157]; exact H) | exact H
       have Ny157 := Aside0.mk hy157
       clear hy157
       have H' := Aside0.mk H
       clear H
       have p153 : 0 ≤ (x11_1 : Int) := of_decide_eq_true (by first | (with_reducible assumption) | assumption)
       have q153 : x11_1 < (l0.length : Int) := of_decide_eq_true (by first | (with_reducible assumption) | assumption)
       obtain ⟨ad153, e153, hx153_0⟩ := Kd.at_int HR0.out x11_1 p153 q153
       cases e153
       replace hx153_0 := (HB.out.cell (World.block_lt_of_cell? w _ hx153_0)).trans hx153_0
       replace p153 := eq_true p153
       replace q153 := eq_true q153
       go_wp2_with (first | ((with_reducible refine gate_callee (f := 29) rfl ?_); refine goesL_ (some 17) rfl rfl Tryd.func29 (by kernel_rfl) rfl #[.int .i64 (rd l0 x11_1)] rfl (by (try simp only [List.map_toArray, List.map_cons, List.map_nil]); first | done | rfl | (simp only [List.length_drop, List.length_take]; rfl)) ?_; (with_reducible refine (wire_Put.calls (rd l0 x11_1) t154 _ A7.out).mono ?_); rintro e w9 ⟨v155, rfl, ho0, hb⟩; refine ⟨_, rfl, ?_⟩; have n0_ := Aside0.mk (Kd.R_elder' (by (with_reducible repeat (first | apply Kd.R_alloc | apply Kd.R_drewN | apply Kd.R_drew)); exact HO_3.out) (Kd.R_base ho0) hb); have n1_ := Aside0.mk (Kd.R_lower (Kd.R_new' ho0 (Kd.R_lt (by (with_reducible repeat (first | apply Kd.R_alloc | apply Kd.R_drewN | apply Kd.R_drew)); exact HO_3.out))) (below_size (by repeat (first | (with_reducible first | exact HB.out | apply below_alloc | apply pw_below_drewN | apply below_drew1) | exact HB.out)))); have n2_ := Aside0.mk (below_step (by repeat (first | (with_reducible first | exact HB.out | apply below_alloc | apply pw_below_drewN | apply below_drew1) | exact HB.out)) hb); clear HO_3; clear HB; have HO_3 := n0_; have HO156 := n1_; have HB := n2_; clear n0_ n1_ n2_; (try clear hb); (try clear hb2); (try clear hk); (try clear hi); (try clear ho0); obtain ⟨Ao11, co11, eo11⟩ := Kd.R_slice HO156.out; subst eo11) | ((with_reducible refine gate_builtin (b := .append) (xs := #[.tmp 15, .tmp 17]) rfl ?_); at_builtin; refine Kd.R_append_rows (Kd.int .u8) (w0 := w) w.heap.size rfl (.tmp 15) (.tmp 17) 22 5 (.int .u8 0) 1 rfl Tryd.underlying22 info5 rfl (by decide) (by omega) u3 x3_1 t154 _ _ _ (fun k_ => some k_ ≠ (.slice Ao11 t154.length co11 : Value).ownBlock) (fun _ => False) rfl rfl ?aO ?aR (fun _ _ h => h) (fun _ h => h.elim) ?aF ?aB ?aS ?aL ?_; (case aR => repeat (first | exact (Kd.R_reads' HO156.out).2.2 | (with_reducible refine Kd.C_alloc ?_ _) | (with_reducible refine Kd.C_drewN ?_ _) | (with_reducible refine Kd.C_drew ?_))); (case aB => exact (by repeat (first | (with_reducible first | exact HB.out | apply below_alloc | apply pw_below_drewN | apply below_drew1) | exact HB.out))); (case aF => exact (fun k_ hk => Kd.fresh' (Kd.R_lt (by (with_reducible repeat (first | apply Kd.R_alloc | apply Kd.R_drewN | apply Kd.R_drew)); exact HO156.out)) k_ hk)); (case aO => exact (by (with_reducible repeat (first | apply Kd.R_alloc | apply Kd.R_drewN | apply Kd.R_drew)); exact Kd.R_mono HO_3.out (fun _ hk => hk.2))); (case aS => exact (below_size (by repeat (first | (with_reducible first | exact HB.out | apply below_alloc | apply pw_below_drewN | apply below_drew1) | exact HB.out)))); (case aL => have := LMc8.out; omega); intro v158 w10 ho hb hg hat; rw [← Ny157.out] at ho; have n0_ := Aside0.mk (Kd.R_after (ok := (fun _ => True)) (by (with_reducible repeat (first | apply Kd.R_alloc | apply Kd.R_drewN | apply Kd.R_drew)); exact HO156.out) hg hat); have n1_ := Aside0.mk (hb); have n2_ := Aside0.mk (ho); clear HO156; clear HB; clear HO_3; have HO156 := n0_; have HB := n1_; have HO159 := n2_; clear n0_ n1_ n2_; clear ho hb hg hat))
       go_roundg k1
       case measure => have := HK1.out; omega
       case rel => exact ⟨(y157), (wrap64 (x11_1 + 1)), (by first | rfl | (simp; done) | (simp [*]; done)), H', ⟨by have := HK1.out; omega⟩, ⟨by (with_reducible repeat (first | apply Kd.R_alloc | apply Kd.R_drewN | apply Kd.R_drew)); exact Kd.R_mono HO159.out (fun _ hk => trivial)⟩, ⟨by repeat (first | (with_reducible first | exact HB.out | apply below_alloc | apply pw_below_drewN | apply below_drew1) | exact HB.out)⟩⟩
      ·rw [if_neg c8] at H
       exact absurd H (by simp)
     ·rw [if_neg c6] at H
      exact absurd H (by simp)
    ·rw [if_neg c5] at H
     exact absurd H (by simp)
   ·rw [if_neg c4] at H
    have c4b0 : decide (x11_1 < (l0.length : Int)) = false := decide_eq_false c4
    clear c4
    obtain rfl := Option.some.inj H
    go_wp2
    go_ret
    exact ⟨_, by first | rfl | (simp [errW_none, errW_some] <;> rfl) | (simp [*, errW_none, errW_some] <;> rfl), by (with_reducible repeat (first | apply Kd.R_alloc | apply Kd.R_drewN | apply Kd.R_drew)); exact HO_3.out, by repeat (first | (with_reducible first | exact HB.out | apply below_alloc | apply pw_below_drewN | apply below_drew1) | exact HB.out)⟩
end Go.Proofs.YtickbejailcehaaDoor.C
