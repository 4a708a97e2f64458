/- The function literals of collect.Next, walked by hand (they are function values, and capture variables): what each answers. -/
import Derived.Test.YtlfgdcgjndjdgaaCxf23
import Derived.Test.YtlfgdcgjndjdgaaIter
namespace Go.Proofs.Ytlfgdcgjndjdgaa.C
open Go.RowKit Go.Shelf Go.Proofs.YtlfgdcgjndjdgaaW.PrintWords Go.Proofs.YtlfgdcgjndjdgaaW.PrintLast Go.Proofs.YtlfgdcgjndjdgaaW.PrintMore Go.Proofs.Ytlfgdcgjndjdgaa.Iter
set_option linter.unusedVariables false
/-- Is a floor in a row? -/
def hasB (f : Int) (l : List Int) : Bool := decide (f ∈ l)
theorem rd_at (l : List Int) (i : Nat) (h : i < l.length) : rd l (i : Int) = l[i] := by
  unfold rd
  rw [Int.toNat_natCast, List.getD_eq_getElem?_getD, List.getElem?_eq_getElem h]
  rfl
theorem index_loop (l : List Int) (a : Int) (hm : l.length ≤ 140737488351232) (j : Nat) : ∀ (f i : Nat), i + j = l.length → j < f → ∃ r, slices_Index_int_int.l0 f l a (l.length : Int) (i : Int) = some r ∧ (0 ≤ r ↔ a ∈ l.drop i) := by
  induction j with
  | zero =>
    intro f i hi hf
    obtain ⟨f, rfl⟩ : ∃ m, f = m + 1 := ⟨f - 1, by omega⟩
    simp only [slices_Index_int_int.l0]
    rw [if_neg (by omega), List.drop_of_length_le (by omega)]
    exact ⟨_, rfl, by simp⟩
  | succ j ih =>
    intro f i hi hf
    obtain ⟨f, rfl⟩ : ∃ m, f = m + 1 := ⟨f - 1, by omega⟩
    have ha : i < l.length := by omega
    have ei : wrap64 ((i : Int) + 1) = ((i + 1 : Nat) : Int) := by unfold wrap64; omega
    obtain ⟨r, hr, hiff⟩ := ih f (i + 1) (by omega) (by omega)
    simp only [slices_Index_int_int.l0]
    rw [if_pos (by omega), if_pos (by omega), if_pos (by omega), rd_at l i ha, ei, hr, List.drop_eq_getElem_cons ha]
    by_cases e : a = l[i]
    · rw [if_pos e]
      exact ⟨_, rfl, by rw [List.mem_cons]; exact ⟨fun _ => .inl e, fun _ => by omega⟩⟩
    · rw [if_neg e]
      exact ⟨_, rfl, by rw [hiff, List.mem_cons]; exact ⟨.inr, fun h => h.resolve_left e⟩⟩
theorem contains_eq (l : List Int) (a : Int) (hm : l.length ≤ 140737488351232) : slices_Contains_int_int.f (l.length + 1) l a = some (hasB a l) := by
  unfold slices_Contains_int_int.f slices_Index_int_int.f
  obtain ⟨r, hr, hiff⟩ := index_loop l a hm l.length (l.length + 1) 0 (by omega) (by omega)
  rw [List.drop_zero] at hiff
  have hr' : slices_Index_int_int.l0 (l.length + 1) l a (l.length : Int) 0 = some r := hr
  rw [hr']
  simp only [Option.bind_some]
  unfold hasB
  rw [decide_eq_decide.2 (show r ≥ 0 ↔ a ∈ l from hiff)]
/-- The look's variable. -/
def SBox (W : World) (sb : Nat) (a0 a1 a2 : Int) (a3 a4 : Bool) (A5 : Option Addr) (c5 : Nat) (l5 : List Int) (A6 : Option Addr) (c6 : Nat) (l6 : List Int) (A7 : Option Addr) (c7 : Nat) (l7 : List Int) : Prop :=
  W.heap[sb]? = some (.cells #[.int .i64 a0, .int .i64 a1, .int .i64 a2, .bool a3, .bool a4, .slice A5 l5.length c5, .slice A6 l6.length c6, .slice A7 l7.length c7] 26 (0, 0))
set_option maxRecDepth 100000 in
set_option maxHeartbeats 1000000 in
theorem has_calls (A : Option Addr) (c : Nat) (l : List Int) (a1 : Int) (sb : Nat) (w : World) (r : Bool) (hc1 : w.cell? ⟨sb, 1, none⟩ = some (.int .i64 a1)) (hr : Kd.C (Kd.int .i64) w A l.length l) (hc : l.length ≤ c) (hm : l.length ≤ 140737488351232) (hb : hasB a1 l = r) :
    Calls Try.prog 22 #[.slice A l.length c, .pointer (some ⟨sb, 0, none⟩)] w fun e w' => e = .returned (.bool r) ∧ Drawn0 w w' := by
  have HM := Aside0.mk (contains_eq l a1 hm)
  have HR := Aside0.mk hr
  have HC := Aside0.mk hc
  have HB := Aside0.mk hb
  clear hr hc hm hb
  rw [HB.out] at HM
  clear HB
  go_enter Try.func22, Try.ntmps22
  go_wp2_with (go_at_call 23; refine (slices_Contains_int_int.calls _ A c l a1 r _ HR.out HC.out HM.out).mono ?_; rintro e w' ⟨rfl, ⟨nd, rfl⟩⟩)
  go_ret
  exact ⟨rfl, ⟨_, rfl⟩⟩
theorem ahead_up (U D : Bool) (ub db : Nat) (w : World) (hu : w.cell? ⟨ub, 0, none⟩ = some (.bool U)) (hd : w.cell? ⟨db, 0, none⟩ = some (.bool D)) :
    Calls Try.prog 24 #[.int .i64 1, .pointer (some ⟨ub, 0, none⟩), .pointer (some ⟨db, 0, none⟩)] w fun e w' => e = .returned (.bool U) ∧ Drawn0 w w' := by
  cases U <;> cases D <;>
  · go_enter Try.func24, Try.ntmps24
    go_wp2
    try go_quiet (fail)
    try go_wp2
    go_ret
    first | exact ⟨rfl, Drawn0.refl _⟩ | exact ⟨rfl, ⟨_, rfl⟩⟩
theorem ahead_down (U D : Bool) (ub db : Nat) (w : World) (hu : w.cell? ⟨ub, 0, none⟩ = some (.bool U)) (hd : w.cell? ⟨db, 0, none⟩ = some (.bool D)) :
    Calls Try.prog 24 #[.int .i64 (-1), .pointer (some ⟨ub, 0, none⟩), .pointer (some ⟨db, 0, none⟩)] w fun e w' => e = .returned (.bool D) ∧ Drawn0 w w' := by
  cases U <;> cases D <;>
  · go_enter Try.func24, Try.ntmps24
    go_wp2
    try go_quiet (fail)
    try go_wp2
    go_ret
    first | exact ⟨rfl, Drawn0.refl _⟩ | exact ⟨rfl, ⟨_, rfl⟩⟩
theorem been_up (U D : Bool) (sb : Nat) (w : World) (hu : w.cell? ⟨sb, 3, none⟩ = some (.bool U)) (hd : w.cell? ⟨sb, 4, none⟩ = some (.bool D)) :
    Calls Try.prog 26 #[.int .i64 1, .pointer (some ⟨sb, 0, none⟩)] w fun e w' => e = .returned (.bool U) ∧ Drawn0 w w' := by
  cases U <;> cases D <;>
  · go_enter Try.func26, Try.ntmps26
    go_wp2
    try go_quiet (fail)
    try go_wp2
    go_ret
    first | exact ⟨rfl, Drawn0.refl _⟩ | exact ⟨rfl, ⟨_, rfl⟩⟩
theorem been_down (U D : Bool) (sb : Nat) (w : World) (hu : w.cell? ⟨sb, 3, none⟩ = some (.bool U)) (hd : w.cell? ⟨sb, 4, none⟩ = some (.bool D)) :
    Calls Try.prog 26 #[.int .i64 (-1), .pointer (some ⟨sb, 0, none⟩)] w fun e w' => e = .returned (.bool D) ∧ Drawn0 w w' := by
  cases U <;> cases D <;>
  · go_enter Try.func26, Try.ntmps26
    go_wp2
    try go_quiet (fail)
    try go_wp2
    go_ret
    first | exact ⟨rfl, Drawn0.refl _⟩ | exact ⟨rfl, ⟨_, rfl⟩⟩
theorem drawn2 {w : World} (a b : Nat) : Drawn0 w ((w.drewN a).drewN b) := ⟨_, World.drewN_drewN _ _ _⟩
theorem has_drawn (A : Option Addr) (c : Nat) (l : List Int) (a1 : Int) (sb : Nat) (w W : World) (r : Bool) (hd : Drawn0 w W) (hc1 : w.cell? ⟨sb, 1, none⟩ = some (.int .i64 a1)) (hr : Kd.C (Kd.int .i64) w A l.length l) (hc : l.length ≤ c) (hm : l.length ≤ 140737488351232) (hb : hasB a1 l = r) :
    Calls Try.prog 22 #[.slice A l.length c, .pointer (some ⟨sb, 0, none⟩)] W fun e w' => e = .returned (.bool r) ∧ Drawn0 w w' := by
  obtain ⟨n, rfl⟩ := hd.out
  refine (has_calls A c l a1 sb (w.drewN n) r hc1 (Kd.C_drewN hr n) hc hm hb).mono ?_
  rintro e w' ⟨rfl, ⟨m, rfl⟩⟩
  exact ⟨rfl, drawn2 _ _⟩
set_option maxRecDepth 100000 in
set_option maxHeartbeats 2000000 in
theorem here_up (hb sb : Nat) (a1 : Int) (A5 : Option Addr) (c5 : Nat) (l5 : List Int) (A6 : Option Addr) (c6 : Nat) (l6 : List Int) (w : World) (hh : w.cell? ⟨hb, 0, none⟩ = some (.func (.func 22) #[] #[.pointer (some ⟨sb, 0, none⟩)])) (hc1 : w.cell? ⟨sb, 1, none⟩ = some (.int .i64 a1))
    (hs5 : w.cell? ⟨sb, 5, none⟩ = some (.slice A5 l5.length c5)) (hs6 : w.cell? ⟨sb, 6, none⟩ = some (.slice A6 l6.length c6)) (r5 : Kd.C (Kd.int .i64) w A5 l5.length l5) (k5 : l5.length ≤ c5) (m5 : l5.length ≤ 140737488351232) (r6 : Kd.C (Kd.int .i64) w A6 l6.length l6) (k6 : l6.length ≤ c6) (m6 : l6.length ≤ 140737488351232) :
    Calls Try.prog 25 #[.int .i64 1, .pointer (some ⟨hb, 0, none⟩), .pointer (some ⟨sb, 0, none⟩)] w fun e w' => e = .returned (.bool (hasB a1 l5 || hasB a1 l6)) ∧ Drawn0 w w' := by
  have Q5 := Aside0.mk (fun (W : World) (r : Bool) (h : hasB a1 l5 = r) (hd : Drawn0 w W) => has_drawn A5 c5 l5 a1 sb w W r hd hc1 r5 k5 m5 h)
  have Q6 := Aside0.mk (fun (W : World) (r : Bool) (h : hasB a1 l6 = r) (hd : Drawn0 w W) => has_drawn A6 c6 l6 a1 sb w W r hd hc1 r6 k6 m6 h)
  clear r5 r6 k5 k6 m5 m6
  cases e5 : hasB a1 l5
  · cases e6 : hasB a1 l6 <;>
    · have E5 := Aside0.mk e5
      have E6 := Aside0.mk e6
      clear e5 e6
      go_enter Try.func25, Try.ntmps25
      go_wp2_with fail
      refine (Q5.out _ _ E5.out (Drawn0.refl _)).mono ?_
      rintro e w' ⟨rfl, ⟨nd, rfl⟩⟩
      go_wp2_with fail
      refine (Q6.out _ _ E6.out ⟨_, rfl⟩).mono ?_
      rintro e w' ⟨rfl, ⟨nd2, rfl⟩⟩
      go_wp2
      go_ret
      exact ⟨rfl, ⟨_, rfl⟩⟩
  · have E5 := Aside0.mk e5
    clear e5
    go_enter Try.func25, Try.ntmps25
    go_wp2_with fail
    refine (Q5.out _ _ E5.out (Drawn0.refl _)).mono ?_
    rintro e w' ⟨rfl, ⟨nd, rfl⟩⟩
    go_wp2
    go_ret
    exact ⟨by simp, ⟨_, rfl⟩⟩
set_option maxRecDepth 100000 in
set_option maxHeartbeats 2000000 in
theorem here_down (hb sb : Nat) (a1 : Int) (A5 : Option Addr) (c5 : Nat) (l5 : List Int) (A6 : Option Addr) (c6 : Nat) (l6 : List Int) (w : World) (hh : w.cell? ⟨hb, 0, none⟩ = some (.func (.func 22) #[] #[.pointer (some ⟨sb, 0, none⟩)])) (hc1 : w.cell? ⟨sb, 1, none⟩ = some (.int .i64 a1))
    (hs5 : w.cell? ⟨sb, 5, none⟩ = some (.slice A5 l5.length c5)) (hs6 : w.cell? ⟨sb, 7, none⟩ = some (.slice A6 l6.length c6)) (r5 : Kd.C (Kd.int .i64) w A5 l5.length l5) (k5 : l5.length ≤ c5) (m5 : l5.length ≤ 140737488351232) (r6 : Kd.C (Kd.int .i64) w A6 l6.length l6) (k6 : l6.length ≤ c6) (m6 : l6.length ≤ 140737488351232) :
    Calls Try.prog 25 #[.int .i64 (-1), .pointer (some ⟨hb, 0, none⟩), .pointer (some ⟨sb, 0, none⟩)] w fun e w' => e = .returned (.bool (hasB a1 l5 || hasB a1 l6)) ∧ Drawn0 w w' := by
  have Q5 := Aside0.mk (fun (W : World) (r : Bool) (h : hasB a1 l5 = r) (hd : Drawn0 w W) => has_drawn A5 c5 l5 a1 sb w W r hd hc1 r5 k5 m5 h)
  have Q6 := Aside0.mk (fun (W : World) (r : Bool) (h : hasB a1 l6 = r) (hd : Drawn0 w W) => has_drawn A6 c6 l6 a1 sb w W r hd hc1 r6 k6 m6 h)
  clear r5 r6 k5 k6 m5 m6
  cases e5 : hasB a1 l5
  · cases e6 : hasB a1 l6 <;>
    · have E5 := Aside0.mk e5
      have E6 := Aside0.mk e6
      clear e5 e6
      go_enter Try.func25, Try.ntmps25
      go_wp2_with fail
      refine (Q5.out _ _ E5.out (Drawn0.refl _)).mono ?_
      rintro e w' ⟨rfl, ⟨nd, rfl⟩⟩
      go_wp2_with fail
      refine (Q6.out _ _ E6.out ⟨_, rfl⟩).mono ?_
      rintro e w' ⟨rfl, ⟨nd2, rfl⟩⟩
      go_wp2
      go_ret
      exact ⟨rfl, ⟨_, rfl⟩⟩
  · have E5 := Aside0.mk e5
    clear e5
    go_enter Try.func25, Try.ntmps25
    go_wp2_with fail
    refine (Q5.out _ _ E5.out (Drawn0.refl _)).mono ?_
    rintro e w' ⟨rfl, ⟨nd, rfl⟩⟩
    go_wp2
    go_ret
    exact ⟨by simp, ⟨_, rfl⟩⟩
end Go.Proofs.Ytlfgdcgjndjdgaa.C
