/- The function collect.Next behind its range over a function, walked by hand. -/
import Derived.Test.YtlfgdcgjndjdgaaNext1
import Derived.Laws.EntriesVeiled
import Derived.Maps.OwnOps
namespace Go.Proofs.Ytlfgdcgjndjdgaa.C
open Go.RowKit Go.Shelf Go.Proofs.YtlfgdcgjndjdgaaW.PrintWords Go.Proofs.YtlfgdcgjndjdgaaW.PrintLast Go.Proofs.YtlfgdcgjndjdgaaW.PrintMore Go.Proofs.Ytlfgdcgjndjdgaa.Iter
set_option linter.unusedVariables false
def anyUp (f : Int) (l : List Int) : Bool := l.any (fun n => decide (f < n))
def anyDown (f : Int) (l : List Int) : Bool := l.any (fun n => decide (n < f))
/-- Does it stop at its floor, in a direction? Has it? Is there a call ahead? -/
def hereB (f d : Int) (I U D : List Int) : Bool := if 0 < d then hasB f I || hasB f U else hasB f I || hasB f D
def beenB (d : Int) (su sd : Bool) : Bool := if 0 < d then su else sd
def rideB (d : Int) : Int := if 0 < d then 1 else 2
/-- What is done, of a direction and the other one. -/
def nextD (f d : Int) (up dn su sd : Bool) (I U D : List Int) : Int × Int × Int :=
  if !beenB d su sd && hereB f d I U D then (3, d, 0) else if beenB d up dn then (rideB d, d, 0) else
  if !beenB (-d) su sd && hereB f (-d) I U D then (3, -d, 0) else if beenB (-d) up dn then (rideB (-d), -d, 0) else
  if hereB f (-d) I U D then (3, -d, 0) else (3, d, 0)
def dirB (f d : Int) (up : Bool) (U : List Int) : Int := if d = 0 then (if hasB f U || up then 1 else -1) else d
def nextB (f d : Int) (su sd : Bool) (I U D : List Int) : Int × Int × Int :=
  if I ++ U ++ D = [] then (0, 0, 0) else nextD f (dirB f d (anyUp f (I ++ U ++ D)) U) (anyUp f (I ++ U ++ D)) (anyDown f (I ++ U ++ D)) su sd I U D
def restOf : Code → Code
  | .seq _ (.seq _ (.seq _ (.seq _ c))) => c
  | c => c
set_option maxRecDepth 100000 in
set_option maxHeartbeats 8000000 in
theorem tail_none (R : Ending → World → Prop) (W : World) (sb ub Dk : Nat) (v0 v18 v24 v25 : Value) (Q : Exit → Act → World → Prop) (hQ : Q = bodyPostM Fence.wide 3 Try.prog Try.f11 R) (ha : W.heap[ub + 1 + 1]? = some (.cells #[.bool false] 4 (0, 0))) (hK : W.heap[Dk]? = some (.deferred (some [])))
    (hR : R (.returned (.tuple #[.int .i64 0, .int .i64 0, .int .i64 0])) (W.putObj Dk (.deferred none))) :
    (restOf (Try.f11.body.getD .skip)).wp Try.prog Q { tmps := #[v0, .pointer (some ⟨sb, 0, none⟩), .int .i64 0, .int .i64 0, .int .i64 0, .int .i64 0, .pointer (some ⟨ub, 0, none⟩), .pointer (some ⟨ub + 1, 0, none⟩), .pointer (some ⟨ub + 1 + 1, 0, none⟩), undef, undef, undef, undef, undef, undef, undef, undef, undef, v18, .int .i64 0, .int .i64 0, .bool false, undef, .pointer (some ⟨sb, 5, none⟩), v24, v25, undef, undef, undef, undef, undef, undef, undef, undef, undef, undef, undef, undef, undef, undef, undef, undef, undef, undef, undef, undef, undef, undef, undef, undef, undef, undef, undef, undef, undef, undef, undef, undef, undef, undef, undef, undef, undef, undef, undef, undef, undef, undef, undef, undef, undef, undef, undef, undef, undef, undef, undef, undef, undef, undef, undef, undef, undef, undef, undef, undef, undef, undef, undef, undef, undef, undef, undef, undef, undef], defers := [{ target := .collected Dk, args := #[] }] } W := by
  have ca : W.cell? ⟨ub + 1 + 1, 0, none⟩ = some (.bool false) := (blk_cell ha 0).trans rfl
  have HK := Aside0.mk hK
  have HR := Aside0.mk hR
  have HQ := Aside0.mk hQ
  clear hK hR ha hQ
  simp only [restOf, Try.f11, Option.getD]
  go_wp2
  rw [HQ.out]
  refine ⟨by simp, .inl ⟨_, _, rfl, run_takeDeferred HK.out, ?_⟩⟩
  refine ⟨_, ?_, HR.out⟩
  simp [results, Try.f11, go_sem]
theorem been_calls (d : Int) (hd : d = 1 ∨ d = -1) (U D : Bool) (sb : Nat) (w : World) (hu : w.cell? ⟨sb, 3, none⟩ = some (.bool U)) (hdn : w.cell? ⟨sb, 4, none⟩ = some (.bool D)) :
    Calls Try.prog 26 #[.int .i64 d, .pointer (some ⟨sb, 0, none⟩)] w fun e w' => e = .returned (.bool (beenB d U D)) ∧ Drawn0 w w' := by
  rcases hd with rfl | rfl
  · exact been_up U D sb w hu hdn
  · exact been_down U D sb w hu hdn
theorem ahead_calls (d : Int) (hd : d = 1 ∨ d = -1) (U D : Bool) (ub db : Nat) (w : World) (hu : w.cell? ⟨ub, 0, none⟩ = some (.bool U)) (hdn : w.cell? ⟨db, 0, none⟩ = some (.bool D)) :
    Calls Try.prog 24 #[.int .i64 d, .pointer (some ⟨ub, 0, none⟩), .pointer (some ⟨db, 0, none⟩)] w fun e w' => e = .returned (.bool (beenB d U D)) ∧ Drawn0 w w' := by
  rcases hd with rfl | rfl
  · exact ahead_up U D ub db w hu hdn
  · exact ahead_down U D ub db w hu hdn
/-- What the walk behind the loop leans on, in whatever world behind draws. -/
structure Held (W : World) (hb sb ub mb : Nat) (a1 : Int) (a3 a4 U D : Bool) (A5 : Option Addr) (c5 : Nat) (l5 : List Int) (A6 : Option Addr) (c6 : Nat) (l6 : List Int) (A7 : Option Addr) (c7 : Nat) (l7 : List Int) : Prop where
  has : W.cell? ⟨hb, 0, none⟩ = some (.func (.func 22) #[] #[.pointer (some ⟨sb, 0, none⟩)])
  s1 : W.cell? ⟨sb, 1, none⟩ = some (.int .i64 a1)
  s3 : W.cell? ⟨sb, 3, none⟩ = some (.bool a3)
  s4 : W.cell? ⟨sb, 4, none⟩ = some (.bool a4)
  s5 : W.cell? ⟨sb, 5, none⟩ = some (.slice A5 l5.length c5)
  s6 : W.cell? ⟨sb, 6, none⟩ = some (.slice A6 l6.length c6)
  s7 : W.cell? ⟨sb, 7, none⟩ = some (.slice A7 l7.length c7)
  up : W.cell? ⟨ub, 0, none⟩ = some (.bool U)
  dn : W.cell? ⟨ub + 1, 0, none⟩ = some (.bool D)
  r5 : Kd.C (Kd.int .i64) W A5 l5.length l5
  r6 : Kd.C (Kd.int .i64) W A6 l6.length l6
  r7 : Kd.C (Kd.int .i64) W A7 l7.length l7
  k5 : l5.length ≤ c5
  k6 : l6.length ≤ c6
  k7 : l7.length ≤ c7
  m5 : l5.length ≤ 140737488351232
  m6 : l6.length ≤ 140737488351232
  m7 : l7.length ≤ 140737488351232
  l1 : ∀ n, (Instr.lookup 46 (.map (some mb)) (.int .i64 1) false).run Try.prog (W.drewN n) = .ok (.int .i64 1) (W.drewN n)
  l2 : ∀ n, (Instr.lookup 46 (.map (some mb)) (.int .i64 (-1)) false).run Try.prog (W.drewN n) = .ok (.int .i64 2) (W.drewN n)
section
variable {W : World} {hb sb ub mb : Nat} {a1 : Int} {a3 a4 U D : Bool} {A5 : Option Addr} {c5 : Nat} {l5 : List Int} {A6 : Option Addr} {c6 : Nat} {l6 : List Int} {A7 : Option Addr} {c7 : Nat} {l7 : List Int}
theorem post_drawn {W W1 : World} {n : Nat} (h : Drawn0 (W.drewN n) W1) : Drawn0 W W1 := by
  obtain ⟨m, rfl⟩ := h.out
  exact ⟨_, World.drewN_drewN _ _ _⟩
theorem Held.been (H : Held W hb sb ub mb a1 a3 a4 U D A5 c5 l5 A6 c6 l6 A7 c7 l7) {V : World} (hv : Drawn0 W V) (d : Int) (hd : d = 1 ∨ d = -1) (r : Bool) (hr : beenB d a3 a4 = r) :
    Calls Try.prog 26 #[.int .i64 d, .pointer (some ⟨sb, 0, none⟩)] V fun e w' => e = .returned (.bool r) ∧ Drawn0 W w' := by
  obtain ⟨n, rfl⟩ := hv.out
  subst hr
  refine (been_calls d hd a3 a4 sb (W.drewN n) H.s3 H.s4).mono ?_
  exact fun e w' h => ⟨h.1, post_drawn h.2⟩
theorem Held.ahead (H : Held W hb sb ub mb a1 a3 a4 U D A5 c5 l5 A6 c6 l6 A7 c7 l7) {V : World} (hv : Drawn0 W V) (d : Int) (hd : d = 1 ∨ d = -1) (r : Bool) (hr : beenB d U D = r) :
    Calls Try.prog 24 #[.int .i64 d, .pointer (some ⟨ub, 0, none⟩), .pointer (some ⟨ub + 1, 0, none⟩)] V fun e w' => e = .returned (.bool r) ∧ Drawn0 W w' := by
  obtain ⟨n, rfl⟩ := hv.out
  subst hr
  refine (ahead_calls d hd U D ub (ub + 1) (W.drewN n) H.up H.dn).mono ?_
  exact fun e w' h => ⟨h.1, post_drawn h.2⟩
theorem Held.here (H : Held W hb sb ub mb a1 a3 a4 U D A5 c5 l5 A6 c6 l6 A7 c7 l7) {V : World} (hv : Drawn0 W V) (d : Int) (hd : d = 1 ∨ d = -1) (r : Bool) (hr : hereB a1 d l5 l6 l7 = r) :
    Calls Try.prog 25 #[.int .i64 d, .pointer (some ⟨hb, 0, none⟩), .pointer (some ⟨sb, 0, none⟩)] V fun e w' => e = .returned (.bool r) ∧ Drawn0 W w' := by
  obtain ⟨n, rfl⟩ := hv.out
  subst hr
  rcases hd with rfl | rfl
  · refine (here_up hb sb a1 A5 c5 l5 A6 c6 l6 (W.drewN n) H.has H.s1 H.s5 H.s6 (Kd.C_drewN H.r5 n) H.k5 H.m5 (Kd.C_drewN H.r6 n) H.k6 H.m6).mono ?_
    exact fun e w' h => ⟨h.1, post_drawn h.2⟩
  · refine (here_down hb sb a1 A5 c5 l5 A7 c7 l7 (W.drewN n) H.has H.s1 H.s5 H.s7 (Kd.C_drewN H.r5 n) H.k5 H.m5 (Kd.C_drewN H.r7 n) H.k7 H.m7).mono ?_
    exact fun e w' h => ⟨h.1, post_drawn h.2⟩
theorem Held.up6 (H : Held W hb sb ub mb a1 a3 a4 U D A5 c5 l5 A6 c6 l6 A7 c7 l7) {V : World} (hv : Drawn0 W V) (r : Bool) (hr : hasB a1 l6 = r) :
    Calls Try.prog 22 #[.slice A6 l6.length c6, .pointer (some ⟨sb, 0, none⟩)] V fun e w' => e = .returned (.bool r) ∧ Drawn0 W w' :=
  has_drawn A6 c6 l6 a1 sb W V r hv H.s1 H.r6 H.k6 H.m6 hr
theorem Held.look (H : Held W hb sb ub mb a1 a3 a4 U D A5 c5 l5 A6 c6 l6 A7 c7 l7) {V : World} (hv : Drawn0 W V) (d : Int) (hd : d = 1 ∨ d = -1) :
    (Instr.lookup 46 (.map (some mb)) (.int .i64 d) false).run Try.prog V = .ok (.int .i64 (rideB d)) V := by
  obtain ⟨n, rfl⟩ := hv.out
  rcases hd with rfl | rfl
  · exact H.l1 n
  · exact H.l2 n
end
/-- The two look-ups in the table of rides. -/
theorem rides {W : World} {mb : Nat} {n : Nat} (h : W.ownsMap Try.prog 3 (plainElem (H := Unit) Try.prog 3) mb n (((DataW.map []).put (.int .i64 1) (.lit (.int .i64 1))).put (.int .i64 (-1)) (.lit (.int .i64 2)))) :
    (Instr.lookup 46 (.map (some mb)) (.int .i64 1) false).run Try.prog W = .ok (.int .i64 1) W ∧ (Instr.lookup 46 (.map (some mb)) (.int .i64 (-1)) false).run Try.prog W = .ok (.int .i64 2) W := by
  have hz : (zeroValue 3).run Try.prog W = .ok (.int .i64 0) W := by kernel_rfl
  obtain ⟨c, hr, hat, _⟩ := h.lookup_int (Maps.int_keyed Try.underlying3) Try.underlying46 Try.underlying3 hz (Maps.keyOf_int_mk Try.underlying3 (a := 1) (by decide))
  obtain ⟨c', hr', hat', _⟩ := h.lookup_int (Maps.int_keyed Try.underlying3) Try.underlying46 Try.underlying3 hz (Maps.keyOf_int_mk Try.underlying3 (a := -1) (by decide))
  have e1 : (((DataW.map []).put (.int .i64 1) (.lit (.int .i64 1))).put (.int .i64 (-1)) (.lit (.int .i64 2)) : DataW Unit).atKey (.int .i64 1) (.lit (.int .i64 0)) = .lit (.int .i64 1) := by rfl
  have e2 : (((DataW.map []).put (.int .i64 1) (.lit (.int .i64 1))).put (.int .i64 (-1)) (.lit (.int .i64 2)) : DataW Unit).atKey (.int .i64 (-1)) (.lit (.int .i64 0)) = .lit (.int .i64 2) := by rfl
  rw [e1] at hat
  rw [e2] at hat'
  cases hat
  cases hat'
  exact ⟨hr, hr'⟩
/-- The direction of a round. -/
def dirK (d : Int) (k : Nat) : Int := if k = 0 then d else -d
def stuck (f d : Int) (up dn su sd : Bool) (I U D : List Int) (k : Nat) : Prop := (!beenB (dirK d k) su sd && hereB f (dirK d k) I U D) = false ∧ beenB (dirK d k) up dn = false
theorem next_open {f d : Int} {up dn su sd : Bool} {I U D : List Int} {k : Nat} (hk : k < 2) (hs : ∀ j, j < k → stuck f d up dn su sd I U D j) (hb : beenB (dirK d k) su sd = false) (hh : hereB f (dirK d k) I U D = true) : nextD f d up dn su sd I U D = (3, dirK d k, 0) := by
  have : k = 0 ∨ k = 1 := by omega
  rcases this with rfl | rfl
  · simp only [dirK, if_true] at hb hh ⊢
    simp [nextD, hb, hh]
  · obtain ⟨h1, h2⟩ := hs 0 (by omega)
    simp only [dirK, if_true] at h1 h2
    simp only [dirK, if_neg (show ¬ (1 = 0) by decide)] at hb hh ⊢
    simp [nextD, hb, hh, h1, h2]
theorem next_ride {f d : Int} {up dn su sd : Bool} {I U D : List Int} {k : Nat} (hk : k < 2) (hs : ∀ j, j < k → stuck f d up dn su sd I U D j) (hb : (!beenB (dirK d k) su sd && hereB f (dirK d k) I U D) = false) (hh : beenB (dirK d k) up dn = true) : nextD f d up dn su sd I U D = (rideB (dirK d k), dirK d k, 0) := by
  have : k = 0 ∨ k = 1 := by omega
  rcases this with rfl | rfl
  · simp only [dirK, if_true] at hb hh ⊢
    simp [nextD, hb, hh]
  · obtain ⟨h1, h2⟩ := hs 0 (by omega)
    simp only [dirK, if_true] at h1 h2
    simp only [dirK, if_neg (show ¬ (1 = 0) by decide)] at hb hh ⊢
    simp [nextD, hb, hh, h1, h2]
theorem next_end {f d : Int} {up dn su sd : Bool} {I U D : List Int} (hs : ∀ j, j < 2 → stuck f d up dn su sd I U D j) : nextD f d up dn su sd I U D = if hereB f (-d) I U D then (3, -d, 0) else (3, d, 0) := by
  obtain ⟨h1, h2⟩ := hs 0 (by omega)
  obtain ⟨h3, h4⟩ := hs 1 (by omega)
  simp only [dirK, if_true] at h1 h2
  simp only [dirK, if_neg (show ¬ (1 = 0) by decide)] at h3 h4
  simp [nextD, h1, h2, h3, h4]
theorem Held.later {W : World} {hb sb ub mb : Nat} {a1 : Int} {a3 a4 U D : Bool} {A5 : Option Addr} {c5 : Nat} {l5 : List Int} {A6 : Option Addr} {c6 : Nat} {l6 : List Int} {A7 : Option Addr} {c7 : Nat} {l7 : List Int} {n : Nat} (H : Held W hb sb ub mb a1 a3 a4 U D A5 c5 l5 A6 c6 l6 A7 c7 l7)
    (own : W.ownsMap Try.prog 3 (plainElem (H := Unit) Try.prog 3) mb n (((DataW.map []).put (.int .i64 1) (.lit (.int .i64 1))).put (.int .i64 (-1)) (.lit (.int .i64 2)))) (m : Nat) (o : Obj) : Held ((W.drewN m).alloc o) hb sb ub mb a1 a3 a4 U D A5 c5 l5 A6 c6 l6 A7 c7 l7 := 
  have ho : (W.drewN m).ownsMap Try.prog 3 (plainElem (H := Unit) Try.prog 3) mb n (((DataW.map []).put (.int .i64 1) (.lit (.int .i64 1))).put (.int .i64 (-1)) (.lit (.int .i64 2))) := own
  { has := cell_alloc_l (W := W.drewN m) o H.has
    s1 := cell_alloc_l (W := W.drewN m) o H.s1
    s3 := cell_alloc_l (W := W.drewN m) o H.s3
    s4 := cell_alloc_l (W := W.drewN m) o H.s4
    s5 := cell_alloc_l (W := W.drewN m) o H.s5
    s6 := cell_alloc_l (W := W.drewN m) o H.s6
    s7 := cell_alloc_l (W := W.drewN m) o H.s7
    up := cell_alloc_l (W := W.drewN m) o H.up
    dn := cell_alloc_l (W := W.drewN m) o H.dn
    r5 := Kd.C_alloc (Kd.C_drewN H.r5 m) o
    r6 := Kd.C_alloc (Kd.C_drewN H.r6 m) o
    r7 := Kd.C_alloc (Kd.C_drewN H.r7 m) o
    k5 := H.k5
    k6 := H.k6
    k7 := H.k7
    m5 := H.m5
    m6 := H.m6
    m7 := H.m7
    l1 := fun q => (rides (W := ((W.drewN m).alloc o).drewN q) (ho.alloc o)).1
    l2 := fun q => (rides (W := ((W.drewN m).alloc o).drewN q) (ho.alloc o)).2 }
set_option maxRecDepth 100000 in
set_option maxHeartbeats 8000000 in
theorem tail_some (R : Ending → World → Prop) (n0 : Nat) (w W : World) (sb ub Dk : Nat) (v0 v18 v24 v25 : Value) (Q : Exit → Act → World → Prop) (hQ : Q = bodyPostM Fence.wide 3 Try.prog Try.f11 R) (U D : Bool)
    (hu : W.heap[ub]? = some (.cells #[.bool U] 4 (0, 0))) (hd : W.heap[ub + 1]? = some (.cells #[.bool D] 4 (0, 0))) (ha : W.heap[ub + 1 + 1]? = some (.cells #[.bool true] 4 (0, 0)))
    (a0 a1 a2 : Int) (a3 a4 : Bool) (A5 : Option Addr) (c5 : Nat) (l5 : List Int) (A6 : Option Addr) (c6 : Nat) (l6 : List Int) (A7 : Option Addr) (c7 : Nat) (l7 : List Int) (hs : SBox W sb a0 a1 a2 a3 a4 A5 c5 l5 A6 c6 l6 A7 c7 l7)
    (r5 : Kd.C (Kd.int .i64) W A5 l5.length l5) (k5 : l5.length ≤ c5) (m5 : l5.length ≤ 140737488351232) (r6 : Kd.C (Kd.int .i64) W A6 l6.length l6) (k6 : l6.length ≤ c6) (m6 : l6.length ≤ 140737488351232) (r7 : Kd.C (Kd.int .i64) W A7 l7.length l7) (k7 : l7.length ≤ c7) (m7 : l7.length ≤ 140737488351232)
    (ha2 : -1 ≤ a2 ∧ a2 ≤ 1) (hK : W.heap[Dk]? = some (.deferred (some []))) (hDk : w.heap.size ≤ Dk) (hB : Below w.heap.size w W)
    (hR : ∀ W', Below w.heap.size w W' → R (.returned (.tuple #[.int .i64 (nextD a1 (dirB a1 a2 U l6) U D a3 a4 l5 l6 l7).1, .int .i64 (nextD a1 (dirB a1 a2 U l6) U D a3 a4 l5 l6 l7).2.1, .int .i64 (nextD a1 (dirB a1 a2 U l6) U D a3 a4 l5 l6 l7).2.2])) W') :
    (restOf (Try.f11.body.getD .skip)).wp Try.prog Q { tmps := #[v0, .pointer (some ⟨sb, 0, none⟩), .int .i64 0, .int .i64 0, .int .i64 0, .int .i64 0, .pointer (some ⟨ub, 0, none⟩), .pointer (some ⟨ub + 1, 0, none⟩), .pointer (some ⟨ub + 1 + 1, 0, none⟩), undef, undef, undef, undef, undef, undef, undef, undef, undef, v18, .int .i64 0, .int .i64 0, .bool false, undef, .pointer (some ⟨sb, 5, none⟩), v24, v25, undef, undef, undef, undef, undef, undef, undef, undef, undef, undef, undef, undef, undef, undef, undef, undef, undef, undef, undef, undef, undef, undef, undef, undef, undef, undef, undef, undef, undef, undef, undef, undef, undef, undef, undef, undef, undef, undef, undef, undef, undef, undef, undef, undef, undef, undef, undef, undef, undef, undef, undef, undef, undef, undef, undef, undef, undef, undef, undef, undef, undef, undef, undef, undef, undef, undef, undef, undef, undef], defers := [{ target := .collected Dk, args := #[] }] } W := by
  have ca : W.cell? ⟨ub + 1 + 1, 0, none⟩ = some (.bool true) := (blk_cell ha 0).trans rfl
  have hmm := @run_makeMap Try.prog
  obtain ⟨WA, hWA⟩ : ∃ WA : World, WA = W.alloc (.cells #[.func (.func 22) #[] #[.pointer (some ⟨sb, 0, none⟩)]] 44) := ⟨_, rfl⟩
  have zA : WA.heap.size = W.heap.size + 1 := by rw [hWA]; simp
  have m0 := World.ownsMap_made (H := Unit) WA Try.prog 3 (plainElem Try.prog 3)
  obtain ⟨w2, hrun1, own1, g1⟩ := m0.update (Maps.int_keyed Try.underlying3) Try.underlying46 (by decide) (Maps.keyOf_int_mk Try.underlying3 (a := 1) (by decide)) (plainElem_int Try.underlying3 (a := 1) (by decide))
  obtain ⟨w3, hrun2, own2, g2⟩ := own1.update (Maps.int_keyed Try.underlying3) Try.underlying46 (by decide) (Maps.keyOf_int_mk Try.underlying3 (a := -1) (by decide)) (plainElem_int Try.underlying3 (a := 2) (by decide))
  have hB3 : Below W.heap.size W w3 := by
    have q : Below W.heap.size W (WA.alloc (.map #[] 0)) := by rw [hWA]; exact below_alloc (below_alloc (Below.refl _ _) _) _
    have z : (WA.alloc (.map #[] 0)).heap.size = W.heap.size + 1 + 1 := by simp [zA]
    exact (q.grown g1 (by omega) (fun k e => by cases e; omega)).grown g2 (by have := g1.size; omega) (fun k e => by cases e; omega)
  have hbx : w3.heap[W.heap.size]? = some (.cells #[.func (.func 22) #[] #[.pointer (some ⟨sb, 0, none⟩)]] 44 (0, 0)) := by
    have q : (WA.alloc (.map #[] 0)).heap[W.heap.size]? = some (.cells #[.func (.func 22) #[] #[.pointer (some ⟨sb, 0, none⟩)]] 44 (0, 0)) := by rw [hWA]; exact blk_alloc (blk_new W _) _
    exact blk_grown (blk_grown q g1 (by intro e; have := Option.some.inj e; omega)) g2 (by intro e; have := Option.some.inj e; omega)
  have hs3 := blk_below hs hB3
  have HH : Aside0 (Held w3 W.heap.size sb ub WA.heap.size a1 a3 a4 U D A5 c5 l5 A6 c6 l6 A7 c7 l7) := ⟨{
    has := (blk_cell hbx 0).trans rfl
    s1 := (blk_cell hs3 1).trans rfl
    s3 := (blk_cell hs3 3).trans rfl
    s4 := (blk_cell hs3 4).trans rfl
    s5 := (blk_cell hs3 5).trans rfl
    s6 := (blk_cell hs3 6).trans rfl
    s7 := (blk_cell hs3 7).trans rfl
    up := (blk_cell (blk_below hu hB3) 0).trans rfl
    dn := (blk_cell (blk_below hd hB3) 0).trans rfl
    r5 := Kd.C_below r5 hB3
    r6 := Kd.C_below r6 hB3
    r7 := Kd.C_below r7 hB3
    k5 := k5
    k6 := k6
    k7 := k7
    m5 := m5
    m6 := m6
    m7 := m7
    l1 := fun n => (rides (W := w3.drewN n) own2).1
    l2 := fun n => (rides (W := w3.drewN n) own2).2 }⟩
  have hs2 : w3.cell? ⟨sb, 2, none⟩ = some (.int .i64 a2) := (blk_cell hs3 2).trans rfl
  have hs6 := HH.out.s6
  have hsh := HH.out.has
  have hup := HH.out.up
  have HB3 := Aside0.mk hB3
  have HO2 := Aside0.mk own2
  have HB := Aside0.mk hB
  have HK := Aside0.mk hK
  have HR := Aside0.mk hR
  have HQ := Aside0.mk hQ
  have HDk := Aside0.mk hDk
  have HA2 := Aside0.mk ha2
  clear hR hQ hK hB hB3 hu hd ha hs r5 r6 r7 k5 k6 k7 m5 m6 m7 own1 own2 m0 g1 g2 hbx hs3 hDk ha2
  rw [zA] at hrun1 hrun2
  rw [hWA] at hrun1
  clear hWA
  simp only [restOf, Try.f11, Option.getD]
  obtain ⟨dd, hdd⟩ : ∃ dd, dd = dirB a1 a2 U l6 := ⟨_, rfl⟩
  have HDD := Aside0.mk hdd
  clear hdd
  go_upto_if 52 with (fail)
  go_cut [15] from 51 to 60 (fun v15 wc => v15 = .int .i64 dd ∧ Aside0 (Drawn0 w3 wc))
  case first =>
    by_cases hz : a2 = 0
    · subst hz
      have hzb : ((0 : Int) == 0) = true := rfl
      clear hs2
      cases e6 : hasB a1 l6
      · have E6 := Aside0.mk e6
        clear e6
        cases U
        · go_wp2_with fail
          refine (HH.out.up6 (Drawn0.refl _) false E6.out).mono ?_
          rintro e w' ⟨rfl, ⟨nd, rfl⟩⟩
          go_wp2
          go_meet
          case rel => exact ⟨by rw [HDD.out]; simp [dirB, E6.out], ⟨⟨_, rfl⟩⟩⟩
        · go_wp2_with fail
          refine (HH.out.up6 (Drawn0.refl _) false E6.out).mono ?_
          rintro e w' ⟨rfl, ⟨nd, rfl⟩⟩
          go_wp2
          go_meet
          case rel => exact ⟨by rw [HDD.out]; simp [dirB, E6.out], ⟨⟨_, rfl⟩⟩⟩
      · have E6 := Aside0.mk e6
        clear e6
        go_wp2_with fail
        refine (HH.out.up6 (Drawn0.refl _) true E6.out).mono ?_
        rintro e w' ⟨rfl, ⟨nd, rfl⟩⟩
        go_wp2
        go_meet
        case rel => exact ⟨by rw [HDD.out]; simp [dirB, E6.out], ⟨⟨_, rfl⟩⟩⟩
    · have hzb : (a2 == 0) = false := by simpa using hz
      go_wp2
      go_meet
      case rel => exact ⟨by rw [HDD.out]; simp [dirB, hz], ⟨Drawn0.refl _⟩⟩
  case rest =>
    have hd1 : dd = 1 ∨ dd = -1 := by
      have h := HA2.out
      rw [HDD.out]
      unfold dirB
      split
      · split
        · exact .inl rfl
        · exact .inr rfl
      · omega
    obtain ⟨rfl, HW⟩ := hcut
    obtain ⟨nw, rfl⟩ := HW.out.out
    have hlo : -1 ≤ dd := by omega
    have hhi : dd ≤ 1 := by omega
    have HD1 := Aside0.mk hd1
    clear hd1 HW hs2 hs6 hsh hup hrun1 hrun2
    have HH4 := Aside0.mk (HH.out.later HO2.out nw (.cells #[.int .i64 dd, .int .i64 (-dd)] 3))
    have hq0 : ((w3.drewN nw).alloc (.cells #[.int .i64 dd, .int .i64 (-dd)] 3)).heap[w3.heap.size]? = some (.cells #[.int .i64 dd, .int .i64 (-dd)] 3 (0, 0)) := blk_new (w3.drewN nw) _
    have HQ0 := Aside0.mk hq0
    clear hq0
    go_wp2_with fail
    have HB4 : Aside0 (Below W.heap.size W ((w3.drewN nw).alloc (.cells #[.int .i64 dd, .int .i64 (-dd)] 3))) := ⟨below_alloc (pw_below_drewN HB3.out _) _⟩
    generalize ((w3.drewN nw).alloc (.cells #[.int .i64 dd, .int .i64 (-dd)] 3)) = W4 at HH4 HQ0 HB4 ⊢
    have HKD : ∀ V, Aside0 (Drawn0 W4 V → V.heap[Dk]? = some (.deferred (some []))) := fun V => ⟨fun h => by
      obtain ⟨m, rfl⟩ := h.out
      exact (HB4.out.block Dk (blk_lt HK.out)).trans HK.out⟩
    have HBD : ∀ V, Aside0 (Drawn0 W4 V → Below w.heap.size w (V.putObj Dk (.deferred none))) := fun V => ⟨fun h => by
      have hk := (HKD V).out h
      obtain ⟨m, rfl⟩ := h.out
      have q : Below w.heap.size w (W4.drewN m) := pw_below_drewN (below_step HB.out HB4.out) m
      exact q.grown (grownBy_putObj' _ _ _) q.size (fun k e => by have := Option.some.inj e; have := HDk.out; omega)⟩
    go_loopw [66] (fun v66 wr => ∃ k : Nat, k ≤ 2 ∧ v66 = .int .i64 k ∧ Aside0 (Drawn0 W4 wr) ∧ Aside0 (∀ j, j < k → stuck a1 dd U D a3 a4 l5 l6 l7 j)) (fun v66 _ => 2 - (intOf v66).toNat)
    case atStart => exact ⟨0, by omega, rfl, ⟨Drawn0.refl _⟩, ⟨fun j hj => by omega⟩⟩
    case round =>
      obtain ⟨k, hk, rfl, HW, HST⟩ := hrel
      by_cases hlt : k < 2
      · have hlt' : (k : Int) < 2 := by omega
        have HDK : Aside0 (dirK dd k = 1 ∨ dirK dd k = -1) := ⟨by have := HD1.out; unfold dirK; split <;> omega⟩
        have hcell : wr.cell? ⟨w3.heap.size, k, none⟩ = some (.int .i64 (dirK dd k)) := by
          obtain ⟨m, hm⟩ := HW.out.out
          subst hm
          have q := blk_cell HQ0.out k
          have : k = 0 ∨ k = 1 := by omega
          rcases this with e | e <;> subst e
          · exact q.trans rfl
          · exact q.trans rfl
        generalize hdk : dirK dd k = dk at hcell
        have HE := Aside0.mk hdk
        clear hdk
        rw [HE.out] at HDK
        cases eb : beenB dk a3 a4
        · have EB := Aside0.mk eb
          clear eb
          cases eh : hereB a1 dk l5 l6 l7
          · have EH := Aside0.mk eh
            clear eh
            cases ea : beenB dk U D
            · have EA := Aside0.mk ea
              clear ea
              go_wp2_with fail
              refine (HH4.out.been HW.out dk HDK.out false EB.out).mono ?_
              rintro e w5 ⟨rfl, hdr⟩
              have HW5 := Aside0.mk hdr
              clear hdr hcell
              go_wp2_with fail
              refine (HH4.out.here HW5.out dk HDK.out false EH.out).mono ?_
              rintro e w6 ⟨rfl, hdr⟩
              have HW6 := Aside0.mk hdr
              clear hdr
              go_wp2_with fail
              refine (HH4.out.ahead HW6.out dk HDK.out false EA.out).mono ?_
              rintro e w7 ⟨rfl, hdr⟩
              have HW7 := Aside0.mk hdr
              clear hdr
              go_wp2_with fail
              go_roundw
              case rel => exact ⟨k + 1, by omega, by simp, HW7, ⟨fun j hj => by
                rcases Nat.lt_or_ge j k with h | h
                · exact HST.out j h
                · obtain rfl : j = k := by omega
                  unfold stuck
                  rw [HE.out, EB.out, EH.out, EA.out]
                  exact ⟨rfl, rfl⟩⟩⟩
              case measure => simp [intOf]; omega
            · have EA := Aside0.mk ea
              clear ea
              go_wp2_with fail
              refine (HH4.out.been HW.out dk HDK.out false EB.out).mono ?_
              rintro e w5 ⟨rfl, hdr⟩
              have HW5 := Aside0.mk hdr
              clear hdr
              clear hcell
              go_wp2_with fail
              refine (HH4.out.here HW5.out dk HDK.out false EH.out).mono ?_
              rintro e w6 ⟨rfl, hdr⟩
              have HW6 := Aside0.mk hdr
              clear hdr
              go_wp2_with fail
              refine (HH4.out.ahead HW6.out dk HDK.out true EA.out).mono ?_
              rintro e w7 ⟨rfl, hdr⟩
              have HW7 := Aside0.mk hdr
              clear hdr
              have hlook := HH4.out.look HW7.out dk HDK.out
              rw [zA] at hlook
              have hfin := HR.out _ ((HBD _).out HW7.out)
              rw [← HDD.out, next_ride hlt HST.out (by rw [HE.out, EB.out, EH.out]; rfl) (by rw [HE.out]; exact EA.out), HE.out] at hfin
              go_wp2
              rw [HQ.out]
              refine ⟨by simp, .inl ⟨_, _, rfl, run_takeDeferred ((HKD _).out HW7.out), ?_⟩⟩
              refine ⟨_, ?_, hfin⟩
              simp [results, Try.f11, go_sem]
          · have EH := Aside0.mk eh
            clear eh
            go_wp2_with fail
            refine (HH4.out.been HW.out dk HDK.out false EB.out).mono ?_
            rintro e w5 ⟨rfl, hdr⟩
            have HW5 := Aside0.mk hdr
            clear hdr
            clear hcell
            go_wp2_with fail
            refine (HH4.out.here HW5.out dk HDK.out true EH.out).mono ?_
            rintro e w6 ⟨rfl, hdr⟩
            have HW6 := Aside0.mk hdr
            clear hdr
            have hfin := HR.out _ ((HBD _).out HW6.out)
            rw [← HDD.out, next_open hlt HST.out (by rw [HE.out]; exact EB.out) (by rw [HE.out]; exact EH.out), HE.out] at hfin
            go_wp2
            rw [HQ.out]
            refine ⟨by simp, .inl ⟨_, _, rfl, run_takeDeferred ((HKD _).out HW6.out), ?_⟩⟩
            refine ⟨_, ?_, hfin⟩
            simp [results, Try.f11, go_sem]
        · have EB := Aside0.mk eb
          clear eb
          cases ea : beenB dk U D
          · have EA := Aside0.mk ea
            clear ea
            go_wp2_with fail
            refine (HH4.out.been HW.out dk HDK.out true EB.out).mono ?_
            rintro e w5 ⟨rfl, hdr⟩
            have HW5 := Aside0.mk hdr
            clear hdr
            clear hcell
            go_wp2_with fail
            refine (HH4.out.ahead HW5.out dk HDK.out false EA.out).mono ?_
            rintro e w6 ⟨rfl, hdr⟩
            have HW6 := Aside0.mk hdr
            clear hdr
            go_wp2_with fail
            go_roundw
            case rel => exact ⟨k + 1, by omega, by simp, HW6, ⟨fun j hj => by
              rcases Nat.lt_or_ge j k with h | h
              · exact HST.out j h
              · obtain rfl : j = k := by omega
                unfold stuck
                rw [HE.out, EB.out, EA.out]
                exact ⟨rfl, rfl⟩⟩⟩
            case measure => simp [intOf]; omega
          · have EA := Aside0.mk ea
            clear ea
            go_wp2_with fail
            refine (HH4.out.been HW.out dk HDK.out true EB.out).mono ?_
            rintro e w5 ⟨rfl, hdr⟩
            have HW5 := Aside0.mk hdr
            clear hdr
            clear hcell
            go_wp2_with fail
            refine (HH4.out.ahead HW5.out dk HDK.out true EA.out).mono ?_
            rintro e w6 ⟨rfl, hdr⟩
            have HW6 := Aside0.mk hdr
            clear hdr
            have hlook := HH4.out.look HW6.out dk HDK.out
            rw [zA] at hlook
            have hfin := HR.out _ ((HBD _).out HW6.out)
            rw [← HDD.out, next_ride hlt HST.out (by rw [HE.out, EB.out]; rfl) (by rw [HE.out]; exact EA.out), HE.out] at hfin
            go_wp2
            rw [HQ.out]
            refine ⟨by simp, .inl ⟨_, _, rfl, run_takeDeferred ((HKD _).out HW6.out), ?_⟩⟩
            refine ⟨_, ?_, hfin⟩
            simp [results, Try.f11, go_sem]
      · obtain rfl : k = 2 := by omega
        have HDN : Aside0 (-dd = 1 ∨ -dd = -1) := ⟨by have := HD1.out; omega⟩
        cases eh : hereB a1 (-dd) l5 l6 l7
        all_goals
          have EH := Aside0.mk eh
          clear eh
          go_wp2_with fail
          refine (HH4.out.here HW.out (-dd) HDN.out _ EH.out).mono ?_
          rintro e w5 ⟨rfl, hdr⟩
          have HW5 := Aside0.mk hdr
          clear hdr
          have hfin := HR.out _ ((HBD _).out HW5.out)
          rw [← HDD.out, next_end HST.out, EH.out] at hfin
          go_wp2
          rw [HQ.out]
          refine ⟨by simp, .inl ⟨_, _, rfl, run_takeDeferred ((HKD _).out HW5.out), ?_⟩⟩
          refine ⟨_, ?_, hfin⟩
          simp [results, Try.f11, go_sem]
end Go.Proofs.Ytlfgdcgjndjdgaa.C
