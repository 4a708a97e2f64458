/- The function crc.next, walked by hand (it reads a variable of the package): a sum behind half a byte. -/
import Derived.Test.YtcnjaeeghfmkfaaDoorCx0
import Derived.Test.YtcnjaeeghfmkfaaDoorLaid
import Derived.Laws.BitsAll
namespace Go.Proofs.YtcnjaeeghfmkfaaDoor.C
open Go.RowKit Go.Proofs.YtcnjaeeghfmkfaaDoorW.PrintWords Go.Proofs.YtcnjaeeghfmkfaaDoorW.PrintLast Go.Proofs.YtcnjaeeghfmkfaaDoorW.PrintMore
set_option linter.unusedVariables false
set_option linter.unusedSimpArgs false
/-- The table's place. -/
def at_ (s x : Nat) : Nat := (s / 4096) ^^^ x
theorem at_lt {s x : Nat} (hs : s < 65536) (hx : x < 16) : at_ s x < 16 := Nat.xor_lt_two_pow (n := 4) (by omega) (by omega)
def nextN (s x : Nat) : Nat := (s * 16 % 65536) ^^^ (Laid.tabL.getD (at_ s x) 0)
theorem tab_lt : ∀ i : Nat, i < 16 → Laid.tabL.getD i 0 < 65536 := by decide
theorem nextN_lt {s x : Nat} (hs : s < 65536) (hx : x < 16) : nextN s x < 65536 := Nat.xor_lt_two_pow (n := 16) (by omega) (by have := tab_lt _ (at_lt hs hx); omega)
def crc_next.f (a0 a1 : Int) : Option Int := if 0 ≤ a0 ∧ a0 < 65536 ∧ 0 ≤ a1 ∧ a1 < 16 then some (nextN a0.toNat a1.toNat : Nat) else none
set_option maxHeartbeats 1000000 in
set_option maxRecDepth 100000 in
theorem crc_next.calls (a0 a1 : Int) (r : Int) (w : World) (h : crc_next.f a0 a1 = some r) (ht_ : Laid.TabAt w) :
    Calls Tryd.prog 18 #[.int .u16 a0, .int .u8 a1] w fun e w' => e = .returned (.int .u16 r) ∧ Drawn0 w w' := by
  unfold crc_next.f at h
  split at h
  case isFalse => cases h
  case isTrue hb =>
  obtain ⟨h1, h2, h3, h4⟩ := hb
  obtain ⟨s, rfl⟩ := Int.eq_ofNat_of_zero_le h1
  obtain ⟨x, rfl⟩ := Int.eq_ofNat_of_zero_le h3
  simp only [Int.toNat_natCast] at h
  have hr := Aside0.mk (Option.some.inj h).symm
  have hs : s < 65536 := by omega
  have hx : x < 16 := by omega
  have hc := ht_ _ (at_lt hs hx)
  have e1 : Go.bits .xor .u16 ((s : Int) / 4096) (x : Int) = ((at_ s x : Nat) : Int) := by
    rw [show ((s : Int) / 4096) = ((s / 4096 : Nat) : Int) from by omega, u16_xor_nat _ _ (by omega) (by omega)]
    rfl
  have i1 : ((at_ s x : Nat) : Int) < 16 := by have := at_lt hs hx; omega
  have HT := Aside0.mk ht_
  clear ht_ h h1 h2 h3 h4
  go_enter Tryd.func18, Tryd.ntmps18
  go_wp2
  go_ret
  refine ⟨?_, 0, rfl⟩
  have e2 : Go.bits .xor .u16 (IntKind.u16.wrap ((s : Int) * 16)) (Laid.tabI (at_ s x)) = ((nextN s x : Nat) : Int) := by
    rw [IntKind.wrap_u16, show ((s : Int) * 16 % 65536) = ((s * 16 % 65536 : Nat) : Int) from by omega]
    exact u16_xor_nat _ _ (by omega) (by have := tab_lt _ (at_lt hs hx); exact this)
  rw [e2, hr.out]
  rfl
end Go.Proofs.YtcnjaeeghfmkfaaDoor.C
