-- Written by a program of this session (wip/pp: the kit's print, changed), out of the translation. Lean checks it.
import Derived.Test.YtcnjaeeghfmkfaaDoorCx0
namespace Go.Proofs.YtcnjaeeghfmkfaaDoor.C
open Go.RowKit Go.Proofs.YtcnjaeeghfmkfaaDoorW.PrintWords Go.Proofs.YtcnjaeeghfmkfaaDoorW.PrintLast Go.Proofs.YtcnjaeeghfmkfaaDoorW.PrintMore
attribute [local go_sem] max2_int min2_int max_two min_two max_three min_three max_four min_four   -- for this text's walks alone
set_option linter.unusedVariables false
set_option linter.unusedSimpArgs false

/-! ### newelref09_bit: function 19 -/
def newelref09_bit.f (a0 : Int) (a1 : Bool) : Option (Int) := if ((decide (a0 ≥ 32768)) != a1) = true then (some (Go.bits .xor .i64 (Int.tmod (wrap64 (a0 * 2)) 65536) 4129)) else (some (Int.tmod (wrap64 (a0 * 2)) 65536))
set_option maxHeartbeats 8000000 in
set_option maxRecDepth 100000 in
theorem newelref09_bit.calls (a0 : Int) (a1 : Bool) (r : Int) (w : World) (h : newelref09_bit.f a0 a1 = some r) :
  Calls Tryd.prog 19 #[.int .i64 a0, .bool a1] w fun e w' => e = .returned (.int .i64 r) ∧ Drawn0 w w' := by
 have H : (if ((decide (a0 ≥ 32768)) != a1) = true then (some (Go.bits .xor .i64 (Int.tmod (wrap64 (a0 * 2)) 65536) 4129)) else (some (Int.tmod (wrap64 (a0 * 2)) 65536))) = some r := h
 clear h
 by_cases c3 : ((decide (a0 ≥ 32768)) != a1) = true
 ·rw [if_pos c3] at H
  have c3b0 : ((decide (a0 ≥ 32768)) != a1) = true := c3
  (try (have c3b1 : decide ((decide (a0 ≥ 32768)) = a1) = false := by simpa using c3))
  (try (have c3b2 : ((decide (a0 ≥ 32768)) == a1) = false := by simpa using c3))
  (try (have c3b3 : ¬ ((decide (a0 ≥ 32768)) = a1) := by simpa using c3))
  clear c3
  obtain rfl := Option.some.inj H
  go_enter Tryd.func19, Tryd.ntmps19
  go_wp2
  go_ret
  exact ⟨by first | rfl | (simp; done) | (simp [*]; done), by repeat (first | exact Drawn0.refl _ | apply Drawn0.step)⟩
 ·rw [if_neg c3] at H
  have c3b0 : ((decide (a0 ≥ 32768)) != a1) = false := by simpa using c3
  (try (have c3b1 : decide ((decide (a0 ≥ 32768)) = a1) = true := by simpa using c3))
  (try (have c3b2 : ((decide (a0 ≥ 32768)) == a1) = true := by simpa using c3))
  clear c3
  obtain rfl := Option.some.inj H
  go_enter Tryd.func19, Tryd.ntmps19
  go_wp2
  go_ret
  exact ⟨by first | rfl | (simp; done) | (simp [*]; done), by repeat (first | exact Drawn0.refl _ | apply Drawn0.step)⟩

end Go.Proofs.YtcnjaeeghfmkfaaDoor.C
