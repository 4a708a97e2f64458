/- What the laws' arguments read as; each law's walk as a statement. By this session's rowgen.py. -/
import Derived.Test.YtcnjaeeghfmkfaaDoorOpens
import Derived.Test.YtcnjaeeghfmkfaaDoorCx0
import Derived.Test.YtcnjaeeghfmkfaaDoorRows
import Derived.Test.YtcnjaeeghfmkfaaDoorLaid
namespace Go.Proofs.YtcnjaeeghfmkfaaDoor.Par
open Go.RowKit Go.Proofs.YtcnjaeeghfmkfaaDoorW.PrintWords Go.Proofs.YtcnjaeeghfmkfaaDoor.Opens Go.Proofs.YtcnjaeeghfmkfaaDoor.C
set_option linter.unusedVariables false
set_option maxRecDepth 100000
/-- CrcTells walked: whatever its arguments are, it answers true, and nothing that was there has changed. -/
def WalkCrcTells : Prop := ∀ (x0 : Int) (x1 : (List Int)) (A1 : Option Addr) (c1 : Nat) (w : World) (w0 : (Lit.int .i64 x0).wf = true) (w1 : ((∀ x_ ∈ x1, (Lit.int .u8 x_).wf = true) ∧ x1.length * 1 ≤ 140737488351232)) (l1 : x1.length ≤ c1) (g1 : Kd.C (Kd.int .u8) w A1 x1.length x1) (ht : Laid.TabAt w),
  Calls Tryd.prog 3 #[.int .i64 x0, .slice A1 x1.length c1] w fun e w' => e = .returned (.bool true) ∧ Below w.heap.size w w'
/-- CrcOpens walked: whatever its arguments are, it answers true, and nothing that was there has changed. -/
def WalkCrcOpens : Prop := ∀ (x0 : (List Int)) (A0 : Option Addr) (c0 : Nat) (w : World) (w0 : ((∀ x_ ∈ x0, (Lit.int .u8 x_).wf = true) ∧ x0.length * 1 ≤ 140737488351232)) (l0 : x0.length ≤ c0) (g0 : Kd.C (Kd.int .u8) w A0 x0.length x0) (ht : Laid.TabAt w),
  Calls Tryd.prog 4 #[.slice A0 x0.length c0] w fun e w' => e = .returned (.bool true) ∧ Below w.heap.size w w'
/-- CrcParts walked: whatever its arguments are, it answers true, and nothing that was there has changed. -/
def WalkCrcParts : Prop := ∀ (x0 : Int) (x1 : (List Int)) (A1 : Option Addr) (c1 : Nat) (x2 : (List Int)) (A2 : Option Addr) (c2 : Nat) (w : World) (w0 : (Lit.int .i64 x0).wf = true) (w1 : ((∀ x_ ∈ x1, (Lit.int .u8 x_).wf = true) ∧ x1.length * 1 ≤ 140737488351232)) (l1 : x1.length ≤ c1) (g1 : Kd.C (Kd.int .u8) w A1 x1.length x1) (w2 : ((∀ x_ ∈ x2, (Lit.int .u8 x_).wf = true) ∧ x2.length * 1 ≤ 140737488351232)) (l2 : x2.length ≤ c2) (g2 : Kd.C (Kd.int .u8) w A2 x2.length x2) (ht : Laid.TabAt w),
  Calls Tryd.prog 5 #[.int .i64 x0, .slice A1 x1.length c1, .slice A2 x2.length c2] w fun e w' => e = .returned (.bool true) ∧ Below w.heap.size w w'
/-- CrcBack walked: whatever its arguments are, it answers true, and nothing that was there has changed. -/
def WalkCrcBack : Prop := ∀ (x0 : (List Int)) (A0 : Option Addr) (c0 : Nat) (w : World) (w0 : ((∀ x_ ∈ x0, (Lit.int .u8 x_).wf = true) ∧ x0.length * 1 ≤ 140737488351232)) (l0 : x0.length ≤ c0) (g0 : Kd.C (Kd.int .u8) w A0 x0.length x0) (ht : Laid.TabAt w),
  Calls Tryd.prog 6 #[.slice A0 x0.length c0] w fun e w' => e = .returned (.bool true) ∧ Below w.heap.size w w'
/-- CrcTurned walked: whatever its arguments are, it answers true, and nothing that was there has changed. -/
def WalkCrcTurned : Prop := ∀ (x0 : (List Int)) (A0 : Option Addr) (c0 : Nat) (x1 : Int) (x2 : (Int × Int)) (w : World) (w0 : ((∀ x_ ∈ x0, (Lit.int .u8 x_).wf = true) ∧ x0.length * 1 ≤ 140737488351232)) (l0 : x0.length ≤ c0) (g0 : Kd.C (Kd.int .u8) w A0 x0.length x0) (w1 : (Lit.int .i64 x1).wf = true) (w2 : ((Lit.int .u8 x2.1).wf = true ∧ (Lit.int .u8 x2.2).wf = true)) (ht : Laid.TabAt w),
  Calls Tryd.prog 7 #[.slice A0 x0.length c0, .int .i64 x1, .agg #[.int .u8 x2.1, .int .u8 x2.2]] w fun e w' => e = .returned (.bool true) ∧ Below w.heap.size w w'
/-- CrcApart walked: whatever its arguments are, it answers true, and nothing that was there has changed. -/
def WalkCrcApart : Prop := ∀ (x0 : (List Int)) (A0 : Option Addr) (c0 : Nat) (x1 : (List Int)) (A1 : Option Addr) (c1 : Nat) (w : World) (w0 : ((∀ x_ ∈ x0, (Lit.int .u8 x_).wf = true) ∧ x0.length * 1 ≤ 140737488351232)) (l0 : x0.length ≤ c0) (g0 : Kd.C (Kd.int .u8) w A0 x0.length x0) (w1 : ((∀ x_ ∈ x1, (Lit.int .u8 x_).wf = true) ∧ x1.length * 1 ≤ 140737488351232)) (l1 : x1.length ≤ c1) (g1 : Kd.C (Kd.int .u8) w A1 x1.length x1) (ht : Laid.TabAt w),
  Calls Tryd.prog 8 #[.slice A0 x0.length c0, .slice A1 x1.length c1] w fun e w' => e = .returned (.bool true) ∧ Below w.heap.size w w'
end Go.Proofs.YtcnjaeeghfmkfaaDoor.Par
