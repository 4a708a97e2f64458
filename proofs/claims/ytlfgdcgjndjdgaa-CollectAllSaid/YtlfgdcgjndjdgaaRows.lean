/-
  No cell of these rows narrows 'for every input' (looked for: loops, veiled, ifaces, maps, wideKeys, modest, calm, conditions, laid).
  DERIVED. THE GIVEN ROWS OF THIS SEAT. 6 by the template 'for every input the law returns true; each argument reads behind the call as it read before'; 0 by the template 'total and deterministic' (their statements: YtlfgdcgjndjdgaaTotals.lean).
  GIVEN WITH THE SEED: the statements are not yours to turn. If you find one false, say at which input.
  Laid BY PROGRAM, IN A SANDBOX (cutbox-rows.mjs): the forced cells as the released guide's own fill.sh prints them over the translation 79699e145aa566bd… (all of the seat's roots in one cut). By AI agents, Wed Nov 11 2026. No macro, syntax, notation, axiom, sorry.
-/
import Derived.Test.YtlfgdcgjndjdgaaChecked
import GoSem.Claim
import GoSem.ClaimJoined
import GoSem.ClaimMapViews
import Derived.JoinedTies
import Derived.KernelRfl
namespace Go.Proofs.Ytlfgdcgjndjdgaa
/- THE CELL 'sum', in the pinned program and in every row, IS THE sha256 OF THE DUMP (.gsa) THAT YtlfgdcgjndjdgaaProg.lean LOADS. Nothing in Lean hashes anything: it is a label: what it is worth is what the hold of that sum in a sandbox is worth. -/
noncomputable def Try.pinned : Pinned := { name := "ytlfgdcgjndjdgaa", sum := "79699e145aa566bdf092057e046bdbe7f7dc1604bf878f77ad5dcdf7f13d4d47", checked := Try.checked }
namespace Rows
def none {H : Type} : Left H := { results := [], args := [] }

/-- 'newellaw20.CollectNexts': WHATEVER THE INPUT: true; the input reads as it did. -/
def collectNextsSpec : ChangeSpec := { name := "collectNexts", fn := fun _ => fun
  | [d1, d2] => { results := [.lit (.bool true)], args := [d1, d2] }
  | _ => none }
def collectNextsRow : OpenClaim := { program := "ytlfgdcgjndjdgaa", sum := "79699e145aa566bdf092057e046bdbe7f7dc1604bf878f77ad5dcdf7f13d4d47", func := "newel/newellaw20.CollectNexts", spec := "collectNexts", unfollowed := true, recurses := true, apart := false }
def CollectNextsSaid : Prop := collectNextsRow.holds Try.pinned (OpenSpec.ofChange collectNextsSpec)

/-- ITS FALSE NEIGHBOUR: 'it returns false'. Refute it at one input. -/
def collectNextsWrong : ChangeSpec := { name := "collectNexts", fn := fun _ => fun
  | [d1, d2] => { results := [.lit (.bool false)], args := [d1, d2] }
  | _ => none }
def CollectNextsWrongFalsely : Prop := collectNextsRow.holds Try.pinned (OpenSpec.ofChange collectNextsWrong)

/-- 'newellaw20.CollectToward': WHATEVER THE INPUT: true; the input reads as it did. -/
def collectTowardSpec : ChangeSpec := { name := "collectToward", fn := fun _ => fun
  | [d] => { results := [.lit (.bool true)], args := [d] }
  | _ => none }
def collectTowardRow : OpenClaim := { program := "ytlfgdcgjndjdgaa", sum := "79699e145aa566bdf092057e046bdbe7f7dc1604bf878f77ad5dcdf7f13d4d47", func := "newel/newellaw20.CollectToward", spec := "collectToward", unfollowed := true, recurses := true, apart := false }
def CollectTowardSaid : Prop := collectTowardRow.holds Try.pinned (OpenSpec.ofChange collectTowardSpec)

/-- ITS FALSE NEIGHBOUR: 'it returns false'. Refute it at one input. -/
def collectTowardWrong : ChangeSpec := { name := "collectToward", fn := fun _ => fun
  | [d] => { results := [.lit (.bool false)], args := [d] }
  | _ => none }
def CollectTowardWrongFalsely : Prop := collectTowardRow.holds Try.pinned (OpenSpec.ofChange collectTowardWrong)

/-- 'newellaw20.CollectTurns': WHATEVER THE INPUT: true; the input reads as it did. -/
def collectTurnsSpec : ChangeSpec := { name := "collectTurns", fn := fun _ => fun
  | [d] => { results := [.lit (.bool true)], args := [d] }
  | _ => none }
def collectTurnsRow : OpenClaim := { program := "ytlfgdcgjndjdgaa", sum := "79699e145aa566bdf092057e046bdbe7f7dc1604bf878f77ad5dcdf7f13d4d47", func := "newel/newellaw20.CollectTurns", spec := "collectTurns", unfollowed := true, recurses := true, apart := false }
def CollectTurnsSaid : Prop := collectTurnsRow.holds Try.pinned (OpenSpec.ofChange collectTurnsSpec)

/-- ITS FALSE NEIGHBOUR: 'it returns false'. Refute it at one input. -/
def collectTurnsWrong : ChangeSpec := { name := "collectTurns", fn := fun _ => fun
  | [d] => { results := [.lit (.bool false)], args := [d] }
  | _ => none }
def CollectTurnsWrongFalsely : Prop := collectTurnsRow.holds Try.pinned (OpenSpec.ofChange collectTurnsWrong)

/-- 'newellaw20.CollectOnce': WHATEVER THE INPUT: true; the input reads as it did. -/
def collectOnceSpec : ChangeSpec := { name := "collectOnce", fn := fun _ => fun
  | [d] => { results := [.lit (.bool true)], args := [d] }
  | _ => none }
def collectOnceRow : OpenClaim := { program := "ytlfgdcgjndjdgaa", sum := "79699e145aa566bdf092057e046bdbe7f7dc1604bf878f77ad5dcdf7f13d4d47", func := "newel/newellaw20.CollectOnce", spec := "collectOnce", unfollowed := true, recurses := true, apart := false }
def CollectOnceSaid : Prop := collectOnceRow.holds Try.pinned (OpenSpec.ofChange collectOnceSpec)

/-- ITS FALSE NEIGHBOUR: 'it returns false'. Refute it at one input. -/
def collectOnceWrong : ChangeSpec := { name := "collectOnce", fn := fun _ => fun
  | [d] => { results := [.lit (.bool false)], args := [d] }
  | _ => none }
def CollectOnceWrongFalsely : Prop := collectOnceRow.holds Try.pinned (OpenSpec.ofChange collectOnceWrong)

/-- 'newellaw20.CollectAll': WHATEVER THE INPUT: true; the input reads as it did. -/
def collectAllSpec : ChangeSpec := { name := "collectAll", fn := fun _ => fun
  | [d] => { results := [.lit (.bool true)], args := [d] }
  | _ => none }
def collectAllRow : OpenClaim := { program := "ytlfgdcgjndjdgaa", sum := "79699e145aa566bdf092057e046bdbe7f7dc1604bf878f77ad5dcdf7f13d4d47", func := "newel/newellaw20.CollectAll", spec := "collectAll", unfollowed := true, recurses := true, apart := false }
def CollectAllSaid : Prop := collectAllRow.holds Try.pinned (OpenSpec.ofChange collectAllSpec)

/-- ITS FALSE NEIGHBOUR: 'it returns false'. Refute it at one input. -/
def collectAllWrong : ChangeSpec := { name := "collectAll", fn := fun _ => fun
  | [d] => { results := [.lit (.bool false)], args := [d] }
  | _ => none }
def CollectAllWrongFalsely : Prop := collectAllRow.holds Try.pinned (OpenSpec.ofChange collectAllWrong)

/-- 'newellaw20.CollectMirror': WHATEVER THE INPUT: true; the input reads as it did. -/
def collectMirrorSpec : ChangeSpec := { name := "collectMirror", fn := fun _ => fun
  | [d] => { results := [.lit (.bool true)], args := [d] }
  | _ => none }
def collectMirrorRow : OpenClaim := { program := "ytlfgdcgjndjdgaa", sum := "79699e145aa566bdf092057e046bdbe7f7dc1604bf878f77ad5dcdf7f13d4d47", func := "newel/newellaw20.CollectMirror", spec := "collectMirror", unfollowed := true, recurses := true, apart := false }
def CollectMirrorSaid : Prop := collectMirrorRow.holds Try.pinned (OpenSpec.ofChange collectMirrorSpec)

/-- ITS FALSE NEIGHBOUR: 'it returns false'. Refute it at one input. -/
def collectMirrorWrong : ChangeSpec := { name := "collectMirror", fn := fun _ => fun
  | [d] => { results := [.lit (.bool false)], args := [d] }
  | _ => none }
def CollectMirrorWrongFalsely : Prop := collectMirrorRow.holds Try.pinned (OpenSpec.ofChange collectMirrorWrong)

/- THE SECOND FORM. 'bulk': how many values and letters a reading holds, each counted each time it is reached (what is shared counts as often as it is met; a slice's spare places count too). A statement '..UptoSaid' is the law's where the arguments, and the package variables that the reading takes, are together of bulk at most 1048576: NARROWER than '..Said'. Prove '..Said' where nothing that the law and all that it calls make is longer than what came in: it says more and counts as full. Else prove '..UptoSaid'. A law counts once. -/
mutual
def uptoBulk {H : Type} : DataW H → Nat
  | .lit (.string bytes) => bytes.length + 1
  | .lit _ => 1
  | .nil => 1
  | .ptr d => uptoBulk d + 1
  | .slice elems spare => uptoBulkAll elems + uptoBulkAll spare + 1
  | .agg parts => uptoBulkAll parts + 1
  | .iface _ d => uptoBulk d + 1
  | .map entries => uptoBulkEntries entries + 1
  | .held _ => 1
def uptoBulkAll {H : Type} : List (DataW H) → Nat
  | [] => 0
  | d :: r => uptoBulk d + uptoBulkAll r
def uptoBulkEntries {H : Type} : List (Lit × DataW H) → Nat
  | [] => 0
  | x :: r => uptoBulkEntry x + uptoBulkEntries r
def uptoBulkEntry {H : Type} : Lit × DataW H → Nat
  | (.string bytes, d) => bytes.length + uptoBulk d + 1
  | (_, d) => uptoBulk d + 1
 end
def uptoSmall : (H : Type) → List (DataW H) → Bool := fun _ ds => decide (uptoBulkAll ds ≤ 1048576)
def OpenSpec.upto (s : _root_.Go.ChangeSpec) : _root_.Go.OpenSpec := { _root_.Go.OpenSpec.ofChange s with cond := some uptoSmall }

/-- 'newellaw20.CollectNexts', WHERE WHAT IT READS IS OF BULK AT MOST 1048576: true; the input reads as it did. -/
def collectNextsUptoRow : OpenClaim := { program := "ytlfgdcgjndjdgaa", sum := "79699e145aa566bdf092057e046bdbe7f7dc1604bf878f77ad5dcdf7f13d4d47", func := "newel/newellaw20.CollectNexts", spec := "collectNexts", unfollowed := true, recurses := true, apart := false, narrowed := true }
def CollectNextsUptoSaid : Prop := collectNextsUptoRow.holds Try.pinned (OpenSpec.upto collectNextsSpec)

/-- 'newellaw20.CollectToward', WHERE WHAT IT READS IS OF BULK AT MOST 1048576: true; the input reads as it did. -/
def collectTowardUptoRow : OpenClaim := { program := "ytlfgdcgjndjdgaa", sum := "79699e145aa566bdf092057e046bdbe7f7dc1604bf878f77ad5dcdf7f13d4d47", func := "newel/newellaw20.CollectToward", spec := "collectToward", unfollowed := true, recurses := true, apart := false, narrowed := true }
def CollectTowardUptoSaid : Prop := collectTowardUptoRow.holds Try.pinned (OpenSpec.upto collectTowardSpec)

/-- 'newellaw20.CollectTurns', WHERE WHAT IT READS IS OF BULK AT MOST 1048576: true; the input reads as it did. -/
def collectTurnsUptoRow : OpenClaim := { program := "ytlfgdcgjndjdgaa", sum := "79699e145aa566bdf092057e046bdbe7f7dc1604bf878f77ad5dcdf7f13d4d47", func := "newel/newellaw20.CollectTurns", spec := "collectTurns", unfollowed := true, recurses := true, apart := false, narrowed := true }
def CollectTurnsUptoSaid : Prop := collectTurnsUptoRow.holds Try.pinned (OpenSpec.upto collectTurnsSpec)

/-- 'newellaw20.CollectOnce', WHERE WHAT IT READS IS OF BULK AT MOST 1048576: true; the input reads as it did. -/
def collectOnceUptoRow : OpenClaim := { program := "ytlfgdcgjndjdgaa", sum := "79699e145aa566bdf092057e046bdbe7f7dc1604bf878f77ad5dcdf7f13d4d47", func := "newel/newellaw20.CollectOnce", spec := "collectOnce", unfollowed := true, recurses := true, apart := false, narrowed := true }
def CollectOnceUptoSaid : Prop := collectOnceUptoRow.holds Try.pinned (OpenSpec.upto collectOnceSpec)

/-- 'newellaw20.CollectAll', WHERE WHAT IT READS IS OF BULK AT MOST 1048576: true; the input reads as it did. -/
def collectAllUptoRow : OpenClaim := { program := "ytlfgdcgjndjdgaa", sum := "79699e145aa566bdf092057e046bdbe7f7dc1604bf878f77ad5dcdf7f13d4d47", func := "newel/newellaw20.CollectAll", spec := "collectAll", unfollowed := true, recurses := true, apart := false, narrowed := true }
def CollectAllUptoSaid : Prop := collectAllUptoRow.holds Try.pinned (OpenSpec.upto collectAllSpec)

/-- 'newellaw20.CollectMirror', WHERE WHAT IT READS IS OF BULK AT MOST 1048576: true; the input reads as it did. -/
def collectMirrorUptoRow : OpenClaim := { program := "ytlfgdcgjndjdgaa", sum := "79699e145aa566bdf092057e046bdbe7f7dc1604bf878f77ad5dcdf7f13d4d47", func := "newel/newellaw20.CollectMirror", spec := "collectMirror", unfollowed := true, recurses := true, apart := false, narrowed := true }
def CollectMirrorUptoSaid : Prop := collectMirrorUptoRow.holds Try.pinned (OpenSpec.upto collectMirrorSpec)

end Rows
end Go.Proofs.Ytlfgdcgjndjdgaa
