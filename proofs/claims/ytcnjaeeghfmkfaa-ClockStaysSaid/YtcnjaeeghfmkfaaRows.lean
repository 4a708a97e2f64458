/-
  No cell of these rows narrows 'for every input' (looked for: loops, veiled, ifaces, maps, wideKeys, modest, calm, conditions, laid).
  DERIVED. THE GIVEN ROWS OF THIS SEAT. 6 by the template 'for every input the law returns true; each argument reads behind the call as it read before'; 0 by the template 'total and deterministic' (their statements: YtcnjaeeghfmkfaaTotals.lean).
  GIVEN WITH THE SEED: the statements are not yours to turn. If you find one false, say at which input.
  Laid BY PROGRAM, IN A SANDBOX (cutbox-rows.mjs): the forced cells as the released guide's own fill.sh prints them over the translation 6af47136b7ef6a21… (all of the seat's roots in one cut). By AI agents, Wed Nov 11 2026. No macro, syntax, notation, axiom, sorry.
-/
import Derived.Test.YtcnjaeeghfmkfaaChecked
import GoSem.Claim
import GoSem.ClaimJoined
import GoSem.ClaimMapViews
import Derived.JoinedTies
import Derived.KernelRfl
namespace Go.Proofs.Ytcnjaeeghfmkfaa
/- THE CELL 'sum', in the pinned program and in every row, IS THE sha256 OF THE DUMP (.gsa) THAT YtcnjaeeghfmkfaaProg.lean LOADS. Nothing in Lean hashes anything: it is a label: what it is worth is what the hold of that sum in a sandbox is worth. -/
noncomputable def Try.pinned : Pinned := { name := "ytcnjaeeghfmkfaa", sum := "6af47136b7ef6a21955a2279445f3e0e35fcee26cc7cc00bc68ea17299f4d24a", checked := Try.checked }
namespace Rows
def none {H : Type} : Left H := { results := [], args := [] }

/-- 'newellaw16.ClockReads': WHATEVER THE INPUT: true; the input reads as it did. -/
def clockReadsSpec : ChangeSpec := { name := "clockReads", fn := fun _ => fun
  | [d1, d2] => { results := [.lit (.bool true)], args := [d1, d2] }
  | _ => none }
def clockReadsRow : OpenClaim := { program := "ytcnjaeeghfmkfaa", sum := "6af47136b7ef6a21955a2279445f3e0e35fcee26cc7cc00bc68ea17299f4d24a", func := "newel/newellaw16.ClockReads", spec := "clockReads", apart := false }
def ClockReadsSaid : Prop := clockReadsRow.holds Try.pinned (OpenSpec.ofChange clockReadsSpec)

/-- ITS FALSE NEIGHBOUR: 'it returns false'. Refute it at one input. -/
def clockReadsWrong : ChangeSpec := { name := "clockReads", fn := fun _ => fun
  | [d1, d2] => { results := [.lit (.bool false)], args := [d1, d2] }
  | _ => none }
def ClockReadsWrongFalsely : Prop := clockReadsRow.holds Try.pinned (OpenSpec.ofChange clockReadsWrong)

/-- 'newellaw16.ClockAll': WHATEVER THE INPUT: true; the input reads as it did. -/
def clockAllSpec : ChangeSpec := { name := "clockAll", fn := fun _ => fun
  | [d1, d2] => { results := [.lit (.bool true)], args := [d1, d2] }
  | _ => none }
def clockAllRow : OpenClaim := { program := "ytcnjaeeghfmkfaa", sum := "6af47136b7ef6a21955a2279445f3e0e35fcee26cc7cc00bc68ea17299f4d24a", func := "newel/newellaw16.ClockAll", spec := "clockAll", apart := false }
def ClockAllSaid : Prop := clockAllRow.holds Try.pinned (OpenSpec.ofChange clockAllSpec)

/-- ITS FALSE NEIGHBOUR: 'it returns false'. Refute it at one input. -/
def clockAllWrong : ChangeSpec := { name := "clockAll", fn := fun _ => fun
  | [d1, d2] => { results := [.lit (.bool false)], args := [d1, d2] }
  | _ => none }
def ClockAllWrongFalsely : Prop := clockAllRow.holds Try.pinned (OpenSpec.ofChange clockAllWrong)

/-- 'newellaw16.ClockOdd': WHATEVER THE INPUT: true; the input reads as it did. -/
def clockOddSpec : ChangeSpec := { name := "clockOdd", fn := fun _ => fun
  | [d1, d2] => { results := [.lit (.bool true)], args := [d1, d2] }
  | _ => none }
def clockOddRow : OpenClaim := { program := "ytcnjaeeghfmkfaa", sum := "6af47136b7ef6a21955a2279445f3e0e35fcee26cc7cc00bc68ea17299f4d24a", func := "newel/newellaw16.ClockOdd", spec := "clockOdd", apart := false }
def ClockOddSaid : Prop := clockOddRow.holds Try.pinned (OpenSpec.ofChange clockOddSpec)

/-- ITS FALSE NEIGHBOUR: 'it returns false'. Refute it at one input. -/
def clockOddWrong : ChangeSpec := { name := "clockOdd", fn := fun _ => fun
  | [d1, d2] => { results := [.lit (.bool false)], args := [d1, d2] }
  | _ => none }
def ClockOddWrongFalsely : Prop := clockOddRow.holds Try.pinned (OpenSpec.ofChange clockOddWrong)

/-- 'newellaw16.ClockAgree': WHATEVER THE INPUT: true; the input reads as it did. -/
def clockAgreeSpec : ChangeSpec := { name := "clockAgree", fn := fun _ => fun
  | [d1, d2, d3] => { results := [.lit (.bool true)], args := [d1, d2, d3] }
  | _ => none }
def clockAgreeRow : OpenClaim := { program := "ytcnjaeeghfmkfaa", sum := "6af47136b7ef6a21955a2279445f3e0e35fcee26cc7cc00bc68ea17299f4d24a", func := "newel/newellaw16.ClockAgree", spec := "clockAgree", apart := false }
def ClockAgreeSaid : Prop := clockAgreeRow.holds Try.pinned (OpenSpec.ofChange clockAgreeSpec)

/-- ITS FALSE NEIGHBOUR: 'it returns false'. Refute it at one input. -/
def clockAgreeWrong : ChangeSpec := { name := "clockAgree", fn := fun _ => fun
  | [d1, d2, d3] => { results := [.lit (.bool false)], args := [d1, d2, d3] }
  | _ => none }
def ClockAgreeWrongFalsely : Prop := clockAgreeRow.holds Try.pinned (OpenSpec.ofChange clockAgreeWrong)

/-- 'newellaw16.ClockGoes': WHATEVER THE INPUT: true; the input reads as it did. -/
def clockGoesSpec : ChangeSpec := { name := "clockGoes", fn := fun _ => fun
  | [d1, d2] => { results := [.lit (.bool true)], args := [d1, d2] }
  | _ => none }
def clockGoesRow : OpenClaim := { program := "ytcnjaeeghfmkfaa", sum := "6af47136b7ef6a21955a2279445f3e0e35fcee26cc7cc00bc68ea17299f4d24a", func := "newel/newellaw16.ClockGoes", spec := "clockGoes", apart := false }
def ClockGoesSaid : Prop := clockGoesRow.holds Try.pinned (OpenSpec.ofChange clockGoesSpec)

/-- ITS FALSE NEIGHBOUR: 'it returns false'. Refute it at one input. -/
def clockGoesWrong : ChangeSpec := { name := "clockGoes", fn := fun _ => fun
  | [d1, d2] => { results := [.lit (.bool false)], args := [d1, d2] }
  | _ => none }
def ClockGoesWrongFalsely : Prop := clockGoesRow.holds Try.pinned (OpenSpec.ofChange clockGoesWrong)

/-- 'newellaw16.ClockStays': WHATEVER THE INPUT: true; the input reads as it did. -/
def clockStaysSpec : ChangeSpec := { name := "clockStays", fn := fun _ => fun
  | [d1, d2] => { results := [.lit (.bool true)], args := [d1, d2] }
  | _ => none }
def clockStaysRow : OpenClaim := { program := "ytcnjaeeghfmkfaa", sum := "6af47136b7ef6a21955a2279445f3e0e35fcee26cc7cc00bc68ea17299f4d24a", func := "newel/newellaw16.ClockStays", spec := "clockStays", apart := false }
def ClockStaysSaid : Prop := clockStaysRow.holds Try.pinned (OpenSpec.ofChange clockStaysSpec)

/-- ITS FALSE NEIGHBOUR: 'it returns false'. Refute it at one input. -/
def clockStaysWrong : ChangeSpec := { name := "clockStays", fn := fun _ => fun
  | [d1, d2] => { results := [.lit (.bool false)], args := [d1, d2] }
  | _ => none }
def ClockStaysWrongFalsely : Prop := clockStaysRow.holds Try.pinned (OpenSpec.ofChange clockStaysWrong)

/- THE SECOND FORM. 'bulk': how many values and letters a reading holds, each counted each time it is reached (what is shared counts as often as it is met; a slice's spare places count too). A statement '..UptoSaid' is the law's where the arguments, and the package variables that the reading takes, are together of bulk at most 1048576: NARROWER than '..Said'. Prove '..Said' where nothing that the law and all that it calls make is longer than what came in: it says more and counts as full. Else prove '..UptoSaid'. A law counts once. -/
mutual
def uptoBulk {H : Type} : DataW H → Nat
  | .lit (.string bytes) => bytes.length + 1
  | .lit _ => 1
  | .nil => 1
  | .ptr d => uptoBulk d + 1
  | .slice elems spare => uptoBulkAll elems + uptoBulkAll spare + 1
  | .agg parts => uptoBulkAll parts + 1
  | .iface _ d => uptoBulk d + 1
  | .map entries => uptoBulkEntries entries + 1
  | .held _ => 1
def uptoBulkAll {H : Type} : List (DataW H) → Nat
  | [] => 0
  | d :: r => uptoBulk d + uptoBulkAll r
def uptoBulkEntries {H : Type} : List (Lit × DataW H) → Nat
  | [] => 0
  | x :: r => uptoBulkEntry x + uptoBulkEntries r
def uptoBulkEntry {H : Type} : Lit × DataW H → Nat
  | (.string bytes, d) => bytes.length + uptoBulk d + 1
  | (_, d) => uptoBulk d + 1
 end
def uptoSmall : (H : Type) → List (DataW H) → Bool := fun _ ds => decide (uptoBulkAll ds ≤ 1048576)
def OpenSpec.upto (s : _root_.Go.ChangeSpec) : _root_.Go.OpenSpec := { _root_.Go.OpenSpec.ofChange s with cond := some uptoSmall }

/-- 'newellaw16.ClockReads', WHERE WHAT IT READS IS OF BULK AT MOST 1048576: true; the input reads as it did. -/
def clockReadsUptoRow : OpenClaim := { program := "ytcnjaeeghfmkfaa", sum := "6af47136b7ef6a21955a2279445f3e0e35fcee26cc7cc00bc68ea17299f4d24a", func := "newel/newellaw16.ClockReads", spec := "clockReads", apart := false, narrowed := true }
def ClockReadsUptoSaid : Prop := clockReadsUptoRow.holds Try.pinned (OpenSpec.upto clockReadsSpec)

/-- 'newellaw16.ClockAll', WHERE WHAT IT READS IS OF BULK AT MOST 1048576: true; the input reads as it did. -/
def clockAllUptoRow : OpenClaim := { program := "ytcnjaeeghfmkfaa", sum := "6af47136b7ef6a21955a2279445f3e0e35fcee26cc7cc00bc68ea17299f4d24a", func := "newel/newellaw16.ClockAll", spec := "clockAll", apart := false, narrowed := true }
def ClockAllUptoSaid : Prop := clockAllUptoRow.holds Try.pinned (OpenSpec.upto clockAllSpec)

/-- 'newellaw16.ClockOdd', WHERE WHAT IT READS IS OF BULK AT MOST 1048576: true; the input reads as it did. -/
def clockOddUptoRow : OpenClaim := { program := "ytcnjaeeghfmkfaa", sum := "6af47136b7ef6a21955a2279445f3e0e35fcee26cc7cc00bc68ea17299f4d24a", func := "newel/newellaw16.ClockOdd", spec := "clockOdd", apart := false, narrowed := true }
def ClockOddUptoSaid : Prop := clockOddUptoRow.holds Try.pinned (OpenSpec.upto clockOddSpec)

/-- 'newellaw16.ClockAgree', WHERE WHAT IT READS IS OF BULK AT MOST 1048576: true; the input reads as it did. -/
def clockAgreeUptoRow : OpenClaim := { program := "ytcnjaeeghfmkfaa", sum := "6af47136b7ef6a21955a2279445f3e0e35fcee26cc7cc00bc68ea17299f4d24a", func := "newel/newellaw16.ClockAgree", spec := "clockAgree", apart := false, narrowed := true }
def ClockAgreeUptoSaid : Prop := clockAgreeUptoRow.holds Try.pinned (OpenSpec.upto clockAgreeSpec)

/-- 'newellaw16.ClockGoes', WHERE WHAT IT READS IS OF BULK AT MOST 1048576: true; the input reads as it did. -/
def clockGoesUptoRow : OpenClaim := { program := "ytcnjaeeghfmkfaa", sum := "6af47136b7ef6a21955a2279445f3e0e35fcee26cc7cc00bc68ea17299f4d24a", func := "newel/newellaw16.ClockGoes", spec := "clockGoes", apart := false, narrowed := true }
def ClockGoesUptoSaid : Prop := clockGoesUptoRow.holds Try.pinned (OpenSpec.upto clockGoesSpec)

/-- 'newellaw16.ClockStays', WHERE WHAT IT READS IS OF BULK AT MOST 1048576: true; the input reads as it did. -/
def clockStaysUptoRow : OpenClaim := { program := "ytcnjaeeghfmkfaa", sum := "6af47136b7ef6a21955a2279445f3e0e35fcee26cc7cc00bc68ea17299f4d24a", func := "newel/newellaw16.ClockStays", spec := "clockStays", apart := false, narrowed := true }
def ClockStaysUptoSaid : Prop := clockStaysUptoRow.holds Try.pinned (OpenSpec.upto clockStaysSpec)

end Rows
end Go.Proofs.Ytcnjaeeghfmkfaa
