/-
  No cell of these rows narrows 'for every input' (looked for: loops, veiled, ifaces, maps, wideKeys, modest, calm, conditions, laid).
  DERIVED. THE GIVEN ROWS OF THIS SEAT. 6 by the template 'for every input the law returns true; each argument reads behind the call as it read before'; 0 by the template 'total and deterministic' (their statements: YtjehhhlhalkieaaTotals.lean).
  GIVEN WITH THE SEED: the statements are not yours to turn. If you find one false, say at which input.
  Laid BY PROGRAM, IN A SANDBOX (cutbox-rows.mjs): the forced cells as the released guide's own fill.sh prints them over the translation 90d364e06a12fcc7… (all of the seat's roots in one cut). By AI agents, Wed Nov 11 2026. No macro, syntax, notation, axiom, sorry.
-/
import Derived.Test.YtjehhhlhalkieaaChecked
import GoSem.Claim
import GoSem.ClaimJoined
import GoSem.ClaimMapViews
import Derived.JoinedTies
import Derived.KernelRfl
namespace Go.Proofs.Ytjehhhlhalkieaa
/- THE CELL 'sum', in the pinned program and in every row, IS THE sha256 OF THE DUMP (.gsa) THAT YtjehhhlhalkieaaProg.lean LOADS. Nothing in Lean hashes anything: it is a label: what it is worth is what the hold of that sum in a sandbox is worth. -/
noncomputable def Try.pinned : Pinned := { name := "ytjehhhlhalkieaa", sum := "90d364e06a12fcc7994e4a7857e7b105b592eaeb23b282b79329b8acc51686c4", checked := Try.checked }
namespace Rows
def none {H : Type} : Left H := { results := [], args := [] }

/-- 'newellaw19.CallPresses': WHATEVER THE INPUT: true; the input reads as it did. -/
def callPressesSpec : ChangeSpec := { name := "callPresses", fn := fun _ => fun
  | [d1, d2, d3] => { results := [.lit (.bool true)], args := [d1, d2, d3] }
  | _ => none }
def callPressesRow : OpenClaim := { program := "ytjehhhlhalkieaa", sum := "90d364e06a12fcc7994e4a7857e7b105b592eaeb23b282b79329b8acc51686c4", func := "newel/newellaw19.CallPresses", spec := "callPresses", inPlace := ["slices.overlaps[newel/api.Inside]", "slices.overlaps[newel/api.Hall]"], unfollowed := true, recurses := true, apart := false }
def CallPressesSaid : Prop := callPressesRow.holds Try.pinned (OpenSpec.ofChange callPressesSpec)

/-- ITS FALSE NEIGHBOUR: 'it returns false'. Refute it at one input. -/
def callPressesWrong : ChangeSpec := { name := "callPresses", fn := fun _ => fun
  | [d1, d2, d3] => { results := [.lit (.bool false)], args := [d1, d2, d3] }
  | _ => none }
def CallPressesWrongFalsely : Prop := callPressesRow.holds Try.pinned (OpenSpec.ofChange callPressesWrong)

/-- 'newellaw19.CallServes': WHATEVER THE INPUT: true; the input reads as it did. -/
def callServesSpec : ChangeSpec := { name := "callServes", fn := fun _ => fun
  | [d1, d2, d3] => { results := [.lit (.bool true)], args := [d1, d2, d3] }
  | _ => none }
def callServesRow : OpenClaim := { program := "ytjehhhlhalkieaa", sum := "90d364e06a12fcc7994e4a7857e7b105b592eaeb23b282b79329b8acc51686c4", func := "newel/newellaw19.CallServes", spec := "callServes", inPlace := ["slices.overlaps[newel/api.Inside]", "slices.overlaps[newel/api.Hall]"], unfollowed := true, recurses := true, apart := false }
def CallServesSaid : Prop := callServesRow.holds Try.pinned (OpenSpec.ofChange callServesSpec)

/-- ITS FALSE NEIGHBOUR: 'it returns false'. Refute it at one input. -/
def callServesWrong : ChangeSpec := { name := "callServes", fn := fun _ => fun
  | [d1, d2, d3] => { results := [.lit (.bool false)], args := [d1, d2, d3] }
  | _ => none }
def CallServesWrongFalsely : Prop := callServesRow.holds Try.pinned (OpenSpec.ofChange callServesWrong)

/-- 'newellaw19.CallGives': WHATEVER THE INPUT: true; the input reads as it did. -/
def callGivesSpec : ChangeSpec := { name := "callGives", fn := fun _ => fun
  | [d1, d2, d3] => { results := [.lit (.bool true)], args := [d1, d2, d3] }
  | _ => none }
def callGivesRow : OpenClaim := { program := "ytjehhhlhalkieaa", sum := "90d364e06a12fcc7994e4a7857e7b105b592eaeb23b282b79329b8acc51686c4", func := "newel/newellaw19.CallGives", spec := "callGives", inPlace := ["slices.overlaps[newel/api.Inside]", "slices.overlaps[newel/api.Hall]"], unfollowed := true, recurses := true, apart := false }
def CallGivesSaid : Prop := callGivesRow.holds Try.pinned (OpenSpec.ofChange callGivesSpec)

/-- ITS FALSE NEIGHBOUR: 'it returns false'. Refute it at one input. -/
def callGivesWrong : ChangeSpec := { name := "callGives", fn := fun _ => fun
  | [d1, d2, d3] => { results := [.lit (.bool false)], args := [d1, d2, d3] }
  | _ => none }
def CallGivesWrongFalsely : Prop := callGivesRow.holds Try.pinned (OpenSpec.ofChange callGivesWrong)

/-- 'newellaw19.CallOnce': WHATEVER THE INPUT: true; the input reads as it did. -/
def callOnceSpec : ChangeSpec := { name := "callOnce", fn := fun _ => fun
  | [d1, d2, d3] => { results := [.lit (.bool true)], args := [d1, d2, d3] }
  | _ => none }
def callOnceRow : OpenClaim := { program := "ytjehhhlhalkieaa", sum := "90d364e06a12fcc7994e4a7857e7b105b592eaeb23b282b79329b8acc51686c4", func := "newel/newellaw19.CallOnce", spec := "callOnce", inPlace := ["slices.overlaps[newel/api.Inside]", "slices.overlaps[newel/api.Hall]"], unfollowed := true, recurses := true, apart := false }
def CallOnceSaid : Prop := callOnceRow.holds Try.pinned (OpenSpec.ofChange callOnceSpec)

/-- ITS FALSE NEIGHBOUR: 'it returns false'. Refute it at one input. -/
def callOnceWrong : ChangeSpec := { name := "callOnce", fn := fun _ => fun
  | [d1, d2, d3] => { results := [.lit (.bool false)], args := [d1, d2, d3] }
  | _ => none }
def CallOnceWrongFalsely : Prop := callOnceRow.holds Try.pinned (OpenSpec.ofChange callOnceWrong)

/-- 'newellaw19.CallGone': WHATEVER THE INPUT: true; the input reads as it did. -/
def callGoneSpec : ChangeSpec := { name := "callGone", fn := fun _ => fun
  | [d1, d2, d3] => { results := [.lit (.bool true)], args := [d1, d2, d3] }
  | _ => none }
def callGoneRow : OpenClaim := { program := "ytjehhhlhalkieaa", sum := "90d364e06a12fcc7994e4a7857e7b105b592eaeb23b282b79329b8acc51686c4", func := "newel/newellaw19.CallGone", spec := "callGone", inPlace := ["slices.overlaps[newel/api.Inside]", "slices.overlaps[newel/api.Hall]"], unfollowed := true, recurses := true, apart := false }
def CallGoneSaid : Prop := callGoneRow.holds Try.pinned (OpenSpec.ofChange callGoneSpec)

/-- ITS FALSE NEIGHBOUR: 'it returns false'. Refute it at one input. -/
def callGoneWrong : ChangeSpec := { name := "callGone", fn := fun _ => fun
  | [d1, d2, d3] => { results := [.lit (.bool false)], args := [d1, d2, d3] }
  | _ => none }
def CallGoneWrongFalsely : Prop := callGoneRow.holds Try.pinned (OpenSpec.ofChange callGoneWrong)

/-- 'newellaw19.CallViews': WHATEVER THE INPUT: true; the input reads as it did. -/
def callViewsSpec : ChangeSpec := { name := "callViews", fn := fun _ => fun
  | [d1, d2] => { results := [.lit (.bool true)], args := [d1, d2] }
  | _ => none }
def callViewsRow : OpenClaim := { program := "ytjehhhlhalkieaa", sum := "90d364e06a12fcc7994e4a7857e7b105b592eaeb23b282b79329b8acc51686c4", func := "newel/newellaw19.CallViews", spec := "callViews", inPlace := ["slices.overlaps[newel/api.Inside]", "slices.overlaps[newel/api.Hall]"], unfollowed := true, recurses := true, apart := false }
def CallViewsSaid : Prop := callViewsRow.holds Try.pinned (OpenSpec.ofChange callViewsSpec)

/-- ITS FALSE NEIGHBOUR: 'it returns false'. Refute it at one input. -/
def callViewsWrong : ChangeSpec := { name := "callViews", fn := fun _ => fun
  | [d1, d2] => { results := [.lit (.bool false)], args := [d1, d2] }
  | _ => none }
def CallViewsWrongFalsely : Prop := callViewsRow.holds Try.pinned (OpenSpec.ofChange callViewsWrong)

/- THE SECOND FORM. 'bulk': how many values and letters a reading holds, each counted each time it is reached (what is shared counts as often as it is met; a slice's spare places count too). A statement '..UptoSaid' is the law's where the arguments, and the package variables that the reading takes, are together of bulk at most 1048576: NARROWER than '..Said'. Prove '..Said' where nothing that the law and all that it calls make is longer than what came in: it says more and counts as full. Else prove '..UptoSaid'. A law counts once. -/
mutual
def uptoBulk {H : Type} : DataW H → Nat
  | .lit (.string bytes) => bytes.length + 1
  | .lit _ => 1
  | .nil => 1
  | .ptr d => uptoBulk d + 1
  | .slice elems spare => uptoBulkAll elems + uptoBulkAll spare + 1
  | .agg parts => uptoBulkAll parts + 1
  | .iface _ d => uptoBulk d + 1
  | .map entries => uptoBulkEntries entries + 1
  | .held _ => 1
def uptoBulkAll {H : Type} : List (DataW H) → Nat
  | [] => 0
  | d :: r => uptoBulk d + uptoBulkAll r
def uptoBulkEntries {H : Type} : List (Lit × DataW H) → Nat
  | [] => 0
  | x :: r => uptoBulkEntry x + uptoBulkEntries r
def uptoBulkEntry {H : Type} : Lit × DataW H → Nat
  | (.string bytes, d) => bytes.length + uptoBulk d + 1
  | (_, d) => uptoBulk d + 1
 end
def uptoSmall : (H : Type) → List (DataW H) → Bool := fun _ ds => decide (uptoBulkAll ds ≤ 1048576)
def OpenSpec.upto (s : _root_.Go.ChangeSpec) : _root_.Go.OpenSpec := { _root_.Go.OpenSpec.ofChange s with cond := some uptoSmall }

/-- 'newellaw19.CallPresses', WHERE WHAT IT READS IS OF BULK AT MOST 1048576: true; the input reads as it did. -/
def callPressesUptoRow : OpenClaim := { program := "ytjehhhlhalkieaa", sum := "90d364e06a12fcc7994e4a7857e7b105b592eaeb23b282b79329b8acc51686c4", func := "newel/newellaw19.CallPresses", spec := "callPresses", inPlace := ["slices.overlaps[newel/api.Inside]", "slices.overlaps[newel/api.Hall]"], unfollowed := true, recurses := true, apart := false, narrowed := true }
def CallPressesUptoSaid : Prop := callPressesUptoRow.holds Try.pinned (OpenSpec.upto callPressesSpec)

/-- 'newellaw19.CallServes', WHERE WHAT IT READS IS OF BULK AT MOST 1048576: true; the input reads as it did. -/
def callServesUptoRow : OpenClaim := { program := "ytjehhhlhalkieaa", sum := "90d364e06a12fcc7994e4a7857e7b105b592eaeb23b282b79329b8acc51686c4", func := "newel/newellaw19.CallServes", spec := "callServes", inPlace := ["slices.overlaps[newel/api.Inside]", "slices.overlaps[newel/api.Hall]"], unfollowed := true, recurses := true, apart := false, narrowed := true }
def CallServesUptoSaid : Prop := callServesUptoRow.holds Try.pinned (OpenSpec.upto callServesSpec)

/-- 'newellaw19.CallGives', WHERE WHAT IT READS IS OF BULK AT MOST 1048576: true; the input reads as it did. -/
def callGivesUptoRow : OpenClaim := { program := "ytjehhhlhalkieaa", sum := "90d364e06a12fcc7994e4a7857e7b105b592eaeb23b282b79329b8acc51686c4", func := "newel/newellaw19.CallGives", spec := "callGives", inPlace := ["slices.overlaps[newel/api.Inside]", "slices.overlaps[newel/api.Hall]"], unfollowed := true, recurses := true, apart := false, narrowed := true }
def CallGivesUptoSaid : Prop := callGivesUptoRow.holds Try.pinned (OpenSpec.upto callGivesSpec)

/-- 'newellaw19.CallOnce', WHERE WHAT IT READS IS OF BULK AT MOST 1048576: true; the input reads as it did. -/
def callOnceUptoRow : OpenClaim := { program := "ytjehhhlhalkieaa", sum := "90d364e06a12fcc7994e4a7857e7b105b592eaeb23b282b79329b8acc51686c4", func := "newel/newellaw19.CallOnce", spec := "callOnce", inPlace := ["slices.overlaps[newel/api.Inside]", "slices.overlaps[newel/api.Hall]"], unfollowed := true, recurses := true, apart := false, narrowed := true }
def CallOnceUptoSaid : Prop := callOnceUptoRow.holds Try.pinned (OpenSpec.upto callOnceSpec)

/-- 'newellaw19.CallGone', WHERE WHAT IT READS IS OF BULK AT MOST 1048576: true; the input reads as it did. -/
def callGoneUptoRow : OpenClaim := { program := "ytjehhhlhalkieaa", sum := "90d364e06a12fcc7994e4a7857e7b105b592eaeb23b282b79329b8acc51686c4", func := "newel/newellaw19.CallGone", spec := "callGone", inPlace := ["slices.overlaps[newel/api.Inside]", "slices.overlaps[newel/api.Hall]"], unfollowed := true, recurses := true, apart := false, narrowed := true }
def CallGoneUptoSaid : Prop := callGoneUptoRow.holds Try.pinned (OpenSpec.upto callGoneSpec)

/-- 'newellaw19.CallViews', WHERE WHAT IT READS IS OF BULK AT MOST 1048576: true; the input reads as it did. -/
def callViewsUptoRow : OpenClaim := { program := "ytjehhhlhalkieaa", sum := "90d364e06a12fcc7994e4a7857e7b105b592eaeb23b282b79329b8acc51686c4", func := "newel/newellaw19.CallViews", spec := "callViews", inPlace := ["slices.overlaps[newel/api.Inside]", "slices.overlaps[newel/api.Hall]"], unfollowed := true, recurses := true, apart := false, narrowed := true }
def CallViewsUptoSaid : Prop := callViewsUptoRow.holds Try.pinned (OpenSpec.upto callViewsSpec)

end Rows
end Go.Proofs.Ytjehhhlhalkieaa
