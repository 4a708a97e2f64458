/-
  No cell of these rows narrows 'for every input' (looked for: loops, veiled, ifaces, maps, wideKeys, modest, calm, conditions, laid).
  DERIVED. THE GIVEN ROWS OF THIS SEAT. 6 by the template 'for every input the law returns true; each argument reads behind the call as it read before'; 0 by the template 'total and deterministic' (their statements: YtmfffemidlhcpaaTotals.lean).
  GIVEN WITH THE SEED: the statements are not yours to turn. If you find one false, say at which input.
  Laid BY PROGRAM, IN A SANDBOX (cutbox-rows.mjs): the forced cells as the released guide's own fill.sh prints them over the translation c1a8b60e0409cb31… (all of the seat's roots in one cut). By AI agents, Wed Nov 11 2026. No macro, syntax, notation, axiom, sorry.
-/
import Derived.Test.YtmfffemidlhcpaaChecked
import GoSem.Claim
import GoSem.ClaimJoined
import GoSem.ClaimMapViews
import Derived.JoinedTies
import Derived.KernelRfl
namespace Go.Proofs.Ytmfffemidlhcpaa
/- THE CELL 'sum', in the pinned program and in every row, IS THE sha256 OF THE DUMP (.gsa) THAT YtmfffemidlhcpaaProg.lean LOADS. Nothing in Lean hashes anything: it is a label: what it is worth is what the hold of that sum in a sandbox is worth. -/
noncomputable def Try.pinned : Pinned := { name := "ytmfffemidlhcpaa", sum := "c1a8b60e0409cb318096145916721c5e98eab12b9fe0e334e0b5b6d970ca47f1", checked := Try.checked }
namespace Rows
def none {H : Type} : Left H := { results := [], args := [] }

/-- 'newellaw21.GroupCosts': WHATEVER THE INPUT: true; the input reads as it did. -/
def groupCostsSpec : ChangeSpec := { name := "groupCosts", fn := fun _ => fun
  | [d1, d2, d3] => { results := [.lit (.bool true)], args := [d1, d2, d3] }
  | _ => none }
def groupCostsRow : OpenClaim := { program := "ytmfffemidlhcpaa", sum := "c1a8b60e0409cb318096145916721c5e98eab12b9fe0e334e0b5b6d970ca47f1", func := "newel/newellaw21.GroupCosts", spec := "groupCosts", unfollowed := true, recurses := true, apart := false }
def GroupCostsSaid : Prop := groupCostsRow.holds Try.pinned (OpenSpec.ofChange groupCostsSpec)

/-- ITS FALSE NEIGHBOUR: 'it returns false'. Refute it at one input. -/
def groupCostsWrong : ChangeSpec := { name := "groupCosts", fn := fun _ => fun
  | [d1, d2, d3] => { results := [.lit (.bool false)], args := [d1, d2, d3] }
  | _ => none }
def GroupCostsWrongFalsely : Prop := groupCostsRow.holds Try.pinned (OpenSpec.ofChange groupCostsWrong)

/-- 'newellaw21.GroupPicks': WHATEVER THE INPUT: true; the input reads as it did. -/
def groupPicksSpec : ChangeSpec := { name := "groupPicks", fn := fun _ => fun
  | [d1, d2] => { results := [.lit (.bool true)], args := [d1, d2] }
  | _ => none }
def groupPicksRow : OpenClaim := { program := "ytmfffemidlhcpaa", sum := "c1a8b60e0409cb318096145916721c5e98eab12b9fe0e334e0b5b6d970ca47f1", func := "newel/newellaw21.GroupPicks", spec := "groupPicks", unfollowed := true, recurses := true, apart := false }
def GroupPicksSaid : Prop := groupPicksRow.holds Try.pinned (OpenSpec.ofChange groupPicksSpec)

/-- ITS FALSE NEIGHBOUR: 'it returns false'. Refute it at one input. -/
def groupPicksWrong : ChangeSpec := { name := "groupPicks", fn := fun _ => fun
  | [d1, d2] => { results := [.lit (.bool false)], args := [d1, d2] }
  | _ => none }
def GroupPicksWrongFalsely : Prop := groupPicksRow.holds Try.pinned (OpenSpec.ofChange groupPicksWrong)

/-- 'newellaw21.GroupSpreads': WHATEVER THE INPUT: true; the input reads as it did. -/
def groupSpreadsSpec : ChangeSpec := { name := "groupSpreads", fn := fun _ => fun
  | [d] => { results := [.lit (.bool true)], args := [d] }
  | _ => none }
def groupSpreadsRow : OpenClaim := { program := "ytmfffemidlhcpaa", sum := "c1a8b60e0409cb318096145916721c5e98eab12b9fe0e334e0b5b6d970ca47f1", func := "newel/newellaw21.GroupSpreads", spec := "groupSpreads", unfollowed := true, recurses := true, apart := false }
def GroupSpreadsSaid : Prop := groupSpreadsRow.holds Try.pinned (OpenSpec.ofChange groupSpreadsSpec)

/-- ITS FALSE NEIGHBOUR: 'it returns false'. Refute it at one input. -/
def groupSpreadsWrong : ChangeSpec := { name := "groupSpreads", fn := fun _ => fun
  | [d] => { results := [.lit (.bool false)], args := [d] }
  | _ => none }
def GroupSpreadsWrongFalsely : Prop := groupSpreadsRow.holds Try.pinned (OpenSpec.ofChange groupSpreadsWrong)

/-- 'newellaw21.GroupBest': WHATEVER THE INPUT: true; the input reads as it did. -/
def groupBestSpec : ChangeSpec := { name := "groupBest", fn := fun _ => fun
  | [d1, d2] => { results := [.lit (.bool true)], args := [d1, d2] }
  | _ => none }
def groupBestRow : OpenClaim := { program := "ytmfffemidlhcpaa", sum := "c1a8b60e0409cb318096145916721c5e98eab12b9fe0e334e0b5b6d970ca47f1", func := "newel/newellaw21.GroupBest", spec := "groupBest", unfollowed := true, recurses := true, apart := false }
def GroupBestSaid : Prop := groupBestRow.holds Try.pinned (OpenSpec.ofChange groupBestSpec)

/-- ITS FALSE NEIGHBOUR: 'it returns false'. Refute it at one input. -/
def groupBestWrong : ChangeSpec := { name := "groupBest", fn := fun _ => fun
  | [d1, d2] => { results := [.lit (.bool false)], args := [d1, d2] }
  | _ => none }
def GroupBestWrongFalsely : Prop := groupBestRow.holds Try.pinned (OpenSpec.ofChange groupBestWrong)

/-- 'newellaw21.GroupBounds': WHATEVER THE INPUT: true; the input reads as it did. -/
def groupBoundsSpec : ChangeSpec := { name := "groupBounds", fn := fun _ => fun
  | [d1, d2, d3] => { results := [.lit (.bool true)], args := [d1, d2, d3] }
  | _ => none }
def groupBoundsRow : OpenClaim := { program := "ytmfffemidlhcpaa", sum := "c1a8b60e0409cb318096145916721c5e98eab12b9fe0e334e0b5b6d970ca47f1", func := "newel/newellaw21.GroupBounds", spec := "groupBounds", unfollowed := true, recurses := true, apart := false }
def GroupBoundsSaid : Prop := groupBoundsRow.holds Try.pinned (OpenSpec.ofChange groupBoundsSpec)

/-- ITS FALSE NEIGHBOUR: 'it returns false'. Refute it at one input. -/
def groupBoundsWrong : ChangeSpec := { name := "groupBounds", fn := fun _ => fun
  | [d1, d2, d3] => { results := [.lit (.bool false)], args := [d1, d2, d3] }
  | _ => none }
def GroupBoundsWrongFalsely : Prop := groupBoundsRow.holds Try.pinned (OpenSpec.ofChange groupBoundsWrong)

/-- 'newellaw21.GroupAll': WHATEVER THE INPUT: true; the input reads as it did. -/
def groupAllSpec : ChangeSpec := { name := "groupAll", fn := fun _ => fun
  | [d] => { results := [.lit (.bool true)], args := [d] }
  | _ => none }
def groupAllRow : OpenClaim := { program := "ytmfffemidlhcpaa", sum := "c1a8b60e0409cb318096145916721c5e98eab12b9fe0e334e0b5b6d970ca47f1", func := "newel/newellaw21.GroupAll", spec := "groupAll", unfollowed := true, recurses := true, apart := false }
def GroupAllSaid : Prop := groupAllRow.holds Try.pinned (OpenSpec.ofChange groupAllSpec)

/-- ITS FALSE NEIGHBOUR: 'it returns false'. Refute it at one input. -/
def groupAllWrong : ChangeSpec := { name := "groupAll", fn := fun _ => fun
  | [d] => { results := [.lit (.bool false)], args := [d] }
  | _ => none }
def GroupAllWrongFalsely : Prop := groupAllRow.holds Try.pinned (OpenSpec.ofChange groupAllWrong)

/- THE SECOND FORM. 'bulk': how many values and letters a reading holds, each counted each time it is reached (what is shared counts as often as it is met; a slice's spare places count too). A statement '..UptoSaid' is the law's where the arguments, and the package variables that the reading takes, are together of bulk at most 1048576: NARROWER than '..Said'. Prove '..Said' where nothing that the law and all that it calls make is longer than what came in: it says more and counts as full. Else prove '..UptoSaid'. A law counts once. -/
mutual
def uptoBulk {H : Type} : DataW H → Nat
  | .lit (.string bytes) => bytes.length + 1
  | .lit _ => 1
  | .nil => 1
  | .ptr d => uptoBulk d + 1
  | .slice elems spare => uptoBulkAll elems + uptoBulkAll spare + 1
  | .agg parts => uptoBulkAll parts + 1
  | .iface _ d => uptoBulk d + 1
  | .map entries => uptoBulkEntries entries + 1
  | .held _ => 1
def uptoBulkAll {H : Type} : List (DataW H) → Nat
  | [] => 0
  | d :: r => uptoBulk d + uptoBulkAll r
def uptoBulkEntries {H : Type} : List (Lit × DataW H) → Nat
  | [] => 0
  | x :: r => uptoBulkEntry x + uptoBulkEntries r
def uptoBulkEntry {H : Type} : Lit × DataW H → Nat
  | (.string bytes, d) => bytes.length + uptoBulk d + 1
  | (_, d) => uptoBulk d + 1
 end
def uptoSmall : (H : Type) → List (DataW H) → Bool := fun _ ds => decide (uptoBulkAll ds ≤ 1048576)
def OpenSpec.upto (s : _root_.Go.ChangeSpec) : _root_.Go.OpenSpec := { _root_.Go.OpenSpec.ofChange s with cond := some uptoSmall }

/-- 'newellaw21.GroupCosts', WHERE WHAT IT READS IS OF BULK AT MOST 1048576: true; the input reads as it did. -/
def groupCostsUptoRow : OpenClaim := { program := "ytmfffemidlhcpaa", sum := "c1a8b60e0409cb318096145916721c5e98eab12b9fe0e334e0b5b6d970ca47f1", func := "newel/newellaw21.GroupCosts", spec := "groupCosts", unfollowed := true, recurses := true, apart := false, narrowed := true }
def GroupCostsUptoSaid : Prop := groupCostsUptoRow.holds Try.pinned (OpenSpec.upto groupCostsSpec)

/-- 'newellaw21.GroupPicks', WHERE WHAT IT READS IS OF BULK AT MOST 1048576: true; the input reads as it did. -/
def groupPicksUptoRow : OpenClaim := { program := "ytmfffemidlhcpaa", sum := "c1a8b60e0409cb318096145916721c5e98eab12b9fe0e334e0b5b6d970ca47f1", func := "newel/newellaw21.GroupPicks", spec := "groupPicks", unfollowed := true, recurses := true, apart := false, narrowed := true }
def GroupPicksUptoSaid : Prop := groupPicksUptoRow.holds Try.pinned (OpenSpec.upto groupPicksSpec)

/-- 'newellaw21.GroupSpreads', WHERE WHAT IT READS IS OF BULK AT MOST 1048576: true; the input reads as it did. -/
def groupSpreadsUptoRow : OpenClaim := { program := "ytmfffemidlhcpaa", sum := "c1a8b60e0409cb318096145916721c5e98eab12b9fe0e334e0b5b6d970ca47f1", func := "newel/newellaw21.GroupSpreads", spec := "groupSpreads", unfollowed := true, recurses := true, apart := false, narrowed := true }
def GroupSpreadsUptoSaid : Prop := groupSpreadsUptoRow.holds Try.pinned (OpenSpec.upto groupSpreadsSpec)

/-- 'newellaw21.GroupBest', WHERE WHAT IT READS IS OF BULK AT MOST 1048576: true; the input reads as it did. -/
def groupBestUptoRow : OpenClaim := { program := "ytmfffemidlhcpaa", sum := "c1a8b60e0409cb318096145916721c5e98eab12b9fe0e334e0b5b6d970ca47f1", func := "newel/newellaw21.GroupBest", spec := "groupBest", unfollowed := true, recurses := true, apart := false, narrowed := true }
def GroupBestUptoSaid : Prop := groupBestUptoRow.holds Try.pinned (OpenSpec.upto groupBestSpec)

/-- 'newellaw21.GroupBounds', WHERE WHAT IT READS IS OF BULK AT MOST 1048576: true; the input reads as it did. -/
def groupBoundsUptoRow : OpenClaim := { program := "ytmfffemidlhcpaa", sum := "c1a8b60e0409cb318096145916721c5e98eab12b9fe0e334e0b5b6d970ca47f1", func := "newel/newellaw21.GroupBounds", spec := "groupBounds", unfollowed := true, recurses := true, apart := false, narrowed := true }
def GroupBoundsUptoSaid : Prop := groupBoundsUptoRow.holds Try.pinned (OpenSpec.upto groupBoundsSpec)

/-- 'newellaw21.GroupAll', WHERE WHAT IT READS IS OF BULK AT MOST 1048576: true; the input reads as it did. -/
def groupAllUptoRow : OpenClaim := { program := "ytmfffemidlhcpaa", sum := "c1a8b60e0409cb318096145916721c5e98eab12b9fe0e334e0b5b6d970ca47f1", func := "newel/newellaw21.GroupAll", spec := "groupAll", unfollowed := true, recurses := true, apart := false, narrowed := true }
def GroupAllUptoSaid : Prop := groupAllUptoRow.holds Try.pinned (OpenSpec.upto groupAllSpec)

end Rows
end Go.Proofs.Ytmfffemidlhcpaa
