/-
  No cell of these rows narrows 'for every input' (looked for: loops, veiled, ifaces, maps, wideKeys, modest, calm, conditions, laid).
  DERIVED. THE GIVEN ROWS OF THIS SEAT. 10 by the template 'for every input the law returns true; each argument reads behind the call as it read before'; 0 by the template 'total and deterministic' (their statements: YtjfikeahafflfaaTotals.lean).
  GIVEN WITH THE SEED: the statements are not yours to turn. If you find one false, say at which input.
  Laid BY PROGRAM, IN A SANDBOX (cutbox-rows.mjs): the forced cells as the released guide's own fill.sh prints them over the translation a8f73d9ca742cd45… (all of the seat's roots in one cut). By AI agents, Wed Nov 11 2026. No macro, syntax, notation, axiom, sorry.
-/
import Derived.Test.YtjfikeahafflfaaChecked
import GoSem.Claim
import GoSem.ClaimJoined
import GoSem.ClaimMapViews
import Derived.JoinedTies
import Derived.KernelRfl
namespace Go.Proofs.Ytjfikeahafflfaa
/- THE CELL 'sum', in the pinned program and in every row, IS THE sha256 OF THE DUMP (.gsa) THAT YtjfikeahafflfaaProg.lean LOADS. Nothing in Lean hashes anything: it is a label: what it is worth is what the hold of that sum in a sandbox is worth. -/
noncomputable def Try.pinned : Pinned := { name := "ytjfikeahafflfaa", sum := "a8f73d9ca742cd45e21c10ab78d12d8ae3f9f31a08c6b50b9b7ef7ada8c9928d", checked := Try.checked }
namespace Rows
def none {H : Type} : Left H := { results := [], args := [] }

/-- 'newellaw08.WireOnly': WHATEVER THE INPUT: true; the input reads as it did. -/
def wireOnlySpec : ChangeSpec := { name := "wireOnly", fn := fun _ => fun
  | [d1, d2] => { results := [.lit (.bool true)], args := [d1, d2] }
  | _ => none }
def wireOnlyRow : OpenClaim := { program := "ytjfikeahafflfaa", sum := "a8f73d9ca742cd45e21c10ab78d12d8ae3f9f31a08c6b50b9b7ef7ada8c9928d", func := "newel/newellaw08.WireOnly", spec := "wireOnly", apart := false }
def WireOnlySaid : Prop := wireOnlyRow.holds Try.pinned (OpenSpec.ofChange wireOnlySpec)

/-- ITS FALSE NEIGHBOUR: 'it returns false'. Refute it at one input. -/
def wireOnlyWrong : ChangeSpec := { name := "wireOnly", fn := fun _ => fun
  | [d1, d2] => { results := [.lit (.bool false)], args := [d1, d2] }
  | _ => none }
def WireOnlyWrongFalsely : Prop := wireOnlyRow.holds Try.pinned (OpenSpec.ofChange wireOnlyWrong)

/-- 'newellaw08.WireApart': WHATEVER THE INPUT: true; the input reads as it did. -/
def wireApartSpec : ChangeSpec := { name := "wireApart", fn := fun _ => fun
  | [d1, d2] => { results := [.lit (.bool true)], args := [d1, d2] }
  | _ => none }
def wireApartRow : OpenClaim := { program := "ytjfikeahafflfaa", sum := "a8f73d9ca742cd45e21c10ab78d12d8ae3f9f31a08c6b50b9b7ef7ada8c9928d", func := "newel/newellaw08.WireApart", spec := "wireApart", apart := false }
def WireApartSaid : Prop := wireApartRow.holds Try.pinned (OpenSpec.ofChange wireApartSpec)

/-- ITS FALSE NEIGHBOUR: 'it returns false'. Refute it at one input. -/
def wireApartWrong : ChangeSpec := { name := "wireApart", fn := fun _ => fun
  | [d1, d2] => { results := [.lit (.bool false)], args := [d1, d2] }
  | _ => none }
def WireApartWrongFalsely : Prop := wireApartRow.holds Try.pinned (OpenSpec.ofChange wireApartWrong)

/-- 'newellaw08.WirePuts': WHATEVER THE INPUT: true; the input reads as it did. -/
def wirePutsSpec : ChangeSpec := { name := "wirePuts", fn := fun _ => fun
  | [d1, d2] => { results := [.lit (.bool true)], args := [d1, d2] }
  | _ => none }
def wirePutsRow : OpenClaim := { program := "ytjfikeahafflfaa", sum := "a8f73d9ca742cd45e21c10ab78d12d8ae3f9f31a08c6b50b9b7ef7ada8c9928d", func := "newel/newellaw08.WirePuts", spec := "wirePuts", apart := false }
def WirePutsSaid : Prop := wirePutsRow.holds Try.pinned (OpenSpec.ofChange wirePutsSpec)

/-- ITS FALSE NEIGHBOUR: 'it returns false'. Refute it at one input. -/
def wirePutsWrong : ChangeSpec := { name := "wirePuts", fn := fun _ => fun
  | [d1, d2] => { results := [.lit (.bool false)], args := [d1, d2] }
  | _ => none }
def WirePutsWrongFalsely : Prop := wirePutsRow.holds Try.pinned (OpenSpec.ofChange wirePutsWrong)

/-- 'newellaw08.WireBack': WHATEVER THE INPUT: true; the input reads as it did. -/
def wireBackSpec : ChangeSpec := { name := "wireBack", fn := fun _ => fun
  | [d1, d2] => { results := [.lit (.bool true)], args := [d1, d2] }
  | _ => none }
def wireBackRow : OpenClaim := { program := "ytjfikeahafflfaa", sum := "a8f73d9ca742cd45e21c10ab78d12d8ae3f9f31a08c6b50b9b7ef7ada8c9928d", func := "newel/newellaw08.WireBack", spec := "wireBack", apart := false }
def WireBackSaid : Prop := wireBackRow.holds Try.pinned (OpenSpec.ofChange wireBackSpec)

/-- ITS FALSE NEIGHBOUR: 'it returns false'. Refute it at one input. -/
def wireBackWrong : ChangeSpec := { name := "wireBack", fn := fun _ => fun
  | [d1, d2] => { results := [.lit (.bool false)], args := [d1, d2] }
  | _ => none }
def WireBackWrongFalsely : Prop := wireBackRow.holds Try.pinned (OpenSpec.ofChange wireBackWrong)

/-- 'newellaw08.WireShort': WHATEVER THE INPUT: true; the input reads as it did. -/
def wireShortSpec : ChangeSpec := { name := "wireShort", fn := fun _ => fun
  | [d1, d2] => { results := [.lit (.bool true)], args := [d1, d2] }
  | _ => none }
def wireShortRow : OpenClaim := { program := "ytjfikeahafflfaa", sum := "a8f73d9ca742cd45e21c10ab78d12d8ae3f9f31a08c6b50b9b7ef7ada8c9928d", func := "newel/newellaw08.WireShort", spec := "wireShort", apart := false }
def WireShortSaid : Prop := wireShortRow.holds Try.pinned (OpenSpec.ofChange wireShortSpec)

/-- ITS FALSE NEIGHBOUR: 'it returns false'. Refute it at one input. -/
def wireShortWrong : ChangeSpec := { name := "wireShort", fn := fun _ => fun
  | [d1, d2] => { results := [.lit (.bool false)], args := [d1, d2] }
  | _ => none }
def WireShortWrongFalsely : Prop := wireShortRow.holds Try.pinned (OpenSpec.ofChange wireShortWrong)

/-- 'newellaw17.DoorSteps': WHATEVER THE INPUT: true; the input reads as it did. -/
def doorStepsSpec : ChangeSpec := { name := "doorSteps", fn := fun _ => fun
  | [d1, d2, d3] => { results := [.lit (.bool true)], args := [d1, d2, d3] }
  | _ => none }
def doorStepsRow : OpenClaim := { program := "ytjfikeahafflfaa", sum := "a8f73d9ca742cd45e21c10ab78d12d8ae3f9f31a08c6b50b9b7ef7ada8c9928d", func := "newel/newellaw17.DoorSteps", spec := "doorSteps", unfollowed := true, recurses := true, apart := false }
def DoorStepsSaid : Prop := doorStepsRow.holds Try.pinned (OpenSpec.ofChange doorStepsSpec)

/-- ITS FALSE NEIGHBOUR: 'it returns false'. Refute it at one input. -/
def doorStepsWrong : ChangeSpec := { name := "doorSteps", fn := fun _ => fun
  | [d1, d2, d3] => { results := [.lit (.bool false)], args := [d1, d2, d3] }
  | _ => none }
def DoorStepsWrongFalsely : Prop := doorStepsRow.holds Try.pinned (OpenSpec.ofChange doorStepsWrong)

/-- 'newellaw17.DoorAsks': WHATEVER THE INPUT: true; the input reads as it did. -/
def doorAsksSpec : ChangeSpec := { name := "doorAsks", fn := fun _ => fun
  | [d1, d2] => { results := [.lit (.bool true)], args := [d1, d2] }
  | _ => none }
def doorAsksRow : OpenClaim := { program := "ytjfikeahafflfaa", sum := "a8f73d9ca742cd45e21c10ab78d12d8ae3f9f31a08c6b50b9b7ef7ada8c9928d", func := "newel/newellaw17.DoorAsks", spec := "doorAsks", unfollowed := true, recurses := true, apart := false }
def DoorAsksSaid : Prop := doorAsksRow.holds Try.pinned (OpenSpec.ofChange doorAsksSpec)

/-- ITS FALSE NEIGHBOUR: 'it returns false'. Refute it at one input. -/
def doorAsksWrong : ChangeSpec := { name := "doorAsks", fn := fun _ => fun
  | [d1, d2] => { results := [.lit (.bool false)], args := [d1, d2] }
  | _ => none }
def DoorAsksWrongFalsely : Prop := doorAsksRow.holds Try.pinned (OpenSpec.ofChange doorAsksWrong)

/-- 'newellaw17.DoorFalls': WHATEVER THE INPUT: true; the input reads as it did. -/
def doorFallsSpec : ChangeSpec := { name := "doorFalls", fn := fun _ => fun
  | [d1, d2, d3] => { results := [.lit (.bool true)], args := [d1, d2, d3] }
  | _ => none }
def doorFallsRow : OpenClaim := { program := "ytjfikeahafflfaa", sum := "a8f73d9ca742cd45e21c10ab78d12d8ae3f9f31a08c6b50b9b7ef7ada8c9928d", func := "newel/newellaw17.DoorFalls", spec := "doorFalls", unfollowed := true, recurses := true, apart := false }
def DoorFallsSaid : Prop := doorFallsRow.holds Try.pinned (OpenSpec.ofChange doorFallsSpec)

/-- ITS FALSE NEIGHBOUR: 'it returns false'. Refute it at one input. -/
def doorFallsWrong : ChangeSpec := { name := "doorFalls", fn := fun _ => fun
  | [d1, d2, d3] => { results := [.lit (.bool false)], args := [d1, d2, d3] }
  | _ => none }
def DoorFallsWrongFalsely : Prop := doorFallsRow.holds Try.pinned (OpenSpec.ofChange doorFallsWrong)

/-- 'newellaw17.DoorEnds': WHATEVER THE INPUT: true; the input reads as it did. -/
def doorEndsSpec : ChangeSpec := { name := "doorEnds", fn := fun _ => fun
  | [d1, d2, d3] => { results := [.lit (.bool true)], args := [d1, d2, d3] }
  | _ => none }
def doorEndsRow : OpenClaim := { program := "ytjfikeahafflfaa", sum := "a8f73d9ca742cd45e21c10ab78d12d8ae3f9f31a08c6b50b9b7ef7ada8c9928d", func := "newel/newellaw17.DoorEnds", spec := "doorEnds", unfollowed := true, recurses := true, apart := false }
def DoorEndsSaid : Prop := doorEndsRow.holds Try.pinned (OpenSpec.ofChange doorEndsSpec)

/-- ITS FALSE NEIGHBOUR: 'it returns false'. Refute it at one input. -/
def doorEndsWrong : ChangeSpec := { name := "doorEnds", fn := fun _ => fun
  | [d1, d2, d3] => { results := [.lit (.bool false)], args := [d1, d2, d3] }
  | _ => none }
def DoorEndsWrongFalsely : Prop := doorEndsRow.holds Try.pinned (OpenSpec.ofChange doorEndsWrong)

/-- 'newellaw17.DoorDeaf': WHATEVER THE INPUT: true; the input reads as it did. -/
def doorDeafSpec : ChangeSpec := { name := "doorDeaf", fn := fun _ => fun
  | [d1, d2] => { results := [.lit (.bool true)], args := [d1, d2] }
  | _ => none }
def doorDeafRow : OpenClaim := { program := "ytjfikeahafflfaa", sum := "a8f73d9ca742cd45e21c10ab78d12d8ae3f9f31a08c6b50b9b7ef7ada8c9928d", func := "newel/newellaw17.DoorDeaf", spec := "doorDeaf", unfollowed := true, recurses := true, apart := false }
def DoorDeafSaid : Prop := doorDeafRow.holds Try.pinned (OpenSpec.ofChange doorDeafSpec)

/-- ITS FALSE NEIGHBOUR: 'it returns false'. Refute it at one input. -/
def doorDeafWrong : ChangeSpec := { name := "doorDeaf", fn := fun _ => fun
  | [d1, d2] => { results := [.lit (.bool false)], args := [d1, d2] }
  | _ => none }
def DoorDeafWrongFalsely : Prop := doorDeafRow.holds Try.pinned (OpenSpec.ofChange doorDeafWrong)

/- THE SECOND FORM. 'bulk': how many values and letters a reading holds, each counted each time it is reached (what is shared counts as often as it is met; a slice's spare places count too). A statement '..UptoSaid' is the law's where the arguments, and the package variables that the reading takes, are together of bulk at most 1048576: NARROWER than '..Said'. Prove '..Said' where nothing that the law and all that it calls make is longer than what came in: it says more and counts as full. Else prove '..UptoSaid'. A law counts once. -/
mutual
def uptoBulk {H : Type} : DataW H → Nat
  | .lit (.string bytes) => bytes.length + 1
  | .lit _ => 1
  | .nil => 1
  | .ptr d => uptoBulk d + 1
  | .slice elems spare => uptoBulkAll elems + uptoBulkAll spare + 1
  | .agg parts => uptoBulkAll parts + 1
  | .iface _ d => uptoBulk d + 1
  | .map entries => uptoBulkEntries entries + 1
  | .held _ => 1
def uptoBulkAll {H : Type} : List (DataW H) → Nat
  | [] => 0
  | d :: r => uptoBulk d + uptoBulkAll r
def uptoBulkEntries {H : Type} : List (Lit × DataW H) → Nat
  | [] => 0
  | x :: r => uptoBulkEntry x + uptoBulkEntries r
def uptoBulkEntry {H : Type} : Lit × DataW H → Nat
  | (.string bytes, d) => bytes.length + uptoBulk d + 1
  | (_, d) => uptoBulk d + 1
 end
def uptoSmall : (H : Type) → List (DataW H) → Bool := fun _ ds => decide (uptoBulkAll ds ≤ 1048576)
def OpenSpec.upto (s : _root_.Go.ChangeSpec) : _root_.Go.OpenSpec := { _root_.Go.OpenSpec.ofChange s with cond := some uptoSmall }

/-- 'newellaw08.WireOnly', WHERE WHAT IT READS IS OF BULK AT MOST 1048576: true; the input reads as it did. -/
def wireOnlyUptoRow : OpenClaim := { program := "ytjfikeahafflfaa", sum := "a8f73d9ca742cd45e21c10ab78d12d8ae3f9f31a08c6b50b9b7ef7ada8c9928d", func := "newel/newellaw08.WireOnly", spec := "wireOnly", apart := false, narrowed := true }
def WireOnlyUptoSaid : Prop := wireOnlyUptoRow.holds Try.pinned (OpenSpec.upto wireOnlySpec)

/-- 'newellaw08.WireApart', WHERE WHAT IT READS IS OF BULK AT MOST 1048576: true; the input reads as it did. -/
def wireApartUptoRow : OpenClaim := { program := "ytjfikeahafflfaa", sum := "a8f73d9ca742cd45e21c10ab78d12d8ae3f9f31a08c6b50b9b7ef7ada8c9928d", func := "newel/newellaw08.WireApart", spec := "wireApart", apart := false, narrowed := true }
def WireApartUptoSaid : Prop := wireApartUptoRow.holds Try.pinned (OpenSpec.upto wireApartSpec)

/-- 'newellaw08.WirePuts', WHERE WHAT IT READS IS OF BULK AT MOST 1048576: true; the input reads as it did. -/
def wirePutsUptoRow : OpenClaim := { program := "ytjfikeahafflfaa", sum := "a8f73d9ca742cd45e21c10ab78d12d8ae3f9f31a08c6b50b9b7ef7ada8c9928d", func := "newel/newellaw08.WirePuts", spec := "wirePuts", apart := false, narrowed := true }
def WirePutsUptoSaid : Prop := wirePutsUptoRow.holds Try.pinned (OpenSpec.upto wirePutsSpec)

/-- 'newellaw08.WireBack', WHERE WHAT IT READS IS OF BULK AT MOST 1048576: true; the input reads as it did. -/
def wireBackUptoRow : OpenClaim := { program := "ytjfikeahafflfaa", sum := "a8f73d9ca742cd45e21c10ab78d12d8ae3f9f31a08c6b50b9b7ef7ada8c9928d", func := "newel/newellaw08.WireBack", spec := "wireBack", apart := false, narrowed := true }
def WireBackUptoSaid : Prop := wireBackUptoRow.holds Try.pinned (OpenSpec.upto wireBackSpec)

/-- 'newellaw08.WireShort', WHERE WHAT IT READS IS OF BULK AT MOST 1048576: true; the input reads as it did. -/
def wireShortUptoRow : OpenClaim := { program := "ytjfikeahafflfaa", sum := "a8f73d9ca742cd45e21c10ab78d12d8ae3f9f31a08c6b50b9b7ef7ada8c9928d", func := "newel/newellaw08.WireShort", spec := "wireShort", apart := false, narrowed := true }
def WireShortUptoSaid : Prop := wireShortUptoRow.holds Try.pinned (OpenSpec.upto wireShortSpec)

/-- 'newellaw17.DoorSteps', WHERE WHAT IT READS IS OF BULK AT MOST 1048576: true; the input reads as it did. -/
def doorStepsUptoRow : OpenClaim := { program := "ytjfikeahafflfaa", sum := "a8f73d9ca742cd45e21c10ab78d12d8ae3f9f31a08c6b50b9b7ef7ada8c9928d", func := "newel/newellaw17.DoorSteps", spec := "doorSteps", unfollowed := true, recurses := true, apart := false, narrowed := true }
def DoorStepsUptoSaid : Prop := doorStepsUptoRow.holds Try.pinned (OpenSpec.upto doorStepsSpec)

/-- 'newellaw17.DoorAsks', WHERE WHAT IT READS IS OF BULK AT MOST 1048576: true; the input reads as it did. -/
def doorAsksUptoRow : OpenClaim := { program := "ytjfikeahafflfaa", sum := "a8f73d9ca742cd45e21c10ab78d12d8ae3f9f31a08c6b50b9b7ef7ada8c9928d", func := "newel/newellaw17.DoorAsks", spec := "doorAsks", unfollowed := true, recurses := true, apart := false, narrowed := true }
def DoorAsksUptoSaid : Prop := doorAsksUptoRow.holds Try.pinned (OpenSpec.upto doorAsksSpec)

/-- 'newellaw17.DoorFalls', WHERE WHAT IT READS IS OF BULK AT MOST 1048576: true; the input reads as it did. -/
def doorFallsUptoRow : OpenClaim := { program := "ytjfikeahafflfaa", sum := "a8f73d9ca742cd45e21c10ab78d12d8ae3f9f31a08c6b50b9b7ef7ada8c9928d", func := "newel/newellaw17.DoorFalls", spec := "doorFalls", unfollowed := true, recurses := true, apart := false, narrowed := true }
def DoorFallsUptoSaid : Prop := doorFallsUptoRow.holds Try.pinned (OpenSpec.upto doorFallsSpec)

/-- 'newellaw17.DoorEnds', WHERE WHAT IT READS IS OF BULK AT MOST 1048576: true; the input reads as it did. -/
def doorEndsUptoRow : OpenClaim := { program := "ytjfikeahafflfaa", sum := "a8f73d9ca742cd45e21c10ab78d12d8ae3f9f31a08c6b50b9b7ef7ada8c9928d", func := "newel/newellaw17.DoorEnds", spec := "doorEnds", unfollowed := true, recurses := true, apart := false, narrowed := true }
def DoorEndsUptoSaid : Prop := doorEndsUptoRow.holds Try.pinned (OpenSpec.upto doorEndsSpec)

/-- 'newellaw17.DoorDeaf', WHERE WHAT IT READS IS OF BULK AT MOST 1048576: true; the input reads as it did. -/
def doorDeafUptoRow : OpenClaim := { program := "ytjfikeahafflfaa", sum := "a8f73d9ca742cd45e21c10ab78d12d8ae3f9f31a08c6b50b9b7ef7ada8c9928d", func := "newel/newellaw17.DoorDeaf", spec := "doorDeaf", unfollowed := true, recurses := true, apart := false, narrowed := true }
def DoorDeafUptoSaid : Prop := doorDeafUptoRow.holds Try.pinned (OpenSpec.upto doorDeafSpec)

end Rows
end Go.Proofs.Ytjfikeahafflfaa
