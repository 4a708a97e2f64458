/-
  NARROWER THAN 'FOR EVERY INPUT', by the rows' own cells (each row's printed sentence says how): CrcTells: laid · CrcOpens: laid · CrcParts: laid · CrcBack: laid · CrcTurned: laid · CrcApart: laid.
  DERIVED. THE GIVEN ROWS OF THIS SEAT. 6 by the template 'for every input the law returns true; each argument reads behind the call as it read before'; 0 by the template 'total and deterministic' (their statements: YtcnjaeeghfmkfaaDoorTotals.lean).
  GIVEN WITH THE SEED: the statements are not yours to turn. If you find one false, say at which input.
  Laid BY PROGRAM, IN A SANDBOX (cutbox-rows.mjs): the forced cells as the released guide's own fill.sh prints them over the translation 03e249f4709767ab… (all of the seat's roots in one cut). By AI agents, Wed Nov 11 2026. No macro, syntax, notation, axiom, sorry.
-/
import Derived.Test.YtcnjaeeghfmkfaaDoorChecked
import GoSem.Claim
import GoSem.ClaimJoined
import GoSem.ClaimMapViews
import Derived.JoinedTies
import Derived.KernelRfl
namespace Go.Proofs.YtcnjaeeghfmkfaaDoor
/- THE CELL 'sum', in the pinned program and in every row, IS THE sha256 OF THE DUMP (.gsa) THAT YtcnjaeeghfmkfaaDoorProg.lean LOADS. Nothing in Lean hashes anything: it is a label: what it is worth is what the hold of that sum in a sandbox is worth. -/
noncomputable def Tryd.pinned : Pinned := { name := "ytcnjaeeghfmkfaadoor", sum := "03e249f4709767ab327499a7a0d75845acfd08d0f9bda14d7769c2e44cde2b19", checked := Tryd.checked }
namespace Rows
def none {H : Type} : Left H := { results := [], args := [] }

/- WHAT THE LISTED PACKAGE-LEVEL VARIABLES READ AS WHEN THE CALL BEGINS. Each datum BY PROGRAM (the guide's laid-datum.mjs) off the statement by which the dump's own 'gosem.cut.vars' lays the variable. In a bare row this is a premise. The card (YtcnjaeeghfmkfaaDoorCards.lean) ties it to the program's text. -/
def laid_newel_crc_halves {H : Type} : DataW H := .agg [.lit (.int .u16 0), .lit (.int .u16 4129), .lit (.int .u16 8258), .lit (.int .u16 12387), .lit (.int .u16 16516), .lit (.int .u16 20645), .lit (.int .u16 24774), .lit (.int .u16 28903), .lit (.int .u16 33032), .lit (.int .u16 37161), .lit (.int .u16 41290), .lit (.int .u16 45419), .lit (.int .u16 49548), .lit (.int .u16 53677), .lit (.int .u16 57806), .lit (.int .u16 61935)]

/-- 'newellaw09.CrcTells': WHATEVER THE INPUT: true; the input reads as it did. -/
def crcTellsSpec : ChangeSpec := { name := "crcTells", fn := fun _ => fun
  | [d1, d2] => { results := [.lit (.bool true)], args := [d1, d2] }
  | _ => none }
def crcTellsRow : OpenClaim := { program := "ytcnjaeeghfmkfaadoor", sum := "03e249f4709767ab327499a7a0d75845acfd08d0f9bda14d7769c2e44cde2b19", func := "newel/newellaw09.CrcTells", spec := "crcTells", named := ["newel/crc.halves"], apart := false, laid := [("newel/crc.halves", laid_newel_crc_halves)] }
def CrcTellsSaid : Prop := crcTellsRow.holds Tryd.pinned (OpenSpec.ofChange crcTellsSpec)

/-- ITS FALSE NEIGHBOUR: 'it returns false'. Refute it at one input. -/
def crcTellsWrong : ChangeSpec := { name := "crcTells", fn := fun _ => fun
  | [d1, d2] => { results := [.lit (.bool false)], args := [d1, d2] }
  | _ => none }
def CrcTellsWrongFalsely : Prop := crcTellsRow.holds Tryd.pinned (OpenSpec.ofChange crcTellsWrong)

/-- 'newellaw09.CrcOpens': WHATEVER THE INPUT: true; the input reads as it did. -/
def crcOpensSpec : ChangeSpec := { name := "crcOpens", fn := fun _ => fun
  | [d] => { results := [.lit (.bool true)], args := [d] }
  | _ => none }
def crcOpensRow : OpenClaim := { program := "ytcnjaeeghfmkfaadoor", sum := "03e249f4709767ab327499a7a0d75845acfd08d0f9bda14d7769c2e44cde2b19", func := "newel/newellaw09.CrcOpens", spec := "crcOpens", named := ["newel/crc.halves"], apart := false, laid := [("newel/crc.halves", laid_newel_crc_halves)] }
def CrcOpensSaid : Prop := crcOpensRow.holds Tryd.pinned (OpenSpec.ofChange crcOpensSpec)

/-- ITS FALSE NEIGHBOUR: 'it returns false'. Refute it at one input. -/
def crcOpensWrong : ChangeSpec := { name := "crcOpens", fn := fun _ => fun
  | [d] => { results := [.lit (.bool false)], args := [d] }
  | _ => none }
def CrcOpensWrongFalsely : Prop := crcOpensRow.holds Tryd.pinned (OpenSpec.ofChange crcOpensWrong)

/-- 'newellaw09.CrcParts': WHATEVER THE INPUT: true; the input reads as it did. -/
def crcPartsSpec : ChangeSpec := { name := "crcParts", fn := fun _ => fun
  | [d1, d2, d3] => { results := [.lit (.bool true)], args := [d1, d2, d3] }
  | _ => none }
def crcPartsRow : OpenClaim := { program := "ytcnjaeeghfmkfaadoor", sum := "03e249f4709767ab327499a7a0d75845acfd08d0f9bda14d7769c2e44cde2b19", func := "newel/newellaw09.CrcParts", spec := "crcParts", named := ["newel/crc.halves"], apart := false, laid := [("newel/crc.halves", laid_newel_crc_halves)] }
def CrcPartsSaid : Prop := crcPartsRow.holds Tryd.pinned (OpenSpec.ofChange crcPartsSpec)

/-- ITS FALSE NEIGHBOUR: 'it returns false'. Refute it at one input. -/
def crcPartsWrong : ChangeSpec := { name := "crcParts", fn := fun _ => fun
  | [d1, d2, d3] => { results := [.lit (.bool false)], args := [d1, d2, d3] }
  | _ => none }
def CrcPartsWrongFalsely : Prop := crcPartsRow.holds Tryd.pinned (OpenSpec.ofChange crcPartsWrong)

/-- 'newellaw09.CrcBack': WHATEVER THE INPUT: true; the input reads as it did. -/
def crcBackSpec : ChangeSpec := { name := "crcBack", fn := fun _ => fun
  | [d] => { results := [.lit (.bool true)], args := [d] }
  | _ => none }
def crcBackRow : OpenClaim := { program := "ytcnjaeeghfmkfaadoor", sum := "03e249f4709767ab327499a7a0d75845acfd08d0f9bda14d7769c2e44cde2b19", func := "newel/newellaw09.CrcBack", spec := "crcBack", named := ["newel/crc.halves"], apart := false, laid := [("newel/crc.halves", laid_newel_crc_halves)] }
def CrcBackSaid : Prop := crcBackRow.holds Tryd.pinned (OpenSpec.ofChange crcBackSpec)

/-- ITS FALSE NEIGHBOUR: 'it returns false'. Refute it at one input. -/
def crcBackWrong : ChangeSpec := { name := "crcBack", fn := fun _ => fun
  | [d] => { results := [.lit (.bool false)], args := [d] }
  | _ => none }
def CrcBackWrongFalsely : Prop := crcBackRow.holds Tryd.pinned (OpenSpec.ofChange crcBackWrong)

/-- 'newellaw09.CrcTurned': WHATEVER THE INPUT: true; the input reads as it did. -/
def crcTurnedSpec : ChangeSpec := { name := "crcTurned", fn := fun _ => fun
  | [d1, d2, d3] => { results := [.lit (.bool true)], args := [d1, d2, d3] }
  | _ => none }
def crcTurnedRow : OpenClaim := { program := "ytcnjaeeghfmkfaadoor", sum := "03e249f4709767ab327499a7a0d75845acfd08d0f9bda14d7769c2e44cde2b19", func := "newel/newellaw09.CrcTurned", spec := "crcTurned", named := ["newel/crc.halves"], apart := false, laid := [("newel/crc.halves", laid_newel_crc_halves)] }
def CrcTurnedSaid : Prop := crcTurnedRow.holds Tryd.pinned (OpenSpec.ofChange crcTurnedSpec)

/-- ITS FALSE NEIGHBOUR: 'it returns false'. Refute it at one input. -/
def crcTurnedWrong : ChangeSpec := { name := "crcTurned", fn := fun _ => fun
  | [d1, d2, d3] => { results := [.lit (.bool false)], args := [d1, d2, d3] }
  | _ => none }
def CrcTurnedWrongFalsely : Prop := crcTurnedRow.holds Tryd.pinned (OpenSpec.ofChange crcTurnedWrong)

/-- 'newellaw09.CrcApart': WHATEVER THE INPUT: true; the input reads as it did. -/
def crcApartSpec : ChangeSpec := { name := "crcApart", fn := fun _ => fun
  | [d1, d2] => { results := [.lit (.bool true)], args := [d1, d2] }
  | _ => none }
def crcApartRow : OpenClaim := { program := "ytcnjaeeghfmkfaadoor", sum := "03e249f4709767ab327499a7a0d75845acfd08d0f9bda14d7769c2e44cde2b19", func := "newel/newellaw09.CrcApart", spec := "crcApart", named := ["newel/crc.halves"], apart := false, laid := [("newel/crc.halves", laid_newel_crc_halves)] }
def CrcApartSaid : Prop := crcApartRow.holds Tryd.pinned (OpenSpec.ofChange crcApartSpec)

/-- ITS FALSE NEIGHBOUR: 'it returns false'. Refute it at one input. -/
def crcApartWrong : ChangeSpec := { name := "crcApart", fn := fun _ => fun
  | [d1, d2] => { results := [.lit (.bool false)], args := [d1, d2] }
  | _ => none }
def CrcApartWrongFalsely : Prop := crcApartRow.holds Tryd.pinned (OpenSpec.ofChange crcApartWrong)

/- THE SECOND FORM. 'bulk': how many values and letters a reading holds, each counted each time it is reached (what is shared counts as often as it is met; a slice's spare places count too). A statement '..UptoSaid' is the law's where the arguments, and the package variables that the reading takes, are together of bulk at most 1048576: NARROWER than '..Said'. Prove '..Said' where nothing that the law and all that it calls make is longer than what came in: it says more and counts as full. Else prove '..UptoSaid'. A law counts once. -/
mutual
def uptoBulk {H : Type} : DataW H → Nat
  | .lit (.string bytes) => bytes.length + 1
  | .lit _ => 1
  | .nil => 1
  | .ptr d => uptoBulk d + 1
  | .slice elems spare => uptoBulkAll elems + uptoBulkAll spare + 1
  | .agg parts => uptoBulkAll parts + 1
  | .iface _ d => uptoBulk d + 1
  | .map entries => uptoBulkEntries entries + 1
  | .held _ => 1
def uptoBulkAll {H : Type} : List (DataW H) → Nat
  | [] => 0
  | d :: r => uptoBulk d + uptoBulkAll r
def uptoBulkEntries {H : Type} : List (Lit × DataW H) → Nat
  | [] => 0
  | x :: r => uptoBulkEntry x + uptoBulkEntries r
def uptoBulkEntry {H : Type} : Lit × DataW H → Nat
  | (.string bytes, d) => bytes.length + uptoBulk d + 1
  | (_, d) => uptoBulk d + 1
 end
def uptoSmall : (H : Type) → List (DataW H) → Bool := fun _ ds => decide (uptoBulkAll ds ≤ 1048576)
def OpenSpec.upto (s : _root_.Go.ChangeSpec) : _root_.Go.OpenSpec := { _root_.Go.OpenSpec.ofChange s with cond := some uptoSmall }

/-- 'newellaw09.CrcTells', WHERE WHAT IT READS IS OF BULK AT MOST 1048576: true; the input reads as it did. -/
def crcTellsUptoRow : OpenClaim := { program := "ytcnjaeeghfmkfaadoor", sum := "03e249f4709767ab327499a7a0d75845acfd08d0f9bda14d7769c2e44cde2b19", func := "newel/newellaw09.CrcTells", spec := "crcTells", named := ["newel/crc.halves"], apart := false, laid := [("newel/crc.halves", laid_newel_crc_halves)], narrowed := true }
def CrcTellsUptoSaid : Prop := crcTellsUptoRow.holds Tryd.pinned (OpenSpec.upto crcTellsSpec)

/-- 'newellaw09.CrcOpens', WHERE WHAT IT READS IS OF BULK AT MOST 1048576: true; the input reads as it did. -/
def crcOpensUptoRow : OpenClaim := { program := "ytcnjaeeghfmkfaadoor", sum := "03e249f4709767ab327499a7a0d75845acfd08d0f9bda14d7769c2e44cde2b19", func := "newel/newellaw09.CrcOpens", spec := "crcOpens", named := ["newel/crc.halves"], apart := false, laid := [("newel/crc.halves", laid_newel_crc_halves)], narrowed := true }
def CrcOpensUptoSaid : Prop := crcOpensUptoRow.holds Tryd.pinned (OpenSpec.upto crcOpensSpec)

/-- 'newellaw09.CrcParts', WHERE WHAT IT READS IS OF BULK AT MOST 1048576: true; the input reads as it did. -/
def crcPartsUptoRow : OpenClaim := { program := "ytcnjaeeghfmkfaadoor", sum := "03e249f4709767ab327499a7a0d75845acfd08d0f9bda14d7769c2e44cde2b19", func := "newel/newellaw09.CrcParts", spec := "crcParts", named := ["newel/crc.halves"], apart := false, laid := [("newel/crc.halves", laid_newel_crc_halves)], narrowed := true }
def CrcPartsUptoSaid : Prop := crcPartsUptoRow.holds Tryd.pinned (OpenSpec.upto crcPartsSpec)

/-- 'newellaw09.CrcBack', WHERE WHAT IT READS IS OF BULK AT MOST 1048576: true; the input reads as it did. -/
def crcBackUptoRow : OpenClaim := { program := "ytcnjaeeghfmkfaadoor", sum := "03e249f4709767ab327499a7a0d75845acfd08d0f9bda14d7769c2e44cde2b19", func := "newel/newellaw09.CrcBack", spec := "crcBack", named := ["newel/crc.halves"], apart := false, laid := [("newel/crc.halves", laid_newel_crc_halves)], narrowed := true }
def CrcBackUptoSaid : Prop := crcBackUptoRow.holds Tryd.pinned (OpenSpec.upto crcBackSpec)

/-- 'newellaw09.CrcTurned', WHERE WHAT IT READS IS OF BULK AT MOST 1048576: true; the input reads as it did. -/
def crcTurnedUptoRow : OpenClaim := { program := "ytcnjaeeghfmkfaadoor", sum := "03e249f4709767ab327499a7a0d75845acfd08d0f9bda14d7769c2e44cde2b19", func := "newel/newellaw09.CrcTurned", spec := "crcTurned", named := ["newel/crc.halves"], apart := false, laid := [("newel/crc.halves", laid_newel_crc_halves)], narrowed := true }
def CrcTurnedUptoSaid : Prop := crcTurnedUptoRow.holds Tryd.pinned (OpenSpec.upto crcTurnedSpec)

/-- 'newellaw09.CrcApart', WHERE WHAT IT READS IS OF BULK AT MOST 1048576: true; the input reads as it did. -/
def crcApartUptoRow : OpenClaim := { program := "ytcnjaeeghfmkfaadoor", sum := "03e249f4709767ab327499a7a0d75845acfd08d0f9bda14d7769c2e44cde2b19", func := "newel/newellaw09.CrcApart", spec := "crcApart", named := ["newel/crc.halves"], apart := false, laid := [("newel/crc.halves", laid_newel_crc_halves)], narrowed := true }
def CrcApartUptoSaid : Prop := crcApartUptoRow.holds Tryd.pinned (OpenSpec.upto crcApartSpec)

end Rows
end Go.Proofs.YtcnjaeeghfmkfaaDoor
