/-
  NARROWER THAN 'FOR EVERY INPUT', by the rows' own cells (each row's printed sentence says how): FlashWrites: laid · FlashBack: laid · FlashOnly: laid · FlashTorn: laid · FlashWhole: laid · FlashGoes: laid.
  DERIVED. THE GIVEN ROWS OF THIS SEAT. 6 by the template 'for every input the law returns true; each argument reads behind the call as it read before'; 0 by the template 'total and deterministic' (their statements: YtickbejailcehaaDoorTotals.lean).
  GIVEN WITH THE SEED: the statements are not yours to turn. If you find one false, say at which input.
  Laid BY PROGRAM, IN A SANDBOX (cutbox-rows.mjs): the forced cells as the released guide's own fill.sh prints them over the translation dd89b6a5c6bca5e7… (all of the seat's roots in one cut). By AI agents, Wed Nov 11 2026. No macro, syntax, notation, axiom, sorry.
-/
import Derived.Test.YtickbejailcehaaDoorChecked
import GoSem.Claim
import GoSem.ClaimJoined
import GoSem.ClaimMapViews
import Derived.JoinedTies
import Derived.KernelRfl
namespace Go.Proofs.YtickbejailcehaaDoor
/- THE CELL 'sum', in the pinned program and in every row, IS THE sha256 OF THE DUMP (.gsa) THAT YtickbejailcehaaDoorProg.lean LOADS. Nothing in Lean hashes anything: it is a label: what it is worth is what the hold of that sum in a sandbox is worth. -/
noncomputable def Tryd.pinned : Pinned := { name := "ytickbejailcehaadoor", sum := "dd89b6a5c6bca5e721f40e71150e146b95a2716609f3a4c1c2dcf048ccd1341b", checked := Tryd.checked }
namespace Rows
def none {H : Type} : Left H := { results := [], args := [] }

/- WHAT THE LISTED PACKAGE-LEVEL VARIABLES READ AS WHEN THE CALL BEGINS. Each datum BY PROGRAM (the guide's laid-datum.mjs) off the statement by which the dump's own 'gosem.cut.vars' lays the variable. In a bare row this is a premise. The card (YtickbejailcehaaDoorCards.lean) ties it to the program's text. -/
def laid_newel_crc_halves {H : Type} : DataW H := .agg [.lit (.int .u16 0), .lit (.int .u16 4129), .lit (.int .u16 8258), .lit (.int .u16 12387), .lit (.int .u16 16516), .lit (.int .u16 20645), .lit (.int .u16 24774), .lit (.int .u16 28903), .lit (.int .u16 33032), .lit (.int .u16 37161), .lit (.int .u16 41290), .lit (.int .u16 45419), .lit (.int .u16 49548), .lit (.int .u16 53677), .lit (.int .u16 57806), .lit (.int .u16 61935)]

/-- 'newellaw12.FlashWrites': WHATEVER THE INPUT: true; the input reads as it did. -/
def flashWritesSpec : ChangeSpec := { name := "flashWrites", fn := fun _ => fun
  | [d1, d2, d3] => { results := [.lit (.bool true)], args := [d1, d2, d3] }
  | _ => none }
def flashWritesRow : OpenClaim := { program := "ytickbejailcehaadoor", sum := "dd89b6a5c6bca5e721f40e71150e146b95a2716609f3a4c1c2dcf048ccd1341b", func := "newel/newellaw12.FlashWrites", spec := "flashWrites", unfollowed := true, recurses := true, named := ["newel/crc.halves"], apart := false, laid := [("newel/crc.halves", laid_newel_crc_halves)] }
def FlashWritesSaid : Prop := flashWritesRow.holds Tryd.pinned (OpenSpec.ofChange flashWritesSpec)

/-- ITS FALSE NEIGHBOUR: 'it returns false'. Refute it at one input. -/
def flashWritesWrong : ChangeSpec := { name := "flashWrites", fn := fun _ => fun
  | [d1, d2, d3] => { results := [.lit (.bool false)], args := [d1, d2, d3] }
  | _ => none }
def FlashWritesWrongFalsely : Prop := flashWritesRow.holds Tryd.pinned (OpenSpec.ofChange flashWritesWrong)

/-- 'newellaw12.FlashBack': WHATEVER THE INPUT: true; the input reads as it did. -/
def flashBackSpec : ChangeSpec := { name := "flashBack", fn := fun _ => fun
  | [d] => { results := [.lit (.bool true)], args := [d] }
  | _ => none }
def flashBackRow : OpenClaim := { program := "ytickbejailcehaadoor", sum := "dd89b6a5c6bca5e721f40e71150e146b95a2716609f3a4c1c2dcf048ccd1341b", func := "newel/newellaw12.FlashBack", spec := "flashBack", unfollowed := true, recurses := true, named := ["newel/crc.halves"], apart := false, laid := [("newel/crc.halves", laid_newel_crc_halves)] }
def FlashBackSaid : Prop := flashBackRow.holds Tryd.pinned (OpenSpec.ofChange flashBackSpec)

/-- ITS FALSE NEIGHBOUR: 'it returns false'. Refute it at one input. -/
def flashBackWrong : ChangeSpec := { name := "flashBack", fn := fun _ => fun
  | [d] => { results := [.lit (.bool false)], args := [d] }
  | _ => none }
def FlashBackWrongFalsely : Prop := flashBackRow.holds Tryd.pinned (OpenSpec.ofChange flashBackWrong)

/-- 'newellaw12.FlashOnly': WHATEVER THE INPUT: true; the input reads as it did. -/
def flashOnlySpec : ChangeSpec := { name := "flashOnly", fn := fun _ => fun
  | [d] => { results := [.lit (.bool true)], args := [d] }
  | _ => none }
def flashOnlyRow : OpenClaim := { program := "ytickbejailcehaadoor", sum := "dd89b6a5c6bca5e721f40e71150e146b95a2716609f3a4c1c2dcf048ccd1341b", func := "newel/newellaw12.FlashOnly", spec := "flashOnly", unfollowed := true, recurses := true, named := ["newel/crc.halves"], apart := false, laid := [("newel/crc.halves", laid_newel_crc_halves)] }
def FlashOnlySaid : Prop := flashOnlyRow.holds Tryd.pinned (OpenSpec.ofChange flashOnlySpec)

/-- ITS FALSE NEIGHBOUR: 'it returns false'. Refute it at one input. -/
def flashOnlyWrong : ChangeSpec := { name := "flashOnly", fn := fun _ => fun
  | [d] => { results := [.lit (.bool false)], args := [d] }
  | _ => none }
def FlashOnlyWrongFalsely : Prop := flashOnlyRow.holds Tryd.pinned (OpenSpec.ofChange flashOnlyWrong)

/-- 'newellaw12.FlashTorn': WHATEVER THE INPUT: true; the input reads as it did. -/
def flashTornSpec : ChangeSpec := { name := "flashTorn", fn := fun _ => fun
  | [d1, d2] => { results := [.lit (.bool true)], args := [d1, d2] }
  | _ => none }
def flashTornRow : OpenClaim := { program := "ytickbejailcehaadoor", sum := "dd89b6a5c6bca5e721f40e71150e146b95a2716609f3a4c1c2dcf048ccd1341b", func := "newel/newellaw12.FlashTorn", spec := "flashTorn", unfollowed := true, recurses := true, named := ["newel/crc.halves"], apart := false, laid := [("newel/crc.halves", laid_newel_crc_halves)] }
def FlashTornSaid : Prop := flashTornRow.holds Tryd.pinned (OpenSpec.ofChange flashTornSpec)

/-- ITS FALSE NEIGHBOUR: 'it returns false'. Refute it at one input. -/
def flashTornWrong : ChangeSpec := { name := "flashTorn", fn := fun _ => fun
  | [d1, d2] => { results := [.lit (.bool false)], args := [d1, d2] }
  | _ => none }
def FlashTornWrongFalsely : Prop := flashTornRow.holds Tryd.pinned (OpenSpec.ofChange flashTornWrong)

/-- 'newellaw12.FlashWhole': WHATEVER THE INPUT: true; the input reads as it did. -/
def flashWholeSpec : ChangeSpec := { name := "flashWhole", fn := fun _ => fun
  | [d1, d2, d3] => { results := [.lit (.bool true)], args := [d1, d2, d3] }
  | _ => none }
def flashWholeRow : OpenClaim := { program := "ytickbejailcehaadoor", sum := "dd89b6a5c6bca5e721f40e71150e146b95a2716609f3a4c1c2dcf048ccd1341b", func := "newel/newellaw12.FlashWhole", spec := "flashWhole", unfollowed := true, recurses := true, named := ["newel/crc.halves"], apart := false, laid := [("newel/crc.halves", laid_newel_crc_halves)] }
def FlashWholeSaid : Prop := flashWholeRow.holds Tryd.pinned (OpenSpec.ofChange flashWholeSpec)

/-- ITS FALSE NEIGHBOUR: 'it returns false'. Refute it at one input. -/
def flashWholeWrong : ChangeSpec := { name := "flashWhole", fn := fun _ => fun
  | [d1, d2, d3] => { results := [.lit (.bool false)], args := [d1, d2, d3] }
  | _ => none }
def FlashWholeWrongFalsely : Prop := flashWholeRow.holds Tryd.pinned (OpenSpec.ofChange flashWholeWrong)

/-- 'newellaw12.FlashGoes': WHATEVER THE INPUT: true; the input reads as it did. -/
def flashGoesSpec : ChangeSpec := { name := "flashGoes", fn := fun _ => fun
  | [d1, d2] => { results := [.lit (.bool true)], args := [d1, d2] }
  | _ => none }
def flashGoesRow : OpenClaim := { program := "ytickbejailcehaadoor", sum := "dd89b6a5c6bca5e721f40e71150e146b95a2716609f3a4c1c2dcf048ccd1341b", func := "newel/newellaw12.FlashGoes", spec := "flashGoes", unfollowed := true, recurses := true, named := ["newel/crc.halves"], apart := false, laid := [("newel/crc.halves", laid_newel_crc_halves)] }
def FlashGoesSaid : Prop := flashGoesRow.holds Tryd.pinned (OpenSpec.ofChange flashGoesSpec)

/-- ITS FALSE NEIGHBOUR: 'it returns false'. Refute it at one input. -/
def flashGoesWrong : ChangeSpec := { name := "flashGoes", fn := fun _ => fun
  | [d1, d2] => { results := [.lit (.bool false)], args := [d1, d2] }
  | _ => none }
def FlashGoesWrongFalsely : Prop := flashGoesRow.holds Tryd.pinned (OpenSpec.ofChange flashGoesWrong)

/- THE SECOND FORM. 'bulk': how many values and letters a reading holds, each counted each time it is reached (what is shared counts as often as it is met; a slice's spare places count too). A statement '..UptoSaid' is the law's where the arguments, and the package variables that the reading takes, are together of bulk at most 1048576: NARROWER than '..Said'. Prove '..Said' where nothing that the law and all that it calls make is longer than what came in: it says more and counts as full. Else prove '..UptoSaid'. A law counts once. -/
mutual
def uptoBulk {H : Type} : DataW H → Nat
  | .lit (.string bytes) => bytes.length + 1
  | .lit _ => 1
  | .nil => 1
  | .ptr d => uptoBulk d + 1
  | .slice elems spare => uptoBulkAll elems + uptoBulkAll spare + 1
  | .agg parts => uptoBulkAll parts + 1
  | .iface _ d => uptoBulk d + 1
  | .map entries => uptoBulkEntries entries + 1
  | .held _ => 1
def uptoBulkAll {H : Type} : List (DataW H) → Nat
  | [] => 0
  | d :: r => uptoBulk d + uptoBulkAll r
def uptoBulkEntries {H : Type} : List (Lit × DataW H) → Nat
  | [] => 0
  | x :: r => uptoBulkEntry x + uptoBulkEntries r
def uptoBulkEntry {H : Type} : Lit × DataW H → Nat
  | (.string bytes, d) => bytes.length + uptoBulk d + 1
  | (_, d) => uptoBulk d + 1
 end
def uptoSmall : (H : Type) → List (DataW H) → Bool := fun _ ds => decide (uptoBulkAll ds ≤ 1048576)
def OpenSpec.upto (s : _root_.Go.ChangeSpec) : _root_.Go.OpenSpec := { _root_.Go.OpenSpec.ofChange s with cond := some uptoSmall }

/-- 'newellaw12.FlashWrites', WHERE WHAT IT READS IS OF BULK AT MOST 1048576: true; the input reads as it did. -/
def flashWritesUptoRow : OpenClaim := { program := "ytickbejailcehaadoor", sum := "dd89b6a5c6bca5e721f40e71150e146b95a2716609f3a4c1c2dcf048ccd1341b", func := "newel/newellaw12.FlashWrites", spec := "flashWrites", unfollowed := true, recurses := true, named := ["newel/crc.halves"], apart := false, laid := [("newel/crc.halves", laid_newel_crc_halves)], narrowed := true }
def FlashWritesUptoSaid : Prop := flashWritesUptoRow.holds Tryd.pinned (OpenSpec.upto flashWritesSpec)

/-- 'newellaw12.FlashBack', WHERE WHAT IT READS IS OF BULK AT MOST 1048576: true; the input reads as it did. -/
def flashBackUptoRow : OpenClaim := { program := "ytickbejailcehaadoor", sum := "dd89b6a5c6bca5e721f40e71150e146b95a2716609f3a4c1c2dcf048ccd1341b", func := "newel/newellaw12.FlashBack", spec := "flashBack", unfollowed := true, recurses := true, named := ["newel/crc.halves"], apart := false, laid := [("newel/crc.halves", laid_newel_crc_halves)], narrowed := true }
def FlashBackUptoSaid : Prop := flashBackUptoRow.holds Tryd.pinned (OpenSpec.upto flashBackSpec)

/-- 'newellaw12.FlashOnly', WHERE WHAT IT READS IS OF BULK AT MOST 1048576: true; the input reads as it did. -/
def flashOnlyUptoRow : OpenClaim := { program := "ytickbejailcehaadoor", sum := "dd89b6a5c6bca5e721f40e71150e146b95a2716609f3a4c1c2dcf048ccd1341b", func := "newel/newellaw12.FlashOnly", spec := "flashOnly", unfollowed := true, recurses := true, named := ["newel/crc.halves"], apart := false, laid := [("newel/crc.halves", laid_newel_crc_halves)], narrowed := true }
def FlashOnlyUptoSaid : Prop := flashOnlyUptoRow.holds Tryd.pinned (OpenSpec.upto flashOnlySpec)

/-- 'newellaw12.FlashTorn', WHERE WHAT IT READS IS OF BULK AT MOST 1048576: true; the input reads as it did. -/
def flashTornUptoRow : OpenClaim := { program := "ytickbejailcehaadoor", sum := "dd89b6a5c6bca5e721f40e71150e146b95a2716609f3a4c1c2dcf048ccd1341b", func := "newel/newellaw12.FlashTorn", spec := "flashTorn", unfollowed := true, recurses := true, named := ["newel/crc.halves"], apart := false, laid := [("newel/crc.halves", laid_newel_crc_halves)], narrowed := true }
def FlashTornUptoSaid : Prop := flashTornUptoRow.holds Tryd.pinned (OpenSpec.upto flashTornSpec)

/-- 'newellaw12.FlashWhole', WHERE WHAT IT READS IS OF BULK AT MOST 1048576: true; the input reads as it did. -/
def flashWholeUptoRow : OpenClaim := { program := "ytickbejailcehaadoor", sum := "dd89b6a5c6bca5e721f40e71150e146b95a2716609f3a4c1c2dcf048ccd1341b", func := "newel/newellaw12.FlashWhole", spec := "flashWhole", unfollowed := true, recurses := true, named := ["newel/crc.halves"], apart := false, laid := [("newel/crc.halves", laid_newel_crc_halves)], narrowed := true }
def FlashWholeUptoSaid : Prop := flashWholeUptoRow.holds Tryd.pinned (OpenSpec.upto flashWholeSpec)

/-- 'newellaw12.FlashGoes', WHERE WHAT IT READS IS OF BULK AT MOST 1048576: true; the input reads as it did. -/
def flashGoesUptoRow : OpenClaim := { program := "ytickbejailcehaadoor", sum := "dd89b6a5c6bca5e721f40e71150e146b95a2716609f3a4c1c2dcf048ccd1341b", func := "newel/newellaw12.FlashGoes", spec := "flashGoes", unfollowed := true, recurses := true, named := ["newel/crc.halves"], apart := false, laid := [("newel/crc.halves", laid_newel_crc_halves)], narrowed := true }
def FlashGoesUptoSaid : Prop := flashGoesUptoRow.holds Tryd.pinned (OpenSpec.upto flashGoesSpec)

end Rows
end Go.Proofs.YtickbejailcehaaDoor
