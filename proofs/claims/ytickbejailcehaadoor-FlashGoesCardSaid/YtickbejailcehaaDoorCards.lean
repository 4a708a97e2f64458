/-
  DERIVED. GIVEN WITH THE SEED: THE CARDS: each row of YtickbejailcehaaDoorRows.lean that lists a variable, with what it lists TIED to the program's text (the seventh form; the later family's looks); each row that meets fmt, with fmt's text TOLD by the authors' own Lean function (tested against real Go, not proved from fmt's source: count such statements apart). THE CARD IS WHAT COUNTS. Prove the row's statement (the work); the ties are given (YtickbejailcehaaDoorTie.lean); close each card by the builder's one call (the guide's Derived/Test/ToyasCard.lean, 'card_holds'). Laid BY PROGRAM, IN A SANDBOX (cutbox-door.mjs). By AI agents, Wed Nov 11 2026. No macro, syntax, notation, axiom, sorry.
-/
import Derived.Test.YtickbejailcehaaDoorRows
import GoSem.ClaimSeven
namespace Go.Proofs.YtickbejailcehaaDoor
namespace Rows

/-- THE TIED CARD OF 'newellaw12.FlashWrites'. -/
def flashWritesCard : Claim7 := { stood := { row := flashWritesRow, standIns := [], harness := (true, "414f699e35bdfec5ce5c2e320e698369fbe724da38887bb48f8dd7d2f379b0a0"), looks := false }, kinds := [], alts := [], laidByText := true, laidKinds := [.data], laidTests := true, laidLooks := .later }
def FlashWritesCardSaid : Prop := Claim7.holds Tryd.pinned (.plain (OpenSpec.ofChange flashWritesSpec)) flashWritesCard

/-- THE TIED CARD OF 'newellaw12.FlashBack'. -/
def flashBackCard : Claim7 := { stood := { row := flashBackRow, standIns := [], harness := (true, "414f699e35bdfec5ce5c2e320e698369fbe724da38887bb48f8dd7d2f379b0a0"), looks := false }, kinds := [], alts := [], laidByText := true, laidKinds := [.data], laidTests := true, laidLooks := .later }
def FlashBackCardSaid : Prop := Claim7.holds Tryd.pinned (.plain (OpenSpec.ofChange flashBackSpec)) flashBackCard

/-- THE TIED CARD OF 'newellaw12.FlashOnly'. -/
def flashOnlyCard : Claim7 := { stood := { row := flashOnlyRow, standIns := [], harness := (true, "414f699e35bdfec5ce5c2e320e698369fbe724da38887bb48f8dd7d2f379b0a0"), looks := false }, kinds := [], alts := [], laidByText := true, laidKinds := [.data], laidTests := true, laidLooks := .later }
def FlashOnlyCardSaid : Prop := Claim7.holds Tryd.pinned (.plain (OpenSpec.ofChange flashOnlySpec)) flashOnlyCard

/-- THE TIED CARD OF 'newellaw12.FlashTorn'. -/
def flashTornCard : Claim7 := { stood := { row := flashTornRow, standIns := [], harness := (true, "414f699e35bdfec5ce5c2e320e698369fbe724da38887bb48f8dd7d2f379b0a0"), looks := false }, kinds := [], alts := [], laidByText := true, laidKinds := [.data], laidTests := true, laidLooks := .later }
def FlashTornCardSaid : Prop := Claim7.holds Tryd.pinned (.plain (OpenSpec.ofChange flashTornSpec)) flashTornCard

/-- THE TIED CARD OF 'newellaw12.FlashWhole'. -/
def flashWholeCard : Claim7 := { stood := { row := flashWholeRow, standIns := [], harness := (true, "414f699e35bdfec5ce5c2e320e698369fbe724da38887bb48f8dd7d2f379b0a0"), looks := false }, kinds := [], alts := [], laidByText := true, laidKinds := [.data], laidTests := true, laidLooks := .later }
def FlashWholeCardSaid : Prop := Claim7.holds Tryd.pinned (.plain (OpenSpec.ofChange flashWholeSpec)) flashWholeCard

/-- THE TIED CARD OF 'newellaw12.FlashGoes'. -/
def flashGoesCard : Claim7 := { stood := { row := flashGoesRow, standIns := [], harness := (true, "414f699e35bdfec5ce5c2e320e698369fbe724da38887bb48f8dd7d2f379b0a0"), looks := false }, kinds := [], alts := [], laidByText := true, laidKinds := [.data], laidTests := true, laidLooks := .later }
def FlashGoesCardSaid : Prop := Claim7.holds Tryd.pinned (.plain (OpenSpec.ofChange flashGoesSpec)) flashGoesCard

/-- THE SECOND FORM's CARD OF 'newellaw12.FlashWrites'. -/
def flashWritesUptoCard : Claim7 := { stood := { row := flashWritesUptoRow, standIns := [], harness := (true, "414f699e35bdfec5ce5c2e320e698369fbe724da38887bb48f8dd7d2f379b0a0"), looks := false }, kinds := [], alts := [], laidByText := true, laidKinds := [.data], laidTests := true, laidLooks := .later }
def FlashWritesUptoCardSaid : Prop := Claim7.holds Tryd.pinned (.plain (OpenSpec.upto flashWritesSpec)) flashWritesUptoCard

/-- THE SECOND FORM's CARD OF 'newellaw12.FlashBack'. -/
def flashBackUptoCard : Claim7 := { stood := { row := flashBackUptoRow, standIns := [], harness := (true, "414f699e35bdfec5ce5c2e320e698369fbe724da38887bb48f8dd7d2f379b0a0"), looks := false }, kinds := [], alts := [], laidByText := true, laidKinds := [.data], laidTests := true, laidLooks := .later }
def FlashBackUptoCardSaid : Prop := Claim7.holds Tryd.pinned (.plain (OpenSpec.upto flashBackSpec)) flashBackUptoCard

/-- THE SECOND FORM's CARD OF 'newellaw12.FlashOnly'. -/
def flashOnlyUptoCard : Claim7 := { stood := { row := flashOnlyUptoRow, standIns := [], harness := (true, "414f699e35bdfec5ce5c2e320e698369fbe724da38887bb48f8dd7d2f379b0a0"), looks := false }, kinds := [], alts := [], laidByText := true, laidKinds := [.data], laidTests := true, laidLooks := .later }
def FlashOnlyUptoCardSaid : Prop := Claim7.holds Tryd.pinned (.plain (OpenSpec.upto flashOnlySpec)) flashOnlyUptoCard

/-- THE SECOND FORM's CARD OF 'newellaw12.FlashTorn'. -/
def flashTornUptoCard : Claim7 := { stood := { row := flashTornUptoRow, standIns := [], harness := (true, "414f699e35bdfec5ce5c2e320e698369fbe724da38887bb48f8dd7d2f379b0a0"), looks := false }, kinds := [], alts := [], laidByText := true, laidKinds := [.data], laidTests := true, laidLooks := .later }
def FlashTornUptoCardSaid : Prop := Claim7.holds Tryd.pinned (.plain (OpenSpec.upto flashTornSpec)) flashTornUptoCard

/-- THE SECOND FORM's CARD OF 'newellaw12.FlashWhole'. -/
def flashWholeUptoCard : Claim7 := { stood := { row := flashWholeUptoRow, standIns := [], harness := (true, "414f699e35bdfec5ce5c2e320e698369fbe724da38887bb48f8dd7d2f379b0a0"), looks := false }, kinds := [], alts := [], laidByText := true, laidKinds := [.data], laidTests := true, laidLooks := .later }
def FlashWholeUptoCardSaid : Prop := Claim7.holds Tryd.pinned (.plain (OpenSpec.upto flashWholeSpec)) flashWholeUptoCard

/-- THE SECOND FORM's CARD OF 'newellaw12.FlashGoes'. -/
def flashGoesUptoCard : Claim7 := { stood := { row := flashGoesUptoRow, standIns := [], harness := (true, "414f699e35bdfec5ce5c2e320e698369fbe724da38887bb48f8dd7d2f379b0a0"), looks := false }, kinds := [], alts := [], laidByText := true, laidKinds := [.data], laidTests := true, laidLooks := .later }
def FlashGoesUptoCardSaid : Prop := Claim7.holds Tryd.pinned (.plain (OpenSpec.upto flashGoesSpec)) flashGoesUptoCard
end Rows
end Go.Proofs.YtickbejailcehaaDoor
