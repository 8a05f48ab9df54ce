/-
  DERIVED. GIVEN WITH THE SEED: THE CARDS: each row of YtibknkdgdfdkiaaGreatDoorRows.lean that lists a variable, with what it lists TIED to the program's text (the seventh form; the later family's looks); each row that meets fmt, with fmt's text TOLD by the authors' own Lean function (tested against real Go, not proved from fmt's source: count such statements apart). THE CARD IS WHAT COUNTS. Prove the row's statement (the work); the ties are given (YtibknkdgdfdkiaaGreatDoorTie.lean); close each card by the builder's one call (the guide's Derived/Test/ToyasCard.lean, 'card_holds'). Laid BY PROGRAM, IN A SANDBOX (cutbox-door.mjs). By AI agents, Wed Nov 11 2026. No macro, syntax, notation, axiom, sorry.
-/
import Derived.Test.YtibknkdgdfdkiaaGreatDoorRows
import GoSem.ClaimSeven
namespace Go.Proofs.YtibknkdgdfdkiaaGreatDoor
namespace Rows

/-- THE TIED CARD OF 'woodcutlaw25.HubNil'. -/
def hubNilCard : Claim7 := { stood := { row := hubNilRow, standIns := [], harness := (true, "c0b2df363b3a80f320717d59d646eb45ae9495ac8f80bc4d6a01e507b0b55771"), looks := true }, kinds := [], alts := [], laidByText := true, laidKinds := [.pinned, .data, .data, .data, .data, .data, .data], laidTests := true, laidLooks := .later }
def HubNilCardSaid : Prop := Claim7.holds Tryz.pinned (.plain (OpenSpec.ofChange hubNilSpec)) hubNilCard

/-- THE TIED CARD OF 'woodcutlaw25.HubForms'. -/
def hubFormsCard : Claim7 := { stood := { row := hubFormsRow, standIns := [], harness := (true, "c0b2df363b3a80f320717d59d646eb45ae9495ac8f80bc4d6a01e507b0b55771"), looks := true }, kinds := [], alts := [], laidByText := true, laidKinds := [.pinned, .data, .data, .data, .data, .data, .data, .data, .sentinel, .sentinel], laidTests := true, laidLooks := .later }
def HubFormsCardSaid : Prop := Claim7.holds Tryz.pinned (.plain (OpenSpec.ofChange hubFormsSpec)) hubFormsCard

/-- THE TIED CARD OF 'woodcutlaw24.SiteNil'. -/
def siteNilCard : Claim7 := { stood := { row := siteNilRow, standIns := [], harness := (true, "c0b2df363b3a80f320717d59d646eb45ae9495ac8f80bc4d6a01e507b0b55771"), looks := true }, kinds := [], alts := [], laidByText := true, laidKinds := [.pinned, .data, .data, .data, .data, .data, .data], laidTests := true, laidLooks := .later }
def SiteNilCardSaid : Prop := Claim7.holds Tryz.pinned (.plain (OpenSpec.ofChange siteNilSpec)) siteNilCard

/-- THE TIED CARD OF 'woodcutlaw24.SiteReads'. -/
def siteReadsCard : Claim7 := { stood := { row := siteReadsRow, standIns := [], harness := (true, "c0b2df363b3a80f320717d59d646eb45ae9495ac8f80bc4d6a01e507b0b55771"), looks := true }, kinds := [], alts := [], laidByText := true, laidKinds := [.pinned, .data, .data, .data, .data, .data, .data], laidTests := true, laidLooks := .later }
def SiteReadsCardSaid : Prop := Claim7.holds Tryz.pinned (.plain (OpenSpec.ofChange siteReadsSpec)) siteReadsCard

/-- THE SECOND FORM's CARD OF 'woodcutlaw25.HubNil'. -/
def hubNilUptoCard : Claim7 := { stood := { row := hubNilUptoRow, standIns := [], harness := (true, "c0b2df363b3a80f320717d59d646eb45ae9495ac8f80bc4d6a01e507b0b55771"), looks := true }, kinds := [], alts := [], laidByText := true, laidKinds := [.pinned, .data, .data, .data, .data, .data, .data], laidTests := true, laidLooks := .later }
def HubNilUptoCardSaid : Prop := Claim7.holds Tryz.pinned (.plain (OpenSpec.upto hubNilSpec)) hubNilUptoCard

/-- THE SECOND FORM's CARD OF 'woodcutlaw25.HubForms'. -/
def hubFormsUptoCard : Claim7 := { stood := { row := hubFormsUptoRow, standIns := [], harness := (true, "c0b2df363b3a80f320717d59d646eb45ae9495ac8f80bc4d6a01e507b0b55771"), looks := true }, kinds := [], alts := [], laidByText := true, laidKinds := [.pinned, .data, .data, .data, .data, .data, .data, .data, .sentinel, .sentinel], laidTests := true, laidLooks := .later }
def HubFormsUptoCardSaid : Prop := Claim7.holds Tryz.pinned (.plain (OpenSpec.upto hubFormsSpec)) hubFormsUptoCard

/-- THE SECOND FORM's CARD OF 'woodcutlaw24.SiteNil'. -/
def siteNilUptoCard : Claim7 := { stood := { row := siteNilUptoRow, standIns := [], harness := (true, "c0b2df363b3a80f320717d59d646eb45ae9495ac8f80bc4d6a01e507b0b55771"), looks := true }, kinds := [], alts := [], laidByText := true, laidKinds := [.pinned, .data, .data, .data, .data, .data, .data], laidTests := true, laidLooks := .later }
def SiteNilUptoCardSaid : Prop := Claim7.holds Tryz.pinned (.plain (OpenSpec.upto siteNilSpec)) siteNilUptoCard

/-- THE SECOND FORM's CARD OF 'woodcutlaw24.SiteReads'. -/
def siteReadsUptoCard : Claim7 := { stood := { row := siteReadsUptoRow, standIns := [], harness := (true, "c0b2df363b3a80f320717d59d646eb45ae9495ac8f80bc4d6a01e507b0b55771"), looks := true }, kinds := [], alts := [], laidByText := true, laidKinds := [.pinned, .data, .data, .data, .data, .data, .data], laidTests := true, laidLooks := .later }
def SiteReadsUptoCardSaid : Prop := Claim7.holds Tryz.pinned (.plain (OpenSpec.upto siteReadsSpec)) siteReadsUptoCard
end Rows
end Go.Proofs.YtibknkdgdfdkiaaGreatDoor
