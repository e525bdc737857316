/-
  DERIVED. GIVEN WITH THE SEED: THE CARDS: each row of YtflioeiklcnncaaGreatDoorRows.lean that lists a variable, with what it lists TIED to the program's text (the seventh form; the later family's looks); each row that meets fmt, with fmt's text TOLD by the authors' own Lean function (tested against real Go, not proved from fmt's source: count such statements apart). THE CARD IS WHAT COUNTS. Prove the row's statement (the work); the ties are given (YtflioeiklcnncaaGreatDoorTie.lean); close each card by the builder's one call (the guide's Derived/Test/ToyasCard.lean, 'card_holds'). Laid BY PROGRAM, IN A SANDBOX (cutbox-door.mjs). By AI agents, Wed Nov 11 2026. No macro, syntax, notation, axiom, sorry.
-/
import Derived.Test.YtflioeiklcnncaaGreatDoorRows
import GoSem.ClaimSeven
namespace Go.Proofs.YtflioeiklcnncaaGreatDoor
namespace Rows

/-- THE TIED CARD OF 'orloplaw28.RingPlays'. -/
def ringPlaysCard : Claim7 := { stood := { row := ringPlaysRow, standIns := [], harness := (true, "7629240b42c62a38d6a3e016e68f4b1fce1ffe6f26389fcd0bd03f1087e1ee26"), looks := true }, kinds := [], alts := [], laidByText := true, laidKinds := [.data, .pinned], laidTests := true, laidLooks := .later }
def RingPlaysCardSaid : Prop := Claim7.holds Tryz.pinned (.plain (OpenSpec.ofChange ringPlaysSpec)) ringPlaysCard

/-- THE TIED CARD OF 'orloplaw28.RingGroups'. -/
def ringGroupsCard : Claim7 := { stood := { row := ringGroupsRow, standIns := [], harness := (true, "7629240b42c62a38d6a3e016e68f4b1fce1ffe6f26389fcd0bd03f1087e1ee26"), looks := true }, kinds := [], alts := [], laidByText := true, laidKinds := [.data, .pinned], laidTests := true, laidLooks := .later }
def RingGroupsCardSaid : Prop := Claim7.holds Tryz.pinned (.plain (OpenSpec.ofChange ringGroupsSpec)) ringGroupsCard

/-- THE TIED CARD OF 'orloplaw28.RingDrops'. -/
def ringDropsCard : Claim7 := { stood := { row := ringDropsRow, standIns := [], harness := (true, "7629240b42c62a38d6a3e016e68f4b1fce1ffe6f26389fcd0bd03f1087e1ee26"), looks := true }, kinds := [], alts := [], laidByText := true, laidKinds := [.data, .data, .data, .data, .pinned], laidTests := true, laidLooks := .later }
def RingDropsCardSaid : Prop := Claim7.holds Tryz.pinned (.plain (OpenSpec.ofChange ringDropsSpec)) ringDropsCard

/-- THE SECOND FORM's CARD OF 'orloplaw28.RingPlays'. -/
def ringPlaysUptoCard : Claim7 := { stood := { row := ringPlaysUptoRow, standIns := [], harness := (true, "7629240b42c62a38d6a3e016e68f4b1fce1ffe6f26389fcd0bd03f1087e1ee26"), looks := true }, kinds := [], alts := [], laidByText := true, laidKinds := [.data, .pinned], laidTests := true, laidLooks := .later }
def RingPlaysUptoCardSaid : Prop := Claim7.holds Tryz.pinned (.plain (OpenSpec.upto ringPlaysSpec)) ringPlaysUptoCard

/-- THE SECOND FORM's CARD OF 'orloplaw28.RingGroups'. -/
def ringGroupsUptoCard : Claim7 := { stood := { row := ringGroupsUptoRow, standIns := [], harness := (true, "7629240b42c62a38d6a3e016e68f4b1fce1ffe6f26389fcd0bd03f1087e1ee26"), looks := true }, kinds := [], alts := [], laidByText := true, laidKinds := [.data, .pinned], laidTests := true, laidLooks := .later }
def RingGroupsUptoCardSaid : Prop := Claim7.holds Tryz.pinned (.plain (OpenSpec.upto ringGroupsSpec)) ringGroupsUptoCard

/-- THE SECOND FORM's CARD OF 'orloplaw28.RingDrops'. -/
def ringDropsUptoCard : Claim7 := { stood := { row := ringDropsUptoRow, standIns := [], harness := (true, "7629240b42c62a38d6a3e016e68f4b1fce1ffe6f26389fcd0bd03f1087e1ee26"), looks := true }, kinds := [], alts := [], laidByText := true, laidKinds := [.data, .data, .data, .data, .pinned], laidTests := true, laidLooks := .later }
def RingDropsUptoCardSaid : Prop := Claim7.holds Tryz.pinned (.plain (OpenSpec.upto ringDropsSpec)) ringDropsUptoCard
end Rows
end Go.Proofs.YtflioeiklcnncaaGreatDoor
