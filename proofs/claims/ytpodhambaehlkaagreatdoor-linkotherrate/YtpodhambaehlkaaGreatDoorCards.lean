/-
  DERIVED. GIVEN WITH THE SEED: THE CARDS: each row of YtpodhambaehlkaaGreatDoorRows.lean that lists a variable, with what it lists TIED to the program's text (the seventh form; the later family's looks); each row that meets fmt, with fmt's text TOLD by the authors' own Lean function (tested against real Go, not proved from fmt's source: count such statements apart). THE CARD IS WHAT COUNTS. Prove the row's statement (the work); the ties are given (YtpodhambaehlkaaGreatDoorTie.lean); close each card by the builder's one call (the guide's Derived/Test/ToyasCard.lean, 'card_holds'). Laid BY PROGRAM, IN A SANDBOX (cutbox-door.mjs). By AI agents, Wed Nov 11 2026. No macro, syntax, notation, axiom, sorry.
-/
import Derived.Test.YtpodhambaehlkaaGreatDoorRows
import GoSem.ClaimSeven
namespace Go.Proofs.YtpodhambaehlkaaGreatDoor
namespace Rows

/-- THE TIED CARD OF 'queuelablaw26.LinkMatchesReference'. -/
def linkMatchesReferenceCard : Claim7 := { stood := { row := linkMatchesReferenceRow, standIns := [], harness := (true, "271e60aeae1f627d554caaa1710f0c1be2ae30145d7f6ebf729985419eb3bc93"), looks := true }, kinds := [], alts := [], laidByText := true, laidKinds := [.data], laidTests := true, laidLooks := .later }
def LinkMatchesReferenceCardSaid : Prop := Claim7.holds Tryz.pinned (.plain (OpenSpec.ofChange linkMatchesReferenceSpec)) linkMatchesReferenceCard

/-- THE TIED CARD OF 'queuelablaw26.LinkValid'. -/
def linkValidCard : Claim7 := { stood := { row := linkValidRow, standIns := [], harness := (true, "271e60aeae1f627d554caaa1710f0c1be2ae30145d7f6ebf729985419eb3bc93"), looks := true }, kinds := [], alts := [], laidByText := true, laidKinds := [.data], laidTests := true, laidLooks := .later }
def LinkValidCardSaid : Prop := Claim7.holds Tryz.pinned (.plain (OpenSpec.ofChange linkValidSpec)) linkValidCard

/-- THE TIED CARD OF 'queuelablaw26.LinkOtherRate'. -/
def linkOtherRateCard : Claim7 := { stood := { row := linkOtherRateRow, standIns := [], harness := (true, "271e60aeae1f627d554caaa1710f0c1be2ae30145d7f6ebf729985419eb3bc93"), looks := true }, kinds := [], alts := [], laidByText := true, laidKinds := [.data], laidTests := true, laidLooks := .later }
def LinkOtherRateCardSaid : Prop := Claim7.holds Tryz.pinned (.plain (OpenSpec.ofChange linkOtherRateSpec)) linkOtherRateCard

/-- THE SECOND FORM's CARD OF 'queuelablaw26.LinkMatchesReference'. -/
def linkMatchesReferenceUptoCard : Claim7 := { stood := { row := linkMatchesReferenceUptoRow, standIns := [], harness := (true, "271e60aeae1f627d554caaa1710f0c1be2ae30145d7f6ebf729985419eb3bc93"), looks := true }, kinds := [], alts := [], laidByText := true, laidKinds := [.data], laidTests := true, laidLooks := .later }
def LinkMatchesReferenceUptoCardSaid : Prop := Claim7.holds Tryz.pinned (.plain (OpenSpec.upto linkMatchesReferenceSpec)) linkMatchesReferenceUptoCard

/-- THE SECOND FORM's CARD OF 'queuelablaw26.LinkValid'. -/
def linkValidUptoCard : Claim7 := { stood := { row := linkValidUptoRow, standIns := [], harness := (true, "271e60aeae1f627d554caaa1710f0c1be2ae30145d7f6ebf729985419eb3bc93"), looks := true }, kinds := [], alts := [], laidByText := true, laidKinds := [.data], laidTests := true, laidLooks := .later }
def LinkValidUptoCardSaid : Prop := Claim7.holds Tryz.pinned (.plain (OpenSpec.upto linkValidSpec)) linkValidUptoCard

/-- THE SECOND FORM's CARD OF 'queuelablaw26.LinkOtherRate'. -/
def linkOtherRateUptoCard : Claim7 := { stood := { row := linkOtherRateUptoRow, standIns := [], harness := (true, "271e60aeae1f627d554caaa1710f0c1be2ae30145d7f6ebf729985419eb3bc93"), looks := true }, kinds := [], alts := [], laidByText := true, laidKinds := [.data], laidTests := true, laidLooks := .later }
def LinkOtherRateUptoCardSaid : Prop := Claim7.holds Tryz.pinned (.plain (OpenSpec.upto linkOtherRateSpec)) linkOtherRateUptoCard
end Rows
end Go.Proofs.YtpodhambaehlkaaGreatDoor
