/-
  DERIVED. GIVEN WITH THE SEED: THE CARDS: each row of YtgalanoklaibcaaGreatDoorRows.lean that lists a variable, with what it lists TIED to the program's text (the seventh form; the later family's looks); each row that meets fmt, with fmt's text TOLD by the authors' own Lean function (tested against real Go, not proved from fmt's source: count such statements apart). THE CARD IS WHAT COUNTS. Prove the row's statement (the work); the ties are given (YtgalanoklaibcaaGreatDoorTie.lean); close each card by the builder's one call (the guide's Derived/Test/ToyasCard.lean, 'card_holds'). Laid BY PROGRAM, IN A SANDBOX (cutbox-door.mjs). By AI agents, Wed Nov 11 2026. No macro, syntax, notation, axiom, sorry.
-/
import Derived.Test.YtgalanoklaibcaaGreatDoorRows
import GoSem.ClaimSeven
namespace Go.Proofs.YtgalanoklaibcaaGreatDoor
namespace Rows

/-- THE TIED CARD OF 'queuelablaw24.QueueMatchesReference'. -/
def queueMatchesReferenceCard : Claim7 := { stood := { row := queueMatchesReferenceRow, standIns := [], harness := (true, "d7562053417589c63e5bd03a1c1fc642d0dc7854d5fabbc00f36822f029d73e5"), looks := false }, kinds := [], alts := [], laidByText := true, laidKinds := [.data], laidTests := true, laidLooks := .later }
def QueueMatchesReferenceCardSaid : Prop := Claim7.holds Tryz.pinned (.plain (OpenSpec.ofChange queueMatchesReferenceSpec)) queueMatchesReferenceCard

/-- THE TIED CARD OF 'queuelablaw24.QueueConserves'. -/
def queueConservesCard : Claim7 := { stood := { row := queueConservesRow, standIns := [], harness := (true, "d7562053417589c63e5bd03a1c1fc642d0dc7854d5fabbc00f36822f029d73e5"), looks := false }, kinds := [], alts := [], laidByText := true, laidKinds := [.data], laidTests := true, laidLooks := .later }
def QueueConservesCardSaid : Prop := Claim7.holds Tryz.pinned (.plain (OpenSpec.ofChange queueConservesSpec)) queueConservesCard

/-- THE TIED CARD OF 'queuelablaw24.QueueWorks'. -/
def queueWorksCard : Claim7 := { stood := { row := queueWorksRow, standIns := [], harness := (true, "d7562053417589c63e5bd03a1c1fc642d0dc7854d5fabbc00f36822f029d73e5"), looks := false }, kinds := [], alts := [], laidByText := true, laidKinds := [.data], laidTests := true, laidLooks := .later }
def QueueWorksCardSaid : Prop := Claim7.holds Tryz.pinned (.plain (OpenSpec.ofChange queueWorksSpec)) queueWorksCard

/-- THE TIED CARD OF 'queuelablaw24.QueuePolicy'. -/
def queuePolicyCard : Claim7 := { stood := { row := queuePolicyRow, standIns := [], harness := (true, "d7562053417589c63e5bd03a1c1fc642d0dc7854d5fabbc00f36822f029d73e5"), looks := false }, kinds := [], alts := [], laidByText := true, laidKinds := [.data], laidTests := true, laidLooks := .later }
def QueuePolicyCardSaid : Prop := Claim7.holds Tryz.pinned (.plain (OpenSpec.ofChange queuePolicySpec)) queuePolicyCard

/-- THE SECOND FORM's CARD OF 'queuelablaw24.QueueMatchesReference'. -/
def queueMatchesReferenceUptoCard : Claim7 := { stood := { row := queueMatchesReferenceUptoRow, standIns := [], harness := (true, "d7562053417589c63e5bd03a1c1fc642d0dc7854d5fabbc00f36822f029d73e5"), looks := false }, kinds := [], alts := [], laidByText := true, laidKinds := [.data], laidTests := true, laidLooks := .later }
def QueueMatchesReferenceUptoCardSaid : Prop := Claim7.holds Tryz.pinned (.plain (OpenSpec.upto queueMatchesReferenceSpec)) queueMatchesReferenceUptoCard

/-- THE SECOND FORM's CARD OF 'queuelablaw24.QueueConserves'. -/
def queueConservesUptoCard : Claim7 := { stood := { row := queueConservesUptoRow, standIns := [], harness := (true, "d7562053417589c63e5bd03a1c1fc642d0dc7854d5fabbc00f36822f029d73e5"), looks := false }, kinds := [], alts := [], laidByText := true, laidKinds := [.data], laidTests := true, laidLooks := .later }
def QueueConservesUptoCardSaid : Prop := Claim7.holds Tryz.pinned (.plain (OpenSpec.upto queueConservesSpec)) queueConservesUptoCard

/-- THE SECOND FORM's CARD OF 'queuelablaw24.QueueWorks'. -/
def queueWorksUptoCard : Claim7 := { stood := { row := queueWorksUptoRow, standIns := [], harness := (true, "d7562053417589c63e5bd03a1c1fc642d0dc7854d5fabbc00f36822f029d73e5"), looks := false }, kinds := [], alts := [], laidByText := true, laidKinds := [.data], laidTests := true, laidLooks := .later }
def QueueWorksUptoCardSaid : Prop := Claim7.holds Tryz.pinned (.plain (OpenSpec.upto queueWorksSpec)) queueWorksUptoCard

/-- THE SECOND FORM's CARD OF 'queuelablaw24.QueuePolicy'. -/
def queuePolicyUptoCard : Claim7 := { stood := { row := queuePolicyUptoRow, standIns := [], harness := (true, "d7562053417589c63e5bd03a1c1fc642d0dc7854d5fabbc00f36822f029d73e5"), looks := false }, kinds := [], alts := [], laidByText := true, laidKinds := [.data], laidTests := true, laidLooks := .later }
def QueuePolicyUptoCardSaid : Prop := Claim7.holds Tryz.pinned (.plain (OpenSpec.upto queuePolicySpec)) queuePolicyUptoCard
end Rows
end Go.Proofs.YtgalanoklaibcaaGreatDoor
