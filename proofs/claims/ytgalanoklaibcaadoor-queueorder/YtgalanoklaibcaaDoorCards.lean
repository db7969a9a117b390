/-
  DERIVED. GIVEN WITH THE SEED: THE CARDS: each row of YtgalanoklaibcaaDoorRows.lean that lists a variable, with what it lists TIED to the program's text (the seventh form; the later family's looks); each row that meets fmt, with fmt's text TOLD by the authors' own Lean function (tested against real Go, not proved from fmt's source: count such statements apart). THE CARD IS WHAT COUNTS. Prove the row's statement (the work); the ties are given (YtgalanoklaibcaaDoorTie.lean); close each card by the builder's one call (the guide's Derived/Test/ToyasCard.lean, 'card_holds'). Laid BY PROGRAM, IN A SANDBOX (cutbox-door.mjs). By AI agents, Wed Nov 11 2026. No macro, syntax, notation, axiom, sorry.
-/
import Derived.Test.YtgalanoklaibcaaDoorRows
import GoSem.ClaimSeven
namespace Go.Proofs.YtgalanoklaibcaaDoor
namespace Rows

/-- THE TIED CARD OF 'queuelablaw24.QueueNew'. -/
def queueNewCard : Claim7 := { stood := { row := queueNewRow, standIns := [], harness := (true, "7cdd1e2db14411f2ec576439b2dc349a90d3c6ee7dee1fda160cc2fe693c94cf"), looks := false }, kinds := [], alts := [], laidByText := true, laidKinds := [.data], laidTests := true, laidLooks := .later }
def QueueNewCardSaid : Prop := Claim7.holds Tryd.pinned (.plain (OpenSpec.ofChange queueNewSpec)) queueNewCard

/-- THE TIED CARD OF 'queuelablaw24.QueueOrder'. -/
def queueOrderCard : Claim7 := { stood := { row := queueOrderRow, standIns := [], harness := (true, "7cdd1e2db14411f2ec576439b2dc349a90d3c6ee7dee1fda160cc2fe693c94cf"), looks := false }, kinds := [], alts := [], laidByText := true, laidKinds := [.data], laidTests := true, laidLooks := .later }
def QueueOrderCardSaid : Prop := Claim7.holds Tryd.pinned (.plain (OpenSpec.ofChange queueOrderSpec)) queueOrderCard

/-- THE SECOND FORM's CARD OF 'queuelablaw24.QueueNew'. -/
def queueNewUptoCard : Claim7 := { stood := { row := queueNewUptoRow, standIns := [], harness := (true, "7cdd1e2db14411f2ec576439b2dc349a90d3c6ee7dee1fda160cc2fe693c94cf"), looks := false }, kinds := [], alts := [], laidByText := true, laidKinds := [.data], laidTests := true, laidLooks := .later }
def QueueNewUptoCardSaid : Prop := Claim7.holds Tryd.pinned (.plain (OpenSpec.upto queueNewSpec)) queueNewUptoCard

/-- THE SECOND FORM's CARD OF 'queuelablaw24.QueueOrder'. -/
def queueOrderUptoCard : Claim7 := { stood := { row := queueOrderUptoRow, standIns := [], harness := (true, "7cdd1e2db14411f2ec576439b2dc349a90d3c6ee7dee1fda160cc2fe693c94cf"), looks := false }, kinds := [], alts := [], laidByText := true, laidKinds := [.data], laidTests := true, laidLooks := .later }
def QueueOrderUptoCardSaid : Prop := Claim7.holds Tryd.pinned (.plain (OpenSpec.upto queueOrderSpec)) queueOrderUptoCard
end Rows
end Go.Proofs.YtgalanoklaibcaaDoor
