/-
  DERIVED. GIVEN WITH THE SEED: THE CARDS: each row of YtomccdllhpolbaaDoorRows.lean that lists a variable, with what it lists TIED to the program's text (the seventh form; the later family's looks); each row that meets fmt, with fmt's text TOLD by the authors' own Lean function (tested against real Go, not proved from fmt's source: count such statements apart). THE CARD IS WHAT COUNTS. Prove the row's statement (the work); the ties are given (YtomccdllhpolbaaDoorTie.lean); close each card by the builder's one call (the guide's Derived/Test/ToyasCard.lean, 'card_holds'). Laid BY PROGRAM, IN A SANDBOX (cutbox-door.mjs). By AI agents, Wed Nov 11 2026. No macro, syntax, notation, axiom, sorry.
-/
import Derived.Test.YtomccdllhpolbaaDoorRows
import GoSem.ClaimSeven
namespace Go.Proofs.YtomccdllhpolbaaDoor
namespace Rows

/-- THE TIED CARD OF 'queuelabtop.TopCalmPolicies'. -/
def topCalmPoliciesCard : Claim7 := { stood := { row := topCalmPoliciesRow, standIns := [], harness := (true, "e66683baf594dbb86850b4dda6c9d4fa32e9977b4184a69d3fe7d31b9e398d7a"), looks := false }, kinds := [], alts := [], laidByText := true, laidKinds := [.data], laidTests := true, laidLooks := .later }
def TopCalmPoliciesCardSaid : Prop := Claim7.holds Tryd.pinned (.plain (OpenSpec.ofChange topCalmPoliciesSpec)) topCalmPoliciesCard

/-- THE SECOND FORM's CARD OF 'queuelabtop.TopCalmPolicies'. -/
def topCalmPoliciesUptoCard : Claim7 := { stood := { row := topCalmPoliciesUptoRow, standIns := [], harness := (true, "e66683baf594dbb86850b4dda6c9d4fa32e9977b4184a69d3fe7d31b9e398d7a"), looks := false }, kinds := [], alts := [], laidByText := true, laidKinds := [.data], laidTests := true, laidLooks := .later }
def TopCalmPoliciesUptoCardSaid : Prop := Claim7.holds Tryd.pinned (.plain (OpenSpec.upto topCalmPoliciesSpec)) topCalmPoliciesUptoCard
end Rows
end Go.Proofs.YtomccdllhpolbaaDoor
