/-
  No cell of these rows narrows 'for every input' (looked for: loops, veiled, ifaces, maps, wideKeys, modest, calm, conditions, laid).
  DERIVED. THE GIVEN ROWS OF THIS SEAT. 6 by the template 'for every input the law returns true; each argument reads behind the call as it read before'; 0 by the template 'total and deterministic' (their statements: YtighpjegljchpaaTotals.lean).
  GIVEN WITH THE SEED: the statements are not yours to turn. If you find one false, say at which input.
  Laid BY PROGRAM, IN A SANDBOX (cutbox-rows.mjs): the forced cells as the released guide's own fill.sh prints them over the translation 7cbff4afcdaba13e… (all of the seat's roots in one cut). By AI agents, Wed Nov 11 2026. No macro, syntax, notation, axiom, sorry.
-/
import Derived.Test.YtighpjegljchpaaChecked
import GoSem.Claim
import GoSem.ClaimJoined
import GoSem.ClaimMapViews
import Derived.JoinedTies
import Derived.KernelRfl
namespace Go.Proofs.Ytighpjegljchpaa
/- THE CELL 'sum', in the pinned program and in every row, IS THE sha256 OF THE DUMP (.gsa) THAT YtighpjegljchpaaProg.lean LOADS. Nothing in Lean hashes anything: it is a label: what it is worth is what the hold of that sum in a sandbox is worth. -/
noncomputable def Try.pinned : Pinned := { name := "ytighpjegljchpaa", sum := "7cbff4afcdaba13e04f5fbffba8f2feaed52b2efc7542318836a8130756dcb9b", checked := Try.checked }
namespace Rows
def none {H : Type} : Left H := { results := [], args := [] }

/-- 'queuelablaw25.AgendaMatchesReference': WHATEVER THE INPUT: true; the input reads as it did. -/
def agendaMatchesReferenceSpec : ChangeSpec := { name := "agendaMatchesReference", fn := fun _ => fun
  | [d1, d2, d3, d4, d5] => { results := [.lit (.bool true)], args := [d1, d2, d3, d4, d5] }
  | _ => none }
def agendaMatchesReferenceRow : OpenClaim := { program := "ytighpjegljchpaa", sum := "7cbff4afcdaba13e04f5fbffba8f2feaed52b2efc7542318836a8130756dcb9b", func := "queuelab/queuelablaw25.AgendaMatchesReference", spec := "agendaMatchesReference", unfollowed := true, recurses := true, apart := false }
def AgendaMatchesReferenceSaid : Prop := agendaMatchesReferenceRow.holds Try.pinned (OpenSpec.ofChange agendaMatchesReferenceSpec)

/-- ITS FALSE NEIGHBOUR: 'it returns false'. Refute it at one input. -/
def agendaMatchesReferenceWrong : ChangeSpec := { name := "agendaMatchesReference", fn := fun _ => fun
  | [d1, d2, d3, d4, d5] => { results := [.lit (.bool false)], args := [d1, d2, d3, d4, d5] }
  | _ => none }
def AgendaMatchesReferenceWrongFalsely : Prop := agendaMatchesReferenceRow.holds Try.pinned (OpenSpec.ofChange agendaMatchesReferenceWrong)

/-- 'queuelablaw25.AgendaOrder': WHATEVER THE INPUT: true; the input reads as it did. -/
def agendaOrderSpec : ChangeSpec := { name := "agendaOrder", fn := fun _ => fun
  | [d] => { results := [.lit (.bool true)], args := [d] }
  | _ => none }
def agendaOrderRow : OpenClaim := { program := "ytighpjegljchpaa", sum := "7cbff4afcdaba13e04f5fbffba8f2feaed52b2efc7542318836a8130756dcb9b", func := "queuelab/queuelablaw25.AgendaOrder", spec := "agendaOrder", unfollowed := true, recurses := true, apart := false }
def AgendaOrderSaid : Prop := agendaOrderRow.holds Try.pinned (OpenSpec.ofChange agendaOrderSpec)

/-- ITS FALSE NEIGHBOUR: 'it returns false'. Refute it at one input. -/
def agendaOrderWrong : ChangeSpec := { name := "agendaOrder", fn := fun _ => fun
  | [d] => { results := [.lit (.bool false)], args := [d] }
  | _ => none }
def AgendaOrderWrongFalsely : Prop := agendaOrderRow.holds Try.pinned (OpenSpec.ofChange agendaOrderWrong)

/-- 'queuelablaw25.AgendaValid': WHATEVER THE INPUT: true; the input reads as it did. -/
def agendaValidSpec : ChangeSpec := { name := "agendaValid", fn := fun _ => fun
  | [d1, d2, d3, d4, d5] => { results := [.lit (.bool true)], args := [d1, d2, d3, d4, d5] }
  | _ => none }
def agendaValidRow : OpenClaim := { program := "ytighpjegljchpaa", sum := "7cbff4afcdaba13e04f5fbffba8f2feaed52b2efc7542318836a8130756dcb9b", func := "queuelab/queuelablaw25.AgendaValid", spec := "agendaValid", unfollowed := true, recurses := true, apart := false }
def AgendaValidSaid : Prop := agendaValidRow.holds Try.pinned (OpenSpec.ofChange agendaValidSpec)

/-- ITS FALSE NEIGHBOUR: 'it returns false'. Refute it at one input. -/
def agendaValidWrong : ChangeSpec := { name := "agendaValid", fn := fun _ => fun
  | [d1, d2, d3, d4, d5] => { results := [.lit (.bool false)], args := [d1, d2, d3, d4, d5] }
  | _ => none }
def AgendaValidWrongFalsely : Prop := agendaValidRow.holds Try.pinned (OpenSpec.ofChange agendaValidWrong)

/-- 'queuelablaw25.AgendaLater': WHATEVER THE INPUT: true; the input reads as it did. -/
def agendaLaterSpec : ChangeSpec := { name := "agendaLater", fn := fun _ => fun
  | [d1, d2] => { results := [.lit (.bool true)], args := [d1, d2] }
  | _ => none }
def agendaLaterRow : OpenClaim := { program := "ytighpjegljchpaa", sum := "7cbff4afcdaba13e04f5fbffba8f2feaed52b2efc7542318836a8130756dcb9b", func := "queuelab/queuelablaw25.AgendaLater", spec := "agendaLater", unfollowed := true, recurses := true, apart := false }
def AgendaLaterSaid : Prop := agendaLaterRow.holds Try.pinned (OpenSpec.ofChange agendaLaterSpec)

/-- ITS FALSE NEIGHBOUR: 'it returns false'. Refute it at one input. -/
def agendaLaterWrong : ChangeSpec := { name := "agendaLater", fn := fun _ => fun
  | [d1, d2] => { results := [.lit (.bool false)], args := [d1, d2] }
  | _ => none }
def AgendaLaterWrongFalsely : Prop := agendaLaterRow.holds Try.pinned (OpenSpec.ofChange agendaLaterWrong)

/-- 'queuelablaw25.AgendaTimes': WHATEVER THE INPUT: true; the input reads as it did. -/
def agendaTimesSpec : ChangeSpec := { name := "agendaTimes", fn := fun _ => fun
  | [d] => { results := [.lit (.bool true)], args := [d] }
  | _ => none }
def agendaTimesRow : OpenClaim := { program := "ytighpjegljchpaa", sum := "7cbff4afcdaba13e04f5fbffba8f2feaed52b2efc7542318836a8130756dcb9b", func := "queuelab/queuelablaw25.AgendaTimes", spec := "agendaTimes", unfollowed := true, recurses := true, apart := false }
def AgendaTimesSaid : Prop := agendaTimesRow.holds Try.pinned (OpenSpec.ofChange agendaTimesSpec)

/-- ITS FALSE NEIGHBOUR: 'it returns false'. Refute it at one input. -/
def agendaTimesWrong : ChangeSpec := { name := "agendaTimes", fn := fun _ => fun
  | [d] => { results := [.lit (.bool false)], args := [d] }
  | _ => none }
def AgendaTimesWrongFalsely : Prop := agendaTimesRow.holds Try.pinned (OpenSpec.ofChange agendaTimesWrong)

/-- 'queuelablaw25.AgendaDrop': WHATEVER THE INPUT: true; the input reads as it did. -/
def agendaDropSpec : ChangeSpec := { name := "agendaDrop", fn := fun _ => fun
  | [d1, d2, d3, d4, d5] => { results := [.lit (.bool true)], args := [d1, d2, d3, d4, d5] }
  | _ => none }
def agendaDropRow : OpenClaim := { program := "ytighpjegljchpaa", sum := "7cbff4afcdaba13e04f5fbffba8f2feaed52b2efc7542318836a8130756dcb9b", func := "queuelab/queuelablaw25.AgendaDrop", spec := "agendaDrop", unfollowed := true, recurses := true, apart := false }
def AgendaDropSaid : Prop := agendaDropRow.holds Try.pinned (OpenSpec.ofChange agendaDropSpec)

/-- ITS FALSE NEIGHBOUR: 'it returns false'. Refute it at one input. -/
def agendaDropWrong : ChangeSpec := { name := "agendaDrop", fn := fun _ => fun
  | [d1, d2, d3, d4, d5] => { results := [.lit (.bool false)], args := [d1, d2, d3, d4, d5] }
  | _ => none }
def AgendaDropWrongFalsely : Prop := agendaDropRow.holds Try.pinned (OpenSpec.ofChange agendaDropWrong)

/- THE SECOND FORM. 'bulk': how many values and letters a reading holds, each counted each time it is reached (what is shared counts as often as it is met; a slice's spare places count too). A statement '..UptoSaid' is the law's where the arguments, and the package variables that the reading takes, are together of bulk at most 1048576: NARROWER than '..Said'. Prove '..Said' where nothing that the law and all that it calls make is longer than what came in: it says more and counts as full. Else prove '..UptoSaid'. A law counts once. -/
mutual
def uptoBulk {H : Type} : DataW H → Nat
  | .lit (.string bytes) => bytes.length + 1
  | .lit _ => 1
  | .nil => 1
  | .ptr d => uptoBulk d + 1
  | .slice elems spare => uptoBulkAll elems + uptoBulkAll spare + 1
  | .agg parts => uptoBulkAll parts + 1
  | .iface _ d => uptoBulk d + 1
  | .map entries => uptoBulkEntries entries + 1
  | .held _ => 1
def uptoBulkAll {H : Type} : List (DataW H) → Nat
  | [] => 0
  | d :: r => uptoBulk d + uptoBulkAll r
def uptoBulkEntries {H : Type} : List (Lit × DataW H) → Nat
  | [] => 0
  | x :: r => uptoBulkEntry x + uptoBulkEntries r
def uptoBulkEntry {H : Type} : Lit × DataW H → Nat
  | (.string bytes, d) => bytes.length + uptoBulk d + 1
  | (_, d) => uptoBulk d + 1
 end
def uptoSmall : (H : Type) → List (DataW H) → Bool := fun _ ds => decide (uptoBulkAll ds ≤ 1048576)
def OpenSpec.upto (s : _root_.Go.ChangeSpec) : _root_.Go.OpenSpec := { _root_.Go.OpenSpec.ofChange s with cond := some uptoSmall }

/-- 'queuelablaw25.AgendaMatchesReference', WHERE WHAT IT READS IS OF BULK AT MOST 1048576: true; the input reads as it did. -/
def agendaMatchesReferenceUptoRow : OpenClaim := { program := "ytighpjegljchpaa", sum := "7cbff4afcdaba13e04f5fbffba8f2feaed52b2efc7542318836a8130756dcb9b", func := "queuelab/queuelablaw25.AgendaMatchesReference", spec := "agendaMatchesReference", unfollowed := true, recurses := true, apart := false, narrowed := true }
def AgendaMatchesReferenceUptoSaid : Prop := agendaMatchesReferenceUptoRow.holds Try.pinned (OpenSpec.upto agendaMatchesReferenceSpec)

/-- 'queuelablaw25.AgendaOrder', WHERE WHAT IT READS IS OF BULK AT MOST 1048576: true; the input reads as it did. -/
def agendaOrderUptoRow : OpenClaim := { program := "ytighpjegljchpaa", sum := "7cbff4afcdaba13e04f5fbffba8f2feaed52b2efc7542318836a8130756dcb9b", func := "queuelab/queuelablaw25.AgendaOrder", spec := "agendaOrder", unfollowed := true, recurses := true, apart := false, narrowed := true }
def AgendaOrderUptoSaid : Prop := agendaOrderUptoRow.holds Try.pinned (OpenSpec.upto agendaOrderSpec)

/-- 'queuelablaw25.AgendaValid', WHERE WHAT IT READS IS OF BULK AT MOST 1048576: true; the input reads as it did. -/
def agendaValidUptoRow : OpenClaim := { program := "ytighpjegljchpaa", sum := "7cbff4afcdaba13e04f5fbffba8f2feaed52b2efc7542318836a8130756dcb9b", func := "queuelab/queuelablaw25.AgendaValid", spec := "agendaValid", unfollowed := true, recurses := true, apart := false, narrowed := true }
def AgendaValidUptoSaid : Prop := agendaValidUptoRow.holds Try.pinned (OpenSpec.upto agendaValidSpec)

/-- 'queuelablaw25.AgendaLater', WHERE WHAT IT READS IS OF BULK AT MOST 1048576: true; the input reads as it did. -/
def agendaLaterUptoRow : OpenClaim := { program := "ytighpjegljchpaa", sum := "7cbff4afcdaba13e04f5fbffba8f2feaed52b2efc7542318836a8130756dcb9b", func := "queuelab/queuelablaw25.AgendaLater", spec := "agendaLater", unfollowed := true, recurses := true, apart := false, narrowed := true }
def AgendaLaterUptoSaid : Prop := agendaLaterUptoRow.holds Try.pinned (OpenSpec.upto agendaLaterSpec)

/-- 'queuelablaw25.AgendaTimes', WHERE WHAT IT READS IS OF BULK AT MOST 1048576: true; the input reads as it did. -/
def agendaTimesUptoRow : OpenClaim := { program := "ytighpjegljchpaa", sum := "7cbff4afcdaba13e04f5fbffba8f2feaed52b2efc7542318836a8130756dcb9b", func := "queuelab/queuelablaw25.AgendaTimes", spec := "agendaTimes", unfollowed := true, recurses := true, apart := false, narrowed := true }
def AgendaTimesUptoSaid : Prop := agendaTimesUptoRow.holds Try.pinned (OpenSpec.upto agendaTimesSpec)

/-- 'queuelablaw25.AgendaDrop', WHERE WHAT IT READS IS OF BULK AT MOST 1048576: true; the input reads as it did. -/
def agendaDropUptoRow : OpenClaim := { program := "ytighpjegljchpaa", sum := "7cbff4afcdaba13e04f5fbffba8f2feaed52b2efc7542318836a8130756dcb9b", func := "queuelab/queuelablaw25.AgendaDrop", spec := "agendaDrop", unfollowed := true, recurses := true, apart := false, narrowed := true }
def AgendaDropUptoSaid : Prop := agendaDropUptoRow.holds Try.pinned (OpenSpec.upto agendaDropSpec)

end Rows
end Go.Proofs.Ytighpjegljchpaa
