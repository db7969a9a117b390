/-
  NARROWER THAN 'FOR EVERY INPUT', by the rows' own cells (each row's printed sentence says how): LinkMatchesReference: laid · LinkValid: laid · LinkOtherRate: laid.
  DERIVED. THE GIVEN ROWS OF THIS SEAT. 3 by the template 'for every input the law returns true; each argument reads behind the call as it read before'; 0 by the template 'total and deterministic' (their statements: YtpodhambaehlkaaGreatDoorTotals.lean).
  GIVEN WITH THE SEED: the statements are not yours to turn. If you find one false, say at which input.
  Laid BY PROGRAM, IN A SANDBOX (cutbox-rows.mjs): the forced cells as the released guide's own fill.sh prints them over the translation d6f44242e3ff2b27… (all of the seat's roots in one cut). By AI agents, Wed Nov 11 2026. No macro, syntax, notation, axiom, sorry.
-/
import Derived.Test.YtpodhambaehlkaaGreatDoorChecked
import GoSem.Claim
import GoSem.ClaimJoined
import GoSem.ClaimMapViews
import Derived.JoinedTies
import Derived.KernelRfl
namespace Go.Proofs.YtpodhambaehlkaaGreatDoor
/- THE CELL 'sum', in the pinned program and in every row, IS THE sha256 OF THE DUMP (.gsa) THAT YtpodhambaehlkaaGreatDoorProg.lean LOADS. Nothing in Lean hashes anything: it is a label: what it is worth is what the hold of that sum in a sandbox is worth. -/
noncomputable def Tryz.pinned : Pinned := { name := "ytpodhambaehlkaagreatdoor", sum := "d6f44242e3ff2b2707656d80045c2b7d55d6dbddb93c55be043b7f2f6528c409", checked := Tryz.checked }
namespace Rows
def none {H : Type} : Left H := { results := [], args := [] }

/- WHAT THE LISTED PACKAGE-LEVEL VARIABLES READ AS WHEN THE CALL BEGINS. Each datum BY PROGRAM (the guide's laid-datum.mjs) off the statement by which the dump's own 'gosem.cut.vars' lays the variable. In a bare row this is a premise. The card (YtpodhambaehlkaaGreatDoorCards.lean) ties it to the program's text. -/
def laid_queuelab_random_mixing {H : Type} : DataW H := .agg [.agg [.lit (.int .u64 30), .lit (.int .u64 13787848793156543929)], .agg [.lit (.int .u64 27), .lit (.int .u64 10723151780598845931)], .agg [.lit (.int .u64 31), .lit (.int .u64 1)]]

/-- 'queuelablaw26.LinkMatchesReference': WHATEVER THE INPUT: true; the input reads as it did. -/
def linkMatchesReferenceSpec : ChangeSpec := { name := "linkMatchesReference", fn := fun _ => fun
  | [d1, d2, d3, d4, d5, d6] => { results := [.lit (.bool true)], args := [d1, d2, d3, d4, d5, d6] }
  | _ => none }
def linkMatchesReferenceRow : OpenClaim := { program := "ytpodhambaehlkaagreatdoor", sum := "d6f44242e3ff2b2707656d80045c2b7d55d6dbddb93c55be043b7f2f6528c409", func := "queuelab/queuelablaw26.LinkMatchesReference", spec := "linkMatchesReference", unfollowed := true, recurses := true, named := ["queuelab/random.mixing"], apart := false, laid := [("queuelab/random.mixing", laid_queuelab_random_mixing)] }
def LinkMatchesReferenceSaid : Prop := linkMatchesReferenceRow.holds Tryz.pinned (OpenSpec.ofChange linkMatchesReferenceSpec)

/-- ITS FALSE NEIGHBOUR: 'it returns false'. Refute it at one input. -/
def linkMatchesReferenceWrong : ChangeSpec := { name := "linkMatchesReference", fn := fun _ => fun
  | [d1, d2, d3, d4, d5, d6] => { results := [.lit (.bool false)], args := [d1, d2, d3, d4, d5, d6] }
  | _ => none }
def LinkMatchesReferenceWrongFalsely : Prop := linkMatchesReferenceRow.holds Tryz.pinned (OpenSpec.ofChange linkMatchesReferenceWrong)

/-- 'queuelablaw26.LinkValid': WHATEVER THE INPUT: true; the input reads as it did. -/
def linkValidSpec : ChangeSpec := { name := "linkValid", fn := fun _ => fun
  | [d1, d2, d3, d4] => { results := [.lit (.bool true)], args := [d1, d2, d3, d4] }
  | _ => none }
def linkValidRow : OpenClaim := { program := "ytpodhambaehlkaagreatdoor", sum := "d6f44242e3ff2b2707656d80045c2b7d55d6dbddb93c55be043b7f2f6528c409", func := "queuelab/queuelablaw26.LinkValid", spec := "linkValid", unfollowed := true, recurses := true, named := ["queuelab/random.mixing"], apart := false, laid := [("queuelab/random.mixing", laid_queuelab_random_mixing)] }
def LinkValidSaid : Prop := linkValidRow.holds Tryz.pinned (OpenSpec.ofChange linkValidSpec)

/-- ITS FALSE NEIGHBOUR: 'it returns false'. Refute it at one input. -/
def linkValidWrong : ChangeSpec := { name := "linkValid", fn := fun _ => fun
  | [d1, d2, d3, d4] => { results := [.lit (.bool false)], args := [d1, d2, d3, d4] }
  | _ => none }
def LinkValidWrongFalsely : Prop := linkValidRow.holds Tryz.pinned (OpenSpec.ofChange linkValidWrong)

/-- 'queuelablaw26.LinkOtherRate': WHATEVER THE INPUT: true; the input reads as it did. -/
def linkOtherRateSpec : ChangeSpec := { name := "linkOtherRate", fn := fun _ => fun
  | [d1, d2] => { results := [.lit (.bool true)], args := [d1, d2] }
  | _ => none }
def linkOtherRateRow : OpenClaim := { program := "ytpodhambaehlkaagreatdoor", sum := "d6f44242e3ff2b2707656d80045c2b7d55d6dbddb93c55be043b7f2f6528c409", func := "queuelab/queuelablaw26.LinkOtherRate", spec := "linkOtherRate", unfollowed := true, recurses := true, named := ["queuelab/random.mixing"], apart := false, laid := [("queuelab/random.mixing", laid_queuelab_random_mixing)] }
def LinkOtherRateSaid : Prop := linkOtherRateRow.holds Tryz.pinned (OpenSpec.ofChange linkOtherRateSpec)

/-- ITS FALSE NEIGHBOUR: 'it returns false'. Refute it at one input. -/
def linkOtherRateWrong : ChangeSpec := { name := "linkOtherRate", fn := fun _ => fun
  | [d1, d2] => { results := [.lit (.bool false)], args := [d1, d2] }
  | _ => none }
def LinkOtherRateWrongFalsely : Prop := linkOtherRateRow.holds Tryz.pinned (OpenSpec.ofChange linkOtherRateWrong)

/- THE SECOND FORM. 'bulk': how many values and letters a reading holds, each counted each time it is reached (what is shared counts as often as it is met; a slice's spare places count too). A statement '..UptoSaid' is the law's where the arguments, and the package variables that the reading takes, are together of bulk at most 1048576: NARROWER than '..Said'. Prove '..Said' where nothing that the law and all that it calls make is longer than what came in: it says more and counts as full. Else prove '..UptoSaid'. A law counts once. -/
mutual
def uptoBulk {H : Type} : DataW H → Nat
  | .lit (.string bytes) => bytes.length + 1
  | .lit _ => 1
  | .nil => 1
  | .ptr d => uptoBulk d + 1
  | .slice elems spare => uptoBulkAll elems + uptoBulkAll spare + 1
  | .agg parts => uptoBulkAll parts + 1
  | .iface _ d => uptoBulk d + 1
  | .map entries => uptoBulkEntries entries + 1
  | .held _ => 1
def uptoBulkAll {H : Type} : List (DataW H) → Nat
  | [] => 0
  | d :: r => uptoBulk d + uptoBulkAll r
def uptoBulkEntries {H : Type} : List (Lit × DataW H) → Nat
  | [] => 0
  | x :: r => uptoBulkEntry x + uptoBulkEntries r
def uptoBulkEntry {H : Type} : Lit × DataW H → Nat
  | (.string bytes, d) => bytes.length + uptoBulk d + 1
  | (_, d) => uptoBulk d + 1
 end
def uptoSmall : (H : Type) → List (DataW H) → Bool := fun _ ds => decide (uptoBulkAll ds ≤ 1048576)
def OpenSpec.upto (s : _root_.Go.ChangeSpec) : _root_.Go.OpenSpec := { _root_.Go.OpenSpec.ofChange s with cond := some uptoSmall }

/-- 'queuelablaw26.LinkMatchesReference', WHERE WHAT IT READS IS OF BULK AT MOST 1048576: true; the input reads as it did. -/
def linkMatchesReferenceUptoRow : OpenClaim := { program := "ytpodhambaehlkaagreatdoor", sum := "d6f44242e3ff2b2707656d80045c2b7d55d6dbddb93c55be043b7f2f6528c409", func := "queuelab/queuelablaw26.LinkMatchesReference", spec := "linkMatchesReference", unfollowed := true, recurses := true, named := ["queuelab/random.mixing"], apart := false, laid := [("queuelab/random.mixing", laid_queuelab_random_mixing)], narrowed := true }
def LinkMatchesReferenceUptoSaid : Prop := linkMatchesReferenceUptoRow.holds Tryz.pinned (OpenSpec.upto linkMatchesReferenceSpec)

/-- 'queuelablaw26.LinkValid', WHERE WHAT IT READS IS OF BULK AT MOST 1048576: true; the input reads as it did. -/
def linkValidUptoRow : OpenClaim := { program := "ytpodhambaehlkaagreatdoor", sum := "d6f44242e3ff2b2707656d80045c2b7d55d6dbddb93c55be043b7f2f6528c409", func := "queuelab/queuelablaw26.LinkValid", spec := "linkValid", unfollowed := true, recurses := true, named := ["queuelab/random.mixing"], apart := false, laid := [("queuelab/random.mixing", laid_queuelab_random_mixing)], narrowed := true }
def LinkValidUptoSaid : Prop := linkValidUptoRow.holds Tryz.pinned (OpenSpec.upto linkValidSpec)

/-- 'queuelablaw26.LinkOtherRate', WHERE WHAT IT READS IS OF BULK AT MOST 1048576: true; the input reads as it did. -/
def linkOtherRateUptoRow : OpenClaim := { program := "ytpodhambaehlkaagreatdoor", sum := "d6f44242e3ff2b2707656d80045c2b7d55d6dbddb93c55be043b7f2f6528c409", func := "queuelab/queuelablaw26.LinkOtherRate", spec := "linkOtherRate", unfollowed := true, recurses := true, named := ["queuelab/random.mixing"], apart := false, laid := [("queuelab/random.mixing", laid_queuelab_random_mixing)], narrowed := true }
def LinkOtherRateUptoSaid : Prop := linkOtherRateUptoRow.holds Tryz.pinned (OpenSpec.upto linkOtherRateSpec)

end Rows
end Go.Proofs.YtpodhambaehlkaaGreatDoor
