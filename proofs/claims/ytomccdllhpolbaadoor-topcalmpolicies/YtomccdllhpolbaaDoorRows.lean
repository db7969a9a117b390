/-
  NARROWER THAN 'FOR EVERY INPUT', by the rows' own cells (each row's printed sentence says how): TopCalmPolicies: laid.
  DERIVED. THE GIVEN ROWS OF THIS SEAT. 1 by the template 'for every input the law returns true; each argument reads behind the call as it read before'; 0 by the template 'total and deterministic' (their statements: YtomccdllhpolbaaDoorTotals.lean).
  GIVEN WITH THE SEED: the statements are not yours to turn. If you find one false, say at which input.
  Laid BY PROGRAM, IN A SANDBOX (cutbox-rows.mjs): the forced cells as the released guide's own fill.sh prints them over the translation d98ef2885ee421b0… (all of the seat's roots in one cut). By AI agents, Wed Nov 11 2026. No macro, syntax, notation, axiom, sorry.
-/
import Derived.Test.YtomccdllhpolbaaDoorChecked
import GoSem.Claim
import GoSem.ClaimJoined
import GoSem.ClaimMapViews
import Derived.JoinedTies
import Derived.KernelRfl
namespace Go.Proofs.YtomccdllhpolbaaDoor
/- THE CELL 'sum', in the pinned program and in every row, IS THE sha256 OF THE DUMP (.gsa) THAT YtomccdllhpolbaaDoorProg.lean LOADS. Nothing in Lean hashes anything: it is a label: what it is worth is what the hold of that sum in a sandbox is worth. -/
noncomputable def Tryd.pinned : Pinned := { name := "ytomccdllhpolbaadoor", sum := "d98ef2885ee421b0bf53c0b6dd3a26e9da532e61ba1976367bcfd954e1b80635", checked := Tryd.checked }
namespace Rows
def none {H : Type} : Left H := { results := [], args := [] }

/- WHAT THE LISTED PACKAGE-LEVEL VARIABLES READ AS WHEN THE CALL BEGINS. Each datum BY PROGRAM (the guide's laid-datum.mjs) off the statement by which the dump's own 'gosem.cut.vars' lays the variable. In a bare row this is a premise. The card (YtomccdllhpolbaaDoorCards.lean) ties it to the program's text. -/
def laid_queuelab_random_mixing {H : Type} : DataW H := .agg [.agg [.lit (.int .u64 30), .lit (.int .u64 13787848793156543929)], .agg [.lit (.int .u64 27), .lit (.int .u64 10723151780598845931)], .agg [.lit (.int .u64 31), .lit (.int .u64 1)]]

/-- 'queuelabtop.TopCalmPolicies': WHATEVER THE INPUT: true; the input reads as it did. -/
def topCalmPoliciesSpec : ChangeSpec := { name := "topCalmPolicies", fn := fun _ => fun
  | [d1, d2, d3] => { results := [.lit (.bool true)], args := [d1, d2, d3] }
  | _ => none }
def topCalmPoliciesRow : OpenClaim := { program := "ytomccdllhpolbaadoor", sum := "d98ef2885ee421b0bf53c0b6dd3a26e9da532e61ba1976367bcfd954e1b80635", func := "queuelab/queuelabtop.TopCalmPolicies", spec := "topCalmPolicies", unfollowed := true, recurses := true, named := ["queuelab/random.mixing"], apart := false, laid := [("queuelab/random.mixing", laid_queuelab_random_mixing)] }
def TopCalmPoliciesSaid : Prop := topCalmPoliciesRow.holds Tryd.pinned (OpenSpec.ofChange topCalmPoliciesSpec)

/-- ITS FALSE NEIGHBOUR: 'it returns false'. Refute it at one input. -/
def topCalmPoliciesWrong : ChangeSpec := { name := "topCalmPolicies", fn := fun _ => fun
  | [d1, d2, d3] => { results := [.lit (.bool false)], args := [d1, d2, d3] }
  | _ => none }
def TopCalmPoliciesWrongFalsely : Prop := topCalmPoliciesRow.holds Tryd.pinned (OpenSpec.ofChange topCalmPoliciesWrong)

/- THE SECOND FORM. 'bulk': how many values and letters a reading holds, each counted each time it is reached (what is shared counts as often as it is met; a slice's spare places count too). A statement '..UptoSaid' is the law's where the arguments, and the package variables that the reading takes, are together of bulk at most 1048576: NARROWER than '..Said'. Prove '..Said' where nothing that the law and all that it calls make is longer than what came in: it says more and counts as full. Else prove '..UptoSaid'. A law counts once. -/
mutual
def uptoBulk {H : Type} : DataW H → Nat
  | .lit (.string bytes) => bytes.length + 1
  | .lit _ => 1
  | .nil => 1
  | .ptr d => uptoBulk d + 1
  | .slice elems spare => uptoBulkAll elems + uptoBulkAll spare + 1
  | .agg parts => uptoBulkAll parts + 1
  | .iface _ d => uptoBulk d + 1
  | .map entries => uptoBulkEntries entries + 1
  | .held _ => 1
def uptoBulkAll {H : Type} : List (DataW H) → Nat
  | [] => 0
  | d :: r => uptoBulk d + uptoBulkAll r
def uptoBulkEntries {H : Type} : List (Lit × DataW H) → Nat
  | [] => 0
  | x :: r => uptoBulkEntry x + uptoBulkEntries r
def uptoBulkEntry {H : Type} : Lit × DataW H → Nat
  | (.string bytes, d) => bytes.length + uptoBulk d + 1
  | (_, d) => uptoBulk d + 1
 end
def uptoSmall : (H : Type) → List (DataW H) → Bool := fun _ ds => decide (uptoBulkAll ds ≤ 1048576)
def OpenSpec.upto (s : _root_.Go.ChangeSpec) : _root_.Go.OpenSpec := { _root_.Go.OpenSpec.ofChange s with cond := some uptoSmall }

/-- 'queuelabtop.TopCalmPolicies', WHERE WHAT IT READS IS OF BULK AT MOST 1048576: true; the input reads as it did. -/
def topCalmPoliciesUptoRow : OpenClaim := { program := "ytomccdllhpolbaadoor", sum := "d98ef2885ee421b0bf53c0b6dd3a26e9da532e61ba1976367bcfd954e1b80635", func := "queuelab/queuelabtop.TopCalmPolicies", spec := "topCalmPolicies", unfollowed := true, recurses := true, named := ["queuelab/random.mixing"], apart := false, laid := [("queuelab/random.mixing", laid_queuelab_random_mixing)], narrowed := true }
def TopCalmPoliciesUptoSaid : Prop := topCalmPoliciesUptoRow.holds Tryd.pinned (OpenSpec.upto topCalmPoliciesSpec)

end Rows
end Go.Proofs.YtomccdllhpolbaaDoor
