/-
  NARROWER THAN 'FOR EVERY INPUT', by the rows' own cells (each row's printed sentence says how): QueueMatchesReference: laid · QueueConserves: laid · QueueWorks: laid · QueuePolicy: laid.
  DERIVED. THE GIVEN ROWS OF THIS SEAT. 4 by the template 'for every input the law returns true; each argument reads behind the call as it read before'; 0 by the template 'total and deterministic' (their statements: YtgalanoklaibcaaGreatDoorTotals.lean).
  GIVEN WITH THE SEED: the statements are not yours to turn. If you find one false, say at which input.
  Laid BY PROGRAM, IN A SANDBOX (cutbox-rows.mjs): the forced cells as the released guide's own fill.sh prints them over the translation 210e520643378931… (all of the seat's roots in one cut). By AI agents, Wed Nov 11 2026. No macro, syntax, notation, axiom, sorry.
-/
import Derived.Test.YtgalanoklaibcaaGreatDoorChecked
import GoSem.Claim
import GoSem.ClaimJoined
import GoSem.ClaimMapViews
import Derived.JoinedTies
import Derived.KernelRfl
namespace Go.Proofs.YtgalanoklaibcaaGreatDoor
/- THE CELL 'sum', in the pinned program and in every row, IS THE sha256 OF THE DUMP (.gsa) THAT YtgalanoklaibcaaGreatDoorProg.lean LOADS. Nothing in Lean hashes anything: it is a label: what it is worth is what the hold of that sum in a sandbox is worth. -/
noncomputable def Tryz.pinned : Pinned := { name := "ytgalanoklaibcaagreatdoor", sum := "210e5206433789312b180ee9d016d2a88a4a64a50da428b24f85593cdf71d3e4", checked := Tryz.checked }
namespace Rows
def none {H : Type} : Left H := { results := [], args := [] }

/- WHAT THE LISTED PACKAGE-LEVEL VARIABLES READ AS WHEN THE CALL BEGINS. Each datum BY PROGRAM (the guide's laid-datum.mjs) off the statement by which the dump's own 'gosem.cut.vars' lays the variable. In a bare row this is a premise. The card (YtgalanoklaibcaaGreatDoorCards.lean) ties it to the program's text. -/
def laid_queuelab_random_mixing {H : Type} : DataW H := .agg [.agg [.lit (.int .u64 30), .lit (.int .u64 13787848793156543929)], .agg [.lit (.int .u64 27), .lit (.int .u64 10723151780598845931)], .agg [.lit (.int .u64 31), .lit (.int .u64 1)]]

/-- 'queuelablaw24.QueueMatchesReference': WHATEVER THE INPUT: true; the input reads as it did. -/
def queueMatchesReferenceSpec : ChangeSpec := { name := "queueMatchesReference", fn := fun _ => fun
  | [d1, d2, d3, d4, d5] => { results := [.lit (.bool true)], args := [d1, d2, d3, d4, d5] }
  | _ => none }
def queueMatchesReferenceRow : OpenClaim := { program := "ytgalanoklaibcaagreatdoor", sum := "210e5206433789312b180ee9d016d2a88a4a64a50da428b24f85593cdf71d3e4", func := "queuelab/queuelablaw24.QueueMatchesReference", spec := "queueMatchesReference", unfollowed := true, recurses := true, named := ["queuelab/random.mixing"], apart := false, laid := [("queuelab/random.mixing", laid_queuelab_random_mixing)] }
def QueueMatchesReferenceSaid : Prop := queueMatchesReferenceRow.holds Tryz.pinned (OpenSpec.ofChange queueMatchesReferenceSpec)

/-- ITS FALSE NEIGHBOUR: 'it returns false'. Refute it at one input. -/
def queueMatchesReferenceWrong : ChangeSpec := { name := "queueMatchesReference", fn := fun _ => fun
  | [d1, d2, d3, d4, d5] => { results := [.lit (.bool false)], args := [d1, d2, d3, d4, d5] }
  | _ => none }
def QueueMatchesReferenceWrongFalsely : Prop := queueMatchesReferenceRow.holds Tryz.pinned (OpenSpec.ofChange queueMatchesReferenceWrong)

/-- 'queuelablaw24.QueueConserves': WHATEVER THE INPUT: true; the input reads as it did. -/
def queueConservesSpec : ChangeSpec := { name := "queueConserves", fn := fun _ => fun
  | [d1, d2] => { results := [.lit (.bool true)], args := [d1, d2] }
  | _ => none }
def queueConservesRow : OpenClaim := { program := "ytgalanoklaibcaagreatdoor", sum := "210e5206433789312b180ee9d016d2a88a4a64a50da428b24f85593cdf71d3e4", func := "queuelab/queuelablaw24.QueueConserves", spec := "queueConserves", unfollowed := true, recurses := true, named := ["queuelab/random.mixing"], apart := false, laid := [("queuelab/random.mixing", laid_queuelab_random_mixing)] }
def QueueConservesSaid : Prop := queueConservesRow.holds Tryz.pinned (OpenSpec.ofChange queueConservesSpec)

/-- ITS FALSE NEIGHBOUR: 'it returns false'. Refute it at one input. -/
def queueConservesWrong : ChangeSpec := { name := "queueConserves", fn := fun _ => fun
  | [d1, d2] => { results := [.lit (.bool false)], args := [d1, d2] }
  | _ => none }
def QueueConservesWrongFalsely : Prop := queueConservesRow.holds Tryz.pinned (OpenSpec.ofChange queueConservesWrong)

/-- 'queuelablaw24.QueueWorks': WHATEVER THE INPUT: true; the input reads as it did. -/
def queueWorksSpec : ChangeSpec := { name := "queueWorks", fn := fun _ => fun
  | [d1, d2] => { results := [.lit (.bool true)], args := [d1, d2] }
  | _ => none }
def queueWorksRow : OpenClaim := { program := "ytgalanoklaibcaagreatdoor", sum := "210e5206433789312b180ee9d016d2a88a4a64a50da428b24f85593cdf71d3e4", func := "queuelab/queuelablaw24.QueueWorks", spec := "queueWorks", unfollowed := true, recurses := true, named := ["queuelab/random.mixing"], apart := false, laid := [("queuelab/random.mixing", laid_queuelab_random_mixing)] }
def QueueWorksSaid : Prop := queueWorksRow.holds Tryz.pinned (OpenSpec.ofChange queueWorksSpec)

/-- ITS FALSE NEIGHBOUR: 'it returns false'. Refute it at one input. -/
def queueWorksWrong : ChangeSpec := { name := "queueWorks", fn := fun _ => fun
  | [d1, d2] => { results := [.lit (.bool false)], args := [d1, d2] }
  | _ => none }
def QueueWorksWrongFalsely : Prop := queueWorksRow.holds Tryz.pinned (OpenSpec.ofChange queueWorksWrong)

/-- 'queuelablaw24.QueuePolicy': WHATEVER THE INPUT: true; the input reads as it did. -/
def queuePolicySpec : ChangeSpec := { name := "queuePolicy", fn := fun _ => fun
  | [d1, d2, d3] => { results := [.lit (.bool true)], args := [d1, d2, d3] }
  | _ => none }
def queuePolicyRow : OpenClaim := { program := "ytgalanoklaibcaagreatdoor", sum := "210e5206433789312b180ee9d016d2a88a4a64a50da428b24f85593cdf71d3e4", func := "queuelab/queuelablaw24.QueuePolicy", spec := "queuePolicy", unfollowed := true, recurses := true, named := ["queuelab/random.mixing"], apart := false, laid := [("queuelab/random.mixing", laid_queuelab_random_mixing)] }
def QueuePolicySaid : Prop := queuePolicyRow.holds Tryz.pinned (OpenSpec.ofChange queuePolicySpec)

/-- ITS FALSE NEIGHBOUR: 'it returns false'. Refute it at one input. -/
def queuePolicyWrong : ChangeSpec := { name := "queuePolicy", fn := fun _ => fun
  | [d1, d2, d3] => { results := [.lit (.bool false)], args := [d1, d2, d3] }
  | _ => none }
def QueuePolicyWrongFalsely : Prop := queuePolicyRow.holds Tryz.pinned (OpenSpec.ofChange queuePolicyWrong)

/- THE SECOND FORM. 'bulk': how many values and letters a reading holds, each counted each time it is reached (what is shared counts as often as it is met; a slice's spare places count too). A statement '..UptoSaid' is the law's where the arguments, and the package variables that the reading takes, are together of bulk at most 1048576: NARROWER than '..Said'. Prove '..Said' where nothing that the law and all that it calls make is longer than what came in: it says more and counts as full. Else prove '..UptoSaid'. A law counts once. -/
mutual
def uptoBulk {H : Type} : DataW H → Nat
  | .lit (.string bytes) => bytes.length + 1
  | .lit _ => 1
  | .nil => 1
  | .ptr d => uptoBulk d + 1
  | .slice elems spare => uptoBulkAll elems + uptoBulkAll spare + 1
  | .agg parts => uptoBulkAll parts + 1
  | .iface _ d => uptoBulk d + 1
  | .map entries => uptoBulkEntries entries + 1
  | .held _ => 1
def uptoBulkAll {H : Type} : List (DataW H) → Nat
  | [] => 0
  | d :: r => uptoBulk d + uptoBulkAll r
def uptoBulkEntries {H : Type} : List (Lit × DataW H) → Nat
  | [] => 0
  | x :: r => uptoBulkEntry x + uptoBulkEntries r
def uptoBulkEntry {H : Type} : Lit × DataW H → Nat
  | (.string bytes, d) => bytes.length + uptoBulk d + 1
  | (_, d) => uptoBulk d + 1
 end
def uptoSmall : (H : Type) → List (DataW H) → Bool := fun _ ds => decide (uptoBulkAll ds ≤ 1048576)
def OpenSpec.upto (s : _root_.Go.ChangeSpec) : _root_.Go.OpenSpec := { _root_.Go.OpenSpec.ofChange s with cond := some uptoSmall }

/-- 'queuelablaw24.QueueMatchesReference', WHERE WHAT IT READS IS OF BULK AT MOST 1048576: true; the input reads as it did. -/
def queueMatchesReferenceUptoRow : OpenClaim := { program := "ytgalanoklaibcaagreatdoor", sum := "210e5206433789312b180ee9d016d2a88a4a64a50da428b24f85593cdf71d3e4", func := "queuelab/queuelablaw24.QueueMatchesReference", spec := "queueMatchesReference", unfollowed := true, recurses := true, named := ["queuelab/random.mixing"], apart := false, laid := [("queuelab/random.mixing", laid_queuelab_random_mixing)], narrowed := true }
def QueueMatchesReferenceUptoSaid : Prop := queueMatchesReferenceUptoRow.holds Tryz.pinned (OpenSpec.upto queueMatchesReferenceSpec)

/-- 'queuelablaw24.QueueConserves', WHERE WHAT IT READS IS OF BULK AT MOST 1048576: true; the input reads as it did. -/
def queueConservesUptoRow : OpenClaim := { program := "ytgalanoklaibcaagreatdoor", sum := "210e5206433789312b180ee9d016d2a88a4a64a50da428b24f85593cdf71d3e4", func := "queuelab/queuelablaw24.QueueConserves", spec := "queueConserves", unfollowed := true, recurses := true, named := ["queuelab/random.mixing"], apart := false, laid := [("queuelab/random.mixing", laid_queuelab_random_mixing)], narrowed := true }
def QueueConservesUptoSaid : Prop := queueConservesUptoRow.holds Tryz.pinned (OpenSpec.upto queueConservesSpec)

/-- 'queuelablaw24.QueueWorks', WHERE WHAT IT READS IS OF BULK AT MOST 1048576: true; the input reads as it did. -/
def queueWorksUptoRow : OpenClaim := { program := "ytgalanoklaibcaagreatdoor", sum := "210e5206433789312b180ee9d016d2a88a4a64a50da428b24f85593cdf71d3e4", func := "queuelab/queuelablaw24.QueueWorks", spec := "queueWorks", unfollowed := true, recurses := true, named := ["queuelab/random.mixing"], apart := false, laid := [("queuelab/random.mixing", laid_queuelab_random_mixing)], narrowed := true }
def QueueWorksUptoSaid : Prop := queueWorksUptoRow.holds Tryz.pinned (OpenSpec.upto queueWorksSpec)

/-- 'queuelablaw24.QueuePolicy', WHERE WHAT IT READS IS OF BULK AT MOST 1048576: true; the input reads as it did. -/
def queuePolicyUptoRow : OpenClaim := { program := "ytgalanoklaibcaagreatdoor", sum := "210e5206433789312b180ee9d016d2a88a4a64a50da428b24f85593cdf71d3e4", func := "queuelab/queuelablaw24.QueuePolicy", spec := "queuePolicy", unfollowed := true, recurses := true, named := ["queuelab/random.mixing"], apart := false, laid := [("queuelab/random.mixing", laid_queuelab_random_mixing)], narrowed := true }
def QueuePolicyUptoSaid : Prop := queuePolicyUptoRow.holds Tryz.pinned (OpenSpec.upto queuePolicySpec)

end Rows
end Go.Proofs.YtgalanoklaibcaaGreatDoor
