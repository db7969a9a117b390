/-
  NARROWER THAN 'FOR EVERY INPUT', by the rows' own cells (each row's printed sentence says how): IntegralMatchesReference: laid · IntegralConserves: laid · IntegralCalm: laid · IntegralCertain: laid · IntegralDirection: laid · IntegralPeriod: laid · IntegralRises: laid.
  DERIVED. THE GIVEN ROWS OF THIS SEAT. 7 by the template 'for every input the law returns true; each argument reads behind the call as it read before'; 0 by the template 'total and deterministic' (their statements: YtfjkpjgbigcpiaaDoorTotals.lean).
  GIVEN WITH THE SEED: the statements are not yours to turn. If you find one false, say at which input.
  Laid BY PROGRAM, IN A SANDBOX (cutbox-rows.mjs): the forced cells as the released guide's own fill.sh prints them over the translation 46998d795dded3dc… (all of the seat's roots in one cut). By AI agents, Wed Nov 11 2026. No macro, syntax, notation, axiom, sorry.
-/
import Derived.Test.YtfjkpjgbigcpiaaDoorChecked
import GoSem.Claim
import GoSem.ClaimJoined
import GoSem.ClaimMapViews
import Derived.JoinedTies
import Derived.KernelRfl
namespace Go.Proofs.YtfjkpjgbigcpiaaDoor
/- THE CELL 'sum', in the pinned program and in every row, IS THE sha256 OF THE DUMP (.gsa) THAT YtfjkpjgbigcpiaaDoorProg.lean LOADS. Nothing in Lean hashes anything: it is a label: what it is worth is what the hold of that sum in a sandbox is worth. -/
noncomputable def Tryd.pinned : Pinned := { name := "ytfjkpjgbigcpiaadoor", sum := "46998d795dded3dc3307386165ce2ce8289970a736247f0e65450d7535dcb80c", checked := Tryd.checked }
namespace Rows
def none {H : Type} : Left H := { results := [], args := [] }

/- WHAT THE LISTED PACKAGE-LEVEL VARIABLES READ AS WHEN THE CALL BEGINS. Each datum BY PROGRAM (the guide's laid-datum.mjs) off the statement by which the dump's own 'gosem.cut.vars' lays the variable. In a bare row this is a premise. The card (YtfjkpjgbigcpiaaDoorCards.lean) ties it to the program's text. -/
def laid_queuelab_random_mixing {H : Type} : DataW H := .agg [.agg [.lit (.int .u64 30), .lit (.int .u64 13787848793156543929)], .agg [.lit (.int .u64 27), .lit (.int .u64 10723151780598845931)], .agg [.lit (.int .u64 31), .lit (.int .u64 1)]]

/-- 'queuelablaw21.IntegralMatchesReference': WHATEVER THE INPUT: true; the input reads as it did. -/
def integralMatchesReferenceSpec : ChangeSpec := { name := "integralMatchesReference", fn := fun _ => fun
  | [d1, d2, d3] => { results := [.lit (.bool true)], args := [d1, d2, d3] }
  | _ => none }
def integralMatchesReferenceRow : OpenClaim := { program := "ytfjkpjgbigcpiaadoor", sum := "46998d795dded3dc3307386165ce2ce8289970a736247f0e65450d7535dcb80c", func := "queuelab/queuelablaw21.IntegralMatchesReference", spec := "integralMatchesReference", unfollowed := true, recurses := true, named := ["queuelab/random.mixing"], apart := false, laid := [("queuelab/random.mixing", laid_queuelab_random_mixing)] }
def IntegralMatchesReferenceSaid : Prop := integralMatchesReferenceRow.holds Tryd.pinned (OpenSpec.ofChange integralMatchesReferenceSpec)

/-- ITS FALSE NEIGHBOUR: 'it returns false'. Refute it at one input. -/
def integralMatchesReferenceWrong : ChangeSpec := { name := "integralMatchesReference", fn := fun _ => fun
  | [d1, d2, d3] => { results := [.lit (.bool false)], args := [d1, d2, d3] }
  | _ => none }
def IntegralMatchesReferenceWrongFalsely : Prop := integralMatchesReferenceRow.holds Tryd.pinned (OpenSpec.ofChange integralMatchesReferenceWrong)

/-- 'queuelablaw21.IntegralConserves': WHATEVER THE INPUT: true; the input reads as it did. -/
def integralConservesSpec : ChangeSpec := { name := "integralConserves", fn := fun _ => fun
  | [d1, d2] => { results := [.lit (.bool true)], args := [d1, d2] }
  | _ => none }
def integralConservesRow : OpenClaim := { program := "ytfjkpjgbigcpiaadoor", sum := "46998d795dded3dc3307386165ce2ce8289970a736247f0e65450d7535dcb80c", func := "queuelab/queuelablaw21.IntegralConserves", spec := "integralConserves", unfollowed := true, recurses := true, named := ["queuelab/random.mixing"], apart := false, laid := [("queuelab/random.mixing", laid_queuelab_random_mixing)] }
def IntegralConservesSaid : Prop := integralConservesRow.holds Tryd.pinned (OpenSpec.ofChange integralConservesSpec)

/-- ITS FALSE NEIGHBOUR: 'it returns false'. Refute it at one input. -/
def integralConservesWrong : ChangeSpec := { name := "integralConserves", fn := fun _ => fun
  | [d1, d2] => { results := [.lit (.bool false)], args := [d1, d2] }
  | _ => none }
def IntegralConservesWrongFalsely : Prop := integralConservesRow.holds Tryd.pinned (OpenSpec.ofChange integralConservesWrong)

/-- 'queuelablaw21.IntegralCalm': WHATEVER THE INPUT: true; the input reads as it did. -/
def integralCalmSpec : ChangeSpec := { name := "integralCalm", fn := fun _ => fun
  | [d1, d2, d3] => { results := [.lit (.bool true)], args := [d1, d2, d3] }
  | _ => none }
def integralCalmRow : OpenClaim := { program := "ytfjkpjgbigcpiaadoor", sum := "46998d795dded3dc3307386165ce2ce8289970a736247f0e65450d7535dcb80c", func := "queuelab/queuelablaw21.IntegralCalm", spec := "integralCalm", unfollowed := true, recurses := true, named := ["queuelab/random.mixing"], apart := false, laid := [("queuelab/random.mixing", laid_queuelab_random_mixing)] }
def IntegralCalmSaid : Prop := integralCalmRow.holds Tryd.pinned (OpenSpec.ofChange integralCalmSpec)

/-- ITS FALSE NEIGHBOUR: 'it returns false'. Refute it at one input. -/
def integralCalmWrong : ChangeSpec := { name := "integralCalm", fn := fun _ => fun
  | [d1, d2, d3] => { results := [.lit (.bool false)], args := [d1, d2, d3] }
  | _ => none }
def IntegralCalmWrongFalsely : Prop := integralCalmRow.holds Tryd.pinned (OpenSpec.ofChange integralCalmWrong)

/-- 'queuelablaw21.IntegralCertain': WHATEVER THE INPUT: true; the input reads as it did. -/
def integralCertainSpec : ChangeSpec := { name := "integralCertain", fn := fun _ => fun
  | [d1, d2, d3] => { results := [.lit (.bool true)], args := [d1, d2, d3] }
  | _ => none }
def integralCertainRow : OpenClaim := { program := "ytfjkpjgbigcpiaadoor", sum := "46998d795dded3dc3307386165ce2ce8289970a736247f0e65450d7535dcb80c", func := "queuelab/queuelablaw21.IntegralCertain", spec := "integralCertain", unfollowed := true, recurses := true, named := ["queuelab/random.mixing"], apart := false, laid := [("queuelab/random.mixing", laid_queuelab_random_mixing)] }
def IntegralCertainSaid : Prop := integralCertainRow.holds Tryd.pinned (OpenSpec.ofChange integralCertainSpec)

/-- ITS FALSE NEIGHBOUR: 'it returns false'. Refute it at one input. -/
def integralCertainWrong : ChangeSpec := { name := "integralCertain", fn := fun _ => fun
  | [d1, d2, d3] => { results := [.lit (.bool false)], args := [d1, d2, d3] }
  | _ => none }
def IntegralCertainWrongFalsely : Prop := integralCertainRow.holds Tryd.pinned (OpenSpec.ofChange integralCertainWrong)

/-- 'queuelablaw21.IntegralDirection': WHATEVER THE INPUT: true; the input reads as it did. -/
def integralDirectionSpec : ChangeSpec := { name := "integralDirection", fn := fun _ => fun
  | [d1, d2] => { results := [.lit (.bool true)], args := [d1, d2] }
  | _ => none }
def integralDirectionRow : OpenClaim := { program := "ytfjkpjgbigcpiaadoor", sum := "46998d795dded3dc3307386165ce2ce8289970a736247f0e65450d7535dcb80c", func := "queuelab/queuelablaw21.IntegralDirection", spec := "integralDirection", unfollowed := true, recurses := true, named := ["queuelab/random.mixing"], apart := false, laid := [("queuelab/random.mixing", laid_queuelab_random_mixing)] }
def IntegralDirectionSaid : Prop := integralDirectionRow.holds Tryd.pinned (OpenSpec.ofChange integralDirectionSpec)

/-- ITS FALSE NEIGHBOUR: 'it returns false'. Refute it at one input. -/
def integralDirectionWrong : ChangeSpec := { name := "integralDirection", fn := fun _ => fun
  | [d1, d2] => { results := [.lit (.bool false)], args := [d1, d2] }
  | _ => none }
def IntegralDirectionWrongFalsely : Prop := integralDirectionRow.holds Tryd.pinned (OpenSpec.ofChange integralDirectionWrong)

/-- 'queuelablaw21.IntegralPeriod': WHATEVER THE INPUT: true; the input reads as it did. -/
def integralPeriodSpec : ChangeSpec := { name := "integralPeriod", fn := fun _ => fun
  | [d1, d2, d3] => { results := [.lit (.bool true)], args := [d1, d2, d3] }
  | _ => none }
def integralPeriodRow : OpenClaim := { program := "ytfjkpjgbigcpiaadoor", sum := "46998d795dded3dc3307386165ce2ce8289970a736247f0e65450d7535dcb80c", func := "queuelab/queuelablaw21.IntegralPeriod", spec := "integralPeriod", unfollowed := true, recurses := true, named := ["queuelab/random.mixing"], apart := false, laid := [("queuelab/random.mixing", laid_queuelab_random_mixing)] }
def IntegralPeriodSaid : Prop := integralPeriodRow.holds Tryd.pinned (OpenSpec.ofChange integralPeriodSpec)

/-- ITS FALSE NEIGHBOUR: 'it returns false'. Refute it at one input. -/
def integralPeriodWrong : ChangeSpec := { name := "integralPeriod", fn := fun _ => fun
  | [d1, d2, d3] => { results := [.lit (.bool false)], args := [d1, d2, d3] }
  | _ => none }
def IntegralPeriodWrongFalsely : Prop := integralPeriodRow.holds Tryd.pinned (OpenSpec.ofChange integralPeriodWrong)

/-- 'queuelablaw21.IntegralRises': WHATEVER THE INPUT: true; the input reads as it did. -/
def integralRisesSpec : ChangeSpec := { name := "integralRises", fn := fun _ => fun
  | [d1, d2, d3] => { results := [.lit (.bool true)], args := [d1, d2, d3] }
  | _ => none }
def integralRisesRow : OpenClaim := { program := "ytfjkpjgbigcpiaadoor", sum := "46998d795dded3dc3307386165ce2ce8289970a736247f0e65450d7535dcb80c", func := "queuelab/queuelablaw21.IntegralRises", spec := "integralRises", unfollowed := true, recurses := true, named := ["queuelab/random.mixing"], apart := false, laid := [("queuelab/random.mixing", laid_queuelab_random_mixing)] }
def IntegralRisesSaid : Prop := integralRisesRow.holds Tryd.pinned (OpenSpec.ofChange integralRisesSpec)

/-- ITS FALSE NEIGHBOUR: 'it returns false'. Refute it at one input. -/
def integralRisesWrong : ChangeSpec := { name := "integralRises", fn := fun _ => fun
  | [d1, d2, d3] => { results := [.lit (.bool false)], args := [d1, d2, d3] }
  | _ => none }
def IntegralRisesWrongFalsely : Prop := integralRisesRow.holds Tryd.pinned (OpenSpec.ofChange integralRisesWrong)

/- THE SECOND FORM. 'bulk': how many values and letters a reading holds, each counted each time it is reached (what is shared counts as often as it is met; a slice's spare places count too). A statement '..UptoSaid' is the law's where the arguments, and the package variables that the reading takes, are together of bulk at most 1048576: NARROWER than '..Said'. Prove '..Said' where nothing that the law and all that it calls make is longer than what came in: it says more and counts as full. Else prove '..UptoSaid'. A law counts once. -/
mutual
def uptoBulk {H : Type} : DataW H → Nat
  | .lit (.string bytes) => bytes.length + 1
  | .lit _ => 1
  | .nil => 1
  | .ptr d => uptoBulk d + 1
  | .slice elems spare => uptoBulkAll elems + uptoBulkAll spare + 1
  | .agg parts => uptoBulkAll parts + 1
  | .iface _ d => uptoBulk d + 1
  | .map entries => uptoBulkEntries entries + 1
  | .held _ => 1
def uptoBulkAll {H : Type} : List (DataW H) → Nat
  | [] => 0
  | d :: r => uptoBulk d + uptoBulkAll r
def uptoBulkEntries {H : Type} : List (Lit × DataW H) → Nat
  | [] => 0
  | x :: r => uptoBulkEntry x + uptoBulkEntries r
def uptoBulkEntry {H : Type} : Lit × DataW H → Nat
  | (.string bytes, d) => bytes.length + uptoBulk d + 1
  | (_, d) => uptoBulk d + 1
 end
def uptoSmall : (H : Type) → List (DataW H) → Bool := fun _ ds => decide (uptoBulkAll ds ≤ 1048576)
def OpenSpec.upto (s : _root_.Go.ChangeSpec) : _root_.Go.OpenSpec := { _root_.Go.OpenSpec.ofChange s with cond := some uptoSmall }

/-- 'queuelablaw21.IntegralMatchesReference', WHERE WHAT IT READS IS OF BULK AT MOST 1048576: true; the input reads as it did. -/
def integralMatchesReferenceUptoRow : OpenClaim := { program := "ytfjkpjgbigcpiaadoor", sum := "46998d795dded3dc3307386165ce2ce8289970a736247f0e65450d7535dcb80c", func := "queuelab/queuelablaw21.IntegralMatchesReference", spec := "integralMatchesReference", unfollowed := true, recurses := true, named := ["queuelab/random.mixing"], apart := false, laid := [("queuelab/random.mixing", laid_queuelab_random_mixing)], narrowed := true }
def IntegralMatchesReferenceUptoSaid : Prop := integralMatchesReferenceUptoRow.holds Tryd.pinned (OpenSpec.upto integralMatchesReferenceSpec)

/-- 'queuelablaw21.IntegralConserves', WHERE WHAT IT READS IS OF BULK AT MOST 1048576: true; the input reads as it did. -/
def integralConservesUptoRow : OpenClaim := { program := "ytfjkpjgbigcpiaadoor", sum := "46998d795dded3dc3307386165ce2ce8289970a736247f0e65450d7535dcb80c", func := "queuelab/queuelablaw21.IntegralConserves", spec := "integralConserves", unfollowed := true, recurses := true, named := ["queuelab/random.mixing"], apart := false, laid := [("queuelab/random.mixing", laid_queuelab_random_mixing)], narrowed := true }
def IntegralConservesUptoSaid : Prop := integralConservesUptoRow.holds Tryd.pinned (OpenSpec.upto integralConservesSpec)

/-- 'queuelablaw21.IntegralCalm', WHERE WHAT IT READS IS OF BULK AT MOST 1048576: true; the input reads as it did. -/
def integralCalmUptoRow : OpenClaim := { program := "ytfjkpjgbigcpiaadoor", sum := "46998d795dded3dc3307386165ce2ce8289970a736247f0e65450d7535dcb80c", func := "queuelab/queuelablaw21.IntegralCalm", spec := "integralCalm", unfollowed := true, recurses := true, named := ["queuelab/random.mixing"], apart := false, laid := [("queuelab/random.mixing", laid_queuelab_random_mixing)], narrowed := true }
def IntegralCalmUptoSaid : Prop := integralCalmUptoRow.holds Tryd.pinned (OpenSpec.upto integralCalmSpec)

/-- 'queuelablaw21.IntegralCertain', WHERE WHAT IT READS IS OF BULK AT MOST 1048576: true; the input reads as it did. -/
def integralCertainUptoRow : OpenClaim := { program := "ytfjkpjgbigcpiaadoor", sum := "46998d795dded3dc3307386165ce2ce8289970a736247f0e65450d7535dcb80c", func := "queuelab/queuelablaw21.IntegralCertain", spec := "integralCertain", unfollowed := true, recurses := true, named := ["queuelab/random.mixing"], apart := false, laid := [("queuelab/random.mixing", laid_queuelab_random_mixing)], narrowed := true }
def IntegralCertainUptoSaid : Prop := integralCertainUptoRow.holds Tryd.pinned (OpenSpec.upto integralCertainSpec)

/-- 'queuelablaw21.IntegralDirection', WHERE WHAT IT READS IS OF BULK AT MOST 1048576: true; the input reads as it did. -/
def integralDirectionUptoRow : OpenClaim := { program := "ytfjkpjgbigcpiaadoor", sum := "46998d795dded3dc3307386165ce2ce8289970a736247f0e65450d7535dcb80c", func := "queuelab/queuelablaw21.IntegralDirection", spec := "integralDirection", unfollowed := true, recurses := true, named := ["queuelab/random.mixing"], apart := false, laid := [("queuelab/random.mixing", laid_queuelab_random_mixing)], narrowed := true }
def IntegralDirectionUptoSaid : Prop := integralDirectionUptoRow.holds Tryd.pinned (OpenSpec.upto integralDirectionSpec)

/-- 'queuelablaw21.IntegralPeriod', WHERE WHAT IT READS IS OF BULK AT MOST 1048576: true; the input reads as it did. -/
def integralPeriodUptoRow : OpenClaim := { program := "ytfjkpjgbigcpiaadoor", sum := "46998d795dded3dc3307386165ce2ce8289970a736247f0e65450d7535dcb80c", func := "queuelab/queuelablaw21.IntegralPeriod", spec := "integralPeriod", unfollowed := true, recurses := true, named := ["queuelab/random.mixing"], apart := false, laid := [("queuelab/random.mixing", laid_queuelab_random_mixing)], narrowed := true }
def IntegralPeriodUptoSaid : Prop := integralPeriodUptoRow.holds Tryd.pinned (OpenSpec.upto integralPeriodSpec)

/-- 'queuelablaw21.IntegralRises', WHERE WHAT IT READS IS OF BULK AT MOST 1048576: true; the input reads as it did. -/
def integralRisesUptoRow : OpenClaim := { program := "ytfjkpjgbigcpiaadoor", sum := "46998d795dded3dc3307386165ce2ce8289970a736247f0e65450d7535dcb80c", func := "queuelab/queuelablaw21.IntegralRises", spec := "integralRises", unfollowed := true, recurses := true, named := ["queuelab/random.mixing"], apart := false, laid := [("queuelab/random.mixing", laid_queuelab_random_mixing)], narrowed := true }
def IntegralRisesUptoSaid : Prop := integralRisesUptoRow.holds Tryd.pinned (OpenSpec.upto integralRisesSpec)

end Rows
end Go.Proofs.YtfjkpjgbigcpiaaDoor
