/-
  No cell of these rows narrows 'for every input' (looked for: loops, veiled, ifaces, maps, wideKeys, modest, calm, conditions, laid).
  DERIVED. THE GIVEN ROWS OF THIS SEAT. 6 by the template 'for every input the law returns true; each argument reads behind the call as it read before'; 0 by the template 'total and deterministic' (their statements: YtnbagejbdkhooaaTotals.lean).
  GIVEN WITH THE SEED: the statements are not yours to turn. If you find one false, say at which input.
  Laid BY PROGRAM, IN A SANDBOX (cutbox-rows.mjs): the forced cells as the released guide's own fill.sh prints them over the translation ab2f6b0973bd069d… (all of the seat's roots in one cut). By AI agents, Wed Nov 11 2026. No macro, syntax, notation, axiom, sorry.
-/
import Derived.Test.YtnbagejbdkhooaaChecked
import GoSem.Claim
import GoSem.ClaimJoined
import GoSem.ClaimMapViews
import Derived.JoinedTies
import Derived.KernelRfl
namespace Go.Proofs.Ytnbagejbdkhooaa
/- THE CELL 'sum', in the pinned program and in every row, IS THE sha256 OF THE DUMP (.gsa) THAT YtnbagejbdkhooaaProg.lean LOADS. Nothing in Lean hashes anything: it is a label: what it is worth is what the hold of that sum in a sandbox is worth. -/
noncomputable def Try.pinned : Pinned := { name := "ytnbagejbdkhooaa", sum := "ab2f6b0973bd069d3a796fadd12d212a65c42d32da3dcb942bfc19f16a02d63b", checked := Try.checked }
namespace Rows
def none {H : Type} : Left H := { results := [], args := [] }

/-- 'queuelablaw18.TailMatchesReference': WHATEVER THE INPUT: true; the input reads as it did. -/
def tailMatchesReferenceSpec : ChangeSpec := { name := "tailMatchesReference", fn := fun _ => fun
  | [d1, d2, d3] => { results := [.lit (.bool true)], args := [d1, d2, d3] }
  | _ => none }
def tailMatchesReferenceRow : OpenClaim := { program := "ytnbagejbdkhooaa", sum := "ab2f6b0973bd069d3a796fadd12d212a65c42d32da3dcb942bfc19f16a02d63b", func := "queuelab/queuelablaw18.TailMatchesReference", spec := "tailMatchesReference", unfollowed := true, recurses := true, apart := false }
def TailMatchesReferenceSaid : Prop := tailMatchesReferenceRow.holds Try.pinned (OpenSpec.ofChange tailMatchesReferenceSpec)

/-- ITS FALSE NEIGHBOUR: 'it returns false'. Refute it at one input. -/
def tailMatchesReferenceWrong : ChangeSpec := { name := "tailMatchesReference", fn := fun _ => fun
  | [d1, d2, d3] => { results := [.lit (.bool false)], args := [d1, d2, d3] }
  | _ => none }
def TailMatchesReferenceWrongFalsely : Prop := tailMatchesReferenceRow.holds Try.pinned (OpenSpec.ofChange tailMatchesReferenceWrong)

/-- 'queuelablaw18.TailConserves': WHATEVER THE INPUT: true; the input reads as it did. -/
def tailConservesSpec : ChangeSpec := { name := "tailConserves", fn := fun _ => fun
  | [d1, d2] => { results := [.lit (.bool true)], args := [d1, d2] }
  | _ => none }
def tailConservesRow : OpenClaim := { program := "ytnbagejbdkhooaa", sum := "ab2f6b0973bd069d3a796fadd12d212a65c42d32da3dcb942bfc19f16a02d63b", func := "queuelab/queuelablaw18.TailConserves", spec := "tailConserves", unfollowed := true, recurses := true, apart := false }
def TailConservesSaid : Prop := tailConservesRow.holds Try.pinned (OpenSpec.ofChange tailConservesSpec)

/-- ITS FALSE NEIGHBOUR: 'it returns false'. Refute it at one input. -/
def tailConservesWrong : ChangeSpec := { name := "tailConserves", fn := fun _ => fun
  | [d1, d2] => { results := [.lit (.bool false)], args := [d1, d2] }
  | _ => none }
def TailConservesWrongFalsely : Prop := tailConservesRow.holds Try.pinned (OpenSpec.ofChange tailConservesWrong)

/-- 'queuelablaw18.TailRoom': WHATEVER THE INPUT: true; the input reads as it did. -/
def tailRoomSpec : ChangeSpec := { name := "tailRoom", fn := fun _ => fun
  | [d1, d2, d3] => { results := [.lit (.bool true)], args := [d1, d2, d3] }
  | _ => none }
def tailRoomRow : OpenClaim := { program := "ytnbagejbdkhooaa", sum := "ab2f6b0973bd069d3a796fadd12d212a65c42d32da3dcb942bfc19f16a02d63b", func := "queuelab/queuelablaw18.TailRoom", spec := "tailRoom", unfollowed := true, recurses := true, apart := false }
def TailRoomSaid : Prop := tailRoomRow.holds Try.pinned (OpenSpec.ofChange tailRoomSpec)

/-- ITS FALSE NEIGHBOUR: 'it returns false'. Refute it at one input. -/
def tailRoomWrong : ChangeSpec := { name := "tailRoom", fn := fun _ => fun
  | [d1, d2, d3] => { results := [.lit (.bool false)], args := [d1, d2, d3] }
  | _ => none }
def TailRoomWrongFalsely : Prop := tailRoomRow.holds Try.pinned (OpenSpec.ofChange tailRoomWrong)

/-- 'queuelablaw18.TailWorks': WHATEVER THE INPUT: true; the input reads as it did. -/
def tailWorksSpec : ChangeSpec := { name := "tailWorks", fn := fun _ => fun
  | [d1, d2] => { results := [.lit (.bool true)], args := [d1, d2] }
  | _ => none }
def tailWorksRow : OpenClaim := { program := "ytnbagejbdkhooaa", sum := "ab2f6b0973bd069d3a796fadd12d212a65c42d32da3dcb942bfc19f16a02d63b", func := "queuelab/queuelablaw18.TailWorks", spec := "tailWorks", unfollowed := true, recurses := true, apart := false }
def TailWorksSaid : Prop := tailWorksRow.holds Try.pinned (OpenSpec.ofChange tailWorksSpec)

/-- ITS FALSE NEIGHBOUR: 'it returns false'. Refute it at one input. -/
def tailWorksWrong : ChangeSpec := { name := "tailWorks", fn := fun _ => fun
  | [d1, d2] => { results := [.lit (.bool false)], args := [d1, d2] }
  | _ => none }
def TailWorksWrongFalsely : Prop := tailWorksRow.holds Try.pinned (OpenSpec.ofChange tailWorksWrong)

/-- 'queuelablaw18.TailTimes': WHATEVER THE INPUT: true; the input reads as it did. -/
def tailTimesSpec : ChangeSpec := { name := "tailTimes", fn := fun _ => fun
  | [d1, d2, d3] => { results := [.lit (.bool true)], args := [d1, d2, d3] }
  | _ => none }
def tailTimesRow : OpenClaim := { program := "ytnbagejbdkhooaa", sum := "ab2f6b0973bd069d3a796fadd12d212a65c42d32da3dcb942bfc19f16a02d63b", func := "queuelab/queuelablaw18.TailTimes", spec := "tailTimes", unfollowed := true, recurses := true, apart := false }
def TailTimesSaid : Prop := tailTimesRow.holds Try.pinned (OpenSpec.ofChange tailTimesSpec)

/-- ITS FALSE NEIGHBOUR: 'it returns false'. Refute it at one input. -/
def tailTimesWrong : ChangeSpec := { name := "tailTimes", fn := fun _ => fun
  | [d1, d2, d3] => { results := [.lit (.bool false)], args := [d1, d2, d3] }
  | _ => none }
def TailTimesWrongFalsely : Prop := tailTimesRow.holds Try.pinned (OpenSpec.ofChange tailTimesWrong)

/-- 'queuelablaw18.TailMoreRoom': WHATEVER THE INPUT: true; the input reads as it did. -/
def tailMoreRoomSpec : ChangeSpec := { name := "tailMoreRoom", fn := fun _ => fun
  | [d1, d2, d3] => { results := [.lit (.bool true)], args := [d1, d2, d3] }
  | _ => none }
def tailMoreRoomRow : OpenClaim := { program := "ytnbagejbdkhooaa", sum := "ab2f6b0973bd069d3a796fadd12d212a65c42d32da3dcb942bfc19f16a02d63b", func := "queuelab/queuelablaw18.TailMoreRoom", spec := "tailMoreRoom", unfollowed := true, recurses := true, apart := false }
def TailMoreRoomSaid : Prop := tailMoreRoomRow.holds Try.pinned (OpenSpec.ofChange tailMoreRoomSpec)

/-- ITS FALSE NEIGHBOUR: 'it returns false'. Refute it at one input. -/
def tailMoreRoomWrong : ChangeSpec := { name := "tailMoreRoom", fn := fun _ => fun
  | [d1, d2, d3] => { results := [.lit (.bool false)], args := [d1, d2, d3] }
  | _ => none }
def TailMoreRoomWrongFalsely : Prop := tailMoreRoomRow.holds Try.pinned (OpenSpec.ofChange tailMoreRoomWrong)

/- THE SECOND FORM. 'bulk': how many values and letters a reading holds, each counted each time it is reached (what is shared counts as often as it is met; a slice's spare places count too). A statement '..UptoSaid' is the law's where the arguments, and the package variables that the reading takes, are together of bulk at most 1048576: NARROWER than '..Said'. Prove '..Said' where nothing that the law and all that it calls make is longer than what came in: it says more and counts as full. Else prove '..UptoSaid'. A law counts once. -/
mutual
def uptoBulk {H : Type} : DataW H → Nat
  | .lit (.string bytes) => bytes.length + 1
  | .lit _ => 1
  | .nil => 1
  | .ptr d => uptoBulk d + 1
  | .slice elems spare => uptoBulkAll elems + uptoBulkAll spare + 1
  | .agg parts => uptoBulkAll parts + 1
  | .iface _ d => uptoBulk d + 1
  | .map entries => uptoBulkEntries entries + 1
  | .held _ => 1
def uptoBulkAll {H : Type} : List (DataW H) → Nat
  | [] => 0
  | d :: r => uptoBulk d + uptoBulkAll r
def uptoBulkEntries {H : Type} : List (Lit × DataW H) → Nat
  | [] => 0
  | x :: r => uptoBulkEntry x + uptoBulkEntries r
def uptoBulkEntry {H : Type} : Lit × DataW H → Nat
  | (.string bytes, d) => bytes.length + uptoBulk d + 1
  | (_, d) => uptoBulk d + 1
 end
def uptoSmall : (H : Type) → List (DataW H) → Bool := fun _ ds => decide (uptoBulkAll ds ≤ 1048576)
def OpenSpec.upto (s : _root_.Go.ChangeSpec) : _root_.Go.OpenSpec := { _root_.Go.OpenSpec.ofChange s with cond := some uptoSmall }

/-- 'queuelablaw18.TailMatchesReference', WHERE WHAT IT READS IS OF BULK AT MOST 1048576: true; the input reads as it did. -/
def tailMatchesReferenceUptoRow : OpenClaim := { program := "ytnbagejbdkhooaa", sum := "ab2f6b0973bd069d3a796fadd12d212a65c42d32da3dcb942bfc19f16a02d63b", func := "queuelab/queuelablaw18.TailMatchesReference", spec := "tailMatchesReference", unfollowed := true, recurses := true, apart := false, narrowed := true }
def TailMatchesReferenceUptoSaid : Prop := tailMatchesReferenceUptoRow.holds Try.pinned (OpenSpec.upto tailMatchesReferenceSpec)

/-- 'queuelablaw18.TailConserves', WHERE WHAT IT READS IS OF BULK AT MOST 1048576: true; the input reads as it did. -/
def tailConservesUptoRow : OpenClaim := { program := "ytnbagejbdkhooaa", sum := "ab2f6b0973bd069d3a796fadd12d212a65c42d32da3dcb942bfc19f16a02d63b", func := "queuelab/queuelablaw18.TailConserves", spec := "tailConserves", unfollowed := true, recurses := true, apart := false, narrowed := true }
def TailConservesUptoSaid : Prop := tailConservesUptoRow.holds Try.pinned (OpenSpec.upto tailConservesSpec)

/-- 'queuelablaw18.TailRoom', WHERE WHAT IT READS IS OF BULK AT MOST 1048576: true; the input reads as it did. -/
def tailRoomUptoRow : OpenClaim := { program := "ytnbagejbdkhooaa", sum := "ab2f6b0973bd069d3a796fadd12d212a65c42d32da3dcb942bfc19f16a02d63b", func := "queuelab/queuelablaw18.TailRoom", spec := "tailRoom", unfollowed := true, recurses := true, apart := false, narrowed := true }
def TailRoomUptoSaid : Prop := tailRoomUptoRow.holds Try.pinned (OpenSpec.upto tailRoomSpec)

/-- 'queuelablaw18.TailWorks', WHERE WHAT IT READS IS OF BULK AT MOST 1048576: true; the input reads as it did. -/
def tailWorksUptoRow : OpenClaim := { program := "ytnbagejbdkhooaa", sum := "ab2f6b0973bd069d3a796fadd12d212a65c42d32da3dcb942bfc19f16a02d63b", func := "queuelab/queuelablaw18.TailWorks", spec := "tailWorks", unfollowed := true, recurses := true, apart := false, narrowed := true }
def TailWorksUptoSaid : Prop := tailWorksUptoRow.holds Try.pinned (OpenSpec.upto tailWorksSpec)

/-- 'queuelablaw18.TailTimes', WHERE WHAT IT READS IS OF BULK AT MOST 1048576: true; the input reads as it did. -/
def tailTimesUptoRow : OpenClaim := { program := "ytnbagejbdkhooaa", sum := "ab2f6b0973bd069d3a796fadd12d212a65c42d32da3dcb942bfc19f16a02d63b", func := "queuelab/queuelablaw18.TailTimes", spec := "tailTimes", unfollowed := true, recurses := true, apart := false, narrowed := true }
def TailTimesUptoSaid : Prop := tailTimesUptoRow.holds Try.pinned (OpenSpec.upto tailTimesSpec)

/-- 'queuelablaw18.TailMoreRoom', WHERE WHAT IT READS IS OF BULK AT MOST 1048576: true; the input reads as it did. -/
def tailMoreRoomUptoRow : OpenClaim := { program := "ytnbagejbdkhooaa", sum := "ab2f6b0973bd069d3a796fadd12d212a65c42d32da3dcb942bfc19f16a02d63b", func := "queuelab/queuelablaw18.TailMoreRoom", spec := "tailMoreRoom", unfollowed := true, recurses := true, apart := false, narrowed := true }
def TailMoreRoomUptoSaid : Prop := tailMoreRoomUptoRow.holds Try.pinned (OpenSpec.upto tailMoreRoomSpec)

end Rows
end Go.Proofs.Ytnbagejbdkhooaa
