/-
  No cell of these rows narrows 'for every input' (looked for: loops, veiled, ifaces, maps, wideKeys, modest, calm, conditions, laid).
  DERIVED. THE GIVEN ROWS OF THIS SEAT. 7 by the template 'for every input the law returns true; each argument reads behind the call as it read before'; 0 by the template 'total and deterministic' (their statements: YtedjbjphpnkpoaaTotals.lean).
  GIVEN WITH THE SEED: the statements are not yours to turn. If you find one false, say at which input.
  Laid BY PROGRAM, IN A SANDBOX (cutbox-rows.mjs): the forced cells as the released guide's own fill.sh prints them over the translation 429ac25b6d5f011d… (all of the seat's roots in one cut). By AI agents, Wed Nov 11 2026. No macro, syntax, notation, axiom, sorry.
-/
import Derived.Test.YtedjbjphpnkpoaaChecked
import GoSem.Claim
import GoSem.ClaimJoined
import GoSem.ClaimMapViews
import Derived.JoinedTies
import Derived.KernelRfl
namespace Go.Proofs.Ytedjbjphpnkpoaa
/- THE CELL 'sum', in the pinned program and in every row, IS THE sha256 OF THE DUMP (.gsa) THAT YtedjbjphpnkpoaaProg.lean LOADS. Nothing in Lean hashes anything: it is a label: what it is worth is what the hold of that sum in a sandbox is worth. -/
noncomputable def Try.pinned : Pinned := { name := "ytedjbjphpnkpoaa", sum := "429ac25b6d5f011d4d1d0e5f98432c178549223b10b59605f0737e5272c7238d", checked := Try.checked }
namespace Rows
def none {H : Type} : Left H := { results := [], args := [] }

/-- 'queuelablaw13.MaxminMatchesReference': WHATEVER THE INPUT: true; the input reads as it did. -/
def maxminMatchesReferenceSpec : ChangeSpec := { name := "maxminMatchesReference", fn := fun _ => fun
  | [d1, d2] => { results := [.lit (.bool true)], args := [d1, d2] }
  | _ => none }
def maxminMatchesReferenceRow : OpenClaim := { program := "ytedjbjphpnkpoaa", sum := "429ac25b6d5f011d4d1d0e5f98432c178549223b10b59605f0737e5272c7238d", func := "queuelab/queuelablaw13.MaxminMatchesReference", spec := "maxminMatchesReference", unfollowed := true, recurses := true, apart := false }
def MaxminMatchesReferenceSaid : Prop := maxminMatchesReferenceRow.holds Try.pinned (OpenSpec.ofChange maxminMatchesReferenceSpec)

/-- ITS FALSE NEIGHBOUR: 'it returns false'. Refute it at one input. -/
def maxminMatchesReferenceWrong : ChangeSpec := { name := "maxminMatchesReference", fn := fun _ => fun
  | [d1, d2] => { results := [.lit (.bool false)], args := [d1, d2] }
  | _ => none }
def MaxminMatchesReferenceWrongFalsely : Prop := maxminMatchesReferenceRow.holds Try.pinned (OpenSpec.ofChange maxminMatchesReferenceWrong)

/-- 'queuelablaw13.MaxminExactly': WHATEVER THE INPUT: true; the input reads as it did. -/
def maxminExactlySpec : ChangeSpec := { name := "maxminExactly", fn := fun _ => fun
  | [d1, d2] => { results := [.lit (.bool true)], args := [d1, d2] }
  | _ => none }
def maxminExactlyRow : OpenClaim := { program := "ytedjbjphpnkpoaa", sum := "429ac25b6d5f011d4d1d0e5f98432c178549223b10b59605f0737e5272c7238d", func := "queuelab/queuelablaw13.MaxminExactly", spec := "maxminExactly", unfollowed := true, recurses := true, apart := false }
def MaxminExactlySaid : Prop := maxminExactlyRow.holds Try.pinned (OpenSpec.ofChange maxminExactlySpec)

/-- ITS FALSE NEIGHBOUR: 'it returns false'. Refute it at one input. -/
def maxminExactlyWrong : ChangeSpec := { name := "maxminExactly", fn := fun _ => fun
  | [d1, d2] => { results := [.lit (.bool false)], args := [d1, d2] }
  | _ => none }
def MaxminExactlyWrongFalsely : Prop := maxminExactlyRow.holds Try.pinned (OpenSpec.ofChange maxminExactlyWrong)

/-- 'queuelablaw13.MaxminNoMore': WHATEVER THE INPUT: true; the input reads as it did. -/
def maxminNoMoreSpec : ChangeSpec := { name := "maxminNoMore", fn := fun _ => fun
  | [d1, d2, d3] => { results := [.lit (.bool true)], args := [d1, d2, d3] }
  | _ => none }
def maxminNoMoreRow : OpenClaim := { program := "ytedjbjphpnkpoaa", sum := "429ac25b6d5f011d4d1d0e5f98432c178549223b10b59605f0737e5272c7238d", func := "queuelab/queuelablaw13.MaxminNoMore", spec := "maxminNoMore", unfollowed := true, recurses := true, apart := false }
def MaxminNoMoreSaid : Prop := maxminNoMoreRow.holds Try.pinned (OpenSpec.ofChange maxminNoMoreSpec)

/-- ITS FALSE NEIGHBOUR: 'it returns false'. Refute it at one input. -/
def maxminNoMoreWrong : ChangeSpec := { name := "maxminNoMore", fn := fun _ => fun
  | [d1, d2, d3] => { results := [.lit (.bool false)], args := [d1, d2, d3] }
  | _ => none }
def MaxminNoMoreWrongFalsely : Prop := maxminNoMoreRow.holds Try.pinned (OpenSpec.ofChange maxminNoMoreWrong)

/-- 'queuelablaw13.MaxminScale': WHATEVER THE INPUT: true; the input reads as it did. -/
def maxminScaleSpec : ChangeSpec := { name := "maxminScale", fn := fun _ => fun
  | [d1, d2] => { results := [.lit (.bool true)], args := [d1, d2] }
  | _ => none }
def maxminScaleRow : OpenClaim := { program := "ytedjbjphpnkpoaa", sum := "429ac25b6d5f011d4d1d0e5f98432c178549223b10b59605f0737e5272c7238d", func := "queuelab/queuelablaw13.MaxminScale", spec := "maxminScale", unfollowed := true, recurses := true, apart := false }
def MaxminScaleSaid : Prop := maxminScaleRow.holds Try.pinned (OpenSpec.ofChange maxminScaleSpec)

/-- ITS FALSE NEIGHBOUR: 'it returns false'. Refute it at one input. -/
def maxminScaleWrong : ChangeSpec := { name := "maxminScale", fn := fun _ => fun
  | [d1, d2] => { results := [.lit (.bool false)], args := [d1, d2] }
  | _ => none }
def MaxminScaleWrongFalsely : Prop := maxminScaleRow.holds Try.pinned (OpenSpec.ofChange maxminScaleWrong)

/-- 'queuelablaw13.MaxminRoom': WHATEVER THE INPUT: true; the input reads as it did. -/
def maxminRoomSpec : ChangeSpec := { name := "maxminRoom", fn := fun _ => fun
  | [d1, d2, d3] => { results := [.lit (.bool true)], args := [d1, d2, d3] }
  | _ => none }
def maxminRoomRow : OpenClaim := { program := "ytedjbjphpnkpoaa", sum := "429ac25b6d5f011d4d1d0e5f98432c178549223b10b59605f0737e5272c7238d", func := "queuelab/queuelablaw13.MaxminRoom", spec := "maxminRoom", unfollowed := true, recurses := true, apart := false }
def MaxminRoomSaid : Prop := maxminRoomRow.holds Try.pinned (OpenSpec.ofChange maxminRoomSpec)

/-- ITS FALSE NEIGHBOUR: 'it returns false'. Refute it at one input. -/
def maxminRoomWrong : ChangeSpec := { name := "maxminRoom", fn := fun _ => fun
  | [d1, d2, d3] => { results := [.lit (.bool false)], args := [d1, d2, d3] }
  | _ => none }
def MaxminRoomWrongFalsely : Prop := maxminRoomRow.holds Try.pinned (OpenSpec.ofChange maxminRoomWrong)

/-- 'queuelablaw13.MaxminOrder': WHATEVER THE INPUT: true; the input reads as it did. -/
def maxminOrderSpec : ChangeSpec := { name := "maxminOrder", fn := fun _ => fun
  | [d] => { results := [.lit (.bool true)], args := [d] }
  | _ => none }
def maxminOrderRow : OpenClaim := { program := "ytedjbjphpnkpoaa", sum := "429ac25b6d5f011d4d1d0e5f98432c178549223b10b59605f0737e5272c7238d", func := "queuelab/queuelablaw13.MaxminOrder", spec := "maxminOrder", unfollowed := true, recurses := true, apart := false }
def MaxminOrderSaid : Prop := maxminOrderRow.holds Try.pinned (OpenSpec.ofChange maxminOrderSpec)

/-- ITS FALSE NEIGHBOUR: 'it returns false'. Refute it at one input. -/
def maxminOrderWrong : ChangeSpec := { name := "maxminOrder", fn := fun _ => fun
  | [d] => { results := [.lit (.bool false)], args := [d] }
  | _ => none }
def MaxminOrderWrongFalsely : Prop := maxminOrderRow.holds Try.pinned (OpenSpec.ofChange maxminOrderWrong)

/-- 'queuelablaw13.MaxminFairest': WHATEVER THE INPUT: true; the input reads as it did. -/
def maxminFairestSpec : ChangeSpec := { name := "maxminFairest", fn := fun _ => fun
  | [d1, d2, d3] => { results := [.lit (.bool true)], args := [d1, d2, d3] }
  | _ => none }
def maxminFairestRow : OpenClaim := { program := "ytedjbjphpnkpoaa", sum := "429ac25b6d5f011d4d1d0e5f98432c178549223b10b59605f0737e5272c7238d", func := "queuelab/queuelablaw13.MaxminFairest", spec := "maxminFairest", unfollowed := true, recurses := true, apart := false }
def MaxminFairestSaid : Prop := maxminFairestRow.holds Try.pinned (OpenSpec.ofChange maxminFairestSpec)

/-- ITS FALSE NEIGHBOUR: 'it returns false'. Refute it at one input. -/
def maxminFairestWrong : ChangeSpec := { name := "maxminFairest", fn := fun _ => fun
  | [d1, d2, d3] => { results := [.lit (.bool false)], args := [d1, d2, d3] }
  | _ => none }
def MaxminFairestWrongFalsely : Prop := maxminFairestRow.holds Try.pinned (OpenSpec.ofChange maxminFairestWrong)

/- THE SECOND FORM. 'bulk': how many values and letters a reading holds, each counted each time it is reached (what is shared counts as often as it is met; a slice's spare places count too). A statement '..UptoSaid' is the law's where the arguments, and the package variables that the reading takes, are together of bulk at most 1048576: NARROWER than '..Said'. Prove '..Said' where nothing that the law and all that it calls make is longer than what came in: it says more and counts as full. Else prove '..UptoSaid'. A law counts once. -/
mutual
def uptoBulk {H : Type} : DataW H → Nat
  | .lit (.string bytes) => bytes.length + 1
  | .lit _ => 1
  | .nil => 1
  | .ptr d => uptoBulk d + 1
  | .slice elems spare => uptoBulkAll elems + uptoBulkAll spare + 1
  | .agg parts => uptoBulkAll parts + 1
  | .iface _ d => uptoBulk d + 1
  | .map entries => uptoBulkEntries entries + 1
  | .held _ => 1
def uptoBulkAll {H : Type} : List (DataW H) → Nat
  | [] => 0
  | d :: r => uptoBulk d + uptoBulkAll r
def uptoBulkEntries {H : Type} : List (Lit × DataW H) → Nat
  | [] => 0
  | x :: r => uptoBulkEntry x + uptoBulkEntries r
def uptoBulkEntry {H : Type} : Lit × DataW H → Nat
  | (.string bytes, d) => bytes.length + uptoBulk d + 1
  | (_, d) => uptoBulk d + 1
 end
def uptoSmall : (H : Type) → List (DataW H) → Bool := fun _ ds => decide (uptoBulkAll ds ≤ 1048576)
def OpenSpec.upto (s : _root_.Go.ChangeSpec) : _root_.Go.OpenSpec := { _root_.Go.OpenSpec.ofChange s with cond := some uptoSmall }

/-- 'queuelablaw13.MaxminMatchesReference', WHERE WHAT IT READS IS OF BULK AT MOST 1048576: true; the input reads as it did. -/
def maxminMatchesReferenceUptoRow : OpenClaim := { program := "ytedjbjphpnkpoaa", sum := "429ac25b6d5f011d4d1d0e5f98432c178549223b10b59605f0737e5272c7238d", func := "queuelab/queuelablaw13.MaxminMatchesReference", spec := "maxminMatchesReference", unfollowed := true, recurses := true, apart := false, narrowed := true }
def MaxminMatchesReferenceUptoSaid : Prop := maxminMatchesReferenceUptoRow.holds Try.pinned (OpenSpec.upto maxminMatchesReferenceSpec)

/-- 'queuelablaw13.MaxminExactly', WHERE WHAT IT READS IS OF BULK AT MOST 1048576: true; the input reads as it did. -/
def maxminExactlyUptoRow : OpenClaim := { program := "ytedjbjphpnkpoaa", sum := "429ac25b6d5f011d4d1d0e5f98432c178549223b10b59605f0737e5272c7238d", func := "queuelab/queuelablaw13.MaxminExactly", spec := "maxminExactly", unfollowed := true, recurses := true, apart := false, narrowed := true }
def MaxminExactlyUptoSaid : Prop := maxminExactlyUptoRow.holds Try.pinned (OpenSpec.upto maxminExactlySpec)

/-- 'queuelablaw13.MaxminNoMore', WHERE WHAT IT READS IS OF BULK AT MOST 1048576: true; the input reads as it did. -/
def maxminNoMoreUptoRow : OpenClaim := { program := "ytedjbjphpnkpoaa", sum := "429ac25b6d5f011d4d1d0e5f98432c178549223b10b59605f0737e5272c7238d", func := "queuelab/queuelablaw13.MaxminNoMore", spec := "maxminNoMore", unfollowed := true, recurses := true, apart := false, narrowed := true }
def MaxminNoMoreUptoSaid : Prop := maxminNoMoreUptoRow.holds Try.pinned (OpenSpec.upto maxminNoMoreSpec)

/-- 'queuelablaw13.MaxminScale', WHERE WHAT IT READS IS OF BULK AT MOST 1048576: true; the input reads as it did. -/
def maxminScaleUptoRow : OpenClaim := { program := "ytedjbjphpnkpoaa", sum := "429ac25b6d5f011d4d1d0e5f98432c178549223b10b59605f0737e5272c7238d", func := "queuelab/queuelablaw13.MaxminScale", spec := "maxminScale", unfollowed := true, recurses := true, apart := false, narrowed := true }
def MaxminScaleUptoSaid : Prop := maxminScaleUptoRow.holds Try.pinned (OpenSpec.upto maxminScaleSpec)

/-- 'queuelablaw13.MaxminRoom', WHERE WHAT IT READS IS OF BULK AT MOST 1048576: true; the input reads as it did. -/
def maxminRoomUptoRow : OpenClaim := { program := "ytedjbjphpnkpoaa", sum := "429ac25b6d5f011d4d1d0e5f98432c178549223b10b59605f0737e5272c7238d", func := "queuelab/queuelablaw13.MaxminRoom", spec := "maxminRoom", unfollowed := true, recurses := true, apart := false, narrowed := true }
def MaxminRoomUptoSaid : Prop := maxminRoomUptoRow.holds Try.pinned (OpenSpec.upto maxminRoomSpec)

/-- 'queuelablaw13.MaxminOrder', WHERE WHAT IT READS IS OF BULK AT MOST 1048576: true; the input reads as it did. -/
def maxminOrderUptoRow : OpenClaim := { program := "ytedjbjphpnkpoaa", sum := "429ac25b6d5f011d4d1d0e5f98432c178549223b10b59605f0737e5272c7238d", func := "queuelab/queuelablaw13.MaxminOrder", spec := "maxminOrder", unfollowed := true, recurses := true, apart := false, narrowed := true }
def MaxminOrderUptoSaid : Prop := maxminOrderUptoRow.holds Try.pinned (OpenSpec.upto maxminOrderSpec)

/-- 'queuelablaw13.MaxminFairest', WHERE WHAT IT READS IS OF BULK AT MOST 1048576: true; the input reads as it did. -/
def maxminFairestUptoRow : OpenClaim := { program := "ytedjbjphpnkpoaa", sum := "429ac25b6d5f011d4d1d0e5f98432c178549223b10b59605f0737e5272c7238d", func := "queuelab/queuelablaw13.MaxminFairest", spec := "maxminFairest", unfollowed := true, recurses := true, apart := false, narrowed := true }
def MaxminFairestUptoSaid : Prop := maxminFairestUptoRow.holds Try.pinned (OpenSpec.upto maxminFairestSpec)

end Rows
end Go.Proofs.Ytedjbjphpnkpoaa
