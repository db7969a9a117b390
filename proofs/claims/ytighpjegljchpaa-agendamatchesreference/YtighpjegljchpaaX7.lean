/- The law AgendaMatchesReference returns true for every input, and each argument reads as it read before; no conditions. This file: the row, last of the parts. -/
import Derived.Test.YtighpjegljchpaaRows
import Derived.WalkKit
import Derived.ProofKit
import Derived.OpenShut
import Derived.ShutString
import Derived.ChangeOld
import Derived.Below
import Derived.SizedLaws
import Derived.Test.YtighpjegljchpaaX6
section
set_option linter.unusedVariables false
/- The law AgendaMatchesReference: its row. -/
namespace Go.Proofs.Ytighpjegljchpaa.agendaMatchesReference
open Go.PI Go.ChangeShapes Go.WideShapes Go.ChangeAt Go.RowKit
theorem own : ownKnob Try.prog.godebug = none := by kernel_rfl
theorem laidOut : laidOutB Try.prog = true := by kernel_rfl
theorem okWide_struct {P : Program} {w : World} {r : Reach} {base : Nat} {t : TypeId} {v : Value} {fs : Array Field} (ht : P.underlying t = some (.struct fs)) (h : Value.okWide P w r base t v) : ∃ cs, v = .agg cs := by
  unfold Value.okWide at h
  rw [ht] at h
  obtain ⟨cs, h, _⟩ := h
  exact ⟨cs, h⟩
theorem rep_agg {E : Env} {l : List AV} {cs : Array Value} (h : RepL E false l (Value.agg cs).cells.toList) : Rep E false (.agg l) (.agg cs) := by
  simp only [Rep]
  exact ⟨cs.toList, by simp, by simpa [Value.cells] using h⟩
theorem rep_slice {E : Env} {l : List AV} {a : Option Addr} {len cap : Nat} (h : RepL E false l (Value.slice a len cap).cells.toList) {x : AV} (hl : l = [x]) : Rep E false x (.slice a len cap) := by
  subst hl
  have h2 : Rep E false x (Value.slice a len cap) ∧ leafV (Value.slice a len cap) = true := by simpa [Value.cells, RepL] using h
  exact h2.1
set_option maxRecDepth 100000 in
theorem walk (W : World) (cs0 : Array Value) (cs1 : Array Value) (a2 : Int) (a3 : Int) (a4 : Int) {l0 : List AV} {l1 : List AV} (e0 : RepL (Env.all W) false l0 (Value.agg cs0 : Value).cells.toList) (e1 : RepL (Env.all W) false l1 (Value.agg cs1 : Value).cells.toList) {n0 : Nat} (s0 : Shape Try.prog n0 24 l0) {n1 : Nat} (s1 : Shape Try.prog n1 32 l1) (hw2 : (Lit.int .i64 a2).wf = true) (hw3 : (Lit.int .i64 a3).wf = true) (hw4 : (Lit.int .i64 a4).wf = true) : Calls Try.prog 3 #[.agg cs0, .agg cs1, .int .i64 a2, .int .i64 a3, .int .i64 a4] W fun e w' => e = .returned (.bool true) ∧ Below W.heap.size W w' := by
  obtain ⟨x0, w0, r0⟩ := sh23 (shape_same (show Try.prog.underlying 24 = Try.prog.underlying 23 by kernel_rfl) s0)
  obtain ⟨x1, w1, r1⟩ := sh31 (shape_same (show Try.prog.underlying 32 = Try.prog.underlying 31 by kernel_rfl) s1)
  have hs : SumOk C T 3 ⟨[24, 32, 3, 3, 3], [4], fun x => Go.Models.law25_AgendaMatchesReference x.1 x.2.1 x.2.2.1 x.2.2.2.1 x.2.2.2.2⟩ := mkS_sum s25 rfl
  refine law_true Cok hs rfl (x := (x0, x1, a2, a3, a4)) (y := true) (matches_law x0 x1 a2 a3 a4) ?_ («as» := [.agg l0, .agg l1, .lit (.int .i64 a2), .lit (.int .i64 a3), .lit (.int .i64 a4)]) ⟨r0, r1, rfl, rfl, rfl, trivial⟩ (show GlobOk (Env.all W) from fun b c h => by cases h) (vs := [.agg cs0, .agg cs1, .int .i64 a2, .int .i64 a3, .int .i64 a4]) ?_
  · intro l hl
    match l, hl with
    | [a], hl => have : a = .lit (.bool true) := hl.1; rw [this]
    | [], hl => exact False.elim hl
    | _ :: _ :: _, hl => exact False.elim hl.2
  · simp only [RepT]
    exact ⟨rep_agg e0, rep_agg e1, by simp [Rep], by simp [Rep], by simp [Rep], trivial⟩
set_option maxRecDepth 100000 in
theorem lifted (os : Os) (started : os.Started) (H : Type) (enc : TypeId × Value → H) :
    ReturnsInHanded {} Try.checked os 3 .any (Rows.agendaMatchesReferenceSpec.pre6 enc Try.prog Try.f3 Rows.agendaMatchesReferenceRow.domain false) (Rows.agendaMatchesReferenceSpec.post enc Try.prog Try.f3 false true false false) := by
  refine returnsInHanded_of_change_sized (C := Try.checked) own started (by kernel_rfl) Try.func3
    (ChangeSpec.witness6 (enc := enc) (C := Try.checked) false ⟨#[], #[.agg #[.slice none 0 0, .int .i64 0], .agg #[.int .i64 0, .int .i64 0, .int .i64 0, .int .i64 0, .int .i64 0, .int .i64 0, .int .i64 0, .int .i64 0, .int .i64 0, .int .i64 0, .int .i64 0, .bool false, .bool false, .int .i64 0, .int .i64 0, .int .i64 0, .int .i64 0, .bool false, .int .i64 0, .int .i64 0, .int .i64 0], .int .i64 0, .int .i64 0, .int .i64 0], []⟩ 8 (by kernel_rfl) (by kernel_rfl) (by kernel_rfl) (by kernel_rfl)) ?_
  intro W base args ds gs before hval0 hW hcnd hsz0 _
  have hval : ∀ (j : Nat) t v, Try.f3.params[j]? = some t → args[j]? = some v → Value.okWide Try.prog W .any base t v := hval0
  have hW' := hW
  obtain ⟨p, q, hA0, hV, rfl, hfz, hnd⟩ := hW
  have hA : DataW.TrodAll enc Try.prog W 0 (fun _ => true) true Try.f3.params.toList args.toList ds p := hA0
  rw [Try.params3] at hA hval
  obtain ⟨v0, vs0, d0, ds0, p0, q0, hargs, rfl, rfl, h0, r0⟩ := trodAll_cons hA
  obtain ⟨v1, vs1, d1, ds1, p1, q1, rfl, rfl, rfl, h1, r1⟩ := trodAll_cons r0
  obtain ⟨v2, vs2, d2, ds2, p2, q2, rfl, rfl, rfl, h2, r2⟩ := trodAll_cons r1
  obtain ⟨v3, vs3, d3, ds3, p3, q3, rfl, rfl, rfl, h3, r3⟩ := trodAll_cons r2
  obtain ⟨v4, vs4, d4, ds4, p4, q4, rfl, rfl, rfl, h4, r4⟩ := trodAll_cons r3
  obtain ⟨rfl, rfl, rfl⟩ := trodAll_nil r4
  obtain rfl : args = #[v0, v1, v2, v3, v4] := by cases args; simp_all
  obtain ⟨rfl, rfl⟩ := trodVars_none hV
  obtain ⟨cs0, rfl⟩ := okWide_struct Try.underlying24 (hval 0 24 v0 rfl rfl)
  obtain ⟨cs1, rfl⟩ := okWide_struct Try.underlying32 (hval 1 32 v1 rfl rfl)
  obtain ⟨a2, rfl, rfl, rfl, w2⟩ := open_int Try.underlying3 (hval 2 3 v2 rfl rfl) h2
  obtain ⟨a3, rfl, rfl, rfl, w3⟩ := open_int Try.underlying3 (hval 3 3 v3 rfl rfl) h3
  obtain ⟨a4, rfl, rfl, rfl, w4⟩ := open_int Try.underlying3 (hval 4 3 v4 rfl rfl) h4
  have k0 := h0
  have lt0 : ∀ x ∈ p0, x.block < W.heap.size := by obtain ⟨m, hm⟩ := k0; exact DataW.trod_lt m _ _ _ hm
  have k1 := h1
  have lt1 : ∀ x ∈ p1, x.block < W.heap.size := by obtain ⟨m, hm⟩ := k1; exact DataW.trod_lt m _ _ _ hm
  obtain ⟨f0, hf0⟩ := h0
  obtain ⟨l0, e0, s0⟩ := read_ok f0 10 24 _ _ (by kernel_rfl) hf0
  obtain ⟨f1, hf1⟩ := h1
  obtain ⟨l1, e1, s1⟩ := read_ok f1 10 32 _ _ (by kernel_rfl) hf1
  clear hA0 hval0 hsz0
  refine (walk W cs0 cs1 a2 a3 a4 e0 e1 s0 s1 w2 w3 w4).mono fun e W' ⟨he, bel⟩ => ?_
  subst he
  exact ⟨_, rfl, _, _, _, [], _, [], hW', trodAll_mk1 (shut_bool Try.underlying4 _), (trodAll_cons_mk (Below.trod laidOut (by kernel_rfl) (of_decide_eq_true (by kernel_rfl)) k0 bel lt0) (trodAll_cons_mk (Below.trod laidOut (by kernel_rfl) (of_decide_eq_true (by kernel_rfl)) k1 bel lt1) (trodAll_cons_mk (shut_int Try.underlying3 w2) (trodAll_cons_mk (shut_int Try.underlying3 w3) (trodAll_cons_mk (shut_int Try.underlying3 w4) trodAll_mk0))))), rfl, bel.frame _, fun h => by cases h⟩
theorem over : Rows.agendaMatchesReferenceRow.holds Try.pinned (OpenSpec.ofChange Rows.agendaMatchesReferenceSpec) :=
  OpenClaim.holds_of_wide 3 Try.f3 rfl rfl rfl rfl rfl rfl rfl ⟨rfl, rfl, rfl, rfl, rfl⟩ rfl rfl rfl rfl rfl (by kernel_rfl) Try.func3 (by kernel_rfl)
    (of_decide_eq_true (by kernel_rfl)) (by unfold Func.isWrapper; first | (rw [if_pos (by decide +kernel)]; kernel_rfl) | (rw [if_neg (by decide +kernel)]; exact ⟨rfl, rfl⟩))
    (fun os started H enc _ => lifted os started H enc)
theorem proved : Rows.AgendaMatchesReferenceSaid := over
end Go.Proofs.Ytighpjegljchpaa.agendaMatchesReference
namespace Go.Proofs.Ytighpjegljchpaa
/-- The row, under a short name, for the claim. -/
theorem agendaMatchesReference_holds : Rows.AgendaMatchesReferenceSaid := agendaMatchesReference.proved
end Go.Proofs.Ytighpjegljchpaa
end
