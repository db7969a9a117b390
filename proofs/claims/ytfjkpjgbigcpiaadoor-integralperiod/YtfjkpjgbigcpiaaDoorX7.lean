/- The law IntegralPeriod returns true for every input, and each argument reads as it read before; the package variable that it reads is laid by the program's text (a tied card); no conditions. This file: the row and the card, last of the parts. -/
import Derived.Test.YtfjkpjgbigcpiaaDoorRows
import Derived.Test.YtfjkpjgbigcpiaaDoorCards
import Derived.Test.YtfjkpjgbigcpiaaDoorTie
import Derived.WalkKit
import Derived.ProofKit
import Derived.OpenShut
import Derived.ShutString
import Derived.ChangeOld
import Derived.Below
import Derived.SizedLaws
import Derived.LaidMore
import Derived.MakeChecks
import Derived.Lay
import Derived.LaidOnce
import Derived.SevenTiedAt
import Derived.Test.YtfjkpjgbigcpiaaDoorX6
section
set_option linter.unusedVariables false
set_option maxRecDepth 100000
namespace Go.Proofs.YtfjkpjgbigcpiaaDoor
open Go.PI Go.Pl

theorem put_vars {q : Queue} {p : Packet} {now : Int} (h : (putR q p now).2.2 = 0) : errB q now = 0 ∧ (putR q p now).1.Vars.e0 = u0 q now ∧ (putR q p now).1.Vars.e1 = u1 q now ∧ (putR q p now).1.Vars.e2 = u2 q now ∧ (putR q p now).1.Vars.e7 = now := by
  unfold putR at *
  cases hp : okP p
  · rw [hp] at h
    have h' : (1 : Int) = 0 := h
    exact absurd h' (by decide)
  cases he : (errB q now == 0)
  · rw [hp, he] at h
    have h' : errB q now = 0 := h
    rw [h'] at he
    exact absurd he (by decide)
  have he0 : errB q now = 0 := by simpa using he
  obtain ⟨hv, ht, hle⟩ := err_zero he0
  obtain ⟨l, hg⟩ := good_of hv
  rw [hg.lists]
  refine ⟨he0, ?_⟩
  simp only [Bool.not_true, cond_false]
  cases ((l.length : Int) == q.Room) <;> cases decide (rn q.Seed < u0 q now) <;> cases p.Able <;> exact ⟨rfl, rfl, rfl, rfl⟩

theorem take_vars {q : Queue} {now : Int} (h : (takeR q now).2.2.2.2 = 0) : errB q now = 0 ∧ (takeR q now).1.Vars.e0 = u0 q now ∧ (takeR q now).1.Vars.e1 = u1 q now ∧ (takeR q now).1.Vars.e2 = u2 q now ∧ (takeR q now).1.Vars.e7 = now := by
  unfold takeR at *
  cases he : (errB q now == 0)
  · rw [he] at h
    have h' : errB q now = 0 := h
    rw [h'] at he
    exact absurd he (by decide)
  have he0 : errB q now = 0 := by simpa using he
  obtain ⟨hv, ht, hle⟩ := err_zero he0
  obtain ⟨l, hg⟩ := good_of hv
  rw [hg.lists]
  refine ⟨he0, ?_⟩
  match l with
  | [] => exact ⟨rfl, rfl, rfl, rfl⟩
  | x :: xs => exact ⟨rfl, rfl, rfl, rfl⟩

theorem wrap_ok {q : Queue} {now : Int} (h : errB q now = 0) : IntKind.i64.wrap (now - q.Vars.e1) = now - q.Vars.e1 := by
  obtain ⟨hv, ht, hle⟩ := err_zero h
  obtain ⟨l, hg⟩ := good_of hv
  have h3 := hg.e1
  have h7 := hg.e7
  simp only [okT, Bool.and_eq_true, decide_eq_true_eq] at ht
  exact IntWalk.i64_in _ (by omega)

theorem period_eq (q : Queue) (p : Packet) (now : Int) (hb : bnd q) : Models.law21_IntegralPeriod q p now = some true := by
  have hl : ∀ l ∈ q.Lists, l.length ≤ 2 ^ 63 - 1 := hb.2
  unfold Models.law21_IntegralPeriod
  rw [few_some hb, tput_eq q p now hl, ttake_eq q now hl]
  simp only [Models.law21_head, Option.bind_some]
  cases (bif q.Lists.all (fun l => decide (l.length ≤ 600)) then decide ((q.Lists.length : Int) ≤ 20) else false)
  · rfl
  have H1 := put_vars (q := q) (p := p) (now := now)
  have H2 := take_vars (q := q) (now := now)
  generalize putR q p now = R1 at *
  generalize takeR q now = R2 at *
  obtain ⟨q3, l4, i5⟩ := R1
  obtain ⟨q6, q7, b8, l9, i10⟩ := R2
  simp only at H1 H2
  simp only [Bool.not_true, cond_false, cond_true]
  by_cases hd : IntKind.i64.wrap (now - q.Vars.e1) < 16000
  · have hd2 : ¬ 16000 ≤ IntKind.i64.wrap (now - q.Vars.e1) := by omega
    have small : errB q now = 0 → u0 q now = q.Vars.e0 ∧ u1 q now = q.Vars.e1 ∧ u2 q now = q.Vars.e2 := by
      intro h
      rw [wrap_ok h] at hd
      simp only [u0, u1, u2, if_pos hd, and_self]
    simp only [hd, hd2, decide_true, decide_false, cond_true, cond_false]
    by_cases h5 : i5 = 0
    · obtain ⟨he, a0, a1, a2, a7⟩ := H1 h5
      obtain ⟨s0, s1, s2⟩ := small he
      rw [s0] at a0; rw [s1] at a1; rw [s2] at a2
      have b5 : (i5 == 0) = true := by simpa using h5
      by_cases h10 : i10 = 0
      · obtain ⟨_, c0, c1, c2, c7⟩ := H2 h10
        rw [s0] at c0; rw [s1] at c1; rw [s2] at c2
        have b10 : (i10 == 0) = true := by simpa using h10
        simp only [b5, b10, a0, a1, a2, a7, c0, c1, c2, c7, beq_self_eq_true, cond_true, cond_false, Bool.not_true]
      · have b10 : (i10 == 0) = false := by simpa using h10
        simp only [b5, b10, a0, a1, a2, a7, beq_self_eq_true, cond_true, cond_false, Bool.not_true, Bool.not_false]
    · have b5 : (i5 == 0) = false := by simpa using h5
      by_cases h10 : i10 = 0
      · obtain ⟨he, c0, c1, c2, c7⟩ := H2 h10
        obtain ⟨s0, s1, s2⟩ := small he
        rw [s0] at c0; rw [s1] at c1; rw [s2] at c2
        have b10 : (i10 == 0) = true := by simpa using h10
        simp only [b5, b10, c0, c1, c2, c7, beq_self_eq_true, cond_true, cond_false, Bool.not_true, Bool.not_false]
      · have b10 : (i10 == 0) = false := by simpa using h10
        simp only [b5, b10, cond_true, cond_false, Bool.not_false]
  · have hd2 : 16000 ≤ IntKind.i64.wrap (now - q.Vars.e1) := by omega
    have big : errB q now = 0 → u1 q now = now := by
      intro h
      rw [wrap_ok h] at hd
      simp only [u1, if_neg hd]
    simp only [hd, hd2, decide_true, decide_false, cond_true, cond_false]
    by_cases h5 : i5 = 0
    · obtain ⟨he, a0, a1, a2, a7⟩ := H1 h5
      have s1 := big he
      rw [s1] at a1
      have b5 : (i5 == 0) = true := by simpa using h5
      by_cases h10 : i10 = 0
      · obtain ⟨_, c0, c1, c2, c7⟩ := H2 h10
        rw [s1] at c1
        have b10 : (i10 == 0) = true := by simpa using h10
        simp only [b5, b10, a0, a1, a2, a7, c0, c1, c2, c7, beq_self_eq_true, cond_true, cond_false, Bool.not_true]
      · have b10 : (i10 == 0) = false := by simpa using h10
        simp only [b5, b10, a0, a1, a2, a7, beq_self_eq_true, cond_true, cond_false, Bool.not_true, Bool.not_false]
    · have b5 : (i5 == 0) = false := by simpa using h5
      by_cases h10 : i10 = 0
      · obtain ⟨he, c0, c1, c2, c7⟩ := H2 h10
        have s1 := big he
        rw [s1] at c1
        have b10 : (i10 == 0) = true := by simpa using h10
        simp only [b5, b10, c0, c1, c2, c7, beq_self_eq_true, cond_true, cond_false, Bool.not_true, Bool.not_false]
      · have b10 : (i10 == 0) = false := by simpa using h10
        simp only [b5, b10, cond_true, cond_false, Bool.not_false]

end Go.Proofs.YtfjkpjgbigcpiaaDoor
end

section
set_option linter.unusedVariables false
/- The law IntegralPeriod: its row. -/
namespace Go.Proofs.YtfjkpjgbigcpiaaDoor.integralPeriod
open Go.PI Go.ChangeShapes Go.WideShapes Go.ChangeAt Go.RowKit
theorem own : ownKnob Tryd.prog.godebug = none := by kernel_rfl
theorem laidOut : laidOutB Tryd.prog = true := by kernel_rfl
theorem okWide_struct {P : Program} {w : World} {r : Reach} {base : Nat} {t : TypeId} {v : Value} {fs : Array Field} (ht : P.underlying t = some (.struct fs)) (h : Value.okWide P w r base t v) : ∃ cs, v = .agg cs := by
  unfold Value.okWide at h
  rw [ht] at h
  obtain ⟨cs, h, _⟩ := h
  exact ⟨cs, h⟩
theorem rep_agg {E : Env} {l : List AV} {cs : Array Value} (h : RepL E false l (Value.agg cs).cells.toList) : Rep E false (.agg l) (.agg cs) := by
  simp only [Rep]
  exact ⟨cs.toList, by simp, by simpa [Value.cells] using h⟩
theorem rep_slice {E : Env} {l : List AV} {a : Option Addr} {len cap : Nat} (h : RepL E false l (Value.slice a len cap).cells.toList) {x : AV} (hl : l = [x]) : Rep E false x (.slice a len cap) := by
  subst hl
  have h2 : Rep E false x (Value.slice a len cap) ∧ leafV (Value.slice a len cap) = true := by simpa [Value.cells, RepL] using h
  exact h2.1
theorem walk (W : World) (cs0 : Array Value) (cs1 : Array Value) (a2 : Int) {l0 : List AV} {l1 : List AV} (e0 : RepL (Env.all W) false l0 (Value.agg cs0 : Value).cells.toList) (e1 : RepL (Env.all W) false l1 (Value.agg cs1 : Value).cells.toList) {n0 : Nat} (s0 : Shape Tryd.prog n0 28 l0) {n1 : Nat} (s1 : Shape Tryd.prog n1 30 l1) (hw2 : (Lit.int .i64 a2).wf = true) (hG : GlobOk (Env.all W)) : Calls Tryd.prog 8 #[.agg cs0, .agg cs1, .int .i64 a2] W fun e w' => e = .returned (.bool true) ∧ Below W.heap.size W w' := by
  obtain ⟨x0, w0, r0⟩ := sh27 (shape_same (show Tryd.prog.underlying 28 = Tryd.prog.underlying 27 by kernel_rfl) s0)
  obtain ⟨x1, w1, r1⟩ := sh29 (shape_same (show Tryd.prog.underlying 30 = Tryd.prog.underlying 29 by kernel_rfl) s1)
  have hs : SumOk C T 8 ⟨[28, 30, 3], [4], fun x => Go.Models.law21_IntegralPeriod x.1 x.2.1 x.2.2⟩ := mkS_sum s38 rfl
  refine law_true Cok hs rfl (x := (x0, x1, a2)) (y := true) (period_eq x0 x1 a2 (bnd_wf w0)) ?_ («as» := [.agg l0, .agg l1, .lit (.int .i64 a2)]) ⟨r0, r1, rfl, trivial⟩ hG (vs := [.agg cs0, .agg cs1, .int .i64 a2]) ?_
  · intro l hl
    match l, hl with
    | [a], hl => have : a = .lit (.bool true) := hl.1; rw [this]
    | [], hl => exact False.elim hl
    | _ :: _ :: _, hl => exact False.elim hl.2
  · simp only [RepT]
    exact ⟨rep_agg e0, rep_agg e1, by simp [Rep], trivial⟩
set_option maxRecDepth 100000 in
theorem lifted (os : Os) (started : os.Started) (H : Type) (enc : TypeId × Value → H) :
    ReturnsInHanded {} Tryd.checked os 8 .any (fun w args => (Rows.integralPeriodSpec.pre enc Tryd.prog Tryd.f8 [] false w args ∧ laidMetH Tryd.prog Rows.integralPeriodRow.laid w) ∧ sizedMet enc Tryd.prog Tryd.f8 (OpenSpec.ofChange Rows.integralPeriodSpec) false w args) (Rows.integralPeriodSpec.post enc Tryd.prog Tryd.f8 false true false false) := by
  refine returnsInHanded_of_change_and (C := Tryd.checked) (X := fun w _ => laidMetH Tryd.prog Rows.integralPeriodRow.laid w) (fun _ _ _ hh h => h.of_heap hh) own started (by kernel_rfl) Tryd.func8
    (ChangeSpec.witness_at (enc := enc) (C := Tryd.checked) (os := os) (X := fun w _ => laidMetH Tryd.prog Rows.integralPeriodRow.laid w) false (World.laidAll Tryd.prog os Rows.integralPeriodRow.laid) #[.agg #[.int .i64 0, .int .i64 0, .int .i64 0, .int .i64 0, .int .i64 0, .slice none 0 0, .int .i64 0, .int .i64 0, .int .i64 0, .int .i64 0, .int .i64 0, .int .i64 0, .int .i64 0, .int .i64 0, .int .u64 0], .agg #[.int .i64 0, .int .i64 0, .int .i64 0, .int .i64 0, .int .i64 0, .int .i64 0, .bool false, .bool false], .int .i64 0] 8 (World.laidAll_os _ _ _) (by kernel_rfl) (by kernel_rfl) (by kernel_rfl) (by kernel_rfl) (by kernel_rfl)
      (by rw [MakeChecks.laidMetH_plain _ _ _ (by kernel_rfl)]; exact laidMet_laidAll _ (by kernel_rfl) (by kernel_rfl))) ?_
  intro W base args ds gs before hval0 hW _ _ hL _
  have hG : GlobOk (Env.all W) := globOk hL
  have hval : ∀ (j : Nat) t v, Tryd.f8.params[j]? = some t → args[j]? = some v → Value.okWide Tryd.prog W .any base t v := hval0
  have hW' := hW
  obtain ⟨p, q, hA0, hV, rfl, hfz, hnd⟩ := hW
  have hA : DataW.TrodAll enc Tryd.prog W 0 (fun _ => true) true Tryd.f8.params.toList args.toList ds p := hA0
  rw [Tryd.params8] at hA hval
  obtain ⟨v0, vs0, d0, ds0, p0, q0, hargs, rfl, rfl, h0, r0⟩ := trodAll_cons hA
  obtain ⟨v1, vs1, d1, ds1, p1, q1, rfl, rfl, rfl, h1, r1⟩ := trodAll_cons r0
  obtain ⟨v2, vs2, d2, ds2, p2, q2, rfl, rfl, rfl, h2, r2⟩ := trodAll_cons r1
  obtain ⟨rfl, rfl, rfl⟩ := trodAll_nil r2
  obtain rfl : args = #[v0, v1, v2] := by cases args; simp_all
  obtain ⟨rfl, rfl⟩ := trodVars_none hV
  obtain ⟨cs0, rfl⟩ := okWide_struct Tryd.underlying28 (hval 0 28 v0 rfl rfl)
  obtain ⟨cs1, rfl⟩ := okWide_struct Tryd.underlying30 (hval 1 30 v1 rfl rfl)
  obtain ⟨a2, rfl, rfl, rfl, w2⟩ := open_int Tryd.underlying3 (hval 2 3 v2 rfl rfl) h2
  have k0 := h0
  have lt0 : ∀ x ∈ p0, x.block < W.heap.size := by obtain ⟨m, hm⟩ := k0; exact DataW.trod_lt m _ _ _ hm
  have k1 := h1
  have lt1 : ∀ x ∈ p1, x.block < W.heap.size := by obtain ⟨m, hm⟩ := k1; exact DataW.trod_lt m _ _ _ hm
  obtain ⟨f0, hf0⟩ := h0
  obtain ⟨l0, e0, s0⟩ := read_ok f0 10 28 _ _ (by kernel_rfl) hf0
  obtain ⟨f1, hf1⟩ := h1
  obtain ⟨l1, e1, s1⟩ := read_ok f1 10 30 _ _ (by kernel_rfl) hf1
  clear hA0 hval0
  refine (walk W cs0 cs1 a2 e0 e1 s0 s1 w2 hG).mono fun e W' ⟨he, bel⟩ => ?_
  subst he
  exact ⟨_, rfl, _, _, _, [], _, [], hW', trodAll_mk1 (shut_bool Tryd.underlying4 _), (trodAll_cons_mk (Below.trod laidOut (by kernel_rfl) (of_decide_eq_true (by kernel_rfl)) k0 bel lt0) (trodAll_cons_mk (Below.trod laidOut (by kernel_rfl) (of_decide_eq_true (by kernel_rfl)) k1 bel lt1) (trodAll_cons_mk (shut_int Tryd.underlying3 w2) trodAll_mk0))), rfl, bel.frame _, fun h => by cases h⟩
theorem over : Rows.integralPeriodRow.holds Tryd.pinned (OpenSpec.ofChange Rows.integralPeriodSpec) :=
  OpenClaim.holds_of_wide 8 Tryd.f8 rfl rfl rfl rfl rfl rfl rfl ⟨rfl, rfl, rfl, rfl, rfl⟩ rfl rfl rfl rfl rfl (by kernel_rfl) Tryd.func8 (by kernel_rfl)
    (of_decide_eq_true (by kernel_rfl)) (by unfold Func.isWrapper; first | (rw [if_pos (by decide +kernel)]; kernel_rfl) | (rw [if_neg (by decide +kernel)]; exact ⟨rfl, rfl⟩))
    (fun os started H enc _ => lifted os started H enc)
theorem proved : Rows.IntegralPeriodSaid := over
theorem card : Rows.IntegralPeriodCardSaid :=
  Claim7.holds_tied_plain_at .later [] [.data] true (true, "105d156e0701894084c3f098812b09192154abd4eeca6a17becc14797918a3c7") false proved (fun _ h => by cases h) (by kernel_rfl) (fun _ h => by cases h) integralPeriod_row_tie rfl ⟨rfl, rfl⟩ (by kernel_rfl) rfl
    (fun f fn hf hfn => by
      obtain rfl : f = 8 := Option.some.inj ((show Tryd.prog.funcNamed "queuelab/queuelablaw21.IntegralPeriod" = some 8 by kernel_rfl).symm.trans hf) |>.symm
      obtain rfl : fn = Tryd.f8 := (Option.some.inj (Tryd.func8.symm.trans hfn)).symm
      exact ⟨by kernel_rfl, fun j t ht => by
        rw [Tryd.params8] at ht
        have hm : t ∈ [28, 30, 3] := by simpa using Array.mem_of_getElem? ht
        have hall : ([28, 30, 3].all fun u => !Tryd.prog.wantsStandIn u) = true := by kernel_rfl
        exact (show Tryd.prog.wantsStandIn t = false by simpa using List.all_eq_true.1 hall t hm)⟩)
    (by kernel_rfl)
end Go.Proofs.YtfjkpjgbigcpiaaDoor.integralPeriod
namespace Go.Proofs.YtfjkpjgbigcpiaaDoor
/-- The tied card, under a short name, for the claim. -/
theorem integralPeriod_card_holds : Rows.IntegralPeriodCardSaid := integralPeriod.card
end Go.Proofs.YtfjkpjgbigcpiaaDoor
end
