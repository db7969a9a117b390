/- The law AgendaLater returns true for every input, and each argument reads as it read before; no conditions. This file: the row, last of the parts. -/
import Derived.Test.YtighpjegljchpaaRows
import Derived.WalkKit
import Derived.ProofKit
import Derived.OpenShut
import Derived.ShutString
import Derived.ChangeOld
import Derived.Below
import Derived.SizedLaws
import Derived.Test.YtighpjegljchpaaX6
section
set_option linter.unusedVariables false
/- Plain laws of the agenda: validity kept, what is later, dropping. -/
set_option maxRecDepth 100000
namespace Go.Proofs.Ytighpjegljchpaa
open Go.PI Go.Pl

theorem valid_law (a : Agenda) (x : Itemx) (k m n : Int) : Models.law25_AgendaValid a x k m n = some true := by
  unfold Models.law25_AgendaValid Models.law25_head
  by_cases h : (a.List.length : Int) ≤ 5000
  case neg => simp [h]
  have hl : a.List.length ≤ 6000 := by omega
  simp only [h, decide_true, Option.bind_some, cond_true, aadd_eq, atake_eq a hl, adrop_eq, rvalid_eq]
  cases hv : validB a
  case false => rfl
  have ok := valid_iff.1 hv
  have okd := valid_iff.2 (ok_sub ok (l := a.List.filter (keepB k m n)) List.filter_sublist)
  have hld : decide (((a.List.filter (keepB k m n)).length : Int) ≤ (a.List.length : Int)) = true := by
    have := List.length_filter_le (keepB k m n) a.List
    simp; omega
  have hadd : ((addR a x).2 ≠ 0) ∨ ((addR a x).2 = 0 ∧ validB (addR a x).1 = true ∧ ((addR a x).1.List.length : Int) = (a.List.length : Int) + 1 ∧ (addR a x).1.Next = a.Next + 1) := by
    cases hf : fitsB x
    · left; unfold addR; simp [hv, hf]
    · by_cases h5 : a.List.length < 5000
      · by_cases h6 : a.Next < 1000000000
        · right
          rw [addR_ok ok hf h5 h6]
          exact ⟨rfl, valid_iff.2 (ok_add ok hf h5 h6), by simp [ins_len], rfl⟩
        · left; unfold addR
          have d5 : decide (5000 ≤ (a.List.length : Int)) = false := by simp; omega
          have d6 : decide (1000000000 ≤ a.Next) = true := by simp; omega
          simp [hv, hf, d5, d6]
      · left; unfold addR
        have d5 : decide (5000 ≤ (a.List.length : Int)) = true := by simp; omega
        simp [hv, hf, d5]
  have hn := ok.hi
  have hlo := ok.lo
  rw [dropR_ok ok]
  simp only [Bool.not_true, cond_false, okd, hld, beq_self_eq_true, cond_true]
  rw [i64_id (n := (a.List.length : Int) + 1) (by omega) (by omega), i64_id (n := a.Next + 1) (by omega) (by omega), i64_id (n := (a.List.length : Int) - 1) (by omega) (by omega)]
  have htake : validB (takeR a).1 = true ∧ (takeR a).2.2 = decide (0 < (a.List.length : Int)) ∧ ((takeR a).2.2 = true → ((takeR a).1.List.length : Int) = (a.List.length : Int) - 1) := by
    cases hL : a.List with
    | nil => rw [takeR_nil hL]; exact ⟨hv, by simp, by simp⟩
    | cons y l =>
      rw [takeR_ok ok hL]
      have hs : l.Sublist a.List := by rw [hL]; exact List.sublist_cons_self y l
      exact ⟨valid_iff.2 (ok_sub ok hs), by simp, by simp⟩
  obtain ⟨t1, t2, t3⟩ := htake
  simp only [t1, cond_true, t2, beq_self_eq_true]
  rw [t2] at t3
  rcases hadd with h1 | ⟨h1, h2, h3, h4⟩
  · have e1 : ((addR a x).2 == 0) = false := by simpa using h1
    simp only [e1, Bool.not_false, cond_true]
    cases hd : decide (0 < (a.List.length : Int))
    · rfl
    · have := t3 hd
      simp [this]
  · simp only [h1, h2, h3, h4, beq_self_eq_true, Bool.not_true, cond_false, cond_true]
    cases hd : decide (0 < (a.List.length : Int))
    · rfl
    · have := t3 hd
      simp [this]

theorem ints_self (l : List Int) (h : l.length ≤ 2 ^ 32) : Models.law25_ints l l = some true := by
  unfold Models.law25_ints
  simp only [beq_self_eq_true, Bool.not_true, cond_false]
  rw [loop_to (fun i => ((false, (i : Int)) : Bool × Int)) l.length (.inr (false, (l.length : Int)))]
  · rfl
  · intro i hi
    have h1 : ((i : Int) < (l.length : Int)) := by omega
    simp [h1, List.getElem?_eq_getElem hi, wrap_succ hi (by omega)]
  · simp
  · rfl

theorem taken_eq {a : Agenda} (ok : Ok a) : Models.law25_taken a = some (a.List.map Itemx.Number) := by
  unfold Models.law25_taken
  have hlen := ok.len
  let st : Nat → Int × List Int × List Int × List Itemx × Int := fun i => ((i : Int), [], (a.List.take i).map Itemx.Number, a.List.drop i, a.Next)
  have key : ∀ i, i ≤ a.List.length → Models.agenda_Take (Agenda.mk (a.List.drop i) a.Next) = some (takeR (Agenda.mk (a.List.drop i) a.Next)) := by
    intro i hi
    exact atake_eq _ (by simp; omega)
  rw [loop_to st a.List.length (.inl ([], a.List.map Itemx.Number, a.List.drop a.List.length, a.Next))]
  · rfl
  · intro i hi
    have h1 : ((i : Int) ≤ 5000) := by omega
    have hd := List.drop_eq_getElem_cons hi
    have hok : Ok (Agenda.mk (a.List.drop i) a.Next) := ok_sub ok (List.drop_sublist i a.List)
    have hr : (decide ((((a.List.take i).map Itemx.Number).length + 1) * 8 ≤ 2 ^ 44) && decide (((a.List.take i).map Itemx.Number).length + 1 ≤ 2 ^ 44)) = true := by
      simp; omega
    simp only [st, h1, decide_true, cond_true, key i (by omega), takeR_ok hok hd, Option.bind_some, Bool.not_true, cond_false, hr, wrap_succ hi (by omega)]
    rw [List.take_succ_eq_append_getElem hi, List.map_append]
    rfl
  · have h1 : ((a.List.length : Int) ≤ 5000) := by omega
    simp only [st, h1, decide_true, cond_true, key _ (Nat.le_refl _), Option.bind_some]
    rw [takeR_nil (by simp)]
    simp
  · simp [st]

theorem num_at (x : Itemx) (n : Int) : (num x n).At = x.At := rfl
theorem num_nu (x : Itemx) (n : Int) : (num x n).Number = n := rfl
theorem num_ki (x : Itemx) (n : Int) : (num x n).Kind = x.Kind := rfl
theorem num_a (x : Itemx) (n : Int) : (num x n).A = x.A := rfl
theorem num_b (x : Itemx) (n : Int) : (num x n).B = x.B := rfl
theorem num_p (x : Itemx) (n : Int) : (num x n).P = x.P := rfl
theorem num_k (x : Itemx) (n : Int) : (num x n).K = x.K := rfl
theorem num_c (x : Itemx) (n : Int) : (num x n).Change = x.Change := rfl

theorem later_law (a : Agenda) (x : Itemx) : Models.law25_AgendaLater a x = some true := by
  unfold Models.law25_AgendaLater Models.law25_head
  by_cases h : (a.List.length : Int) < 5000
  case neg => simp [h]
  have hl : a.List.length ≤ 6000 := by omega
  simp only [h, decide_true, Option.bind_some, cond_true, aadd_eq, rfits_eq, atake_eq a hl, rvalid_eq]
  cases hv : validB a
  case false => rfl
  have ok := valid_iff.1 hv
  cases hf : fitsB x
  case false => rfl
  cases h6 : decide (1000000000 ≤ a.Next)
  case true => rfl
  have hn : a.Next < 1000000000 := by simp at h6; omega
  have h5 : a.List.length < 5000 := by omega
  have oka := ok_add ok hf h5 hn
  simp only [cond_true, cond_false, Bool.not_true, addR_ok ok hf h5 hn, atake_eq ⟨ins (num x a.Next) a.List, a.Next + 1⟩ (by simp [ins_len]; omega), Option.bind_some, beq_self_eq_true]
  have sub {l : List Itemx} (hs : l.Sublist a.List) : Ok ⟨l, a.Next + 1⟩ := by
    refine ⟨oka.lo, oka.hi, Nat.le_trans hs.length_le ok.len, fun y hy => ?_, ok.ord.sublist hs, ok.num.sublist hs⟩
    obtain ⟨g1, g2, g3⟩ := ok.all y (hs.subset hy)
    exact ⟨g1, g2, by show y.Number < a.Next + 1; omega⟩
  cases hL : a.List with
  | nil =>
    have e : ins (num x a.Next) [] = [num x a.Next] := rfl
    rw [hL, e] at oka
    have ok0 : Ok ⟨[], a.Next + 1⟩ := sub (by simp)
    simp only [e, takeR_ok oka rfl, Bool.not_true, cond_false, List.length_nil, Int.natCast_zero, beq_self_eq_true, cond_true, num_at, num_nu, num_ki, num_a, num_b, num_p, num_k, num_c, Bool.and_self, taken_eq ok0, taken_eq ok, hL, List.map_nil, Option.bind_some, ints_self [] (by simp)]
  | cons y l =>
    have e0 : (((y :: l).length : Int) == 0) = false := by simp; omega
    by_cases hlt : x.At < y.At
    · have e : ins (num x a.Next) (y :: l) = num x a.Next :: y :: l := by
        show (if x.At < y.At then _ else _) = _
        rw [if_pos hlt]
      rw [hL, e] at oka
      have ok0 : Ok ⟨y :: l, a.Next + 1⟩ := sub (by rw [hL]; exact List.Sublist.refl _)
      have hi := ints_self ((y :: l).map Itemx.Number) (by rw [List.length_map, ← hL]; omega)
      have hg : (y :: l)[Int.toNat 0]? = some y := rfl
      simp only [e, takeR_ok oka rfl, Bool.not_true, cond_false, e0, hg, hlt, decide_true, beq_self_eq_true, cond_true, num_at, num_nu, num_ki, num_a, num_b, num_p, num_k, num_c, Bool.and_self, taken_eq ok0, taken_eq ok, hL, Option.bind_some, hi]
    · have e : ins (num x a.Next) (y :: l) = y :: ins (num x a.Next) l := by
        show (if x.At < y.At then _ else _) = _
        rw [if_neg hlt]
      rw [hL, e] at oka
      have hs : l.Sublist a.List := by rw [hL]; exact List.sublist_cons_self y l
      have ok0 := ok_sub ok hs
      have hle := hs.length_le
      have hg : (y :: l)[Int.toNat 0]? = some y := rfl
      have hsame := same_self ⟨ins (num x a.Next) l, a.Next + 1⟩ (by simp [ins_len]; omega)
      simp only [e, takeR_ok oka rfl, takeR_ok ok hL, addR_ok ok0 hf (by show l.length < 5000; omega) hn, Bool.not_true, cond_false, e0, hg, hlt, decide_false, beq_self_eq_true, cond_true, Bool.and_self, Option.bind_some, hsame]
end Go.Proofs.Ytighpjegljchpaa
end

section
set_option linter.unusedVariables false
/- The law AgendaLater: its row. -/
namespace Go.Proofs.Ytighpjegljchpaa.agendaLater
open Go.PI Go.ChangeShapes Go.WideShapes Go.ChangeAt Go.RowKit
theorem own : ownKnob Try.prog.godebug = none := by kernel_rfl
theorem laidOut : laidOutB Try.prog = true := by kernel_rfl
theorem okWide_struct {P : Program} {w : World} {r : Reach} {base : Nat} {t : TypeId} {v : Value} {fs : Array Field} (ht : P.underlying t = some (.struct fs)) (h : Value.okWide P w r base t v) : ∃ cs, v = .agg cs := by
  unfold Value.okWide at h
  rw [ht] at h
  obtain ⟨cs, h, _⟩ := h
  exact ⟨cs, h⟩
theorem rep_agg {E : Env} {l : List AV} {cs : Array Value} (h : RepL E false l (Value.agg cs).cells.toList) : Rep E false (.agg l) (.agg cs) := by
  simp only [Rep]
  exact ⟨cs.toList, by simp, by simpa [Value.cells] using h⟩
theorem rep_slice {E : Env} {l : List AV} {a : Option Addr} {len cap : Nat} (h : RepL E false l (Value.slice a len cap).cells.toList) {x : AV} (hl : l = [x]) : Rep E false x (.slice a len cap) := by
  subst hl
  have h2 : Rep E false x (Value.slice a len cap) ∧ leafV (Value.slice a len cap) = true := by simpa [Value.cells, RepL] using h
  exact h2.1
set_option maxRecDepth 100000 in
theorem walk (W : World) (cs0 : Array Value) (cs1 : Array Value) {l0 : List AV} {l1 : List AV} (e0 : RepL (Env.all W) false l0 (Value.agg cs0 : Value).cells.toList) (e1 : RepL (Env.all W) false l1 (Value.agg cs1 : Value).cells.toList) {n0 : Nat} (s0 : Shape Try.prog n0 24 l0) {n1 : Nat} (s1 : Shape Try.prog n1 32 l1) : Calls Try.prog 6 #[.agg cs0, .agg cs1] W fun e w' => e = .returned (.bool true) ∧ Below W.heap.size W w' := by
  obtain ⟨x0, w0, r0⟩ := sh23 (shape_same (show Try.prog.underlying 24 = Try.prog.underlying 23 by kernel_rfl) s0)
  obtain ⟨x1, w1, r1⟩ := sh31 (shape_same (show Try.prog.underlying 32 = Try.prog.underlying 31 by kernel_rfl) s1)
  have hs : SumOk C T 6 ⟨[24, 32], [4], fun x => Go.Models.law25_AgendaLater x.1 x.2⟩ := mkS_sum s25 rfl
  refine law_true Cok hs rfl (x := (x0, x1)) (y := true) (later_law x0 x1) ?_ («as» := [.agg l0, .agg l1]) ⟨r0, r1, trivial⟩ (show GlobOk (Env.all W) from fun b c h => by cases h) (vs := [.agg cs0, .agg cs1]) ?_
  · intro l hl
    match l, hl with
    | [a], hl => have : a = .lit (.bool true) := hl.1; rw [this]
    | [], hl => exact False.elim hl
    | _ :: _ :: _, hl => exact False.elim hl.2
  · simp only [RepT]
    exact ⟨rep_agg e0, rep_agg e1, trivial⟩
set_option maxRecDepth 100000 in
theorem lifted (os : Os) (started : os.Started) (H : Type) (enc : TypeId × Value → H) :
    ReturnsInHanded {} Try.checked os 6 .any (Rows.agendaLaterSpec.pre6 enc Try.prog Try.f6 Rows.agendaLaterRow.domain false) (Rows.agendaLaterSpec.post enc Try.prog Try.f6 false true false false) := by
  refine returnsInHanded_of_change_sized (C := Try.checked) own started (by kernel_rfl) Try.func6
    (ChangeSpec.witness6 (enc := enc) (C := Try.checked) false ⟨#[], #[.agg #[.slice none 0 0, .int .i64 0], .agg #[.int .i64 0, .int .i64 0, .int .i64 0, .int .i64 0, .int .i64 0, .int .i64 0, .int .i64 0, .int .i64 0, .int .i64 0, .int .i64 0, .int .i64 0, .bool false, .bool false, .int .i64 0, .int .i64 0, .int .i64 0, .int .i64 0, .bool false, .int .i64 0, .int .i64 0, .int .i64 0]], []⟩ 8 (by kernel_rfl) (by kernel_rfl) (by kernel_rfl) (by kernel_rfl)) ?_
  intro W base args ds gs before hval0 hW hcnd hsz0 _
  have hval : ∀ (j : Nat) t v, Try.f6.params[j]? = some t → args[j]? = some v → Value.okWide Try.prog W .any base t v := hval0
  have hW' := hW
  obtain ⟨p, q, hA0, hV, rfl, hfz, hnd⟩ := hW
  have hA : DataW.TrodAll enc Try.prog W 0 (fun _ => true) true Try.f6.params.toList args.toList ds p := hA0
  rw [Try.params6] at hA hval
  obtain ⟨v0, vs0, d0, ds0, p0, q0, hargs, rfl, rfl, h0, r0⟩ := trodAll_cons hA
  obtain ⟨v1, vs1, d1, ds1, p1, q1, rfl, rfl, rfl, h1, r1⟩ := trodAll_cons r0
  obtain ⟨rfl, rfl, rfl⟩ := trodAll_nil r1
  obtain rfl : args = #[v0, v1] := by cases args; simp_all
  obtain ⟨rfl, rfl⟩ := trodVars_none hV
  obtain ⟨cs0, rfl⟩ := okWide_struct Try.underlying24 (hval 0 24 v0 rfl rfl)
  obtain ⟨cs1, rfl⟩ := okWide_struct Try.underlying32 (hval 1 32 v1 rfl rfl)
  have k0 := h0
  have lt0 : ∀ x ∈ p0, x.block < W.heap.size := by obtain ⟨m, hm⟩ := k0; exact DataW.trod_lt m _ _ _ hm
  have k1 := h1
  have lt1 : ∀ x ∈ p1, x.block < W.heap.size := by obtain ⟨m, hm⟩ := k1; exact DataW.trod_lt m _ _ _ hm
  obtain ⟨f0, hf0⟩ := h0
  obtain ⟨l0, e0, s0⟩ := read_ok f0 10 24 _ _ (by kernel_rfl) hf0
  obtain ⟨f1, hf1⟩ := h1
  obtain ⟨l1, e1, s1⟩ := read_ok f1 10 32 _ _ (by kernel_rfl) hf1
  clear hA0 hval0 hsz0
  refine (walk W cs0 cs1 e0 e1 s0 s1 ).mono fun e W' ⟨he, bel⟩ => ?_
  subst he
  exact ⟨_, rfl, _, _, _, [], _, [], hW', trodAll_mk1 (shut_bool Try.underlying4 _), (trodAll_cons_mk (Below.trod laidOut (by kernel_rfl) (of_decide_eq_true (by kernel_rfl)) k0 bel lt0) (trodAll_cons_mk (Below.trod laidOut (by kernel_rfl) (of_decide_eq_true (by kernel_rfl)) k1 bel lt1) trodAll_mk0)), rfl, bel.frame _, fun h => by cases h⟩
theorem over : Rows.agendaLaterRow.holds Try.pinned (OpenSpec.ofChange Rows.agendaLaterSpec) :=
  OpenClaim.holds_of_wide 6 Try.f6 rfl rfl rfl rfl rfl rfl rfl ⟨rfl, rfl, rfl, rfl, rfl⟩ rfl rfl rfl rfl rfl (by kernel_rfl) Try.func6 (by kernel_rfl)
    (of_decide_eq_true (by kernel_rfl)) (by unfold Func.isWrapper; first | (rw [if_pos (by decide +kernel)]; kernel_rfl) | (rw [if_neg (by decide +kernel)]; exact ⟨rfl, rfl⟩))
    (fun os started H enc _ => lifted os started H enc)
theorem proved : Rows.AgendaLaterSaid := over
end Go.Proofs.Ytighpjegljchpaa.agendaLater
namespace Go.Proofs.Ytighpjegljchpaa
/-- The row, under a short name, for the claim. -/
theorem agendaLater_holds : Rows.AgendaLaterSaid := agendaLater.proved
end Go.Proofs.Ytighpjegljchpaa
end
