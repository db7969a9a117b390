/- The law AgendaDrop returns true for every input, and each argument reads as it read before; no conditions. This file: the row, last of the parts. -/
import Derived.Test.YtighpjegljchpaaRows
import Derived.WalkKit
import Derived.ProofKit
import Derived.OpenShut
import Derived.ShutString
import Derived.ChangeOld
import Derived.Below
import Derived.SizedLaws
import Derived.Test.YtighpjegljchpaaX6
section
set_option linter.unusedVariables false
/- Plain laws of the agenda: validity kept, what is later, dropping. -/
set_option maxRecDepth 100000
namespace Go.Proofs.Ytighpjegljchpaa
open Go.PI Go.Pl

theorem valid_law (a : Agenda) (x : Itemx) (k m n : Int) : Models.law25_AgendaValid a x k m n = some true := by
  unfold Models.law25_AgendaValid Models.law25_head
  by_cases h : (a.List.length : Int) ≤ 5000
  case neg => simp [h]
  have hl : a.List.length ≤ 6000 := by omega
  simp only [h, decide_true, Option.bind_some, cond_true, aadd_eq, atake_eq a hl, adrop_eq, rvalid_eq]
  cases hv : validB a
  case false => rfl
  have ok := valid_iff.1 hv
  have okd := valid_iff.2 (ok_sub ok (l := a.List.filter (keepB k m n)) List.filter_sublist)
  have hld : decide (((a.List.filter (keepB k m n)).length : Int) ≤ (a.List.length : Int)) = true := by
    have := List.length_filter_le (keepB k m n) a.List
    simp; omega
  have hadd : ((addR a x).2 ≠ 0) ∨ ((addR a x).2 = 0 ∧ validB (addR a x).1 = true ∧ ((addR a x).1.List.length : Int) = (a.List.length : Int) + 1 ∧ (addR a x).1.Next = a.Next + 1) := by
    cases hf : fitsB x
    · left; unfold addR; simp [hv, hf]
    · by_cases h5 : a.List.length < 5000
      · by_cases h6 : a.Next < 1000000000
        · right
          rw [addR_ok ok hf h5 h6]
          exact ⟨rfl, valid_iff.2 (ok_add ok hf h5 h6), by simp [ins_len], rfl⟩
        · left; unfold addR
          have d5 : decide (5000 ≤ (a.List.length : Int)) = false := by simp; omega
          have d6 : decide (1000000000 ≤ a.Next) = true := by simp; omega
          simp [hv, hf, d5, d6]
      · left; unfold addR
        have d5 : decide (5000 ≤ (a.List.length : Int)) = true := by simp; omega
        simp [hv, hf, d5]
  have hn := ok.hi
  have hlo := ok.lo
  rw [dropR_ok ok]
  simp only [Bool.not_true, cond_false, okd, hld, beq_self_eq_true, cond_true]
  rw [i64_id (n := (a.List.length : Int) + 1) (by omega) (by omega), i64_id (n := a.Next + 1) (by omega) (by omega), i64_id (n := (a.List.length : Int) - 1) (by omega) (by omega)]
  have htake : validB (takeR a).1 = true ∧ (takeR a).2.2 = decide (0 < (a.List.length : Int)) ∧ ((takeR a).2.2 = true → ((takeR a).1.List.length : Int) = (a.List.length : Int) - 1) := by
    cases hL : a.List with
    | nil => rw [takeR_nil hL]; exact ⟨hv, by simp, by simp⟩
    | cons y l =>
      rw [takeR_ok ok hL]
      have hs : l.Sublist a.List := by rw [hL]; exact List.sublist_cons_self y l
      exact ⟨valid_iff.2 (ok_sub ok hs), by simp, by simp⟩
  obtain ⟨t1, t2, t3⟩ := htake
  simp only [t1, cond_true, t2, beq_self_eq_true]
  rw [t2] at t3
  rcases hadd with h1 | ⟨h1, h2, h3, h4⟩
  · have e1 : ((addR a x).2 == 0) = false := by simpa using h1
    simp only [e1, Bool.not_false, cond_true]
    cases hd : decide (0 < (a.List.length : Int))
    · rfl
    · have := t3 hd
      simp [this]
  · simp only [h1, h2, h3, h4, beq_self_eq_true, Bool.not_true, cond_false, cond_true]
    cases hd : decide (0 < (a.List.length : Int))
    · rfl
    · have := t3 hd
      simp [this]

theorem ints_self (l : List Int) (h : l.length ≤ 2 ^ 32) : Models.law25_ints l l = some true := by
  unfold Models.law25_ints
  simp only [beq_self_eq_true, Bool.not_true, cond_false]
  rw [loop_to (fun i => ((false, (i : Int)) : Bool × Int)) l.length (.inr (false, (l.length : Int)))]
  · rfl
  · intro i hi
    have h1 : ((i : Int) < (l.length : Int)) := by omega
    simp [h1, List.getElem?_eq_getElem hi, wrap_succ hi (by omega)]
  · simp
  · rfl

theorem taken_eq {a : Agenda} (ok : Ok a) : Models.law25_taken a = some (a.List.map Itemx.Number) := by
  unfold Models.law25_taken
  have hlen := ok.len
  let st : Nat → Int × List Int × List Int × List Itemx × Int := fun i => ((i : Int), [], (a.List.take i).map Itemx.Number, a.List.drop i, a.Next)
  have key : ∀ i, i ≤ a.List.length → Models.agenda_Take (Agenda.mk (a.List.drop i) a.Next) = some (takeR (Agenda.mk (a.List.drop i) a.Next)) := by
    intro i hi
    exact atake_eq _ (by simp; omega)
  rw [loop_to st a.List.length (.inl ([], a.List.map Itemx.Number, a.List.drop a.List.length, a.Next))]
  · rfl
  · intro i hi
    have h1 : ((i : Int) ≤ 5000) := by omega
    have hd := List.drop_eq_getElem_cons hi
    have hok : Ok (Agenda.mk (a.List.drop i) a.Next) := ok_sub ok (List.drop_sublist i a.List)
    have hr : (decide ((((a.List.take i).map Itemx.Number).length + 1) * 8 ≤ 2 ^ 44) && decide (((a.List.take i).map Itemx.Number).length + 1 ≤ 2 ^ 44)) = true := by
      simp; omega
    simp only [st, h1, decide_true, cond_true, key i (by omega), takeR_ok hok hd, Option.bind_some, Bool.not_true, cond_false, hr, wrap_succ hi (by omega)]
    rw [List.take_succ_eq_append_getElem hi, List.map_append]
    rfl
  · have h1 : ((a.List.length : Int) ≤ 5000) := by omega
    simp only [st, h1, decide_true, cond_true, key _ (Nat.le_refl _), Option.bind_some]
    rw [takeR_nil (by simp)]
    simp
  · simp [st]

theorem num_at (x : Itemx) (n : Int) : (num x n).At = x.At := rfl
theorem num_nu (x : Itemx) (n : Int) : (num x n).Number = n := rfl
theorem num_ki (x : Itemx) (n : Int) : (num x n).Kind = x.Kind := rfl
theorem num_a (x : Itemx) (n : Int) : (num x n).A = x.A := rfl
theorem num_b (x : Itemx) (n : Int) : (num x n).B = x.B := rfl
theorem num_p (x : Itemx) (n : Int) : (num x n).P = x.P := rfl
theorem num_k (x : Itemx) (n : Int) : (num x n).K = x.K := rfl
theorem num_c (x : Itemx) (n : Int) : (num x n).Change = x.Change := rfl

theorem later_law (a : Agenda) (x : Itemx) : Models.law25_AgendaLater a x = some true := by
  unfold Models.law25_AgendaLater Models.law25_head
  by_cases h : (a.List.length : Int) < 5000
  case neg => simp [h]
  have hl : a.List.length ≤ 6000 := by omega
  simp only [h, decide_true, Option.bind_some, cond_true, aadd_eq, rfits_eq, atake_eq a hl, rvalid_eq]
  cases hv : validB a
  case false => rfl
  have ok := valid_iff.1 hv
  cases hf : fitsB x
  case false => rfl
  cases h6 : decide (1000000000 ≤ a.Next)
  case true => rfl
  have hn : a.Next < 1000000000 := by simp at h6; omega
  have h5 : a.List.length < 5000 := by omega
  have oka := ok_add ok hf h5 hn
  simp only [cond_true, cond_false, Bool.not_true, addR_ok ok hf h5 hn, atake_eq ⟨ins (num x a.Next) a.List, a.Next + 1⟩ (by simp [ins_len]; omega), Option.bind_some, beq_self_eq_true]
  have sub {l : List Itemx} (hs : l.Sublist a.List) : Ok ⟨l, a.Next + 1⟩ := by
    refine ⟨oka.lo, oka.hi, Nat.le_trans hs.length_le ok.len, fun y hy => ?_, ok.ord.sublist hs, ok.num.sublist hs⟩
    obtain ⟨g1, g2, g3⟩ := ok.all y (hs.subset hy)
    exact ⟨g1, g2, by show y.Number < a.Next + 1; omega⟩
  cases hL : a.List with
  | nil =>
    have e : ins (num x a.Next) [] = [num x a.Next] := rfl
    rw [hL, e] at oka
    have ok0 : Ok ⟨[], a.Next + 1⟩ := sub (by simp)
    simp only [e, takeR_ok oka rfl, Bool.not_true, cond_false, List.length_nil, Int.natCast_zero, beq_self_eq_true, cond_true, num_at, num_nu, num_ki, num_a, num_b, num_p, num_k, num_c, Bool.and_self, taken_eq ok0, taken_eq ok, hL, List.map_nil, Option.bind_some, ints_self [] (by simp)]
  | cons y l =>
    have e0 : (((y :: l).length : Int) == 0) = false := by simp; omega
    by_cases hlt : x.At < y.At
    · have e : ins (num x a.Next) (y :: l) = num x a.Next :: y :: l := by
        show (if x.At < y.At then _ else _) = _
        rw [if_pos hlt]
      rw [hL, e] at oka
      have ok0 : Ok ⟨y :: l, a.Next + 1⟩ := sub (by rw [hL]; exact List.Sublist.refl _)
      have hi := ints_self ((y :: l).map Itemx.Number) (by rw [List.length_map, ← hL]; omega)
      have hg : (y :: l)[Int.toNat 0]? = some y := rfl
      simp only [e, takeR_ok oka rfl, Bool.not_true, cond_false, e0, hg, hlt, decide_true, beq_self_eq_true, cond_true, num_at, num_nu, num_ki, num_a, num_b, num_p, num_k, num_c, Bool.and_self, taken_eq ok0, taken_eq ok, hL, Option.bind_some, hi]
    · have e : ins (num x a.Next) (y :: l) = y :: ins (num x a.Next) l := by
        show (if x.At < y.At then _ else _) = _
        rw [if_neg hlt]
      rw [hL, e] at oka
      have hs : l.Sublist a.List := by rw [hL]; exact List.sublist_cons_self y l
      have ok0 := ok_sub ok hs
      have hle := hs.length_le
      have hg : (y :: l)[Int.toNat 0]? = some y := rfl
      have hsame := same_self ⟨ins (num x a.Next) l, a.Next + 1⟩ (by simp [ins_len]; omega)
      simp only [e, takeR_ok oka rfl, takeR_ok ok hL, addR_ok ok0 hf (by show l.length < 5000; omega) hn, Bool.not_true, cond_false, e0, hg, hlt, decide_false, beq_self_eq_true, cond_true, Bool.and_self, Option.bind_some, hsame]
end Go.Proofs.Ytighpjegljchpaa
end

section
set_option linter.unusedVariables false
/- Plain laws of the agenda: dropping. -/
set_option maxRecDepth 100000
namespace Go.Proofs.Ytighpjegljchpaa
open Go.PI Go.Pl

theorem ins_filter {k m n : Int} {x : Itemx} (hx : keepB k m n x = false) : ∀ (l : List Itemx), (ins x l).filter (keepB k m n) = l.filter (keepB k m n)
  | [] => by simp [ins, hx]
  | y :: l => by
    simp only [ins]
    split
    · simp [List.filter_cons, hx]
    · simp only [List.filter_cons, ins_filter hx l]

theorem drop_law (a : Agenda) (k m n at_ : Int) : Models.law25_AgendaDrop a k m n at_ = some true := by
  unfold Models.law25_AgendaDrop Models.law25_head
  by_cases h : (a.List.length : Int) < 5000
  case neg => simp [h]
  simp only [h, decide_true, Option.bind_some, cond_true, aadd_eq, adrop_eq, rvalid_eq]
  cases hv : validB a
  case false => rfl
  have ok := valid_iff.1 hv
  cases h6 : decide (1000000000 ≤ a.Next)
  case true => rfl
  have hn : a.Next < 1000000000 := by simp at h6; omega
  have h5 : a.List.length < 5000 := by omega
  have hfl := List.length_filter_le (keepB k m n) a.List
  have ok1 : Ok ⟨a.List.filter (keepB k m n), a.Next⟩ := ok_sub ok List.filter_sublist
  simp only [Bool.not_true, cond_false, dropR_ok ok, dropR_ok ok1]
  let st : Nat → Bool × Int × Int := fun i => (false, (((a.List.take i).filter (keepB k m n)).length : Int), (i : Int))
  rw [loop_to st a.List.length (.inr (st a.List.length))]
  · have hs1 := same_self ⟨a.List.filter (keepB k m n), a.Next⟩ (by show (a.List.filter (keepB k m n)).length ≤ _; omega)
    have hs2 := same_self ⟨a.List.filter (keepB k m n), a.Next + 1⟩ (by show (a.List.filter (keepB k m n)).length ≤ _; omega)
    have hff : (a.List.filter (keepB k m n)).filter (keepB k m n) = a.List.filter (keepB k m n) := by rw [List.filter_filter]; congr 1; funext q; simp
    have hlo := ok.lo
    simp only [Option.bind_some, Sum.elim, st, List.take_length, beq_self_eq_true, cond_true, hff, hs1]
    rw [i64_id (n := a.Next + 1) (by omega) (by omega)]
    generalize hx : Itemx.mk at_ 0 k m n (Packet.mk 0 0 0 0 0 0 false false) (Ack.mk 0 0 0 0 false) (Change.mk 0 0 0) = x
    cases hf : fitsB x
    · have e : (addR a x).2 = 1 := by unfold addR; simp [hv, hf]
      rw [e]; rfl
    · have oka := ok_add ok hf h5 hn
      have hx' : keepB k m n (num x a.Next) = false := by rw [← hx]; simp [keepB, num]
      rw [addR_ok ok hf h5 hn]
      simp only [dropR_ok oka, ins_filter hx', beq_self_eq_true, cond_true, Bool.not_true, cond_false, hs2, Option.bind_some]
  · intro i hi
    have hlt : ((i : Int) < (a.List.length : Int)) := by omega
    have hg := List.getElem?_eq_getElem hi
    have hl : ((a.List.take i).filter (keepB k m n)).length ≤ i := by
      have := List.length_filter_le (keepB k m n) (a.List.take i)
      simp at this; omega
    have e : keepB k m n a.List[i] = !(a.List[i].Kind == k && (a.List[i].A == m && a.List[i].B == n)) := rfl
    have hfs := filter_snoc (p := keepB k m n) hi
    simp only [st, hlt, decide_true, cond_true, Int.natCast_nonneg, Int.toNat_natCast, hg, Option.bind_some, wrap_succ hi (by omega), hfs]
    by_cases hk : keepB k m n a.List[i] = true
    · have hat := filter_at (p := keepB k m n) a.List i hi hk
      have hlt2 : decide (((a.List.filter (keepB k m n)).length : Int) ≤ (((a.List.take i).filter (keepB k m n)).length : Int)) = false := by
        obtain ⟨hh, _⟩ := List.getElem?_eq_some_iff.1 hat
        simp; omega
      have hw : IntKind.i64.wrap ((((a.List.take i).filter (keepB k m n)).length : Int) + 1) = ((((a.List.take i).filter (keepB k m n)).length + 1 : Nat) : Int) := wrap_succ (n := 5001) (by omega) (by omega)
      simp only [hk, if_true, hat, hlt2, cond_false, Option.bind_some, beq_self_eq_true, Bool.and_self, Bool.not_true, hw, List.length_append, List.length_singleton]
      rw [hk] at e
      generalize (a.List[i].Kind == k) = c1 at *
      generalize (a.List[i].A == m) = c2 at *
      generalize (a.List[i].B == n) = c3 at *
      cases c1 <;> cases c2 <;> cases c3 <;> first | rfl | (exact absurd e (by decide))
    · have hk' : keepB k m n a.List[i] = false := by simpa using hk
      rw [hk'] at e
      have e2 := e.symm
      rw [Bool.not_eq_false'] at e2
      simp only [Bool.and_eq_true] at e2
      obtain ⟨e3, e4, e5⟩ := e2
      simp only [e3, e4, e5, cond_true, hk', if_false, List.append_nil, Bool.false_eq_true]
  · have hz : decide ((a.List.length : Int) < (a.List.length : Int)) = false := by simp
    simp only [st, hz, cond_false]
  · simp only [st, List.take_zero, List.filter_nil, List.length_nil]; rfl
end Go.Proofs.Ytighpjegljchpaa
end

section
set_option linter.unusedVariables false
/- The law AgendaDrop: its row. -/
namespace Go.Proofs.Ytighpjegljchpaa.agendaDrop
open Go.PI Go.ChangeShapes Go.WideShapes Go.ChangeAt Go.RowKit
theorem own : ownKnob Try.prog.godebug = none := by kernel_rfl
theorem laidOut : laidOutB Try.prog = true := by kernel_rfl
theorem okWide_struct {P : Program} {w : World} {r : Reach} {base : Nat} {t : TypeId} {v : Value} {fs : Array Field} (ht : P.underlying t = some (.struct fs)) (h : Value.okWide P w r base t v) : ∃ cs, v = .agg cs := by
  unfold Value.okWide at h
  rw [ht] at h
  obtain ⟨cs, h, _⟩ := h
  exact ⟨cs, h⟩
theorem rep_agg {E : Env} {l : List AV} {cs : Array Value} (h : RepL E false l (Value.agg cs).cells.toList) : Rep E false (.agg l) (.agg cs) := by
  simp only [Rep]
  exact ⟨cs.toList, by simp, by simpa [Value.cells] using h⟩
theorem rep_slice {E : Env} {l : List AV} {a : Option Addr} {len cap : Nat} (h : RepL E false l (Value.slice a len cap).cells.toList) {x : AV} (hl : l = [x]) : Rep E false x (.slice a len cap) := by
  subst hl
  have h2 : Rep E false x (Value.slice a len cap) ∧ leafV (Value.slice a len cap) = true := by simpa [Value.cells, RepL] using h
  exact h2.1
set_option maxRecDepth 100000 in
theorem walk (W : World) (cs0 : Array Value) (a1 : Int) (a2 : Int) (a3 : Int) (a4 : Int) {l0 : List AV} (e0 : RepL (Env.all W) false l0 (Value.agg cs0 : Value).cells.toList) {n0 : Nat} (s0 : Shape Try.prog n0 24 l0) (hw1 : (Lit.int .i64 a1).wf = true) (hw2 : (Lit.int .i64 a2).wf = true) (hw3 : (Lit.int .i64 a3).wf = true) (hw4 : (Lit.int .i64 a4).wf = true) : Calls Try.prog 8 #[.agg cs0, .int .i64 a1, .int .i64 a2, .int .i64 a3, .int .i64 a4] W fun e w' => e = .returned (.bool true) ∧ Below W.heap.size W w' := by
  obtain ⟨x0, w0, r0⟩ := sh23 (shape_same (show Try.prog.underlying 24 = Try.prog.underlying 23 by kernel_rfl) s0)
  have hs : SumOk C T 8 ⟨[24, 3, 3, 3, 3], [4], fun x => Go.Models.law25_AgendaDrop x.1 x.2.1 x.2.2.1 x.2.2.2.1 x.2.2.2.2⟩ := mkS_sum s25 rfl
  refine law_true Cok hs rfl (x := (x0, a1, a2, a3, a4)) (y := true) (drop_law x0 a1 a2 a3 a4) ?_ («as» := [.agg l0, .lit (.int .i64 a1), .lit (.int .i64 a2), .lit (.int .i64 a3), .lit (.int .i64 a4)]) ⟨r0, rfl, rfl, rfl, rfl, trivial⟩ (show GlobOk (Env.all W) from fun b c h => by cases h) (vs := [.agg cs0, .int .i64 a1, .int .i64 a2, .int .i64 a3, .int .i64 a4]) ?_
  · intro l hl
    match l, hl with
    | [a], hl => have : a = .lit (.bool true) := hl.1; rw [this]
    | [], hl => exact False.elim hl
    | _ :: _ :: _, hl => exact False.elim hl.2
  · simp only [RepT]
    exact ⟨rep_agg e0, by simp [Rep], by simp [Rep], by simp [Rep], by simp [Rep], trivial⟩
set_option maxRecDepth 100000 in
theorem lifted (os : Os) (started : os.Started) (H : Type) (enc : TypeId × Value → H) :
    ReturnsInHanded {} Try.checked os 8 .any (Rows.agendaDropSpec.pre6 enc Try.prog Try.f8 Rows.agendaDropRow.domain false) (Rows.agendaDropSpec.post enc Try.prog Try.f8 false true false false) := by
  refine returnsInHanded_of_change_sized (C := Try.checked) own started (by kernel_rfl) Try.func8
    (ChangeSpec.witness6 (enc := enc) (C := Try.checked) false ⟨#[], #[.agg #[.slice none 0 0, .int .i64 0], .int .i64 0, .int .i64 0, .int .i64 0, .int .i64 0], []⟩ 8 (by kernel_rfl) (by kernel_rfl) (by kernel_rfl) (by kernel_rfl)) ?_
  intro W base args ds gs before hval0 hW hcnd hsz0 _
  have hval : ∀ (j : Nat) t v, Try.f8.params[j]? = some t → args[j]? = some v → Value.okWide Try.prog W .any base t v := hval0
  have hW' := hW
  obtain ⟨p, q, hA0, hV, rfl, hfz, hnd⟩ := hW
  have hA : DataW.TrodAll enc Try.prog W 0 (fun _ => true) true Try.f8.params.toList args.toList ds p := hA0
  rw [Try.params8] at hA hval
  obtain ⟨v0, vs0, d0, ds0, p0, q0, hargs, rfl, rfl, h0, r0⟩ := trodAll_cons hA
  obtain ⟨v1, vs1, d1, ds1, p1, q1, rfl, rfl, rfl, h1, r1⟩ := trodAll_cons r0
  obtain ⟨v2, vs2, d2, ds2, p2, q2, rfl, rfl, rfl, h2, r2⟩ := trodAll_cons r1
  obtain ⟨v3, vs3, d3, ds3, p3, q3, rfl, rfl, rfl, h3, r3⟩ := trodAll_cons r2
  obtain ⟨v4, vs4, d4, ds4, p4, q4, rfl, rfl, rfl, h4, r4⟩ := trodAll_cons r3
  obtain ⟨rfl, rfl, rfl⟩ := trodAll_nil r4
  obtain rfl : args = #[v0, v1, v2, v3, v4] := by cases args; simp_all
  obtain ⟨rfl, rfl⟩ := trodVars_none hV
  obtain ⟨cs0, rfl⟩ := okWide_struct Try.underlying24 (hval 0 24 v0 rfl rfl)
  obtain ⟨a1, rfl, rfl, rfl, w1⟩ := open_int Try.underlying3 (hval 1 3 v1 rfl rfl) h1
  obtain ⟨a2, rfl, rfl, rfl, w2⟩ := open_int Try.underlying3 (hval 2 3 v2 rfl rfl) h2
  obtain ⟨a3, rfl, rfl, rfl, w3⟩ := open_int Try.underlying3 (hval 3 3 v3 rfl rfl) h3
  obtain ⟨a4, rfl, rfl, rfl, w4⟩ := open_int Try.underlying3 (hval 4 3 v4 rfl rfl) h4
  have k0 := h0
  have lt0 : ∀ x ∈ p0, x.block < W.heap.size := by obtain ⟨m, hm⟩ := k0; exact DataW.trod_lt m _ _ _ hm
  obtain ⟨f0, hf0⟩ := h0
  obtain ⟨l0, e0, s0⟩ := read_ok f0 10 24 _ _ (by kernel_rfl) hf0
  clear hA0 hval0 hsz0
  refine (walk W cs0 a1 a2 a3 a4 e0 s0 w1 w2 w3 w4).mono fun e W' ⟨he, bel⟩ => ?_
  subst he
  exact ⟨_, rfl, _, _, _, [], _, [], hW', trodAll_mk1 (shut_bool Try.underlying4 _), (trodAll_cons_mk (Below.trod laidOut (by kernel_rfl) (of_decide_eq_true (by kernel_rfl)) k0 bel lt0) (trodAll_cons_mk (shut_int Try.underlying3 w1) (trodAll_cons_mk (shut_int Try.underlying3 w2) (trodAll_cons_mk (shut_int Try.underlying3 w3) (trodAll_cons_mk (shut_int Try.underlying3 w4) trodAll_mk0))))), rfl, bel.frame _, fun h => by cases h⟩
theorem over : Rows.agendaDropRow.holds Try.pinned (OpenSpec.ofChange Rows.agendaDropSpec) :=
  OpenClaim.holds_of_wide 8 Try.f8 rfl rfl rfl rfl rfl rfl rfl ⟨rfl, rfl, rfl, rfl, rfl⟩ rfl rfl rfl rfl rfl (by kernel_rfl) Try.func8 (by kernel_rfl)
    (of_decide_eq_true (by kernel_rfl)) (by unfold Func.isWrapper; first | (rw [if_pos (by decide +kernel)]; kernel_rfl) | (rw [if_neg (by decide +kernel)]; exact ⟨rfl, rfl⟩))
    (fun os started H enc _ => lifted os started H enc)
theorem proved : Rows.AgendaDropSaid := over
end Go.Proofs.Ytighpjegljchpaa.agendaDrop
namespace Go.Proofs.Ytighpjegljchpaa
/-- The row, under a short name, for the claim. -/
theorem agendaDrop_holds : Rows.AgendaDropSaid := agendaDrop.proved
end Go.Proofs.Ytighpjegljchpaa
end
