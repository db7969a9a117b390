/- The law AgendaTimes returns true for every input, and each argument reads as it read before; no conditions. This file: the row, last of the parts. -/
import Derived.Test.YtighpjegljchpaaRows
import Derived.WalkKit
import Derived.ProofKit
import Derived.OpenShut
import Derived.ShutString
import Derived.ChangeOld
import Derived.Below
import Derived.SizedLaws
import Derived.Test.YtighpjegljchpaaX6
section
set_option linter.unusedVariables false
/- Plain laws of the agenda: validity kept, what is later, dropping. -/
set_option maxRecDepth 100000
namespace Go.Proofs.Ytighpjegljchpaa
open Go.PI Go.Pl

theorem valid_law (a : Agenda) (x : Itemx) (k m n : Int) : Models.law25_AgendaValid a x k m n = some true := by
  unfold Models.law25_AgendaValid Models.law25_head
  by_cases h : (a.List.length : Int) ≤ 5000
  case neg => simp [h]
  have hl : a.List.length ≤ 6000 := by omega
  simp only [h, decide_true, Option.bind_some, cond_true, aadd_eq, atake_eq a hl, adrop_eq, rvalid_eq]
  cases hv : validB a
  case false => rfl
  have ok := valid_iff.1 hv
  have okd := valid_iff.2 (ok_sub ok (l := a.List.filter (keepB k m n)) List.filter_sublist)
  have hld : decide (((a.List.filter (keepB k m n)).length : Int) ≤ (a.List.length : Int)) = true := by
    have := List.length_filter_le (keepB k m n) a.List
    simp; omega
  have hadd : ((addR a x).2 ≠ 0) ∨ ((addR a x).2 = 0 ∧ validB (addR a x).1 = true ∧ ((addR a x).1.List.length : Int) = (a.List.length : Int) + 1 ∧ (addR a x).1.Next = a.Next + 1) := by
    cases hf : fitsB x
    · left; unfold addR; simp [hv, hf]
    · by_cases h5 : a.List.length < 5000
      · by_cases h6 : a.Next < 1000000000
        · right
          rw [addR_ok ok hf h5 h6]
          exact ⟨rfl, valid_iff.2 (ok_add ok hf h5 h6), by simp [ins_len], rfl⟩
        · left; unfold addR
          have d5 : decide (5000 ≤ (a.List.length : Int)) = false := by simp; omega
          have d6 : decide (1000000000 ≤ a.Next) = true := by simp; omega
          simp [hv, hf, d5, d6]
      · left; unfold addR
        have d5 : decide (5000 ≤ (a.List.length : Int)) = true := by simp; omega
        simp [hv, hf, d5]
  have hn := ok.hi
  have hlo := ok.lo
  rw [dropR_ok ok]
  simp only [Bool.not_true, cond_false, okd, hld, beq_self_eq_true, cond_true]
  rw [i64_id (n := (a.List.length : Int) + 1) (by omega) (by omega), i64_id (n := a.Next + 1) (by omega) (by omega), i64_id (n := (a.List.length : Int) - 1) (by omega) (by omega)]
  have htake : validB (takeR a).1 = true ∧ (takeR a).2.2 = decide (0 < (a.List.length : Int)) ∧ ((takeR a).2.2 = true → ((takeR a).1.List.length : Int) = (a.List.length : Int) - 1) := by
    cases hL : a.List with
    | nil => rw [takeR_nil hL]; exact ⟨hv, by simp, by simp⟩
    | cons y l =>
      rw [takeR_ok ok hL]
      have hs : l.Sublist a.List := by rw [hL]; exact List.sublist_cons_self y l
      exact ⟨valid_iff.2 (ok_sub ok hs), by simp, by simp⟩
  obtain ⟨t1, t2, t3⟩ := htake
  simp only [t1, cond_true, t2, beq_self_eq_true]
  rw [t2] at t3
  rcases hadd with h1 | ⟨h1, h2, h3, h4⟩
  · have e1 : ((addR a x).2 == 0) = false := by simpa using h1
    simp only [e1, Bool.not_false, cond_true]
    cases hd : decide (0 < (a.List.length : Int))
    · rfl
    · have := t3 hd
      simp [this]
  · simp only [h1, h2, h3, h4, beq_self_eq_true, Bool.not_true, cond_false, cond_true]
    cases hd : decide (0 < (a.List.length : Int))
    · rfl
    · have := t3 hd
      simp [this]

theorem ints_self (l : List Int) (h : l.length ≤ 2 ^ 32) : Models.law25_ints l l = some true := by
  unfold Models.law25_ints
  simp only [beq_self_eq_true, Bool.not_true, cond_false]
  rw [loop_to (fun i => ((false, (i : Int)) : Bool × Int)) l.length (.inr (false, (l.length : Int)))]
  · rfl
  · intro i hi
    have h1 : ((i : Int) < (l.length : Int)) := by omega
    simp [h1, List.getElem?_eq_getElem hi, wrap_succ hi (by omega)]
  · simp
  · rfl

theorem taken_eq {a : Agenda} (ok : Ok a) : Models.law25_taken a = some (a.List.map Itemx.Number) := by
  unfold Models.law25_taken
  have hlen := ok.len
  let st : Nat → Int × List Int × List Int × List Itemx × Int := fun i => ((i : Int), [], (a.List.take i).map Itemx.Number, a.List.drop i, a.Next)
  have key : ∀ i, i ≤ a.List.length → Models.agenda_Take (Agenda.mk (a.List.drop i) a.Next) = some (takeR (Agenda.mk (a.List.drop i) a.Next)) := by
    intro i hi
    exact atake_eq _ (by simp; omega)
  rw [loop_to st a.List.length (.inl ([], a.List.map Itemx.Number, a.List.drop a.List.length, a.Next))]
  · rfl
  · intro i hi
    have h1 : ((i : Int) ≤ 5000) := by omega
    have hd := List.drop_eq_getElem_cons hi
    have hok : Ok (Agenda.mk (a.List.drop i) a.Next) := ok_sub ok (List.drop_sublist i a.List)
    have hr : (decide ((((a.List.take i).map Itemx.Number).length + 1) * 8 ≤ 2 ^ 44) && decide (((a.List.take i).map Itemx.Number).length + 1 ≤ 2 ^ 44)) = true := by
      simp; omega
    simp only [st, h1, decide_true, cond_true, key i (by omega), takeR_ok hok hd, Option.bind_some, Bool.not_true, cond_false, hr, wrap_succ hi (by omega)]
    rw [List.take_succ_eq_append_getElem hi, List.map_append]
    rfl
  · have h1 : ((a.List.length : Int) ≤ 5000) := by omega
    simp only [st, h1, decide_true, cond_true, key _ (Nat.le_refl _), Option.bind_some]
    rw [takeR_nil (by simp)]
    simp
  · simp [st]

theorem num_at (x : Itemx) (n : Int) : (num x n).At = x.At := rfl
theorem num_nu (x : Itemx) (n : Int) : (num x n).Number = n := rfl
theorem num_ki (x : Itemx) (n : Int) : (num x n).Kind = x.Kind := rfl
theorem num_a (x : Itemx) (n : Int) : (num x n).A = x.A := rfl
theorem num_b (x : Itemx) (n : Int) : (num x n).B = x.B := rfl
theorem num_p (x : Itemx) (n : Int) : (num x n).P = x.P := rfl
theorem num_k (x : Itemx) (n : Int) : (num x n).K = x.K := rfl
theorem num_c (x : Itemx) (n : Int) : (num x n).Change = x.Change := rfl

theorem later_law (a : Agenda) (x : Itemx) : Models.law25_AgendaLater a x = some true := by
  unfold Models.law25_AgendaLater Models.law25_head
  by_cases h : (a.List.length : Int) < 5000
  case neg => simp [h]
  have hl : a.List.length ≤ 6000 := by omega
  simp only [h, decide_true, Option.bind_some, cond_true, aadd_eq, rfits_eq, atake_eq a hl, rvalid_eq]
  cases hv : validB a
  case false => rfl
  have ok := valid_iff.1 hv
  cases hf : fitsB x
  case false => rfl
  cases h6 : decide (1000000000 ≤ a.Next)
  case true => rfl
  have hn : a.Next < 1000000000 := by simp at h6; omega
  have h5 : a.List.length < 5000 := by omega
  have oka := ok_add ok hf h5 hn
  simp only [cond_true, cond_false, Bool.not_true, addR_ok ok hf h5 hn, atake_eq ⟨ins (num x a.Next) a.List, a.Next + 1⟩ (by simp [ins_len]; omega), Option.bind_some, beq_self_eq_true]
  have sub {l : List Itemx} (hs : l.Sublist a.List) : Ok ⟨l, a.Next + 1⟩ := by
    refine ⟨oka.lo, oka.hi, Nat.le_trans hs.length_le ok.len, fun y hy => ?_, ok.ord.sublist hs, ok.num.sublist hs⟩
    obtain ⟨g1, g2, g3⟩ := ok.all y (hs.subset hy)
    exact ⟨g1, g2, by show y.Number < a.Next + 1; omega⟩
  cases hL : a.List with
  | nil =>
    have e : ins (num x a.Next) [] = [num x a.Next] := rfl
    rw [hL, e] at oka
    have ok0 : Ok ⟨[], a.Next + 1⟩ := sub (by simp)
    simp only [e, takeR_ok oka rfl, Bool.not_true, cond_false, List.length_nil, Int.natCast_zero, beq_self_eq_true, cond_true, num_at, num_nu, num_ki, num_a, num_b, num_p, num_k, num_c, Bool.and_self, taken_eq ok0, taken_eq ok, hL, List.map_nil, Option.bind_some, ints_self [] (by simp)]
  | cons y l =>
    have e0 : (((y :: l).length : Int) == 0) = false := by simp; omega
    by_cases hlt : x.At < y.At
    · have e : ins (num x a.Next) (y :: l) = num x a.Next :: y :: l := by
        show (if x.At < y.At then _ else _) = _
        rw [if_pos hlt]
      rw [hL, e] at oka
      have ok0 : Ok ⟨y :: l, a.Next + 1⟩ := sub (by rw [hL]; exact List.Sublist.refl _)
      have hi := ints_self ((y :: l).map Itemx.Number) (by rw [List.length_map, ← hL]; omega)
      have hg : (y :: l)[Int.toNat 0]? = some y := rfl
      simp only [e, takeR_ok oka rfl, Bool.not_true, cond_false, e0, hg, hlt, decide_true, beq_self_eq_true, cond_true, num_at, num_nu, num_ki, num_a, num_b, num_p, num_k, num_c, Bool.and_self, taken_eq ok0, taken_eq ok, hL, Option.bind_some, hi]
    · have e : ins (num x a.Next) (y :: l) = y :: ins (num x a.Next) l := by
        show (if x.At < y.At then _ else _) = _
        rw [if_neg hlt]
      rw [hL, e] at oka
      have hs : l.Sublist a.List := by rw [hL]; exact List.sublist_cons_self y l
      have ok0 := ok_sub ok hs
      have hle := hs.length_le
      have hg : (y :: l)[Int.toNat 0]? = some y := rfl
      have hsame := same_self ⟨ins (num x a.Next) l, a.Next + 1⟩ (by simp [ins_len]; omega)
      simp only [e, takeR_ok oka rfl, takeR_ok ok hL, addR_ok ok0 hf (by show l.length < 5000; omega) hn, Bool.not_true, cond_false, e0, hg, hlt, decide_false, beq_self_eq_true, cond_true, Bool.and_self, Option.bind_some, hsame]
end Go.Proofs.Ytighpjegljchpaa
end

section
set_option linter.unusedVariables false
/- Plain laws of the agenda: dropping. -/
set_option maxRecDepth 100000
namespace Go.Proofs.Ytighpjegljchpaa
open Go.PI Go.Pl

theorem ins_filter {k m n : Int} {x : Itemx} (hx : keepB k m n x = false) : ∀ (l : List Itemx), (ins x l).filter (keepB k m n) = l.filter (keepB k m n)
  | [] => by simp [ins, hx]
  | y :: l => by
    simp only [ins]
    split
    · simp [List.filter_cons, hx]
    · simp only [List.filter_cons, ins_filter hx l]

theorem drop_law (a : Agenda) (k m n at_ : Int) : Models.law25_AgendaDrop a k m n at_ = some true := by
  unfold Models.law25_AgendaDrop Models.law25_head
  by_cases h : (a.List.length : Int) < 5000
  case neg => simp [h]
  simp only [h, decide_true, Option.bind_some, cond_true, aadd_eq, adrop_eq, rvalid_eq]
  cases hv : validB a
  case false => rfl
  have ok := valid_iff.1 hv
  cases h6 : decide (1000000000 ≤ a.Next)
  case true => rfl
  have hn : a.Next < 1000000000 := by simp at h6; omega
  have h5 : a.List.length < 5000 := by omega
  have hfl := List.length_filter_le (keepB k m n) a.List
  have ok1 : Ok ⟨a.List.filter (keepB k m n), a.Next⟩ := ok_sub ok List.filter_sublist
  simp only [Bool.not_true, cond_false, dropR_ok ok, dropR_ok ok1]
  let st : Nat → Bool × Int × Int := fun i => (false, (((a.List.take i).filter (keepB k m n)).length : Int), (i : Int))
  rw [loop_to st a.List.length (.inr (st a.List.length))]
  · have hs1 := same_self ⟨a.List.filter (keepB k m n), a.Next⟩ (by show (a.List.filter (keepB k m n)).length ≤ _; omega)
    have hs2 := same_self ⟨a.List.filter (keepB k m n), a.Next + 1⟩ (by show (a.List.filter (keepB k m n)).length ≤ _; omega)
    have hff : (a.List.filter (keepB k m n)).filter (keepB k m n) = a.List.filter (keepB k m n) := by rw [List.filter_filter]; congr 1; funext q; simp
    have hlo := ok.lo
    simp only [Option.bind_some, Sum.elim, st, List.take_length, beq_self_eq_true, cond_true, hff, hs1]
    rw [i64_id (n := a.Next + 1) (by omega) (by omega)]
    generalize hx : Itemx.mk at_ 0 k m n (Packet.mk 0 0 0 0 0 0 false false) (Ack.mk 0 0 0 0 false) (Change.mk 0 0 0) = x
    cases hf : fitsB x
    · have e : (addR a x).2 = 1 := by unfold addR; simp [hv, hf]
      rw [e]; rfl
    · have oka := ok_add ok hf h5 hn
      have hx' : keepB k m n (num x a.Next) = false := by rw [← hx]; simp [keepB, num]
      rw [addR_ok ok hf h5 hn]
      simp only [dropR_ok oka, ins_filter hx', beq_self_eq_true, cond_true, Bool.not_true, cond_false, hs2, Option.bind_some]
  · intro i hi
    have hlt : ((i : Int) < (a.List.length : Int)) := by omega
    have hg := List.getElem?_eq_getElem hi
    have hl : ((a.List.take i).filter (keepB k m n)).length ≤ i := by
      have := List.length_filter_le (keepB k m n) (a.List.take i)
      simp at this; omega
    have e : keepB k m n a.List[i] = !(a.List[i].Kind == k && (a.List[i].A == m && a.List[i].B == n)) := rfl
    have hfs := filter_snoc (p := keepB k m n) hi
    simp only [st, hlt, decide_true, cond_true, Int.natCast_nonneg, Int.toNat_natCast, hg, Option.bind_some, wrap_succ hi (by omega), hfs]
    by_cases hk : keepB k m n a.List[i] = true
    · have hat := filter_at (p := keepB k m n) a.List i hi hk
      have hlt2 : decide (((a.List.filter (keepB k m n)).length : Int) ≤ (((a.List.take i).filter (keepB k m n)).length : Int)) = false := by
        obtain ⟨hh, _⟩ := List.getElem?_eq_some_iff.1 hat
        simp; omega
      have hw : IntKind.i64.wrap ((((a.List.take i).filter (keepB k m n)).length : Int) + 1) = ((((a.List.take i).filter (keepB k m n)).length + 1 : Nat) : Int) := wrap_succ (n := 5001) (by omega) (by omega)
      simp only [hk, if_true, hat, hlt2, cond_false, Option.bind_some, beq_self_eq_true, Bool.and_self, Bool.not_true, hw, List.length_append, List.length_singleton]
      rw [hk] at e
      generalize (a.List[i].Kind == k) = c1 at *
      generalize (a.List[i].A == m) = c2 at *
      generalize (a.List[i].B == n) = c3 at *
      cases c1 <;> cases c2 <;> cases c3 <;> first | rfl | (exact absurd e (by decide))
    · have hk' : keepB k m n a.List[i] = false := by simpa using hk
      rw [hk'] at e
      have e2 := e.symm
      rw [Bool.not_eq_false'] at e2
      simp only [Bool.and_eq_true] at e2
      obtain ⟨e3, e4, e5⟩ := e2
      simp only [e3, e4, e5, cond_true, hk', if_false, List.append_nil, Bool.false_eq_true]
  · have hz : decide ((a.List.length : Int) < (a.List.length : Int)) = false := by simp
    simp only [st, hz, cond_false]
  · simp only [st, List.take_zero, List.filter_nil, List.length_nil]; rfl
end Go.Proofs.Ytighpjegljchpaa
end

section
set_option linter.unusedVariables false
/- Plain laws of the agenda: many items added. -/
set_option maxRecDepth 100000
namespace Go.Proofs.Ytighpjegljchpaa
open Go.PI Go.Pl

/-- An agenda to which an item is added, where it fits. -/
def addS (s : List Itemx × Agenda) (x : Itemx) : List Itemx × Agenda :=
  if fitsB x then (s.1 ++ [num x s.1.length], Agenda.mk (ins (num x s.2.Next) s.2.List) (s.2.Next + 1)) else s
def addAll (l : List Itemx) : List Itemx × Agenda := l.foldl addS ([], Agenda.mk [] 0)

theorem addAll_snoc {l : List Itemx} {i : Nat} (h : i < l.length) : addAll (l.take (i + 1)) = addS (addAll (l.take i)) l[i] := by
  unfold addAll
  rw [List.take_succ_eq_append_getElem h, List.foldl_append]
  rfl

structure Many (l : List Itemx) (s : List Itemx × Agenda) : Prop where
  ok : Ok s.2
  nx : s.2.Next = s.1.length
  len : s.1.length ≤ l.length
  perm : s.2.List.Perm s.1
  num : ∀ k (h : k < s.1.length), s.1[k].Number = k
  at_ : s.1.map Itemx.At = (l.filter fitsB).map Itemx.At

theorem many_add {l : List Itemx} {s : List Itemx × Agenda} (h : Many l s) (hl : l.length < 4000) (x : Itemx) : Many (l ++ [x]) (addS s x) := by
  have h1 := h.len
  have h2 := h.perm.length_eq
  have h3 := h.nx
  unfold addS
  cases hf : fitsB x
  · refine ⟨h.ok, h.nx, by simp; omega, h.perm, h.num, ?_⟩
    rw [List.filter_append, List.filter_cons, hf]
    simpa using h.at_
  · refine ⟨ok_add h.ok hf (by omega) (by omega), ?_, ?_, ?_, ?_, ?_⟩
    · show s.2.Next + 1 = ((s.1 ++ [Ytighpjegljchpaa.num x s.1.length]).length : Int)
      rw [List.length_append, List.length_singleton, h3]; omega
    · show (s.1 ++ [Ytighpjegljchpaa.num x s.1.length]).length ≤ _
      simp; omega
    · show (ins (Ytighpjegljchpaa.num x s.2.Next) s.2.List).Perm (s.1 ++ [Ytighpjegljchpaa.num x s.1.length])
      rw [h3]
      exact (ins_perm _ _).trans ((List.Perm.cons _ h.perm).trans (List.perm_append_comm (l₁ := [_]) (l₂ := s.1)))
    · intro k hk
      show (s.1 ++ [Ytighpjegljchpaa.num x s.1.length])[k].Number = k
      by_cases e : k < s.1.length
      · rw [List.getElem_append_left e]; exact h.num k e
      · have hk' : k = s.1.length := by
          have : k < (s.1 ++ [Ytighpjegljchpaa.num x s.1.length]).length := hk
          simp at this; omega
        subst hk'
        rw [List.getElem_append_right (Nat.le_refl _)]
        simp [Ytighpjegljchpaa.num]
    · show (s.1 ++ [Ytighpjegljchpaa.num x s.1.length]).map Itemx.At = _
      rw [List.filter_append, List.filter_cons, hf, List.map_append, List.map_append, h.at_]
      rfl

theorem many_all (l : List Itemx) (hl : l.length ≤ 1000) : ∀ i, i ≤ l.length → Many (l.take i) (addAll (l.take i))
  | 0, _ => by
    show Many [] ([], Agenda.mk [] 0)
    refine ⟨⟨by decide, by decide, by decide, fun x hx => (List.not_mem_nil hx).elim, List.Pairwise.nil, List.Pairwise.nil⟩, rfl, Nat.le_refl _, List.Perm.refl _, ?_, rfl⟩
    intro k hk
    exact absurd hk (Nat.not_lt_zero k)
  | i + 1, hi => by
    rw [addAll_snoc (show i < l.length by omega), List.take_succ_eq_append_getElem (show i < l.length by omega)]
    exact many_add (many_all l hl i (by omega)) (by simp; omega) _

/-- What the program's own adding does with it. -/
theorem addR_many {l : List Itemx} {s : List Itemx × Agenda} (h : Many l s) (hl : l.length ≤ 1000) (x : Itemx) :
    addR (Agenda.mk s.2.List s.2.Next) x = bif fitsB x then ((addS s x).2, 0) else (Agenda.mk [] 0, 1) := by
  have h1 := h.len
  have h2 := h.perm.length_eq
  have h3 := h.nx
  have ok : Ok (Agenda.mk s.2.List s.2.Next) := h.ok
  cases hf : fitsB x
  · unfold addR
    simp [hf, valid_iff.2 ok]
  · rw [addR_ok ok hf (by show s.2.List.length < 5000; omega) (by show s.2.Next < 1000000000; omega)]
    unfold addS
    simp [hf]
end Go.Proofs.Ytighpjegljchpaa
end

section
set_option linter.unusedVariables false
/- Plain laws of the agenda: the order in which items come out. -/
set_option maxRecDepth 100000
namespace Go.Proofs.Ytighpjegljchpaa
open Go.PI Go.Pl

def seenAt (n : Nat) (l : List Itemx) : List Bool := l.foldl (fun s x => s.set x.Number.toNat true) (List.replicate n false)

theorem seen_len {n : Nat} (l : List Itemx) : (seenAt n l).length = n := by
  have key : ∀ (l : List Itemx) (s : List Bool), (l.foldl (fun s x => s.set x.Number.toNat true) s).length = s.length := by
    intro l
    induction l with
    | nil => intro s; rfl
    | cons x l ih => intro s; rw [List.foldl_cons, ih, List.length_set]
  unfold seenAt
  rw [key]; simp

theorem seen_get {n j : Nat} (hj : j < n) (l : List Itemx) (hl : ∀ x ∈ l, x.Number.toNat ≠ j) : (seenAt n l)[j]? = some false := by
  have key : ∀ (l : List Itemx) (s : List Bool), (∀ x ∈ l, x.Number.toNat ≠ j) → (l.foldl (fun s x => s.set x.Number.toNat true) s)[j]? = s[j]? := by
    intro l
    induction l with
    | nil => intro s _; rfl
    | cons x l ih =>
      intro s h
      rw [List.foldl_cons, ih _ fun y hy => h y (by simp [hy]), List.getElem?_set_ne (h x (by simp))]
  unfold seenAt
  rw [key l _ hl]
  simp [hj]

theorem seen_snoc {n k : Nat} {l : List Itemx} (h : k < l.length) : seenAt n (l.take (k + 1)) = (seenAt n (l.take k)).set l[k].Number.toNat true := by
  unfold seenAt
  rw [List.take_succ_eq_append_getElem h, List.foldl_append]
  rfl

def lastI (l : List Itemx) : Nat → Itemx
  | 0 => Itemx.mk (-1) 0 0 0 0 (Packet.mk 0 0 0 0 0 0 false false) (Ack.mk 0 0 0 0 false) (Change.mk 0 0 0)
  | k + 1 => (l[k]?).getD noItem

theorem last_le {a : Agenda} (ok : Ok a) {k : Nat} (h : k < a.List.length) : (lastI a.List k).At < a.List[k].At ∨ ((lastI a.List k).At = a.List[k].At ∧ (lastI a.List k).Number < a.List[k].Number) := by
  cases k with
  | zero =>
    left
    have := (ok.all _ (List.getElem_mem h)).1
    unfold fitsB at this
    simp only [Bool.and_eq_true, decide_eq_true_eq] at this
    show (-1 : Int) < _
    omega
  | succ k =>
    have := List.pairwise_iff_getElem.1 ok.ord k (k + 1) (by omega) h (by omega)
    rw [bef_iff] at this
    have e : lastI a.List (k + 1) = a.List[k] := by simp [lastI, List.getElem?_eq_getElem (show k < a.List.length by omega)]
    rw [e]
    exact this

theorem order_law (l : List Itemx) : Models.law25_AgendaOrder l = some true := by
  unfold Models.law25_AgendaOrder Models.law25_head
  by_cases h : 200 < (l.length : Int)
  · simp [h]
  have hl : l.length ≤ 200 := by omega
  simp only [h, decide_false, Option.bind_some, cond_false, aadd_eq, rfits_eq]
  let st : Nat → Bool × Int × List Itemx × List Itemx × Int := fun i => (false, (i : Int), (addAll (l.take i)).1, (addAll (l.take i)).2.List, (addAll (l.take i)).2.Next)
  rw [loop_to st l.length (.inr (st l.length))]
  · have hm := many_all l (by omega) l.length (Nat.le_refl _)
    rw [List.take_length] at hm
    simp only [Option.bind_some, Sum.elim, st, List.take_length]
    generalize addAll l = s at *
    rcases s with ⟨A, a⟩
    have hlen := hm.len
    have hpl := hm.perm.length_eq
    have hnx := hm.nx
    simp only at hlen hpl hnx ⊢
    have c1 : (decide ((A.length : Int).toNat * 1 ≤ 2 ^ 47) && decide ((A.length : Int).toNat < 2 ^ 62)) = true := by simp; omega
    have c2 : (List.replicate (A.length : Int).toNat false).length = A.length := by simp
    have c3 : List.replicate (A.length : Int).toNat false = List.replicate A.length false := by simp
    simp only [c1, cond_true, c3]
    let st2 : Nat → Bool × Int × List Itemx × Int × Int × Int × Int × Int × Int × Int × Int × Int × Int × Int × Int × Bool × Bool × Int × Int × Int × Int × Bool × Int × Int × Int × List Bool := fun k =>
      (false, (k : Int), a.List.drop k, a.Next, (lastI a.List k).At, (lastI a.List k).Number, (lastI a.List k).Kind, (lastI a.List k).A, (lastI a.List k).B, (lastI a.List k).P.Flow, (lastI a.List k).P.Sub, (lastI a.List k).P.Number, (lastI a.List k).P.Data, (lastI a.List k).P.Size, (lastI a.List k).P.Sent, (lastI a.List k).P.Able, (lastI a.List k).P.Marked, (lastI a.List k).K.Sub, (lastI a.List k).K.Number, (lastI a.List k).K.Next, (lastI a.List k).K.Sent, (lastI a.List k).K.Marked, (lastI a.List k).Change.Kind, (lastI a.List k).Change.A, (lastI a.List k).Change.B, seenAt A.length (a.List.take k))
    have ok : Ok a := hm.ok
    have htk : ∀ k, Models.agenda_Take (Agenda.mk (a.List.drop k) a.Next) = some (takeR (Agenda.mk (a.List.drop k) a.Next)) := by
      intro k
      exact atake_eq _ (by simp; omega)
    rw [loop_to st2 a.List.length (.inr (st2 a.List.length))]
    · simp only [Option.bind_some, st2, htk]
      rw [takeR_nil (by simp)]
      rfl
    · intro k hk
      have hlt : decide ((k : Int) < (A.length : Int)) = true := by simp; omega
      have okd : Ok (Agenda.mk (a.List.drop k) a.Next) := ok_sub ok (List.drop_sublist k a.List)
      have hx := List.getElem_mem hk
      obtain ⟨j, hj, hjx⟩ := List.getElem_of_mem ((hm.perm.mem_iff).1 hx)
      have hnum := hm.num j hj
      simp only at hj hjx hnum
      have hls := last_le ok hk
      have hln : lastI a.List (k + 1) = a.List[k] := by simp [lastI, List.getElem?_eq_getElem hk]
      have hsl := seen_len (n := A.length) (a.List.take k)
      have hsn := seen_snoc (n := A.length) hk
      have hsg : (seenAt A.length (a.List.take k))[j]? = some false := by
        apply seen_get hj
        intro y hy
        obtain ⟨i, hi, rfl⟩ := List.mem_take_iff_getElem.1 hy
        have := List.pairwise_iff_getElem.1 ok.num i k (by omega) hk (by omega)
        have h0 := (ok.all _ (List.getElem_mem (show i < a.List.length by omega))).2.1
        rw [hjx] at hnum
        omega
      simp only [st2, hlt, cond_true, htk, takeR_ok okd (List.drop_eq_getElem_cons hk), Option.bind_some, Bool.not_true, cond_false, hln, hsn]
      rw [hjx] at hnum
      have hag : A[j]? = some a.List[k] := by rw [List.getElem?_eq_getElem hj, hjx]
      generalize a.List[k] = x at *
      have n1 : decide (x.Number < 0) = false := by simp; omega
      have n2 : decide ((A.length : Int) ≤ x.Number) = false := by simp; omega
      have n3 : decide (0 ≤ x.Number) = true := by simp; omega
      have n4 : x.Number.toNat = j := by omega
      have n5 : decide (j < A.length) = true := by simp; omega
      have n7 : decide (x.At < (lastI a.List k).At) = false := by simp; omega
      simp only [n1, n2, n3, n4, n5, n7, List.length_set, List.length_replicate, seen_len, cond_true, cond_false, Nat.zero_add, hsg, hag, Option.bind_some, beq_self_eq_true, Bool.and_self, Bool.not_true, decide_true, wrap_succ hk (by omega)]
      cases n9 : (x.At == (lastI a.List k).At)
      · rfl
      · have n10 : decide (x.Number < (lastI a.List k).Number) = false := by
          have : x.At = (lastI a.List k).At := by simpa using n9
          simp; omega
        simp only [n10, cond_true, cond_false]
    · have hz : decide ((a.List.length : Int) < (A.length : Int)) = false := by simp; omega
      simp only [st2, hz, cond_false, seen_len, List.length_replicate, decide_true, cond_true]
    · rfl
  · intro i hi
    have hm := many_all l (by omega) i (by omega)
    have hlt : ((i : Int) < (l.length : Int)) := by omega
    have hlen := hm.len
    have hadd := addR_many hm (by simp; omega) l[i]
    have hs := addAll_snoc hi
    simp only [st, hlt, decide_true, cond_true, Int.natCast_nonneg, Int.toNat_natCast, List.getElem?_eq_getElem hi, Option.bind_some, wrap_succ hi (by omega), hs]
    generalize l[i] = x at *
    have hle : (addAll (l.take i)).1.length ≤ 2 ^ 32 := by simp at hlen; omega
    rw [hadd]
    unfold addS
    cases hf : fitsB x
    · rfl
    · simp only [cond_true, beq_self_eq_true, Bool.not_true, cond_false, if_true, room1 hle]
      rfl
  · have hz : decide ((l.length : Int) < (l.length : Int)) = false := by simp
    simp only [st, hz, cond_false]
  · rfl
end Go.Proofs.Ytighpjegljchpaa
end

section
set_option linter.unusedVariables false
/- Plain laws of the agenda: the times do not hang on the order of adding. -/
set_option maxRecDepth 100000
namespace Go.Proofs.Ytighpjegljchpaa
open Go.PI Go.Pl

theorem sorted_perm : ∀ {l l' : List Int}, l.Perm l' → l.Pairwise (· ≤ ·) → l'.Pairwise (· ≤ ·) → l = l'
  | [], l', h, _, _ => h.nil_eq
  | x :: l, [], h, _, _ => absurd h.length_eq (by simp)
  | x :: l, y :: l', h, h1, h2 => by
    rw [List.pairwise_cons] at h1 h2
    have e : x = y := by
      have hx := (h.mem_iff).1 (show x ∈ x :: l by simp)
      have hy := (h.mem_iff).2 (show y ∈ y :: l' by simp)
      rcases List.mem_cons.1 hx with e | hx
      · exact e
      rcases List.mem_cons.1 hy with e | hy
      · exact e.symm
      have := h1.1 _ hy
      have := h2.1 _ hx
      omega
    subst e
    rw [sorted_perm (List.Perm.cons_inv h) h1.2 h2.2]

theorem many_times {l : List Itemx} {s : List Itemx × Agenda} (h : Many l s) : (s.2.List.map Itemx.At).Perm ((l.filter fitsB).map Itemx.At) ∧ (s.2.List.map Itemx.At).Pairwise (· ≤ ·) := by
  constructor
  · rw [← h.at_]; exact h.perm.map _
  · rw [List.pairwise_map]
    exact h.ok.ord.imp fun {a b} hab => by rw [bef_iff] at hab; omega

theorem times_eq (l : List Itemx) (hl : l.length ≤ 1000) : (addAll l).2.List.map Itemx.At = (addAll l.reverse).2.List.map Itemx.At := by
  have h1 := many_all l hl l.length (Nat.le_refl _)
  have h2 := many_all l.reverse (by simpa using hl) l.reverse.length (Nat.le_refl _)
  rw [List.take_length] at h1 h2
  obtain ⟨p1, o1⟩ := many_times h1
  obtain ⟨p2, o2⟩ := many_times h2
  refine sorted_perm (p1.trans (List.Perm.trans ?_ p2.symm)) o1 o2
  exact ((List.reverse_perm l).symm.filter fitsB).map _

theorem times_law (l : List Itemx) : Models.law25_AgendaTimes l = some true := by
  unfold Models.law25_AgendaTimes Models.law25_head
  by_cases h : 200 < (l.length : Int)
  · simp [h]
  have hl : l.length ≤ 200 := by omega
  simp only [h, decide_false, Option.bind_some, cond_false, aadd_eq]
  let st : Nat → Int × List Itemx × Int × List Itemx × Int := fun i => ((i : Int), (addAll (l.reverse.take i)).2.List, (addAll (l.reverse.take i)).2.Next, (addAll (l.take i)).2.List, (addAll (l.take i)).2.Next)
  rw [loop_to st l.length (st l.length)]
  · have h1 := many_all l (by omega) l.length (Nat.le_refl _)
    have h2 := many_all l.reverse (by simp; omega) l.reverse.length (Nat.le_refl _)
    have ht := times_eq l (by omega)
    have er : l.reverse.take l.length = l.reverse := by rw [← List.length_reverse, List.take_length]
    rw [List.take_length] at h1 h2
    simp only [Option.bind_some, st, List.take_length, er]
    generalize addAll l = s at *
    generalize addAll l.reverse = s' at *
    have hlen := h1.len
    have hpl := h1.perm.length_eq
    have hlen' := h2.len
    have hpl' := h2.perm.length_eq
    rw [List.length_reverse] at hlen'
    have ok := h1.ok
    have ok' := h2.ok
    rcases s with ⟨A, a⟩
    rcases s' with ⟨A', a'⟩
    simp only at *
    have htk : ∀ k, Models.agenda_Take (Agenda.mk (a.List.drop k) a.Next) = some (takeR (Agenda.mk (a.List.drop k) a.Next)) := by
      intro k
      exact atake_eq _ (by simp; omega)
    have htk' : ∀ k, Models.agenda_Take (Agenda.mk (a'.List.drop k) a'.Next) = some (takeR (Agenda.mk (a'.List.drop k) a'.Next)) := by
      intro k
      exact atake_eq _ (by simp; omega)
    have hll : a.List.length = a'.List.length := by
      have := congrArg List.length ht
      simpa using this
    let st2 : Nat → Bool × Int × List Itemx × Int × List Itemx × Int := fun k => (false, (k : Int), a'.List.drop k, a'.Next, a.List.drop k, a.Next)
    rw [loop_to st2 (l.length + 1) (.inr (st2 (l.length + 1)))]
    · rfl
    · intro k hk
      have hle : decide ((k : Int) ≤ (l.length : Int)) = true := by simp; omega
      simp only [st2, hle, cond_true, htk, htk', Option.bind_some, wrap_succ hk (by omega)]
      by_cases hka : k < a.List.length
      · have okd : Ok (Agenda.mk (a.List.drop k) a.Next) := ok_sub ok (List.drop_sublist k a.List)
        have okd' : Ok (Agenda.mk (a'.List.drop k) a'.Next) := ok_sub ok' (List.drop_sublist k a'.List)
        have hka' : k < a'.List.length := by omega
        rw [takeR_ok okd (List.drop_eq_getElem_cons hka), takeR_ok okd' (List.drop_eq_getElem_cons hka')]
        have e : a.List[k].At = a'.List[k].At := by
          have := congrArg (fun (l : List Int) => l[k]?) ht
          simpa [List.getElem?_eq_getElem hka, List.getElem?_eq_getElem hka'] using this
        simp only [e, beq_self_eq_true, Bool.not_true, cond_false]
      · have d1 : a.List.drop k = [] := List.drop_eq_nil_of_le (by omega)
        have d2 : a'.List.drop k = [] := List.drop_eq_nil_of_le (by omega)
        have d3 : a.List.drop (k + 1) = [] := List.drop_eq_nil_of_le (by omega)
        have d4 : a'.List.drop (k + 1) = [] := List.drop_eq_nil_of_le (by omega)
        rw [d1, d2, d3, d4, takeR_nil rfl, takeR_nil rfl]
        simp only [beq_self_eq_true, Bool.not_true, cond_false]
    · have hz : decide (((l.length + 1 : Nat) : Int) ≤ (l.length : Int)) = false := by simp; omega
      simp only [st2, hz, cond_false]
    · rfl
  · intro i hi
    have hm := many_all l (by omega) i (by omega)
    have hm' := many_all l.reverse (by simp; omega) i (by simp; omega)
    have hlt : ((i : Int) < (l.length : Int)) := by omega
    have hi' : i < l.reverse.length := by simpa using hi
    have hadd := addR_many hm (by simp; omega) l[i]
    have hadd' := addR_many hm' (by simp; omega) l.reverse[i]
    have hs := addAll_snoc hi
    have hs' := addAll_snoc hi'
    have hg' : l[l.length - 1 - i]? = some l.reverse[i] := by
      rw [List.getElem_reverse, List.getElem?_eq_getElem (by omega)]
    have hw : IntKind.i64.wrap (IntKind.i64.wrap ((l.length : Int) - 1) - (i : Int)) = ((l.length - 1 - i : Nat) : Int) := by
      rw [i64_id (n := (l.length : Int) - 1) (by omega) (by omega), i64_id (by omega) (by omega)]
      omega
    simp only [st, hlt, decide_true, cond_true, Int.natCast_nonneg, Int.toNat_natCast, List.getElem?_eq_getElem hi, hw, hg', Option.bind_some, wrap_succ hi (by omega), hs, hs']
    generalize l[i] = x at *
    generalize l.reverse[i] = x' at *
    generalize addAll (l.take i) = s at *
    generalize addAll (l.reverse.take i) = s' at *
    rw [hadd, hadd']
    unfold addS
    cases hf : fitsB x <;> cases hf' : fitsB x' <;> rfl
  · have hz : decide ((l.length : Int) < (l.length : Int)) = false := by simp
    simp only [st, hz, cond_false]
  · rfl
end Go.Proofs.Ytighpjegljchpaa
end

section
set_option linter.unusedVariables false
/- The law AgendaTimes: its row. -/
namespace Go.Proofs.Ytighpjegljchpaa.agendaTimes
open Go.PI Go.ChangeShapes Go.WideShapes Go.ChangeAt Go.RowKit
theorem own : ownKnob Try.prog.godebug = none := by kernel_rfl
theorem laidOut : laidOutB Try.prog = true := by kernel_rfl
theorem okWide_struct {P : Program} {w : World} {r : Reach} {base : Nat} {t : TypeId} {v : Value} {fs : Array Field} (ht : P.underlying t = some (.struct fs)) (h : Value.okWide P w r base t v) : ∃ cs, v = .agg cs := by
  unfold Value.okWide at h
  rw [ht] at h
  obtain ⟨cs, h, _⟩ := h
  exact ⟨cs, h⟩
theorem rep_agg {E : Env} {l : List AV} {cs : Array Value} (h : RepL E false l (Value.agg cs).cells.toList) : Rep E false (.agg l) (.agg cs) := by
  simp only [Rep]
  exact ⟨cs.toList, by simp, by simpa [Value.cells] using h⟩
theorem rep_slice {E : Env} {l : List AV} {a : Option Addr} {len cap : Nat} (h : RepL E false l (Value.slice a len cap).cells.toList) {x : AV} (hl : l = [x]) : Rep E false x (.slice a len cap) := by
  subst hl
  have h2 : Rep E false x (Value.slice a len cap) ∧ leafV (Value.slice a len cap) = true := by simpa [Value.cells, RepL] using h
  exact h2.1
set_option maxRecDepth 100000 in
theorem walk (W : World) (ad0 : Option Addr) (len0 cap0 : Nat) {l0 : List AV} (e0 : RepL (Env.all W) false l0 (Value.slice ad0 len0 cap0 : Value).cells.toList) {n0 : Nat} (s0 : Shape Try.prog n0 22 l0) : Calls Try.prog 7 #[.slice ad0 len0 cap0] W fun e w' => e = .returned (.bool true) ∧ Below W.heap.size W w' := by
  obtain ⟨x0, w0, b0, hl0, r0⟩ := sh22 s0
  have hs : SumOk C T 7 ⟨[22], [4], fun x => Go.Models.law25_AgendaTimes x⟩ := mkS_sum s25 rfl
  refine law_true Cok hs rfl (x := x0) (y := true) (times_law x0) ?_ («as» := [b0]) ⟨r0, trivial⟩ (show GlobOk (Env.all W) from fun b c h => by cases h) (vs := [.slice ad0 len0 cap0]) ?_
  · intro l hl
    match l, hl with
    | [a], hl => have : a = .lit (.bool true) := hl.1; rw [this]
    | [], hl => exact False.elim hl
    | _ :: _ :: _, hl => exact False.elim hl.2
  · simp only [RepT]
    exact ⟨rep_slice e0 hl0, trivial⟩
set_option maxRecDepth 100000 in
theorem lifted (os : Os) (started : os.Started) (H : Type) (enc : TypeId × Value → H) :
    ReturnsInHanded {} Try.checked os 7 .any (Rows.agendaTimesSpec.pre6 enc Try.prog Try.f7 Rows.agendaTimesRow.domain false) (Rows.agendaTimesSpec.post enc Try.prog Try.f7 false true false false) := by
  refine returnsInHanded_of_change_sized (C := Try.checked) own started (by kernel_rfl) Try.func7
    (ChangeSpec.witness6 (enc := enc) (C := Try.checked) false ⟨#[], #[.slice none 0 0], []⟩ 8 (by kernel_rfl) (by kernel_rfl) (by kernel_rfl) (by kernel_rfl)) ?_
  intro W base args ds gs before hval0 hW hcnd hsz0 _
  have hval : ∀ (j : Nat) t v, Try.f7.params[j]? = some t → args[j]? = some v → Value.okWide Try.prog W .any base t v := hval0
  have hW' := hW
  obtain ⟨p, q, hA0, hV, rfl, hfz, hnd⟩ := hW
  have hA : DataW.TrodAll enc Try.prog W 0 (fun _ => true) true Try.f7.params.toList args.toList ds p := hA0
  rw [Try.params7] at hA hval
  obtain ⟨v0, vs0, d0, ds0, p0, q0, hargs, rfl, rfl, h0, r0⟩ := trodAll_cons hA
  obtain ⟨rfl, rfl, rfl⟩ := trodAll_nil r0
  obtain rfl : args = #[v0] := by cases args; simp_all
  obtain ⟨rfl, rfl⟩ := trodVars_none hV
  obtain ⟨ad0, len0, cap0, rfl⟩ := Go.WideShapes.okWide_slice Try.underlying22 (hval 0 22 v0 rfl rfl)
  have k0 := h0
  have lt0 : ∀ x ∈ p0, x.block < W.heap.size := by obtain ⟨m, hm⟩ := k0; exact DataW.trod_lt m _ _ _ hm
  obtain ⟨f0, hf0⟩ := h0
  obtain ⟨l0, e0, s0⟩ := read_ok f0 10 22 _ _ (by kernel_rfl) hf0
  clear hA0 hval0 hsz0
  refine (walk W ad0 len0 cap0 e0 s0 ).mono fun e W' ⟨he, bel⟩ => ?_
  subst he
  exact ⟨_, rfl, _, _, _, [], _, [], hW', trodAll_mk1 (shut_bool Try.underlying4 _), (trodAll_cons_mk (Below.trod laidOut (by kernel_rfl) (of_decide_eq_true (by kernel_rfl)) k0 bel lt0) trodAll_mk0), rfl, bel.frame _, fun h => by cases h⟩
theorem over : Rows.agendaTimesRow.holds Try.pinned (OpenSpec.ofChange Rows.agendaTimesSpec) :=
  OpenClaim.holds_of_wide 7 Try.f7 rfl rfl rfl rfl rfl rfl rfl ⟨rfl, rfl, rfl, rfl, rfl⟩ rfl rfl rfl rfl rfl (by kernel_rfl) Try.func7 (by kernel_rfl)
    (of_decide_eq_true (by kernel_rfl)) (by unfold Func.isWrapper; first | (rw [if_pos (by decide +kernel)]; kernel_rfl) | (rw [if_neg (by decide +kernel)]; exact ⟨rfl, rfl⟩))
    (fun os started H enc _ => lifted os started H enc)
theorem proved : Rows.AgendaTimesSaid := over
end Go.Proofs.Ytighpjegljchpaa.agendaTimes
namespace Go.Proofs.Ytighpjegljchpaa
/-- The row, under a short name, for the claim. -/
theorem agendaTimes_holds : Rows.AgendaTimesSaid := agendaTimes.proved
end Go.Proofs.Ytighpjegljchpaa
end
