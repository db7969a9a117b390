/- Part 5 of the proof: texts of this session laid one behind the other. -/
import Derived.IntWalk
import Derived.Test.YtighpjegljchpaaX4
section
set_option linter.unusedVariables false
/- PS, part V: copies of lists and lists laid together, as models. -/
namespace Go.PI

def roomM (b n : Nat) : Bool := decide (n * b ≤ 2 ^ 44) && decide (n ≤ 2 ^ 44)
def cloneM {α : Type} (b : Nat) (x : List α) : Option (List α) := bif roomM b x.length then some x else none
def concatM {α : Type} (b : Nat) (x : List (List α)) : Option (List α) := bif decide (x.length ≤ 2 ^ 44) && roomM b x.flatten.length then some x.flatten else none

/-- A list that may be nil. -/
def rps {α : Type} (rpe : α → AV → Prop) (x : List α) (a : AV) : Prop := (∃ l, a = .sl l ∧ All2 rpe x l) ∨ (x = [] ∧ a = .lit nilSl)

theorem clone_ans [Glob] {α : Type} {rpe : α → AV → Prop} {r : TyRow} (hok : ∀ x a, rpe x a → okElem r.isAgg r.size a = true) {x y : List α} {a : AV} (ha : rps rpe x a) (hy : cloneM r.bytes x = some y) :
    ∃ l, cloneI r [a] = some (.sl l) ∧ All2 rpe y l := by
  unfold cloneM roomM at hy
  rcases ha with ⟨l, rfl, h⟩ | ⟨rfl, rfl⟩
  · cases hq : decide (x.length * r.bytes ≤ 2 ^ 44) && decide (x.length ≤ 2 ^ 44)
    · rw [hq] at hy; simp at hy
    rw [hq] at hy
    simp only [cond_true, Option.some.injEq] at hy
    subst hy
    simp only [Bool.and_eq_true, decide_eq_true_eq] at hq
    rw [h.length] at hq
    refine ⟨l, ?_, h⟩
    unfold cloneI
    simp only
    have hall : l.all (okElem r.isAgg r.size) = true := by
      refine List.all_eq_true.2 fun z hz => ?_
      obtain ⟨i, hi⟩ := List.getElem?_of_mem hz
      obtain ⟨u, _, hu⟩ := h.get' hi
      exact hok _ _ hu
    rw [if_pos ⟨hall, hq.1, hq.2⟩]
  · simp only [List.length_nil, Nat.zero_mul] at hy
    simp at hy
    subst hy
    exact ⟨[], rfl, trivial⟩

theorem unSls_all2 [Glob] {α : Type} {rpe : α → AV → Prop} : ∀ {x : List (List α)} {es : List AV}, All2 (rps rpe) x es → ∃ ls, unSls (es.map unNil) = some ls ∧ All2 (All2 rpe) x ls
  | [], es, h => by
    have := h.nil_left
    subst this
    exact ⟨[], rfl, trivial⟩
  | x :: xs, [], h => by simp [All2] at h
  | x :: xs, e :: es, h => by
    simp only [All2] at h
    obtain ⟨h1, h2⟩ := h
    obtain ⟨ls, h3, h4⟩ := unSls_all2 h2
    rcases h1 with ⟨l, rfl, h⟩ | ⟨rfl, rfl⟩
    · refine ⟨l :: ls, ?_, h, h4⟩
      simp only [List.map_cons, unNil, unSls, h3, Option.map_some]
    · refine ⟨[] :: ls, ?_, trivial, h4⟩
      simp only [List.map_cons, unNil, unSls, h3, Option.map_some]

theorem all2_flatten [Glob] {α : Type} {rpe : α → AV → Prop} : ∀ {x : List (List α)} {ls : List (List AV)}, All2 (All2 rpe) x ls → All2 rpe x.flatten ls.flatten
  | [], ls, h => by
    have := h.nil_left
    subst this
    exact trivial
  | x :: xs, [], h => by simp [All2] at h
  | x :: xs, e :: es, h => by
    simp only [All2] at h
    simp only [List.flatten_cons]
    exact h.1.append (all2_flatten h.2)

theorem concat_ans [Glob] {α : Type} {rpe : α → AV → Prop} {r : TyRow} (hok : ∀ x a, rpe x a → okElem r.isAgg r.size a = true) {x : List (List α)} {y : List α} {a : AV} (ha : rps (rps rpe) x a) (hy : concatM r.bytes x = some y) :
    ∃ l, concatI r [a] = some (.sl l) ∧ All2 rpe y l := by
  unfold concatM roomM at hy
  cases hq : decide (x.length ≤ 2 ^ 44) && (decide (x.flatten.length * r.bytes ≤ 2 ^ 44) && decide (x.flatten.length ≤ 2 ^ 44))
  · rw [hq] at hy; simp at hy
  rw [hq] at hy
  simp only [cond_true, Option.some.injEq] at hy
  subst hy
  simp only [Bool.and_eq_true, decide_eq_true_eq] at hq
  rcases ha with ⟨es, rfl, h⟩ | ⟨rfl, rfl⟩
  · obtain ⟨ls, h1, h2⟩ := unSls_all2 h
    have h3 := all2_flatten h2
    rw [h3.length, h2.length] at hq
    refine ⟨ls.flatten, ?_, h3⟩
    unfold concatI
    simp only
    rw [h1]
    simp only
    have hall : ls.flatten.all (okElem r.isAgg r.size) = true := by
      refine List.all_eq_true.2 fun z hz => ?_
      obtain ⟨i, hi⟩ := List.getElem?_of_mem hz
      obtain ⟨u, _, hu⟩ := h3.get' hi
      exact hok _ _ hu
    rw [if_pos ⟨hq.1, hall, hq.2.1, hq.2.2⟩]
  · exact ⟨[], rfl, trivial⟩

/-- A function known by hand: of one argument, its answer one value. -/
theorem sumOk_hand [Glob] {C : Ctx} {T : Tys} {g : FuncId} {t u : Nat} {I : List AV → Option AV} {F : T.den t → Option (T.den u)} (hk : C.kind g = .pure) (hi : C.intr g = some I)
    (h : ∀ x a y, T.rp t x a → F x = some y → ∃ l, I [a] = some (.sl l) ∧ T.rp u y (.sl l)) : SumOk C T g ⟨[t], [u], F⟩ where
  kind := hk
  ans := by
    intro x as y hx hy
    match as, hx with
    | [], hx => exact False.elim hx
    | _ :: _ :: _, hx => exact False.elim hx.2
    | [a], hx =>
      obtain ⟨l, h1, h2⟩ := h x a y hx.1 hy
      refine ⟨.sl l, [], [.sl l], ?_, rfl, rfl, ?_⟩
      · simp only [ansC, hi, h1]; rfl
      · exact ⟨h2, trivial⟩

end Go.PI
end

section
set_option linter.unusedVariables false
/- Plain laws: loops of models. -/
namespace Go.Pl
open Go.PI

theorem next [Glob] {τ ω : Type} {f : τ → Option (τ ⊕ ω)} {x y : τ} (h : f x = some (.inl y)) : loopM f x = loopM f y := by
  rw [loopM_eq, h]; rfl
theorem out [Glob] {τ ω : Type} {f : τ → Option (τ ⊕ ω)} {x : τ} {w : ω} (h : f x = some (.inr w)) : loopM f x = some w := by
  rw [loopM_eq, h]; rfl

theorem range_from_all (p : Nat → Bool) (n i : Nat) (hi : i < n) : (List.range' i (n - i)).all p = (p i && (List.range' (i + 1) (n - (i + 1))).all p) := by
  obtain ⟨m, hm⟩ : ∃ m, n - i = m + 1 := ⟨n - i - 1, by omega⟩
  have : n - (i + 1) = m := by omega
  rw [hm, this, List.range'_succ, List.all_cons]

/-- A loop over the places of a list that goes out at the first bad one. -/
theorem loop_all [Glob] {τ ω : Type} {f : τ → Option (τ ⊕ ω)} (st : Nat → τ) (p : Nat → Bool) (bad : Nat → ω) (n : Nat) (e : ω)
    (h : ∀ i, i < n → f (st i) = some (bif p i then .inl (st (i + 1)) else .inr (bad i))) (he : f (st n) = some (.inr e)) :
    (List.range n).all p = true ∧ loopM f (st 0) = some e ∨ (List.range n).all p = false ∧ ∃ i, i < n ∧ p i = false ∧ loopM f (st 0) = some (bad i) := by
  have key : ∀ m i, m = n - i → i ≤ n → (List.range' i (n - i)).all p = true ∧ loopM f (st i) = some e ∨ (List.range' i (n - i)).all p = false ∧ ∃ j, j < n ∧ p j = false ∧ loopM f (st i) = some (bad j) := by
    intro m
    induction m with
    | zero =>
      intro i hm hi
      have : i = n := by omega
      subst this
      left
      rw [Nat.sub_self]
      exact ⟨rfl, out he⟩
    | succ m ih =>
      intro i hm hi
      have hlt : i < n := by omega
      have hs := h i hlt
      rw [range_from_all p n i hlt]
      cases hp : p i with
      | false =>
        rw [hp] at hs
        right
        exact ⟨by simp, i, hlt, hp, out hs⟩
      | true =>
        rw [hp] at hs
        rw [next hs]
        simpa using ih (i + 1) (by omega) (by omega)
  have := key n 0 rfl (Nat.zero_le _)
  rwa [Nat.sub_zero, ← List.range_eq_range'] at this

theorem range_all {α : Type} {l : List α} {q : α → Bool} {p : Nat → Bool} (h : ∀ i (hi : i < l.length), p i = q l[i]) : (List.range l.length).all p = l.all q := by
  rw [Bool.eq_iff_iff, List.all_eq_true, List.all_eq_true]
  constructor
  · intro hp x hx
    obtain ⟨i, hi, rfl⟩ := List.getElem_of_mem hx
    rw [← h i hi]; exact hp i (List.mem_range.2 hi)
  · intro hq i hi
    have hi := List.mem_range.1 hi
    rw [h i hi]; exact hq _ (List.getElem_mem hi)

/-- The same with one bad answer. -/
theorem loop_list [Glob] {α τ ω : Type} {f : τ → Option (τ ⊕ ω)} (l : List α) (st : Nat → τ) (q : α → Bool) (bad e : ω) {x0 : τ}
    (h : ∀ i (hi : i < l.length), f (st i) = some (bif q l[i] then .inl (st (i + 1)) else .inr bad)) (he : f (st l.length) = some (.inr e)) (hx : x0 = st 0) :
    loopM f x0 = some (bif l.all q then e else bad) := by
  subst hx
  have hp : ∀ i (hi : i < l.length), (fun i => (l[i]?.map q).getD false) i = q l[i] := by
    intro i hi
    simp [List.getElem?_eq_getElem hi]
  rcases loop_all st (fun i => (l[i]?.map q).getD false) (fun _ => bad) l.length e (fun i hi => by have := hp i hi; simp only at this; rw [this]; exact h i hi) he with ⟨h1, h2⟩ | ⟨h1, i, _, _, h2⟩
  · rw [range_all hp] at h1; rw [h2, h1]; rfl
  · rw [range_all hp] at h1; rw [h2, h1]; rfl

theorem wrap_succ {i n : Nat} (h : i < n) (hn : n ≤ 2 ^ 63 - 1) : IntKind.i64.wrap ((i : Int) + 1) = ((i + 1 : Nat) : Int) := by
  rw [IntWalk.i64_in _ (by omega)]; omega

end Go.Pl
end

section
set_option linter.unusedVariables false
/- Plain laws: maps, searching, what branches come to. -/
namespace Go.Pl
open Go.PI

theorem bif_tt {a b : Bool} : (bif a then some b else some false) = some (a && b) := by cases a <;> rfl
theorem bif_ft {a b : Bool} : (bif a then some false else some b) = some (!a && b) := by cases a <;> rfl
theorem bif_or {a b : Bool} : (bif a then some true else some b) = some (a || b) := by cases a <;> rfl

def getI {α : Type} : List (Int × α) → Int → Option α
  | [], _ => none
  | (k', v) :: r, k => if k = k' then some v else getI r k
def putI {α : Type} : List (Int × α) → Int → α → List (Int × α)
  | [], k, v => [(k, v)]
  | (k', v') :: r, k, v => if k = k' then (k', v) :: r else (k', v') :: putI r k v

theorem mapGet_int {q : IntKind} {α : Type} : ∀ (m : List (Int × α)) (k : Int), mapGet (.int q) m k = getI m k
  | [], k => rfl
  | (k', v) :: r, k => by
    have ih := mapGet_int (q := q) r k
    show cond (k == k') (some v) (mapGet (.int q) r k) = _
    rw [ih]
    by_cases h : k = k'
    · subst h; simp [getI]
    · have : (k == k') = false := by simpa using h
      simp [getI, h, this]
theorem mapPut_int {q : IntKind} {α : Type} : ∀ (m : List (Int × α)) (k : Int) (v : α), mapPut (.int q) m k v = putI m k v
  | [], k, v => rfl
  | (k', v') :: r, k, v => by
    have ih := mapPut_int (q := q) r k v
    show cond (k == k') ((k', v) :: r) ((k', v') :: mapPut (.int q) r k v) = _
    rw [ih]
    by_cases h : k = k'
    · subst h; simp [putI]
    · have : (k == k') = false := by simpa using h
      simp [putI, h, this]

theorem getI_put {α : Type} {v : α} {k k' : Int} : ∀ (m : List (Int × α)), getI (putI m k v) k' = if k' = k then some v else getI m k'
  | [] => by simp [putI, getI]
  | (k1, v1) :: m => by
    have ih := getI_put (v := v) (k := k) (k' := k') m
    simp only [putI]
    by_cases h1 : k = k1
    · subst h1
      simp only [if_true, getI]
      by_cases h2 : k' = k <;> simp [h2]
    · rw [if_neg h1]
      simp only [getI]
      by_cases h2 : k' = k1
      · subst h2
        have : ¬ k' = k := fun e => h1 e.symm
        simp [this]
      · simp only [h2, if_false]; exact ih

/-- A map that notes numbers. -/
def noted {α : Type} (num : α → Int) (l : List α) : List (Int × Bool) := l.foldl (fun m x => putI m (num x) true) []

theorem noted_get {α : Type} {num : α → Int} {k : Int} (l : List α) : (getI (noted num l) k).getD false = l.any (fun x => num x == k) := by
  have key : ∀ (l : List α) (m : List (Int × Bool)), (getI (l.foldl (fun m x => putI m (num x) true) m) k).getD false = ((getI m k).getD false || l.any (fun x => num x == k)) := by
    intro l
    induction l with
    | nil => intro m; simp
    | cons x xs ih =>
      intro m
      rw [List.foldl_cons, ih, List.any_cons, getI_put]
      by_cases h : k = num x
      · subst h; simp
      · have : (num x == k) = false := by simpa using fun e : num x = k => h e.symm
        rw [if_neg h, this, Bool.false_or]
  have := key l []
  simpa [getI, noted] using this

theorem noted_snoc {α : Type} {num : α → Int} {l : List α} {i : Nat} (h : i < l.length) : noted num (l.take (i + 1)) = putI (noted num (l.take i)) (num l[i]) true := by
  unfold noted
  rw [List.take_succ_eq_append_getElem h, List.foldl_append]
  rfl

theorem i64_id {n : Int} (h1 : -2 ^ 63 ≤ n) (h2 : n ≤ 2 ^ 63 - 1) : IntKind.i64.wrap n = n := IntWalk.i64_in _ (by omega)

/-- The middle of two places. -/
theorem mid_eq {i j : Nat} (h : i + j < 2 ^ 62) : IntKind.i64.wrap ((IntKind.u64.wrap (IntKind.i64.wrap ((i : Int) + j))).fdiv (2 ^ min (Int.toNat 1) 64)) = (((i + j) / 2 : Nat) : Int) := by
  rw [i64_id (n := (i : Int) + j) (by omega) (by omega)]
  have h1 : IntKind.u64.wrap ((i : Int) + j) = (i : Int) + j := by
    unfold IntKind.wrap
    simp [IntKind.signed, IntKind.bits]
    omega
  rw [h1]
  have h2 : ((i : Int) + j).fdiv (2 ^ min (Int.toNat 1) 64) = (((i + j) / 2 : Nat) : Int) := by
    have : (2 : Int) ^ min (Int.toNat 1) 64 = 2 := by decide
    rw [this, Int.fdiv_eq_ediv_of_nonneg _ (by decide)]
    omega
  rw [h2, i64_id (by omega) (by omega)]

/-- A loop that runs through. -/
theorem loop_to [Glob] {τ ω : Type} {f : τ → Option (τ ⊕ ω)} (st : Nat → τ) (n : Nat) (e : ω) {x0 : τ}
    (h : ∀ i, i < n → f (st i) = some (.inl (st (i + 1)))) (he : f (st n) = some (.inr e)) (hx : x0 = st 0) : loopM f x0 = some e := by
  subst hx
  have key : ∀ m i, m = n - i → i ≤ n → loopM f (st i) = some e := by
    intro m
    induction m with
    | zero =>
      intro i hm hi
      have : i = n := by omega
      subst this
      exact out he
    | succ m ih =>
      intro i hm hi
      rw [next (h i (by omega))]
      exact ih (i + 1) (by omega) (by omega)
  exact key n 0 rfl (Nat.zero_le _)

/-- A search by halves. -/
theorem search [Glob] {ω : Type} {f : Int × Int → Option (Int × Int ⊕ ω)} (p n : Nat) (e : ω) (hp : p ≤ n)
    (h : ∀ i j, i < j → j ≤ n → (i + j) / 2 < j → f ((i : Int), (j : Int)) = some (.inl (if (i + j) / 2 < p then ((((i + j) / 2 + 1 : Nat) : Int), (j : Int)) else ((i : Int), (((i + j) / 2 : Nat) : Int)))))
    (he : f ((p : Int), (p : Int)) = some (.inr e)) : loopM f (0, (n : Int)) = some e := by
  have key : ∀ m i j, j - i ≤ m → i ≤ p → p ≤ j → j ≤ n → loopM f ((i : Int), (j : Int)) = some e := by
    intro m
    induction m with
    | zero =>
      intro i j hm hi hj hn
      have h1 : i = p := by omega
      have h2 : j = p := by omega
      subst h1; subst h2
      exact out he
    | succ m ih =>
      intro i j hm hi hj hn
      by_cases hij : i < j
      · rw [next (h i j hij hn (by omega))]
        by_cases hk : (i + j) / 2 < p
        · rw [if_pos hk]; exact ih _ _ (by omega) (by omega) hj hn
        · rw [if_neg hk]; exact ih _ _ (by omega) hi (by omega) (by omega)
      · have h1 : i = p := by omega
        have h2 : j = p := by omega
        subst h1; subst h2
        exact out he
  exact key n 0 n (by omega) (Nat.zero_le _) hp (Nat.le_refl _)

theorem filter_snoc {α : Type} {l : List α} {p : α → Bool} {i : Nat} (h : i < l.length) : (l.take (i + 1)).filter p = (l.take i).filter p ++ (if p l[i] then [l[i]] else []) := by
  rw [List.take_succ_eq_append_getElem h, List.filter_append, List.filter_cons, List.filter_nil]

theorem filter_at {α : Type} {p : α → Bool} : ∀ (l : List α) (i : Nat) (h : i < l.length), p l[i] = true → (l.filter p)[((l.take i).filter p).length]? = some l[i]
  | x :: l, 0, h, hp => by
    have hp' : p x = true := hp
    simp [hp']
  | x :: l, i + 1, h, hp => by
    have := filter_at l i (by simpa using h) (by simpa using hp)
    simp only [List.take_succ_cons, List.filter_cons, List.getElem_cons_succ]
    by_cases hx : p x = true
    · simp [hx, this]
    · simp [hx, this]

end Go.Pl
end

section
set_option linter.unusedVariables false
/- The types of this seat, as Lean's (printed by gen_tys.py out of the dump). -/
namespace Go.Proofs.Ytighpjegljchpaa
open Go.PI

instance : Glob := ⟨fun _ => none, fun _ => false⟩

structure Packet where
  Flow : Int
  Sub : Int
  Number : Int
  Data : Int
  Size : Int
  Sent : Int
  Able : Bool
  Marked : Bool

structure Ack where
  Sub : Int
  Number : Int
  Next : Int
  Sent : Int
  Marked : Bool

structure Change where
  Kind : Int
  A : Int
  B : Int

structure Itemx where
  At : Int
  Number : Int
  Kind : Int
  A : Int
  B : Int
  P : Packet
  K : Ack
  Change : Change

structure Agenda where
  List : List Itemx
  Next : Int

def den : Nat → Type
  | 2 => Int
  | 3 => Int
  | 4 => Bool
  | 9 => ByteArray
  | 22 => List Itemx
  | 23 => Agenda
  | 24 => Agenda
  | 25 => Packet
  | 26 => Packet
  | 27 => Ack
  | 28 => Ack
  | 29 => Change
  | 30 => Change
  | 31 => Itemx
  | 32 => Itemx
  | 34 => Int
  | 44 => List Bool
  | 47 => List Int
  | 62 => List (List Itemx)
  | 1032 => Itemx
  | _ => Unit

abbrev V := SV den

def dI (k : IntKind) : V → Option Int
  | .lit (.int k' n) => if k = k' then some n else none
  | _ => none
def dB : V → Option Bool
  | .lit (.bool b) => some b
  | _ => none
def dS : V → Option ByteArray
  | .lit (.string s) => some s
  | _ => none

def up2 (x : Int) : V := .lit (.int .i64 x)
def dn2 (v : V) : Option Int := dI .i64 v
def rp2 (x : Int) (a : AV) : Prop := a = .lit (.int .i64 x)
def up3 (x : Int) : V := .lit (.int .i64 x)
def dn3 (v : V) : Option Int := dI .i64 v
def rp3 (x : Int) (a : AV) : Prop := a = .lit (.int .i64 x)
def up4 (x : Bool) : V := .lit (.bool x)
def dn4 (v : V) : Option Bool := dB v
def rp4 (x : Bool) (a : AV) : Prop := a = .lit (.bool x)
def up9 (x : ByteArray) : V := .lit (.string x)
def dn9 (v : V) : Option ByteArray := dS v
def rp9 (x : ByteArray) (a : AV) : Prop := a = .lit (.string x)
def up25 (x : Packet) : V := .agg [.lit (.int .i64 x.Flow), .lit (.int .i64 x.Sub), .lit (.int .i64 x.Number), .lit (.int .i64 x.Data), .lit (.int .i64 x.Size), .lit (.int .i64 x.Sent), .lit (.bool x.Able), .lit (.bool x.Marked)]
def dn25 : V → Option Packet
  | .agg [a0, a1, a2, a3, a4, a5, a6, a7] => (dn3 a0).bind fun b0 => (dn3 a1).bind fun b1 => (dn3 a2).bind fun b2 => (dn3 a3).bind fun b3 => (dn3 a4).bind fun b4 => (dn3 a5).bind fun b5 => (dn4 a6).bind fun b6 => (dn4 a7).bind fun b7 => some ⟨b0, b1, b2, b3, b4, b5, b6, b7⟩
  | _ => none
def rp25 (x : Packet) (a : AV) : Prop := a = .agg [.lit (.int .i64 x.Flow), .lit (.int .i64 x.Sub), .lit (.int .i64 x.Number), .lit (.int .i64 x.Data), .lit (.int .i64 x.Size), .lit (.int .i64 x.Sent), .lit (.bool x.Able), .lit (.bool x.Marked)]
def up27 (x : Ack) : V := .agg [.lit (.int .i64 x.Sub), .lit (.int .i64 x.Number), .lit (.int .i64 x.Next), .lit (.int .i64 x.Sent), .lit (.bool x.Marked)]
def dn27 : V → Option Ack
  | .agg [a0, a1, a2, a3, a4] => (dn3 a0).bind fun b0 => (dn3 a1).bind fun b1 => (dn3 a2).bind fun b2 => (dn3 a3).bind fun b3 => (dn4 a4).bind fun b4 => some ⟨b0, b1, b2, b3, b4⟩
  | _ => none
def rp27 (x : Ack) (a : AV) : Prop := a = .agg [.lit (.int .i64 x.Sub), .lit (.int .i64 x.Number), .lit (.int .i64 x.Next), .lit (.int .i64 x.Sent), .lit (.bool x.Marked)]
def up29 (x : Change) : V := .agg [.lit (.int .i64 x.Kind), .lit (.int .i64 x.A), .lit (.int .i64 x.B)]
def dn29 : V → Option Change
  | .agg [a0, a1, a2] => (dn3 a0).bind fun b0 => (dn3 a1).bind fun b1 => (dn3 a2).bind fun b2 => some ⟨b0, b1, b2⟩
  | _ => none
def rp29 (x : Change) (a : AV) : Prop := a = .agg [.lit (.int .i64 x.Kind), .lit (.int .i64 x.A), .lit (.int .i64 x.B)]
def up31 (x : Itemx) : V := .agg [.lit (.int .i64 x.At), .lit (.int .i64 x.Number), .lit (.int .i64 x.Kind), .lit (.int .i64 x.A), .lit (.int .i64 x.B), .lit (.int .i64 x.P.Flow), .lit (.int .i64 x.P.Sub), .lit (.int .i64 x.P.Number), .lit (.int .i64 x.P.Data), .lit (.int .i64 x.P.Size), .lit (.int .i64 x.P.Sent), .lit (.bool x.P.Able), .lit (.bool x.P.Marked), .lit (.int .i64 x.K.Sub), .lit (.int .i64 x.K.Number), .lit (.int .i64 x.K.Next), .lit (.int .i64 x.K.Sent), .lit (.bool x.K.Marked), .lit (.int .i64 x.Change.Kind), .lit (.int .i64 x.Change.A), .lit (.int .i64 x.Change.B)]
def dn31 : V → Option Itemx
  | .agg [a0, a1, a2, a3, a4, a5, a6, a7, a8, a9, a10, a11, a12, a13, a14, a15, a16, a17, a18, a19, a20] => (dn3 a0).bind fun b0 => (dn3 a1).bind fun b1 => (dn3 a2).bind fun b2 => (dn3 a3).bind fun b3 => (dn3 a4).bind fun b4 => (dn3 a5).bind fun b5 => (dn3 a6).bind fun b6 => (dn3 a7).bind fun b7 => (dn3 a8).bind fun b8 => (dn3 a9).bind fun b9 => (dn3 a10).bind fun b10 => (dn4 a11).bind fun b11 => (dn4 a12).bind fun b12 => (dn3 a13).bind fun b13 => (dn3 a14).bind fun b14 => (dn3 a15).bind fun b15 => (dn3 a16).bind fun b16 => (dn4 a17).bind fun b17 => (dn3 a18).bind fun b18 => (dn3 a19).bind fun b19 => (dn3 a20).bind fun b20 => some ⟨b0, b1, b2, b3, b4, ⟨b5, b6, b7, b8, b9, b10, b11, b12⟩, ⟨b13, b14, b15, b16, b17⟩, ⟨b18, b19, b20⟩⟩
  | _ => none
def rp31 (x : Itemx) (a : AV) : Prop := a = .agg [.lit (.int .i64 x.At), .lit (.int .i64 x.Number), .lit (.int .i64 x.Kind), .lit (.int .i64 x.A), .lit (.int .i64 x.B), .lit (.int .i64 x.P.Flow), .lit (.int .i64 x.P.Sub), .lit (.int .i64 x.P.Number), .lit (.int .i64 x.P.Data), .lit (.int .i64 x.P.Size), .lit (.int .i64 x.P.Sent), .lit (.bool x.P.Able), .lit (.bool x.P.Marked), .lit (.int .i64 x.K.Sub), .lit (.int .i64 x.K.Number), .lit (.int .i64 x.K.Next), .lit (.int .i64 x.K.Sent), .lit (.bool x.K.Marked), .lit (.int .i64 x.Change.Kind), .lit (.int .i64 x.Change.A), .lit (.int .i64 x.Change.B)]
def up22 (x : List Itemx) : V := .tsl 32 x
def dl22 : List V → Option (List Itemx)
  | [] => some []
  | v :: vs => (dn31 v).bind fun x => (dl22 vs).map fun l => x :: l
def dn22 : V → Option (List Itemx)
  | .tsl t l => if h : t = 32 then some (@castL den t _ h l) else none
  | .sl vs => dl22 vs
  | .lit (.slice none 0 0) => some []
  | _ => none
def rp22 (x : List Itemx) (a : AV) : Prop := (∃ l, a = .sl l ∧ All2 rp31 x l) ∨ (x = [] ∧ a = .lit nilSl)
def up23 (x : Agenda) : V := .agg [.tsl 32 x.List, .lit (.int .i64 x.Next)]
def dn23 : V → Option Agenda
  | .agg [a0, a1] => (dn22 a0).bind fun b0 => (dn3 a1).bind fun b1 => some ⟨b0, b1⟩
  | _ => none
def rp23 (x : Agenda) (a : AV) : Prop := ∃ a0, rp22 x.List a0 ∧ a = .agg [a0, .lit (.int .i64 x.Next)]
def up44 (x : List Bool) : V := .tsl 4 x
def dl44 : List V → Option (List Bool)
  | [] => some []
  | v :: vs => (dn4 v).bind fun x => (dl44 vs).map fun l => x :: l
def dn44 : V → Option (List Bool)
  | .tsl t l => if h : t = 4 then some (@castL den t _ h l) else none
  | .sl vs => dl44 vs
  | .lit (.slice none 0 0) => some []
  | _ => none
def rp44 (x : List Bool) (a : AV) : Prop := (∃ l, a = .sl l ∧ All2 rp4 x l) ∨ (x = [] ∧ a = .lit nilSl)
def up47 (x : List Int) : V := .tsl 3 x
def dl47 : List V → Option (List Int)
  | [] => some []
  | v :: vs => (dn3 v).bind fun x => (dl47 vs).map fun l => x :: l
def dn47 : V → Option (List Int)
  | .tsl t l => if h : t = 3 then some (@castL den t _ h l) else none
  | .sl vs => dl47 vs
  | .lit (.slice none 0 0) => some []
  | _ => none
def rp47 (x : List Int) (a : AV) : Prop := (∃ l, a = .sl l ∧ All2 rp3 x l) ∨ (x = [] ∧ a = .lit nilSl)
def up62 (x : List (List Itemx)) : V := .tsl 22 x
def dl62 : List V → Option (List (List Itemx))
  | [] => some []
  | v :: vs => (dn22 v).bind fun x => (dl62 vs).map fun l => x :: l
def dn62 : V → Option (List (List Itemx))
  | .tsl t l => if h : t = 22 then some (@castL den t _ h l) else none
  | .sl vs => dl62 vs
  | .lit (.slice none 0 0) => some []
  | _ => none
def rp62 (x : List (List Itemx)) (a : AV) : Prop := (∃ l, a = .sl l ∧ All2 rp22 x l) ∨ (x = [] ∧ a = .lit nilSl)
def up1032 (x : Itemx) : V := .eref (up31 x) 0
def dn1032 : V → Option Itemx
  | .eref v 0 => dn31 v
  | _ => none
def rp1032 (x : Itemx) (a : AV) : Prop := ∃ b, a = .eref b 0 ∧ rp31 x b

def up : (t : Nat) → den t → V
  | 2, x => up2 x
  | 3, x => up3 x
  | 4, x => up4 x
  | 9, x => up9 x
  | 22, x => up22 x
  | 23, x => up23 x
  | 24, x => up23 x
  | 25, x => up25 x
  | 26, x => up25 x
  | 27, x => up27 x
  | 28, x => up27 x
  | 29, x => up29 x
  | 30, x => up29 x
  | 31, x => up31 x
  | 32, x => up31 x
  | 34, x => up3 x
  | 44, x => up44 x
  | 47, x => up47 x
  | 62, x => up62 x
  | 1032, x => up1032 x
  | _, _ => .dead

def dn : (t : Nat) → V → Option (den t)
  | 2, v => dn2 v
  | 3, v => dn3 v
  | 4, v => dn4 v
  | 9, v => dn9 v
  | 22, v => dn22 v
  | 23, v => dn23 v
  | 24, v => dn23 v
  | 25, v => dn25 v
  | 26, v => dn25 v
  | 27, v => dn27 v
  | 28, v => dn27 v
  | 29, v => dn29 v
  | 30, v => dn29 v
  | 31, v => dn31 v
  | 32, v => dn31 v
  | 34, v => dn3 v
  | 44, v => dn44 v
  | 47, v => dn47 v
  | 62, v => dn62 v
  | 1032, v => dn1032 v
  | _, _ => none

def rp : (t : Nat) → den t → AV → Prop
  | 2, x, a => rp2 x a
  | 3, x, a => rp3 x a
  | 4, x, a => rp4 x a
  | 9, x, a => rp9 x a
  | 22, x, a => rp22 x a
  | 23, x, a => rp23 x a
  | 24, x, a => rp23 x a
  | 25, x, a => rp25 x a
  | 26, x, a => rp25 x a
  | 27, x, a => rp27 x a
  | 28, x, a => rp27 x a
  | 29, x, a => rp29 x a
  | 30, x, a => rp29 x a
  | 31, x, a => rp31 x a
  | 32, x, a => rp31 x a
  | 34, x, a => rp3 x a
  | 44, x, a => rp44 x a
  | 47, x, a => rp47 x a
  | 62, x, a => rp62 x a
  | 1032, x, a => rp1032 x a
  | _, _, _ => False

def aggT : Nat → Bool
  | 23 => true
  | 24 => true
  | 25 => true
  | 26 => true
  | 27 => true
  | 28 => true
  | 29 => true
  | 30 => true
  | 31 => true
  | 32 => true
  | _ => false

def sizeT : Nat → Nat
  | 23 => 2
  | 24 => 2
  | 25 => 8
  | 26 => 8
  | 27 => 5
  | 28 => 5
  | 29 => 3
  | 30 => 3
  | 31 => 21
  | 32 => 21
  | _ => 1

def zeroT : (t : Nat) → Option (den t)
  | 2 => some (0 : Int)
  | 3 => some (0 : Int)
  | 4 => some (false : Bool)
  | 9 => some (ByteArray.empty : ByteArray)
  | 22 => some ([] : List Itemx)
  | 23 => some (⟨[], 0⟩ : Agenda)
  | 24 => some (⟨[], 0⟩ : Agenda)
  | 25 => some (⟨0, 0, 0, 0, 0, 0, false, false⟩ : Packet)
  | 26 => some (⟨0, 0, 0, 0, 0, 0, false, false⟩ : Packet)
  | 27 => some (⟨0, 0, 0, 0, false⟩ : Ack)
  | 28 => some (⟨0, 0, 0, 0, false⟩ : Ack)
  | 29 => some (⟨0, 0, 0⟩ : Change)
  | 30 => some (⟨0, 0, 0⟩ : Change)
  | 31 => some (⟨0, 0, 0, 0, 0, ⟨0, 0, 0, 0, 0, 0, false, false⟩, ⟨0, 0, 0, 0, false⟩, ⟨0, 0, 0⟩⟩ : Itemx)
  | 32 => some (⟨0, 0, 0, 0, 0, ⟨0, 0, 0, 0, 0, 0, false, false⟩, ⟨0, 0, 0, 0, false⟩, ⟨0, 0, 0⟩⟩ : Itemx)
  | 34 => some (0 : Int)
  | 44 => some ([] : List Bool)
  | 47 => some ([] : List Int)
  | 62 => some ([] : List (List Itemx))
  | _ => none

def memo : List (Nat × MTy) := [
  (1, ⟨false, 1, 8, some (.lit .nilFunc), .other, none, none⟩),
  (2, ⟨false, 1, 8, some (.lit (.int .i64 0)), .other, none, none⟩),
  (3, ⟨false, 1, 8, some (.lit (.int .i64 0)), .other, none, none⟩),
  (4, ⟨false, 1, 1, some (.lit (.bool false)), .other, none, none⟩),
  (5, ⟨false, 1, 1, some (.lit (.int .u8 0)), .other, none, none⟩),
  (6, ⟨false, 1, 1, some (.lit (.int .u8 0)), .other, none, none⟩),
  (7, ⟨true, 4, 24, some (.agg [.lit (.int .i64 0), .lit (.int .i64 0), .lit (.bool false), .lit (.int .u8 0)]), .struct [(0, 2), (1, 3), (2, 4), (3, 6)], none, none⟩),
  (8, ⟨true, 4, 24, some (.agg [.lit (.int .i64 0), .lit (.int .i64 0), .lit (.bool false), .lit (.int .u8 0)]), .struct [(0, 2), (1, 3), (2, 4), (3, 6)], none, none⟩),
  (9, ⟨false, 1, 16, some (.lit (.string ByteArray.empty)), .other, none, none⟩),
  (10, ⟨false, 1, 16, some (.lit (.string ByteArray.empty)), .other, none, none⟩),
  (11, ⟨false, 1, 16, some (.lit (.string ByteArray.empty)), .other, none, none⟩),
  (12, ⟨false, 1, 8, some (.lit (.int .u64 0)), .other, none, none⟩),
  (13, ⟨true, 2, 24, some (.agg [.lit (.string ByteArray.empty), .lit (.int .u64 0)]), .struct [(0, 9), (1, 12)], none, none⟩),
  (14, ⟨true, 2, 24, some (.agg [.lit (.string ByteArray.empty), .lit (.int .u64 0)]), .struct [(0, 9), (1, 12)], none, none⟩),
  (15, ⟨false, 1, 8, some (.lit (.pointer none)), .other, none, none⟩),
  (16, ⟨false, 1, 8, some (.lit (.pointer none)), .other, none, none⟩),
  (17, ⟨false, 1, 8, some (.lit (.pointer none)), .other, none, none⟩),
  (18, ⟨true, 1, 8, some (.agg [.lit (.pointer none)]), .struct [(0, 17)], none, none⟩),
  (19, ⟨true, 1, 8, some (.agg [.lit (.pointer none)]), .struct [(0, 17)], none, none⟩),
  (20, ⟨false, 1, 16, some (.lit .nilIface), .iface, none, none⟩),
  (21, ⟨false, 1, 4, some (.lit (.int .i32 0)), .other, none, none⟩),
  (22, ⟨false, 1, 24, some (.lit (.slice none 0 0)), .slice 32, none, none⟩),
  (23, ⟨true, 2, 32, some (.agg [.lit (.slice none 0 0), .lit (.int .i64 0)]), .struct [(0, 22), (1, 3)], none, none⟩),
  (24, ⟨true, 2, 32, some (.agg [.lit (.slice none 0 0), .lit (.int .i64 0)]), .struct [(0, 22), (1, 3)], none, none⟩),
  (25, ⟨true, 8, 56, some (.agg [.lit (.int .i64 0), .lit (.int .i64 0), .lit (.int .i64 0), .lit (.int .i64 0), .lit (.int .i64 0), .lit (.int .i64 0), .lit (.bool false), .lit (.bool false)]), .struct [(0, 3), (1, 3), (2, 3), (3, 3), (4, 3), (5, 3), (6, 4), (7, 4)], some [.int .i64, .int .i64, .int .i64, .int .i64, .int .i64, .int .i64, .bool, .bool], none⟩),
  (26, ⟨true, 8, 56, some (.agg [.lit (.int .i64 0), .lit (.int .i64 0), .lit (.int .i64 0), .lit (.int .i64 0), .lit (.int .i64 0), .lit (.int .i64 0), .lit (.bool false), .lit (.bool false)]), .struct [(0, 3), (1, 3), (2, 3), (3, 3), (4, 3), (5, 3), (6, 4), (7, 4)], some [.int .i64, .int .i64, .int .i64, .int .i64, .int .i64, .int .i64, .bool, .bool], none⟩),
  (27, ⟨true, 5, 40, some (.agg [.lit (.int .i64 0), .lit (.int .i64 0), .lit (.int .i64 0), .lit (.int .i64 0), .lit (.bool false)]), .struct [(0, 3), (1, 3), (2, 3), (3, 3), (4, 4)], some [.int .i64, .int .i64, .int .i64, .int .i64, .bool], none⟩),
  (28, ⟨true, 5, 40, some (.agg [.lit (.int .i64 0), .lit (.int .i64 0), .lit (.int .i64 0), .lit (.int .i64 0), .lit (.bool false)]), .struct [(0, 3), (1, 3), (2, 3), (3, 3), (4, 4)], some [.int .i64, .int .i64, .int .i64, .int .i64, .bool], none⟩),
  (29, ⟨true, 3, 24, some (.agg [.lit (.int .i64 0), .lit (.int .i64 0), .lit (.int .i64 0)]), .struct [(0, 3), (1, 3), (2, 3)], some [.int .i64, .int .i64, .int .i64], none⟩),
  (30, ⟨true, 3, 24, some (.agg [.lit (.int .i64 0), .lit (.int .i64 0), .lit (.int .i64 0)]), .struct [(0, 3), (1, 3), (2, 3)], some [.int .i64, .int .i64, .int .i64], none⟩),
  (31, ⟨true, 21, 160, some (.agg [.lit (.int .i64 0), .lit (.int .i64 0), .lit (.int .i64 0), .lit (.int .i64 0), .lit (.int .i64 0), .lit (.int .i64 0), .lit (.int .i64 0), .lit (.int .i64 0), .lit (.int .i64 0), .lit (.int .i64 0), .lit (.int .i64 0), .lit (.bool false), .lit (.bool false), .lit (.int .i64 0), .lit (.int .i64 0), .lit (.int .i64 0), .lit (.int .i64 0), .lit (.bool false), .lit (.int .i64 0), .lit (.int .i64 0), .lit (.int .i64 0)]), .struct [(0, 3), (1, 3), (2, 3), (3, 3), (4, 3), (5, 26), (13, 28), (18, 30)], some [.int .i64, .int .i64, .int .i64, .int .i64, .int .i64, .int .i64, .int .i64, .int .i64, .int .i64, .int .i64, .int .i64, .bool, .bool, .int .i64, .int .i64, .int .i64, .int .i64, .bool, .int .i64, .int .i64, .int .i64], none⟩),
  (32, ⟨true, 21, 160, some (.agg [.lit (.int .i64 0), .lit (.int .i64 0), .lit (.int .i64 0), .lit (.int .i64 0), .lit (.int .i64 0), .lit (.int .i64 0), .lit (.int .i64 0), .lit (.int .i64 0), .lit (.int .i64 0), .lit (.int .i64 0), .lit (.int .i64 0), .lit (.bool false), .lit (.bool false), .lit (.int .i64 0), .lit (.int .i64 0), .lit (.int .i64 0), .lit (.int .i64 0), .lit (.bool false), .lit (.int .i64 0), .lit (.int .i64 0), .lit (.int .i64 0)]), .struct [(0, 3), (1, 3), (2, 3), (3, 3), (4, 3), (5, 26), (13, 28), (18, 30)], some [.int .i64, .int .i64, .int .i64, .int .i64, .int .i64, .int .i64, .int .i64, .int .i64, .int .i64, .int .i64, .int .i64, .bool, .bool, .int .i64, .int .i64, .int .i64, .int .i64, .bool, .int .i64, .int .i64, .int .i64], none⟩),
  (33, ⟨false, 1, 8, some (.lit .nilFunc), .other, none, none⟩),
  (34, ⟨false, 1, 8, some (.lit (.int .i64 0)), .other, none, none⟩),
  (36, ⟨false, 1, 8, some (.lit .nilFunc), .other, none, none⟩),
  (38, ⟨false, 1, 8, some (.lit .nilFunc), .other, none, none⟩),
  (39, ⟨false, 1, 8, some (.lit .nilFunc), .other, none, none⟩),
  (40, ⟨false, 1, 8, some (.lit .nilFunc), .other, none, none⟩),
  (41, ⟨false, 1, 8, some (.lit .nilFunc), .other, none, none⟩),
  (42, ⟨false, 1, 8, some (.lit .nilFunc), .other, none, none⟩),
  (43, ⟨false, 1, 8, some (.lit .nilFunc), .other, none, none⟩),
  (44, ⟨false, 1, 24, some (.lit (.slice none 0 0)), .slice 4, none, none⟩),
  (45, ⟨false, 1, 8, some (.lit .nilFunc), .other, none, none⟩),
  (46, ⟨false, 1, 8, some (.lit .nilFunc), .other, none, none⟩),
  (47, ⟨false, 1, 24, some (.lit (.slice none 0 0)), .slice 3, none, none⟩),
  (48, ⟨false, 1, 8, some (.lit .nilFunc), .other, none, none⟩),
  (49, ⟨false, 1, 8, some (.lit .nilFunc), .other, none, none⟩),
  (50, ⟨false, 1, 8, some (.lit .nilFunc), .other, none, none⟩),
  (51, ⟨false, 1, 8, some (.lit .nilFunc), .other, none, none⟩),
  (52, ⟨false, 1, 8, some (.lit .nilFunc), .other, none, none⟩),
  (53, ⟨false, 1, 8, some (.lit .nilFunc), .other, none, none⟩),
  (54, ⟨false, 1, 8, some (.lit .nilFunc), .other, none, none⟩),
  (55, ⟨false, 1, 8, some (.lit .nilFunc), .other, none, none⟩),
  (56, ⟨false, 1, 8, some (.lit .nilFunc), .other, none, none⟩),
  (57, ⟨false, 1, 8, some (.lit .nilFunc), .other, none, none⟩),
  (58, ⟨false, 1, 8, some (.lit .nilFunc), .other, none, none⟩),
  (59, ⟨false, 1, 8, some (.lit (.map none)), .other, none, some (.int .i64, 4)⟩),
  (60, ⟨false, 1, 8, some (.lit .nilFunc), .other, none, none⟩),
  (61, ⟨false, 1, 8, some (.lit .nilFunc), .other, none, none⟩),
  (62, ⟨false, 1, 24, some (.lit (.slice none 0 0)), .slice 22, none, none⟩),
  (63, ⟨false, 1, 8, some (.lit .nilFunc), .other, none, none⟩),
  (64, ⟨false, 1, 8, some (.lit (.int .u64 0)), .other, none, none⟩),
  (65, ⟨false, 1, 8, some (.lit .nilFunc), .other, none, none⟩),
  (66, ⟨true, 4, 40, some (.agg [.lit (.pointer none), .lit (.pointer none), .lit (.pointer none), .lit (.string ByteArray.empty)]), .struct [(0, 17), (1, 17), (2, 17), (3, 9)], none, none⟩),
  (67, ⟨true, 4, 40, some (.agg [.lit (.pointer none), .lit (.pointer none), .lit (.pointer none), .lit (.string ByteArray.empty)]), .struct [(0, 17), (1, 17), (2, 17), (3, 9)], none, none⟩),
  (71, ⟨false, 1, 8, some (.lit .nilFunc), .other, none, none⟩),
  (72, ⟨false, 1, 4, some (.lit (.int .u32 0)), .other, none, none⟩),
  (73, ⟨false, 1, 1, some (.lit (.int .u8 0)), .other, none, none⟩),
  (74, ⟨false, 1, 1, some (.lit (.int .u8 0)), .other, none, none⟩),
  (75, ⟨false, 1, 8, some (.lit .nilFunc), .other, none, none⟩),
  (76, ⟨false, 1, 8, some (.lit (.pointer none)), .other, none, none⟩),
  (77, ⟨false, 1, 4, some (.lit (.int .i32 0)), .other, none, none⟩),
  (78, ⟨false, 1, 4, some (.lit (.int .i32 0)), .other, none, none⟩),
  (79, ⟨true, 11, 48, some (.agg [.lit (.int .u64 0), .lit (.int .u64 0), .lit (.int .u32 0), .lit (.int .u8 0), .lit (.int .u8 0), .lit (.int .u8 0), .lit (.int .u8 0), .lit .nilFunc, .lit (.pointer none), .lit (.int .i32 0), .lit (.int .i32 0)]), .struct [(0, 12), (1, 12), (2, 72), (3, 73), (4, 5), (5, 5), (6, 74), (7, 75), (8, 76), (9, 77), (10, 78)], none, none⟩),
  (80, ⟨true, 11, 48, some (.agg [.lit (.int .u64 0), .lit (.int .u64 0), .lit (.int .u32 0), .lit (.int .u8 0), .lit (.int .u8 0), .lit (.int .u8 0), .lit (.int .u8 0), .lit .nilFunc, .lit (.pointer none), .lit (.int .i32 0), .lit (.int .i32 0)]), .struct [(0, 12), (1, 12), (2, 72), (3, 73), (4, 5), (5, 5), (6, 74), (7, 75), (8, 76), (9, 77), (10, 78)], none, none⟩)]

abbrev T : Tys := ⟨den, up, dn, rp, aggT, sizeT, zeroT⟩

end Go.Proofs.Ytighpjegljchpaa
end
