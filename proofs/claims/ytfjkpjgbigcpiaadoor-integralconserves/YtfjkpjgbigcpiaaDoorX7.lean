/- The law IntegralConserves returns true for every input, and each argument reads as it read before; the package variable that it reads is laid by the program's text (a tied card); no conditions. This file: the row and the card, last of the parts. -/
import Derived.Test.YtfjkpjgbigcpiaaDoorRows
import Derived.Test.YtfjkpjgbigcpiaaDoorCards
import Derived.Test.YtfjkpjgbigcpiaaDoorTie
import Derived.WalkKit
import Derived.ProofKit
import Derived.OpenShut
import Derived.ShutString
import Derived.ChangeOld
import Derived.Below
import Derived.SizedLaws
import Derived.LaidMore
import Derived.MakeChecks
import Derived.Lay
import Derived.LaidOnce
import Derived.SevenTiedAt
import Derived.Test.YtfjkpjgbigcpiaaDoorX6
section
set_option linter.unusedVariables false
set_option maxRecDepth 100000
namespace Go.Proofs.YtfjkpjgbigcpiaaDoor
open Go.PI Go.Pl

/-- One round of a loop that ends well. -/
def StepOK {τ ω β : Type} (I : Nat → τ → Prop) (K : ω → Option β) (r : β) (n : Nat) : Option (τ ⊕ ω) → Prop
  | some (.inl s') => ∃ m, m < n ∧ I m s'
  | some (.inr w) => K w = some r
  | none => False

/-- A loop that ends well from wherever it may stand. -/
theorem loop_inv {τ ω β : Type} {f : τ → Option (τ ⊕ ω)} {K : ω → Option β} {r : β} (I : Nat → τ → Prop)
    (h : ∀ n s, I n s → StepOK I K r n (f s)) : ∀ n s, I n s → (loopM f s).bind K = some r := by
  intro n
  induction n using Nat.strongRecOn with
  | ind n ih =>
    intro s hs
    have h1 := h n s hs
    cases hf : f s with
    | none => rw [hf] at h1; exact h1.elim
    | some o =>
      rw [hf] at h1
      cases o with
      | inr w => rw [Go.Pl.out hf]; exact h1
      | inl s' =>
        obtain ⟨m, h2, h3⟩ := h1
        rw [Go.Pl.next hf]; exact ih m h2 s' h3

theorem ord_iff {e7 : Int} {l : List Queued} : (List.range l.length).all (ordP e7 l) = true ↔ ∀ i x, l[i]? = some x → (if i = 0 then 0 else (l[i - 1]?.map (·.At)).getD 0) ≤ x.At ∧ x.At ≤ e7 ∧ okP x.P = true := by
  rw [List.all_eq_true]
  constructor
  · intro h i x hx
    have hi : i < l.length := (List.getElem?_eq_some_iff.1 hx).1
    have h1 := h i (List.mem_range.2 hi)
    simp only [ordP, hx, Bool.and_eq_true, Bool.not_eq_true', decide_eq_false_iff_not] at h1
    obtain ⟨a, b, c⟩ := h1
    exact ⟨by omega, by omega, c⟩
  · intro h i hi
    have hi : i < l.length := List.mem_range.1 hi
    have hx : l[i]? = some l[i] := List.getElem?_eq_getElem hi
    obtain ⟨a, b, c⟩ := h i _ hx
    simp only [ordP, hx, Bool.and_eq_true, Bool.not_eq_true', decide_eq_false_iff_not]
    exact ⟨by omega, by omega, c⟩

theorem ord_up {e7 now : Int} {l : List Queued} (hle : e7 ≤ now) (h : (List.range l.length).all (ordP e7 l) = true) : (List.range l.length).all (ordP now l) = true := by
  rw [ord_iff] at h ⊢
  intro i x hx
  obtain ⟨a, b, c⟩ := h i x hx
  exact ⟨a, by omega, c⟩

theorem ord_snoc {e7 now : Int} {l : List Queued} {p : Packet} (hle : e7 ≤ now) (h0 : 0 ≤ now) (hp : okP p = true) (h : (List.range l.length).all (ordP e7 l) = true) : (List.range (l ++ [Queued.mk p now]).length).all (ordP now (l ++ [Queued.mk p now])) = true := by
  rw [ord_iff] at h ⊢
  intro i x hx
  have hi : i < (l ++ [Queued.mk p now]).length := (List.getElem?_eq_some_iff.1 hx).1
  rw [List.length_append, List.length_singleton] at hi
  have hm : i ≠ 0 → (l ++ [Queued.mk p now])[i - 1]? = l[i - 1]? := fun hz => List.getElem?_append_left (by omega)
  by_cases hlt : i < l.length
  · rw [List.getElem?_append_left hlt] at hx
    obtain ⟨a, b, c⟩ := h i x hx
    refine ⟨?_, by omega, c⟩
    by_cases hz : i = 0
    · rw [if_pos hz] at a ⊢; exact a
    · rw [if_neg hz] at a ⊢; rw [hm hz]; exact a
  · have hil : i = l.length := by omega
    subst hil
    have hx' : x = Queued.mk p now := by simpa using hx.symm
    subst hx'
    refine ⟨?_, Int.le_refl _, hp⟩
    by_cases hz : l.length = 0
    · rw [if_pos hz]; exact h0
    · rw [if_neg hz, hm hz]
      have hlt : l.length - 1 < l.length := by omega
      obtain ⟨a, b, c⟩ := h (l.length - 1) _ (List.getElem?_eq_getElem hlt)
      rw [List.getElem?_eq_getElem hlt]
      exact Int.le_trans b hle

theorem v_keep {q : Queue} {l l' : List Queued} {now : Int} (hv : vB q = true) (hg : Good q l) (hn : okT now = true) (hle : q.Vars.e7 ≤ now) (hlen : (l'.length : Int) ≤ q.Room) (hord : (List.range l'.length).all (ordP now l') = true) (sd : Int) :
    vB (withU q [l'] now sd) = true := by
  have hd := delay_range hg hn hle
  have hn' : 0 ≤ now ∧ now ≤ 10000000 := by simpa only [okT, Bool.and_eq_true, decide_eq_true_eq] using hn
  have h0 : 0 ≤ u0 q now ∧ u0 q now ≤ 1000000 := by
    unfold u0; split
    · exact hg.e0
    · exact clamp_range _
  have h1 : 0 ≤ u1 q now ∧ u1 q now ≤ now := by
    have := hg.e1; have := hg.e7
    unfold u1; split <;> omega
  have h2 : 0 ≤ u2 q now ∧ u2 q now ≤ 10000000 := by
    have := hg.e2
    unfold u2; split <;> omega
  unfold vB at hv
  rw [hg.lists] at hv
  simp only [Bool.and_eq_true, decide_eq_true_eq, okT, ordB] at hv
  simp only [vB, withU, ordB, okT]
  simp only [Bool.and_eq_true]
  obtain ⟨a, b, c, d, e, f, g, h, i, j, k, m⟩ := hv
  exact ⟨a, ⟨decide_eq_true b.1, decide_eq_true b.2⟩, ⟨decide_eq_true c.1, decide_eq_true c.2⟩, ⟨decide_eq_true d.1, decide_eq_true d.2⟩, ⟨decide_eq_true e.1, decide_eq_true e.2⟩, decide_eq_true hlen, ⟨decide_eq_true hn'.1, decide_eq_true hn'.2⟩, ⟨decide_eq_true h0.1, decide_eq_true h0.2⟩, ⟨decide_eq_true h1.1, decide_eq_true h1.2⟩, ⟨decide_eq_true h2.1, decide_eq_true h2.2⟩, k, hord⟩

/-- What a Put does to a valid queue. -/
theorem put_ok {q : Queue} {l : List Queued} {p : Packet} {now : Int} (hv : vB q = true) (hg : Good q l) (hp : okP p = true) (hn : okT now = true) (hle : q.Vars.e7 ≤ now) :
    ∃ l' d sd, putR q p now = (withU q [l'] now sd, d, 0) ∧ vB (withU q [l'] now sd) = true ∧ ((l' = l ∧ d = [p]) ∨ (d = [] ∧ ∃ m, l' = l ++ [Queued.mk (Packet.mk p.Flow p.Sub p.Number p.Data p.Size p.Sent p.Able m) now] ∧ (p.Able = false → m = p.Marked) ∧ (m = p.Marked ∨ m = true))) := by
  have he : errB q now = 0 := by
    have : decide (now < q.Vars.e7) = false := by simp; omega
    unfold errB; rw [hv, hn, this]; rfl
  have hn0 : 0 ≤ now := by simp only [okT, Bool.and_eq_true, decide_eq_true_eq] at hn; exact hn.1
  have hlen := hg.len
  have hz : (!(0 : Int) == 0) = false := rfl
  unfold putR
  rw [hp, he, hg.lists, hz]
  simp only [Bool.not_true, cond_false]
  by_cases c : (l.length : Int) = q.Room
  · rw [show ((l.length : Int) == q.Room) = true by simpa using c]
    exact ⟨l, [p], q.Seed, rfl, v_keep hv hg hn hle hlen (ord_up hle hg.ord) _, .inl ⟨rfl, rfl⟩⟩
  · rw [show ((l.length : Int) == q.Room) = false by simpa using c]
    simp only [cond_false]
    cases decide (rn q.Seed < u0 q now)
    · exact ⟨_, [], sd1 q.Seed, rfl, v_keep hv hg hn hle (by simp; omega) (ord_snoc hle hn0 hp hg.ord) _, .inr ⟨rfl, p.Marked, rfl, fun _ => rfl, .inl rfl⟩⟩
    · cases ha : p.Able
      · exact ⟨l, [p], sd1 q.Seed, rfl, v_keep hv hg hn hle hlen (ord_up hle hg.ord) _, .inl ⟨rfl, rfl⟩⟩
      · refine ⟨_, [], sd1 q.Seed, rfl, v_keep hv hg hn hle (by simp; omega) (ord_snoc hle hn0 (p := markP p) hp hg.ord) _, .inr ⟨rfl, true, ?_, fun h => by simp at h, .inr rfl⟩⟩
        simp only [markP, ha]

/-- What a Take does to a valid queue. -/
theorem take_ok {q : Queue} {l : List Queued} {now : Int} (hv : vB q = true) (hg : Good q l) (hn : okT now = true) (hle : q.Vars.e7 ≤ now) :
    (l = [] ∧ takeR q now = (withU q [[]] now q.Seed, zeroP, false, [], 0) ∧ vB (withU q [[]] now q.Seed) = true) ∨ (∃ x xs, l = x :: xs ∧ takeR q now = (withU q [xs] now q.Seed, x.P, true, [], 0) ∧ vB (withU q [xs] now q.Seed) = true) := by
  have he : errB q now = 0 := by
    have : decide (now < q.Vars.e7) = false := by simp; omega
    unfold errB; rw [hv, hn, this]; rfl
  have hz : (!(0 : Int) == 0) = false := rfl
  have hlen := hg.len
  have hord := hg.ord
  unfold takeR
  rw [he, hg.lists, hz]
  simp only [cond_false]
  match l, hg, hlen, hord with
  | [], hg, hlen, hord => exact .inl ⟨rfl, rfl, v_keep hv hg hn hle hlen rfl _⟩
  | x :: xs, hg, hlen, hord =>
    refine .inr ⟨x, xs, rfl, rfl, v_keep hv hg hn hle (by simp at hlen; omega) (ord_up hle ?_) _⟩
    unfold ordB at hord
    rw [ord_iff] at hord ⊢
    intro i y hy
    obtain ⟨a, b, c⟩ := hord (i + 1) y (by simpa using hy)
    refine ⟨?_, b, c⟩
    by_cases hi : i = 0
    · subst hi
      obtain ⟨a0, _, _⟩ := hord 0 x rfl
      simp at a a0
      simp; omega
    · rw [if_neg (by omega), show i + 1 - 1 = (i - 1) + 1 by omega, List.getElem?_cons_succ] at a
      rw [if_neg hi]; exact a

theorem u0_rise {q : Queue} {x : Queued} {xs : List Queued} (hg : Good q (x :: xs)) {now : Int} (hn : okT now = true) (hle : q.Vars.e7 + 16000 ≤ now) (ha : q.Policy.A + 1000 ≤ now - x.At) (h2 : q.Vars.e2 ≤ now - x.At) :
    u2 q now = now - x.At ∧ ¬ (u0 q now < if q.Vars.e0 + q.Policy.B < 1000000 then q.Vars.e0 + q.Policy.B else 1000000) := by
  have h1 := hg.e1
  have h0 := hg.e0
  have hb := hg.b
  have hc := hg.c
  have hd : delayI q now = now - x.At := by unfold delayI; rw [hg.lists]
  have hb16 : ¬ (now - q.Vars.e1 < 16000) := by omega
  unfold u2 u0
  rw [if_neg hb16, if_neg hb16]
  refine ⟨hd, ?_⟩
  unfold newP
  rw [hd]
  have m1 : q.Policy.B * 1000 ≤ q.Policy.B * (now - x.At - q.Policy.A) := Int.mul_le_mul_of_nonneg_left (by omega) hb.1
  have m2 : 0 ≤ q.Policy.C * (now - x.At - q.Vars.e2) := Int.mul_nonneg hc.1 (by omega)
  generalize q.Policy.B * (now - x.At - q.Policy.A) = y1 at *
  generalize q.Policy.C * (now - x.At - q.Vars.e2) = y2 at *
  have k1 : q.Policy.B ≤ y1 / 1000 := by omega
  have k2 : 0 ≤ y2 / 1000 := by omega
  generalize y1 / 1000 = z1 at *
  generalize y2 / 1000 = z2 at *
  unfold clampP
  split <;> split <;> split <;> omega

/-- The queue that rises. -/
structure Up (q : Queue) : Prop where
  v : vB q = true
  first : ∃ x xs, q.Lists = [x :: xs] ∧ q.Policy.A + 1000 ≤ q.Vars.e7 - x.At ∧ q.Vars.e2 ≤ q.Vars.e7 - x.At

theorem rises_eq (q : Queue) (p : Packet) (many : Int) (hb : bnd q) : Models.law21_IntegralRises q p many = some true := by
  have hl : ∀ l ∈ q.Lists, l.length ≤ 2 ^ 63 - 1 := hb.2
  unfold Models.law21_IntegralRises
  rw [few_some hb, rv_eq q hl, rpacket_eq]
  simp only [Models.law21_head, Option.bind_some]
  cases (bif q.Lists.all (fun l => decide (l.length ≤ 600)) then decide ((q.Lists.length : Int) ≤ 20) else false)
  · rfl
  cases hv : vB q
  · rfl
  cases hp : okP p
  · rfl
  obtain ⟨l, hg⟩ := good_of hv
  have hq := hg.lists
  rw [hq]
  match l, hg, hq with
  | [], hg, hq => rfl
  | x :: xs, hg, hq =>
    have hpos : (((x :: xs).length : Int) == 0) = false := by simp; omega
    have hg1 : [x :: xs][Int.toNat 0]? = some (x :: xs) := rfl
    have hg2 : (x :: xs)[Int.toNat 0]? = some x := rfl
    have hx := first_at hg
    have h7 := hg.e7
    have hA := hg.a
    have w1 : IntKind.i64.wrap (q.Vars.e7 - x.At) = q.Vars.e7 - x.At := IntWalk.i64_in _ (by omega)
    have w2 : IntKind.i64.wrap (q.Policy.A + 1000) = q.Policy.A + 1000 := IntWalk.i64_in _ (by omega)
    simp only [hg1, hg2, Option.bind_some, hpos, cond_false, Bool.not_true, w1, w2]
    by_cases c1 : q.Vars.e7 - x.At < q.Policy.A + 1000
    · simp only [c1, decide_true, cond_true]
    by_cases c2 : q.Vars.e7 - x.At < q.Vars.e2
    · simp only [c1, c2, decide_true, decide_false, cond_true, cond_false]
    simp only [c1, c2, decide_false, cond_false]
    have hm : (IntKind.i64.wrap many).tmod 30 ≤ 29 := by
      have := Int.tmod_lt_of_pos (IntKind.i64.wrap many) (show (0 : Int) < 30 by decide)
      omega
    generalize (IntKind.i64.wrap many).tmod 30 = m at *
    refine loop_inv (fun n s => ∃ (c : Queue) (i : Int), s = (c.Vars.e7, false, i, c.Policy.Kind, c.Policy.A, c.Policy.B, c.Policy.C, c.Room, c.Lists, c.Vars.e0, c.Vars.e1, c.Vars.e2, c.Vars.e3, c.Vars.e4, c.Vars.e5, c.Vars.e6, c.Vars.e7, c.Seed) ∧ Up c ∧ 0 ≤ i ∧ i ≤ 30 ∧ n = (30 - i).toNat) ?_ 30 _ ⟨q, 0, by rw [hq], ⟨hv, x, xs, hq, by omega, by omega⟩, by omega, by omega, rfl⟩
    rintro n s ⟨c, i, rfl, hu, hi0, hi1, hn⟩
    obtain ⟨y, ys, hy, ha, h2⟩ := hu.first
    obtain ⟨l', hg'⟩ := good_of hu.v
    have hll := hg'.lists
    rw [hy] at hll
    obtain rfl : y :: ys = l' := by simpa using hll
    have e7 := hg'.e7
    have b0 := hg'.b
    have e0 := hg'.e0
    have hw : IntKind.i64.wrap (c.Vars.e7 + 16000) = c.Vars.e7 + 16000 := IntWalk.i64_in _ (by omega)
    by_cases c3 : i < m
    · by_cases c4 : 10000000 < c.Vars.e7 + 16000
      · simp only [c3, c4, hw, decide_true, cond_true]
        rfl
      · have hok : okT (c.Vars.e7 + 16000) = true := by simp only [okT, Bool.and_eq_true, decide_eq_true_eq]; omega
        have hlb : ∀ l ∈ c.Lists, l.length ≤ 2 ^ 63 - 1 := by
          intro l hl; rw [hy] at hl
          have : l = y :: ys := by simpa using hl
          have h5 := hg'.len; have h6 := hg'.room
          subst this; omega
        obtain ⟨l'', d, sd, hput, hv', hd⟩ := put_ok hu.v hg' hp hok (by omega)
        obtain ⟨hu2, hu0⟩ := u0_rise hg' hok (by omega) (by omega) (by omega)
        have ec : Queue.mk (Policy.mk c.Policy.Kind c.Policy.A c.Policy.B c.Policy.C) c.Room c.Lists (A8.mk c.Vars.e0 c.Vars.e1 c.Vars.e2 c.Vars.e3 c.Vars.e4 c.Vars.e5 c.Vars.e6 c.Vars.e7) c.Seed = c := rfl
        have hw2 : IntKind.i64.wrap (i + 1) = i + 1 := IntWalk.i64_in _ (by omega)
        have hw3 : IntKind.i64.wrap (c.Vars.e0 + c.Policy.B) = c.Vars.e0 + c.Policy.B := IntWalk.i64_in _ (by omega)
        have hu0' : ¬ ((withU c [l''] (c.Vars.e7 + 16000) sd).Vars.e0 < if c.Vars.e0 + c.Policy.B < 1000000 then c.Vars.e0 + c.Policy.B else 1000000) := hu0
        have hz : (!(0 : Int) == 0) = false := rfl
        simp only [c3, c4, hw, decide_true, decide_false, cond_true, cond_false, ec, tput_eq c p _ hlb, hput, Option.bind_some, hz, hw2, hw3, hu0']
        refine ⟨(30 - (i + 1)).toNat, by omega, withU c [l''] (c.Vars.e7 + 16000) sd, i + 1, rfl, ⟨hv', ?_⟩, by omega, by omega, rfl⟩
        have hfst : ∃ ys', l'' = y :: ys' := by
          rcases hd with ⟨h, _⟩ | ⟨_, m, h, _⟩
          · exact ⟨ys, h⟩
          · exact ⟨_, h⟩
        obtain ⟨ys', h⟩ := hfst
        refine ⟨y, ys', by rw [h]; rfl, ?_, ?_⟩
        · show c.Policy.A + 1000 ≤ c.Vars.e7 + 16000 - y.At
          omega
        · show u2 c (c.Vars.e7 + 16000) ≤ c.Vars.e7 + 16000 - y.At
          omega
    · simp only [c3, decide_false, cond_false]
      rfl

end Go.Proofs.YtfjkpjgbigcpiaaDoor
end

section
set_option linter.unusedVariables false
set_option maxRecDepth 100000
namespace Go.Proofs.YtfjkpjgbigcpiaaDoor
open Go.PI Go.Pl

/-- The packet with its mark, where it may carry one. -/
def mkB (a b : Packet) : Bool :=
  bif b.Marked && b.Able then (a.Flow == b.Flow && (a.Sub == b.Sub && (a.Number == b.Number && (a.Data == b.Data && (a.Size == b.Size && (a.Sent == b.Sent && (a.Able == b.Able && true == b.Marked))))))) else
    (a.Flow == b.Flow && (a.Sub == b.Sub && (a.Number == b.Number && (a.Data == b.Data && (a.Size == b.Size && (a.Sent == b.Sent && (a.Able == b.Able && a.Marked == b.Marked)))))))

theorem marked_eq (a b : Packet) : Models.law21_marked a b = some (mkB a b) := by
  unfold Models.law21_marked mkB
  cases b.Marked <;> cases b.Able <;> rfl

/-- What may come out for a packet that went in. -/
def Same (a b : Packet) : Prop := b = a ∨ mkB a b = true

theorem same_of {p : Packet} {m : Bool} (h1 : p.Able = false → m = p.Marked) (h2 : m = p.Marked ∨ m = true) : Same p (Packet.mk p.Flow p.Sub p.Number p.Data p.Size p.Sent p.Able m) := by
  obtain ⟨pf, ps, pn, pd, pz, pt, pa, pm⟩ := p
  simp only at h1 h2 ⊢
  rcases h2 with h | h
  · left; rw [h]
  · cases pa
    · left; rw [h1 rfl]
    · right; subst h; simp [mkB]

/-- What came is what was accepted and what was dropped, in order. -/
inductive Mix : List Packet → List Packet → List Packet → Prop
  | nil : Mix [] [] []
  | acc (x y : Packet) {c a d : List Packet} (s : Same x y) (h : Mix c a d) : Mix (x :: c) (y :: a) d
  | drp (x : Packet) {c a d : List Packet} (h : Mix c a d) : Mix (x :: c) a (x :: d)

theorem Mix.snoc_acc {x y : Packet} (s : Same x y) {c a d : List Packet} (h : Mix c a d) : Mix (c ++ [x]) (a ++ [y]) d := by
  induction h with
  | nil => exact .acc x y s .nil
  | acc u v t h ih => exact .acc u v t ih
  | drp u h ih => exact .drp u ih
theorem Mix.snoc_drp (x : Packet) {c a d : List Packet} (h : Mix c a d) : Mix (c ++ [x]) a (d ++ [x]) := by
  induction h with
  | nil => exact .drp x .nil
  | acc u v t h ih => exact .acc u v t ih
  | drp u h ih => exact .drp u ih
theorem Mix.length {c a d : List Packet} (h : Mix c a d) : c.length = a.length + d.length := by
  induction h with
  | nil => rfl
  | acc u v t h ih => simp only [List.length_cons]; omega
  | drp u h ih => simp only [List.length_cons]; omega
theorem Mix.mem_d {c a d : List Packet} (h : Mix c a d) : ∀ y ∈ d, y ∈ c := by
  induction h with
  | nil => simp
  | acc u v t h ih => intro y hy; exact List.mem_cons_of_mem _ (ih y hy)
  | drp u h ih =>
    intro y hy
    rcases List.mem_cons.1 hy with rfl | hy
    · simp
    · exact List.mem_cons_of_mem _ (ih y hy)

def hit (n0 i : Nat) (p : Packet) : Option Packet → Bool
  | none => false
  | some z => decide (z = p) || (decide (n0 ≤ i) && mkB p z)

/-- The loop that holds what came against what went. -/
theorem mix_loop {τ ω : Type} {f : τ → Option (τ ⊕ ω)} (st : Nat → Nat → Nat → τ) (e : ω) (all out dropped : List Packet) (n0 : Nat) (bad : ω)
    (hf : ∀ lost at_ i p, all[i]? = some p → f (st lost at_ i) = some (if n0 ≤ i ∧ dropped[lost]? = some p then .inl (st (lost + 1) at_ (i + 1)) else if hit n0 i p out[at_]? = true then .inl (st lost (at_ + 1) (i + 1)) else .inr bad))
    (he : f (st dropped.length out.length all.length) = some (.inr e)) {c a d : List Packet} (hm : Mix c a d) (hnd : c.Pairwise (· ≠ ·)) :
    ∀ preA preO preD, all = preA ++ c → out = preO ++ a → dropped = preD ++ d → n0 ≤ preA.length → loopM f (st preD.length preO.length preA.length) = some e := by
  induction hm with
  | nil =>
    intro preA preO preD h1 h2 h3 _
    rw [List.append_nil] at h1 h2 h3
    subst h1 h2 h3
    exact Go.Pl.out he
  | @acc x y c a d s h ih =>
    intro preA preO preD h1 h2 h3 hn
    have hg : all[preA.length]? = some x := by rw [h1]; simp
    have ho : out[preO.length]? = some y := by rw [h2]; simp
    have hd : ¬ (n0 ≤ preA.length ∧ dropped[preD.length]? = some x) := by
      rintro ⟨_, hx⟩
      rw [h3] at hx
      have hmem : x ∈ d := by
        rw [List.getElem?_append_right (Nat.le_refl _), Nat.sub_self] at hx
        exact List.mem_of_getElem? hx
      exact (List.pairwise_cons.1 hnd).1 x (h.mem_d x hmem) rfl
    have hh : hit n0 preA.length x out[preO.length]? = true := by
      rw [ho]
      simp only [hit, Bool.or_eq_true, decide_eq_true_eq, Bool.and_eq_true]
      rcases s with s | s
      · exact .inl s
      · exact .inr ⟨hn, s⟩
    have hs := hf preD.length preO.length preA.length x hg
    rw [if_neg hd, if_pos hh] at hs
    rw [Go.Pl.next hs]
    have := ih (List.pairwise_cons.1 hnd).2 (preA ++ [x]) (preO ++ [y]) preD (by rw [h1]; simp) (by rw [h2]; simp) h3 (by simp; omega)
    simpa using this
  | @drp x c a d h ih =>
    intro preA preO preD h1 h2 h3 hn
    have hg : all[preA.length]? = some x := by rw [h1]; simp
    have hd : n0 ≤ preA.length ∧ dropped[preD.length]? = some x := ⟨hn, by rw [h3]; simp⟩
    have hs := hf preD.length preO.length preA.length x hg
    rw [if_pos hd] at hs
    rw [Go.Pl.next hs]
    have := ih (List.pairwise_cons.1 hnd).2 (preA ++ [x]) preO (preD ++ [x]) (by rw [h1]; simp) h2 (by rw [h3]; simp) (by simp; omega)
    simpa using this

theorem first_loop {τ ω : Type} {f : τ → Option (τ ⊕ ω)} (st : Nat → Nat → Nat → τ) (all out dropped : List Packet) (n0 : Nat) (bad : ω)
    (hf : ∀ lost at_ i p, all[i]? = some p → f (st lost at_ i) = some (if n0 ≤ i ∧ dropped[lost]? = some p then .inl (st (lost + 1) at_ (i + 1)) else if hit n0 i p out[at_]? = true then .inl (st lost (at_ + 1) (i + 1)) else .inr bad))
    (p0 : List Packet) (hn : n0 = p0.length) {c a : List Packet} (h1 : all = p0 ++ c) (h2 : out = p0 ++ a) :
    ∀ k, k ≤ p0.length → loopM f (st 0 0 0) = loopM f (st 0 k k) := by
  intro k
  induction k with
  | zero => intro _; rfl
  | succ k ih =>
    intro hk
    have hlt : k < p0.length := by omega
    have hg : all[k]? = some p0[k] := by rw [h1, List.getElem?_append_left hlt, List.getElem?_eq_getElem hlt]
    have ho : out[k]? = some p0[k] := by rw [h2, List.getElem?_append_left hlt, List.getElem?_eq_getElem hlt]
    have hh : hit n0 k p0[k] out[k]? = true := by rw [ho]; simp [hit]
    have hs := hf 0 k k _ hg
    rw [if_neg (by omega), if_pos hh] at hs
    rw [ih (by omega), Go.Pl.next hs]

/-- Both together. -/
theorem whole_loop {τ ω : Type} {f : τ → Option (τ ⊕ ω)} (st : Nat → Nat → Nat → τ) (e : ω) (all out dropped : List Packet) (bad : ω) (p0 c a : List Packet) (h1 : all = p0 ++ c) (h2 : out = p0 ++ a)
    (hf : ∀ lost at_ i p, all[i]? = some p → f (st lost at_ i) = some (if p0.length ≤ i ∧ dropped[lost]? = some p then .inl (st (lost + 1) at_ (i + 1)) else if hit p0.length i p out[at_]? = true then .inl (st lost (at_ + 1) (i + 1)) else .inr bad))
    (he : f (st dropped.length out.length all.length) = some (.inr e)) (hm : Mix c a dropped) (hnd : c.Pairwise (· ≠ ·)) : loopM f (st 0 0 0) = some e := by
  rw [first_loop st all out dropped p0.length bad hf p0 rfl h1 h2 p0.length (Nat.le_refl _)]
  exact mix_loop st e all out dropped p0.length bad hf he hm hnd p0 p0 [] h1 h2 rfl (Nat.le_refl _)

theorem peq (a b : Packet) : (a.Flow == b.Flow && (a.Sub == b.Sub && (a.Number == b.Number && (a.Data == b.Data && (a.Size == b.Size && (a.Sent == b.Sent && (a.Able == b.Able && a.Marked == b.Marked))))))) = decide (a = b) := by
  cases a; cases b
  rw [Bool.eq_iff_iff]
  simp

theorem bind_loop {τ ω β : Type} {f : τ → Option (τ ⊕ ω)} {x0 : τ} {e : ω} {K : ω → Option β} {r : Option β} (h : loopM f x0 = some e) (hk : K e = r) : (loopM f x0).bind K = r := by
  rw [h]; exact hk

/-- The packets of a list, put behind others. -/
theorem pk_loop {f : Int × List Packet → Option ((Int × List Packet) ⊕ (Int × List Packet))} (l : List Queued) (pre : List Packet) (hl : l.length ≤ 1000) (hp : pre.length ≤ 1000)
    (hf : ∀ i l6, f (i, l6) = (bif decide (i < (l.length : Int)) then
              bif decide (0 ≤ i) then
                (l[i.toNat]?).bind fun q7 =>
                bif decide ((l6.length + 1) * 56 ≤ 2 ^ 44) && decide (l6.length + 1 ≤ 2 ^ 44) then
                  some (Sum.inl (IntKind.i64.wrap (i + 1), l6 ++ [q7.P]))
                else
                  none
              else
                none
            else
              some (Sum.inr (i, l6)))) : loopM f (0, pre) = some ((l.length : Int), pre ++ l.map (·.P)) := by
  have key : ∀ m i, m = l.length - i → i ≤ l.length → loopM f ((i : Int), pre ++ (l.take i).map (·.P)) = some ((l.length : Int), pre ++ l.map (·.P)) := by
    intro m
    induction m with
    | zero =>
      intro i hm hi
      have : i = l.length := by omega
      subst this
      have h1 : ¬ ((l.length : Int) < (l.length : Int)) := by omega
      refine Go.Pl.out ?_
      rw [hf]
      simp only [h1, decide_false, cond_false, List.take_length]
    | succ m ih =>
      intro i hm hi
      have hi : i < l.length := by omega
      have h1 : ((i : Int) < (l.length : Int)) := by omega
      have h2 : ((pre ++ (l.take i).map (·.P)).length + 1) * 56 ≤ 2 ^ 44 := by simp; omega
      have h3 : (pre ++ (l.take i).map (·.P)).length + 1 ≤ 2 ^ 44 := by simp; omega
      have h4 : pre ++ (l.take (i + 1)).map (·.P) = (pre ++ (l.take i).map (·.P)) ++ [l[i].P] := by
        rw [List.take_add_one, List.getElem?_eq_getElem hi, List.map_append, List.append_assoc]
        rfl
      have := ih (i + 1) (by omega) (by omega)
      rw [h4] at this
      rw [← this]
      refine Go.Pl.next ?_
      rw [hf]
      simp only [h1, h2, h3, decide_true, Bool.and_self, cond_true, Int.natCast_nonneg, Int.toNat_natCast, List.getElem?_eq_getElem hi, Option.bind_some, wrap_succ hi (show l.length ≤ 2 ^ 63 - 1 by omega)]
  have := key l.length 0 (by omega) (Nat.zero_le _)
  simpa using this

def clk (now w : Int) : Int := if IntKind.i64.wrap (now + IntKind.i64.wrap w) < 10000000 then IntKind.i64.wrap (now + IntKind.i64.wrap w) else 10000000
theorem clk_def (now w : Int) : (if IntKind.i64.wrap (now + IntKind.i64.wrap w) < 10000000 then IntKind.i64.wrap (now + IntKind.i64.wrap w) else 10000000) = clk now w := rfl
def pk (i : Int) (s : Step) : Packet := Packet.mk s.P.Flow s.P.Sub (IntKind.i64.wrap (500000000 + i)) s.P.Data s.P.Size s.P.Sent s.P.Able s.P.Marked
theorem pk_def (i : Int) (s : Step) : Packet.mk s.P.Flow s.P.Sub (IntKind.i64.wrap (500000000 + i)) s.P.Data s.P.Size s.P.Sent s.P.Able s.P.Marked = pk i s := rfl
theorem eta_q (q : Queue) : Queue.mk (Policy.mk q.Policy.Kind q.Policy.A q.Policy.B q.Policy.C) q.Room q.Lists (A8.mk q.Vars.e0 q.Vars.e1 q.Vars.e2 q.Vars.e3 q.Vars.e4 q.Vars.e5 q.Vars.e6 q.Vars.e7) q.Seed = q := rfl

theorem clk_ok {now w : Int} (hn : okT now = true) (hw : 0 ≤ w ∧ w ≤ 65535) : okT (clk now w) = true ∧ now ≤ clk now w := by
  simp only [okT, Bool.and_eq_true, decide_eq_true_eq] at hn ⊢
  have h1 : IntKind.i64.wrap w = w := IntWalk.i64_in _ (by omega)
  have h2 : IntKind.i64.wrap (now + w) = now + w := IntWalk.i64_in _ (by omega)
  unfold clk
  rw [h1, h2]
  split <;> omega

/-- What stands after i calls. -/
structure Run (p0 : List Packet) (i : Nat) (now : Int) (q : Queue) (taken all dropped : List Packet) : Prop where
  v : vB q = true
  t : okT now = true
  le : q.Vars.e7 ≤ now
  mix : ∃ l a c, q.Lists = [l] ∧ all = p0 ++ c ∧ Mix c a dropped ∧ taken ++ l.map (·.P) = p0 ++ a ∧ (∀ p ∈ c, p.Number < 500000000 + i) ∧ c.Pairwise (· ≠ ·) ∧ c.length ≤ i
  tk : taken.length ≤ i
  dr : dropped.length ≤ i

theorem run_skip {p0 : List Packet} {i : Nat} {now t : Int} {q : Queue} {taken all dropped : List Packet} (h : Run p0 i now q taken all dropped) (ht : okT t = true) (hle : now ≤ t) : Run p0 (i + 1) t q taken all dropped := by
  obtain ⟨l, a, c, h1, h2, h3, h4, h5, h6, h7⟩ := h.mix
  have := h.le; have := h.tk; have := h.dr
  exact ⟨h.v, ht, by omega, ⟨l, a, c, h1, h2, h3, h4, fun p hp => by have := h5 p hp; omega, h6, by omega⟩, by omega, by omega⟩

theorem run_take {p0 : List Packet} {i : Nat} {now t : Int} {q : Queue} {taken all dropped : List Packet} (h : Run p0 i now q taken all dropped) (ht : okT t = true) (hle : now ≤ t) :
    (∃ q', takeR q t = (q', zeroP, false, [], 0) ∧ Run p0 (i + 1) t q' taken all dropped) ∨ (∃ q' p, takeR q t = (q', p, true, [], 0) ∧ Run p0 (i + 1) t q' (taken ++ [p]) all dropped) := by
  obtain ⟨l, a, c, h1, h2, h3, h4, h5, h6, h7⟩ := h.mix
  have hle' := h.le; have htk := h.tk; have hdr := h.dr
  obtain ⟨l', hg⟩ := good_of h.v
  have hll := hg.lists
  rw [h1] at hll
  obtain rfl : l = l' := by simpa using hll
  have h5' : ∀ p ∈ c, p.Number < 500000000 + ((i + 1 : Nat) : Int) := fun p hp => by have := h5 p hp; omega
  rcases take_ok h.v hg ht (by omega) with ⟨rfl, hT, hv⟩ | ⟨x, xs, rfl, hT, hv⟩
  · exact .inl ⟨_, hT, hv, ht, Int.le_refl _, ⟨[], a, c, rfl, h2, h3, h4, h5', h6, by omega⟩, by omega, by omega⟩
  · refine .inr ⟨_, _, hT, hv, ht, Int.le_refl _, ⟨xs, a, c, rfl, h2, h3, ?_, h5', h6, by omega⟩, by simp; omega, by omega⟩
    rw [← h4]; simp

theorem run_put {p0 : List Packet} {i : Nat} {now t : Int} {q : Queue} {taken all dropped : List Packet} (h : Run p0 i now q taken all dropped) (ht : okT t = true) (hle : now ≤ t) {s : Step} (hp : okP (pk i s) = true) (hi : i < 1000) :
    ∃ q' d, putR q (pk i s) t = (q', d, 0) ∧ d.length ≤ 1 ∧ Run p0 (i + 1) t q' taken (all ++ [pk i s]) (dropped ++ d) := by
  obtain ⟨l, a, c, h1, h2, h3, h4, h5, h6, h7⟩ := h.mix
  have hle' := h.le; have htk := h.tk; have hdr := h.dr
  obtain ⟨l', hg⟩ := good_of h.v
  have hll := hg.lists
  rw [h1] at hll
  obtain rfl : l = l' := by simpa using hll
  have hnum : (pk i s).Number = 500000000 + i := by
    show IntKind.i64.wrap (500000000 + (i : Int)) = _
    exact IntWalk.i64_in _ (by omega)
  have hcn : ∀ p ∈ c ++ [pk i s], p.Number < 500000000 + ((i + 1 : Nat) : Int) := by
    intro p hp
    rcases List.mem_append.1 hp with hp | hp
    · have := h5 p hp; omega
    · simp only [List.mem_singleton] at hp; subst hp; omega
  have hcd : (c ++ [pk i s]).Pairwise (· ≠ ·) := by
    rw [List.pairwise_append]
    refine ⟨h6, by simp, fun u hu v hv => ?_⟩
    simp only [List.mem_singleton] at hv
    subst hv
    intro he
    have := h5 u hu
    rw [he] at this
    omega
  obtain ⟨l', d, sd, hP, hv, ⟨rfl, rfl⟩ | ⟨rfl, m, rfl, m1, m2⟩⟩ := put_ok h.v hg hp ht (by omega)
  · refine ⟨_, _, hP, by simp, hv, ht, Int.le_refl _, ⟨_, a, c ++ [pk i s], rfl, by rw [h2, List.append_assoc], h3.snoc_drp _, h4, hcn, hcd, by simp; omega⟩, by omega, by simp; omega⟩
  · refine ⟨_, _, hP, by simp, hv, ht, Int.le_refl _, ⟨_, a ++ [Packet.mk (pk i s).Flow (pk i s).Sub (pk i s).Number (pk i s).Data (pk i s).Size (pk i s).Sent (pk i s).Able m], c ++ [pk i s], rfl, by rw [h2, List.append_assoc], ?_, ?_, hcn, hcd, by simp; omega⟩, by omega, by simp; omega⟩
    · rw [List.append_nil]; exact h3.snoc_acc (same_of m1 m2)
    · rw [List.map_append, ← List.append_assoc, h4, List.append_assoc]; rfl

theorem conserves_eq (q : Queue) (steps : List Step) (hb : bnd q) (hs : ∀ s ∈ steps, 0 ≤ s.Wait ∧ s.Wait ≤ 65535) : Models.law21_IntegralConserves q steps = some true := by
  have hl : ∀ l ∈ q.Lists, l.length ≤ 2 ^ 63 - 1 := hb.2
  unfold Models.law21_IntegralConserves
  rw [few_some hb, rv_eq q hl]
  simp only [Models.law21_head, Option.bind_some]
  by_cases hn : (200 : Int) < (steps.length : Int)
  · simp only [hn, decide_true, cond_true]
  cases (bif q.Lists.all (fun l => decide (l.length ≤ 600)) then decide ((q.Lists.length : Int) ≤ 20) else false)
  · simp only [hn, decide_false, cond_false, Bool.not_false, cond_true]
  cases hv : vB q
  · simp only [hn, decide_false, cond_false, Bool.not_false, Bool.not_true, cond_true]
  obtain ⟨l0, hg⟩ := good_of hv
  have hq := hg.lists
  have hlen0 := hg.len
  have hroom := hg.room
  have hg1 : q.Lists[Int.toNat 0]? = some l0 := by rw [hq]; rfl
  simp only [hn, decide_false, cond_false, Bool.not_true, hg1, Option.bind_some]
  refine bind_loop (pk_loop l0 [] (by omega) (by simp) (fun _ _ => rfl)) ?_
  rw [List.nil_append]
  simp only
  generalize hp0 : l0.map (·.P) = p0
  have hp0l : p0.length = l0.length := by rw [← hp0]; simp
  have e7 := hg.e7
  refine loop_inv (fun n s => ∃ (i : Nat) (now : Int) (c : Queue) (taken all dropped : List Packet), s = (now, false, (i : Int), taken, all, dropped, c.Policy.Kind, c.Policy.A, c.Policy.B, c.Policy.C, c.Room, c.Lists, c.Vars.e0, c.Vars.e1, c.Vars.e2, c.Vars.e3, c.Vars.e4, c.Vars.e5, c.Vars.e6, c.Vars.e7, c.Seed) ∧ Run p0 i now c taken all dropped ∧ i ≤ steps.length ∧ n = steps.length - i) ?_ steps.length _
    ⟨0, q.Vars.e7, q, [], p0, [], rfl, ⟨hv, by simp only [okT, Bool.and_eq_true, decide_eq_true_eq]; exact e7, Int.le_refl _, ⟨l0, [], [], hq, by simp, .nil, by simp [hp0], by simp, by simp, by simp⟩, Nat.zero_le _, Nat.zero_le _⟩, Nat.zero_le _, by omega⟩
  rintro n s ⟨i, now, c, taken, all, dropped, rfl, hR, hi, hnn⟩
  obtain ⟨l, a, cm, m1, m2, m3, m4, m5, m6, m7⟩ := hR.mix
  have htk := hR.tk; have hdr := hR.dr
  obtain ⟨l', hgc⟩ := good_of hR.v
  have hll := hgc.lists
  rw [m1] at hll
  obtain rfl : l = l' := by simpa using hll
  have hlc := hgc.len
  have hrc := hgc.room
  have hbc : ∀ l ∈ c.Lists, l.length ≤ 2 ^ 63 - 1 := by
    intro l' hl'; rw [m1] at hl'
    obtain rfl : l' = l := by simpa using hl'
    omega
  have hall : all.length = p0.length + cm.length := by rw [m2]; simp
  by_cases hlt : i < steps.length
  · have hltI : ((i : Int) < (steps.length : Int)) := by omega
    have hw := hs _ (List.getElem_mem hlt)
    generalize hsi : steps[i] = s at hw
    obtain ⟨ht, hle⟩ := clk_ok hR.t hw
    simp only [hltI, decide_true, cond_true, Int.natCast_nonneg, Int.toNat_natCast, List.getElem?_eq_getElem hlt, hsi, Option.bind_some, eta_q, clk_def, pk_def, wrap_succ hlt (show steps.length ≤ 2 ^ 63 - 1 by omega), ttake_eq c _ hbc, tput_eq c _ _ hbc, rpacket_eq]
    by_cases hT : s.Take = true
    · have r1 : (taken.length + 1) * 56 ≤ 2 ^ 44 := by omega
      have r2 : taken.length + 1 ≤ 2 ^ 44 := by omega
      have hz : (!(0 : Int) == 0) = false := rfl
      have hz2 : (!(([] : List Packet).length : Int) == 0) = false := rfl
      rcases run_take hR ht hle with ⟨q', hq', hR'⟩ | ⟨q', p, hq', hR'⟩
      · simp only [hT, hq', hz, hz2, r1, r2, decide_true, Bool.and_self, cond_true, cond_false]
        exact ⟨steps.length - (i + 1), by omega, i + 1, _, q', _, _, _, rfl, hR', hlt, rfl⟩
      · simp only [hT, hq', hz, hz2, r1, r2, decide_true, Bool.and_self, cond_true, cond_false]
        exact ⟨steps.length - (i + 1), by omega, i + 1, _, q', _, _, _, rfl, hR', hlt, rfl⟩
    · have hT' : s.Take = false := by simpa using hT
      by_cases hp : okP (pk i s) = true
      · obtain ⟨q', d, hq', hd, hR'⟩ := run_put hR ht hle hp (by omega)
        have r1 : (all.length + 1) * 56 ≤ 2 ^ 44 := by omega
        have r2 : all.length + 1 ≤ 2 ^ 44 := by omega
        have r3 : (dropped.length + d.length) * 56 ≤ 2 ^ 44 := by omega
        have r4 : dropped.length + d.length ≤ 2 ^ 44 := by omega
        have hz : (!(0 : Int) == 0) = false := rfl
        simp only [hT', hp, hq', hz, r1, r2, r3, r4, decide_true, Bool.and_self, Bool.not_true, cond_true, cond_false]
        exact ⟨steps.length - (i + 1), by omega, i + 1, _, q', _, _, _, rfl, hR', hlt, rfl⟩
      · have hp' : okP (pk i s) = false := by simpa using hp
        simp only [hT', hp', Bool.not_false, cond_true, cond_false]
        exact ⟨steps.length - (i + 1), by omega, i + 1, _, c, _, _, _, rfl, run_skip hR ht hle, hlt, rfl⟩
  · have hltI : ¬ ((i : Int) < (steps.length : Int)) := by omega
    simp only [hltI, decide_false, cond_false]
    show _ = some true
    have hone : (!((c.Lists.length : Nat) : Int) == 1) = false := by rw [m1]; rfl
    have hgc1 : c.Lists[Int.toNat 0]? = some l := by rw [m1]; rfl
    have hval : Models.integral_Valid c = some true := by
      unfold Models.integral_Valid; rw [tv_eq c hbc, hR.v]; rfl
    simp only [Sum.elim_inr, hone, cond_false, hgc1, Option.bind_some, eta_q, hval, marked_eq, peq]
    refine bind_loop (pk_loop l taken (by omega) (by omega) (fun _ _ => rfl)) ?_
    simp only
    have hol : (taken ++ l.map (·.P)).length = p0.length + a.length := by rw [m4]; simp
    have hmix := m3.length
    generalize taken ++ l.map (·.P) = out at *
    have small : all.length ≤ 2 ^ 63 - 1 := by omega
    have smallo : out.length ≤ 2 ^ 63 - 1 := by omega
    have smalld : dropped.length ≤ 2 ^ 63 - 1 := by omega
    refine bind_loop (whole_loop (fun lost at_ i => ((lost : Int), (at_ : Int), false, (i : Int))) (.inr ((dropped.length : Int), (out.length : Int), false, (all.length : Int))) all out dropped (.inl false) p0 cm a m2 m4 ?_ ?_ m3 m6) ?_
    · intro lost at_ j p hp
      have hj : j < all.length := (List.getElem?_eq_some_iff.1 hp).1
      have e1 : ((j : Int) < (all.length : Int)) := by omega
      have key : (bif decide ((at_ : Int) < (out.length : Int)) then bif decide (at_ < out.length) then (out[at_]?).bind fun z => bif decide (z = p) then some (Sum.inl ((lost : Int), IntKind.i64.wrap ((at_ : Int) + 1), false, IntKind.i64.wrap ((j : Int) + 1)))
          else bif decide ((p0.length : Int) ≤ (j : Int)) then bif decide (at_ < out.length) then (out[at_]?).bind fun z => bif mkB p z then some (Sum.inl ((lost : Int), IntKind.i64.wrap ((at_ : Int) + 1), false, IntKind.i64.wrap ((j : Int) + 1))) else some (Sum.inr (Sum.inl false)) else none else some (Sum.inr (Sum.inl false)) else none else some (Sum.inr (Sum.inl false))) =
            some (if hit p0.length j p out[at_]? = true then Sum.inl ((lost : Int), ((at_ + 1 : Nat) : Int), false, ((j + 1 : Nat) : Int)) else (Sum.inr (Sum.inl false) : (Int × Int × Bool × Int) ⊕ (Bool ⊕ (Int × Int × Bool × Int)))) := by
        cases ho : out[at_]? with
        | none =>
          have : ¬ ((at_ : Int) < (out.length : Int)) := by have := List.getElem?_eq_none_iff.1 ho; omega
          simp [this, hit]
        | some z =>
          have hlt : at_ < out.length := (List.getElem?_eq_some_iff.1 ho).1
          have h1 : ((at_ : Int) < (out.length : Int)) := by omega
          by_cases hz : z = p
          · simp only [hit, h1, hlt, hz, decide_true, cond_true, Option.bind_some, wrap_succ hlt smallo, wrap_succ hj small, Bool.true_or, if_true]
          · by_cases c1 : p0.length ≤ j
            · have c1' : (p0.length : Int) ≤ (j : Int) := by omega
              cases hm : mkB p z <;> simp [hit, h1, hlt, hz, c1, c1', hm, wrap_succ hlt smallo, wrap_succ hj small]
            · have c1' : ¬ (p0.length : Int) ≤ (j : Int) := by omega
              simp [hit, h1, hlt, hz, c1, c1']
      simp only [e1, hj, decide_true, cond_true, Int.natCast_nonneg, Int.toNat_natCast, Nat.zero_add, hp, Option.bind_some]
      by_cases c1 : p0.length ≤ j
      · have c1' : (p0.length : Int) ≤ (j : Int) := by omega
        cases hd : dropped[lost]? with
        | none =>
          have h2 : ¬ ((lost : Int) < (dropped.length : Int)) := by have := List.getElem?_eq_none_iff.1 hd; omega
          simp only [c1', decide_true, cond_true] at key
          simp only [c1, c1', h2, decide_true, decide_false, cond_true, cond_false, key, true_and, reduceCtorEq, if_false]
        | some z =>
          have hlt : lost < dropped.length := (List.getElem?_eq_some_iff.1 hd).1
          have h2 : ((lost : Int) < (dropped.length : Int)) := by omega
          by_cases hz : z = p
          · subst hz
            simp only [c1, c1', h2, hlt, decide_true, cond_true, Option.bind_some, wrap_succ hlt smalld, wrap_succ hj small, true_and, if_true]
          · have hz' : ¬ some z = some p := fun e => hz (Option.some.inj e)
            simp only [c1', decide_true, cond_true] at key
            simp only [c1, c1', h2, hlt, hz, hz', decide_true, decide_false, cond_true, cond_false, Option.bind_some, key, true_and, if_false]
      · have c1' : ¬ (p0.length : Int) ≤ (j : Int) := by omega
        simp only [c1', decide_false, cond_false] at key
        simp only [c1, c1', decide_false, cond_false, key, false_and, if_false]
    · have e1 : ¬ ((all.length : Int) < (all.length : Int)) := by omega
      simp only [e1, decide_false, cond_false]
    · have w1 : IntKind.i64.wrap ((out.length : Int) + (dropped.length : Int)) = (all.length : Int) := by
        rw [IntWalk.i64_in _ (by omega)]; omega
      simp only [Sum.elim_inr, w1, beq_self_eq_true, cond_true]

theorem u16_bnd {x : Int} (h : wf46 x) : 0 ≤ x ∧ x ≤ 65535 := by
  have h1 : IntKind.min .u16 = 0 := by decide
  have h2 : IntKind.max .u16 = 65535 := by decide
  unfold wf46 at h
  rw [h1, h2] at h
  exact h

end Go.Proofs.YtfjkpjgbigcpiaaDoor
end

section
set_option linter.unusedVariables false
/- The law IntegralConserves: its row. -/
namespace Go.Proofs.YtfjkpjgbigcpiaaDoor.integralConserves
open Go.PI Go.ChangeShapes Go.WideShapes Go.ChangeAt Go.RowKit
theorem own : ownKnob Tryd.prog.godebug = none := by kernel_rfl
theorem laidOut : laidOutB Tryd.prog = true := by kernel_rfl
theorem okWide_struct {P : Program} {w : World} {r : Reach} {base : Nat} {t : TypeId} {v : Value} {fs : Array Field} (ht : P.underlying t = some (.struct fs)) (h : Value.okWide P w r base t v) : ∃ cs, v = .agg cs := by
  unfold Value.okWide at h
  rw [ht] at h
  obtain ⟨cs, h, _⟩ := h
  exact ⟨cs, h⟩
theorem rep_agg {E : Env} {l : List AV} {cs : Array Value} (h : RepL E false l (Value.agg cs).cells.toList) : Rep E false (.agg l) (.agg cs) := by
  simp only [Rep]
  exact ⟨cs.toList, by simp, by simpa [Value.cells] using h⟩
theorem rep_slice {E : Env} {l : List AV} {a : Option Addr} {len cap : Nat} (h : RepL E false l (Value.slice a len cap).cells.toList) {x : AV} (hl : l = [x]) : Rep E false x (.slice a len cap) := by
  subst hl
  have h2 : Rep E false x (Value.slice a len cap) ∧ leafV (Value.slice a len cap) = true := by simpa [Value.cells, RepL] using h
  exact h2.1
theorem walk (W : World) (cs0 : Array Value) (ad1 : Option Addr) (len1 cap1 : Nat) {l0 : List AV} {l1 : List AV} (e0 : RepL (Env.all W) false l0 (Value.agg cs0 : Value).cells.toList) (e1 : RepL (Env.all W) false l1 (Value.slice ad1 len1 cap1 : Value).cells.toList) {n0 : Nat} (s0 : Shape Tryd.prog n0 28 l0) {n1 : Nat} (s1 : Shape Tryd.prog n1 42 l1) (hG : GlobOk (Env.all W)) : Calls Tryd.prog 4 #[.agg cs0, .slice ad1 len1 cap1] W fun e w' => e = .returned (.bool true) ∧ Below W.heap.size W w' := by
  obtain ⟨x0, w0, r0⟩ := sh27 (shape_same (show Tryd.prog.underlying 28 = Tryd.prog.underlying 27 by kernel_rfl) s0)
  obtain ⟨x1, w1, b1, hl1, r1⟩ := sh42 s1
  have hs : SumOk C T 4 ⟨[28, 42], [4], fun x => Go.Models.law21_IntegralConserves x.1 x.2⟩ := mkS_sum s40 rfl
  refine law_true Cok hs rfl (x := (x0, x1)) (y := true) (conserves_eq x0 x1 (bnd_wf w0) (fun s hm => u16_bnd (w1.2 s hm).1)) ?_ («as» := [.agg l0, b1]) ⟨r0, r1, trivial⟩ hG (vs := [.agg cs0, .slice ad1 len1 cap1]) ?_
  · intro l hl
    match l, hl with
    | [a], hl => have : a = .lit (.bool true) := hl.1; rw [this]
    | [], hl => exact False.elim hl
    | _ :: _ :: _, hl => exact False.elim hl.2
  · simp only [RepT]
    exact ⟨rep_agg e0, rep_slice e1 hl1, trivial⟩
set_option maxRecDepth 100000 in
theorem lifted (os : Os) (started : os.Started) (H : Type) (enc : TypeId × Value → H) :
    ReturnsInHanded {} Tryd.checked os 4 .any (fun w args => (Rows.integralConservesSpec.pre enc Tryd.prog Tryd.f4 [] false w args ∧ laidMetH Tryd.prog Rows.integralConservesRow.laid w) ∧ sizedMet enc Tryd.prog Tryd.f4 (OpenSpec.ofChange Rows.integralConservesSpec) false w args) (Rows.integralConservesSpec.post enc Tryd.prog Tryd.f4 false true false false) := by
  refine returnsInHanded_of_change_and (C := Tryd.checked) (X := fun w _ => laidMetH Tryd.prog Rows.integralConservesRow.laid w) (fun _ _ _ hh h => h.of_heap hh) own started (by kernel_rfl) Tryd.func4
    (ChangeSpec.witness_at (enc := enc) (C := Tryd.checked) (os := os) (X := fun w _ => laidMetH Tryd.prog Rows.integralConservesRow.laid w) false (World.laidAll Tryd.prog os Rows.integralConservesRow.laid) #[.agg #[.int .i64 0, .int .i64 0, .int .i64 0, .int .i64 0, .int .i64 0, .slice none 0 0, .int .i64 0, .int .i64 0, .int .i64 0, .int .i64 0, .int .i64 0, .int .i64 0, .int .i64 0, .int .i64 0, .int .u64 0], .slice none 0 0] 8 (World.laidAll_os _ _ _) (by kernel_rfl) (by kernel_rfl) (by kernel_rfl) (by kernel_rfl) (by kernel_rfl)
      (by rw [MakeChecks.laidMetH_plain _ _ _ (by kernel_rfl)]; exact laidMet_laidAll _ (by kernel_rfl) (by kernel_rfl))) ?_
  intro W base args ds gs before hval0 hW _ _ hL _
  have hG : GlobOk (Env.all W) := globOk hL
  have hval : ∀ (j : Nat) t v, Tryd.f4.params[j]? = some t → args[j]? = some v → Value.okWide Tryd.prog W .any base t v := hval0
  have hW' := hW
  obtain ⟨p, q, hA0, hV, rfl, hfz, hnd⟩ := hW
  have hA : DataW.TrodAll enc Tryd.prog W 0 (fun _ => true) true Tryd.f4.params.toList args.toList ds p := hA0
  rw [Tryd.params4] at hA hval
  obtain ⟨v0, vs0, d0, ds0, p0, q0, hargs, rfl, rfl, h0, r0⟩ := trodAll_cons hA
  obtain ⟨v1, vs1, d1, ds1, p1, q1, rfl, rfl, rfl, h1, r1⟩ := trodAll_cons r0
  obtain ⟨rfl, rfl, rfl⟩ := trodAll_nil r1
  obtain rfl : args = #[v0, v1] := by cases args; simp_all
  obtain ⟨rfl, rfl⟩ := trodVars_none hV
  obtain ⟨cs0, rfl⟩ := okWide_struct Tryd.underlying28 (hval 0 28 v0 rfl rfl)
  obtain ⟨ad1, len1, cap1, rfl⟩ := Go.WideShapes.okWide_slice Tryd.underlying42 (hval 1 42 v1 rfl rfl)
  have k0 := h0
  have lt0 : ∀ x ∈ p0, x.block < W.heap.size := by obtain ⟨m, hm⟩ := k0; exact DataW.trod_lt m _ _ _ hm
  have k1 := h1
  have lt1 : ∀ x ∈ p1, x.block < W.heap.size := by obtain ⟨m, hm⟩ := k1; exact DataW.trod_lt m _ _ _ hm
  obtain ⟨f0, hf0⟩ := h0
  obtain ⟨l0, e0, s0⟩ := read_ok f0 10 28 _ _ (by kernel_rfl) hf0
  obtain ⟨f1, hf1⟩ := h1
  obtain ⟨l1, e1, s1⟩ := read_ok f1 10 42 _ _ (by kernel_rfl) hf1
  clear hA0 hval0
  refine (walk W cs0 ad1 len1 cap1 e0 e1 s0 s1  hG).mono fun e W' ⟨he, bel⟩ => ?_
  subst he
  exact ⟨_, rfl, _, _, _, [], _, [], hW', trodAll_mk1 (shut_bool Tryd.underlying4 _), (trodAll_cons_mk (Below.trod laidOut (by kernel_rfl) (of_decide_eq_true (by kernel_rfl)) k0 bel lt0) (trodAll_cons_mk (Below.trod laidOut (by kernel_rfl) (of_decide_eq_true (by kernel_rfl)) k1 bel lt1) trodAll_mk0)), rfl, bel.frame _, fun h => by cases h⟩
theorem over : Rows.integralConservesRow.holds Tryd.pinned (OpenSpec.ofChange Rows.integralConservesSpec) :=
  OpenClaim.holds_of_wide 4 Tryd.f4 rfl rfl rfl rfl rfl rfl rfl ⟨rfl, rfl, rfl, rfl, rfl⟩ rfl rfl rfl rfl rfl (by kernel_rfl) Tryd.func4 (by kernel_rfl)
    (of_decide_eq_true (by kernel_rfl)) (by unfold Func.isWrapper; first | (rw [if_pos (by decide +kernel)]; kernel_rfl) | (rw [if_neg (by decide +kernel)]; exact ⟨rfl, rfl⟩))
    (fun os started H enc _ => lifted os started H enc)
theorem proved : Rows.IntegralConservesSaid := over
theorem card : Rows.IntegralConservesCardSaid :=
  Claim7.holds_tied_plain_at .later [] [.data] true (true, "105d156e0701894084c3f098812b09192154abd4eeca6a17becc14797918a3c7") false proved (fun _ h => by cases h) (by kernel_rfl) (fun _ h => by cases h) integralConserves_row_tie rfl ⟨rfl, rfl⟩ (by kernel_rfl) rfl
    (fun f fn hf hfn => by
      obtain rfl : f = 4 := Option.some.inj ((show Tryd.prog.funcNamed "queuelab/queuelablaw21.IntegralConserves" = some 4 by kernel_rfl).symm.trans hf) |>.symm
      obtain rfl : fn = Tryd.f4 := (Option.some.inj (Tryd.func4.symm.trans hfn)).symm
      exact ⟨by kernel_rfl, fun j t ht => by
        rw [Tryd.params4] at ht
        have hm : t ∈ [28, 42] := by simpa using Array.mem_of_getElem? ht
        have hall : ([28, 42].all fun u => !Tryd.prog.wantsStandIn u) = true := by kernel_rfl
        exact (show Tryd.prog.wantsStandIn t = false by simpa using List.all_eq_true.1 hall t hm)⟩)
    (by kernel_rfl)
end Go.Proofs.YtfjkpjgbigcpiaaDoor.integralConserves
namespace Go.Proofs.YtfjkpjgbigcpiaaDoor
/-- The tied card, under a short name, for the claim. -/
theorem integralConserves_card_holds : Rows.IntegralConservesCardSaid := integralConserves.card
end Go.Proofs.YtfjkpjgbigcpiaaDoor
end
