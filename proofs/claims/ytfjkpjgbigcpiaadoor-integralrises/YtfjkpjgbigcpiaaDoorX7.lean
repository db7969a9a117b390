/- The law IntegralRises returns true for every input, and each argument reads as it read before; the package variable that it reads is laid by the program's text (a tied card); no conditions. This file: the row and the card, last of the parts. -/
import Derived.Test.YtfjkpjgbigcpiaaDoorRows
import Derived.Test.YtfjkpjgbigcpiaaDoorCards
import Derived.Test.YtfjkpjgbigcpiaaDoorTie
import Derived.WalkKit
import Derived.ProofKit
import Derived.OpenShut
import Derived.ShutString
import Derived.ChangeOld
import Derived.Below
import Derived.SizedLaws
import Derived.LaidMore
import Derived.MakeChecks
import Derived.Lay
import Derived.LaidOnce
import Derived.SevenTiedAt
import Derived.Test.YtfjkpjgbigcpiaaDoorX6
section
set_option linter.unusedVariables false
set_option maxRecDepth 100000
namespace Go.Proofs.YtfjkpjgbigcpiaaDoor
open Go.PI Go.Pl

/-- One round of a loop that ends well. -/
def StepOK {τ ω β : Type} (I : Nat → τ → Prop) (K : ω → Option β) (r : β) (n : Nat) : Option (τ ⊕ ω) → Prop
  | some (.inl s') => ∃ m, m < n ∧ I m s'
  | some (.inr w) => K w = some r
  | none => False

/-- A loop that ends well from wherever it may stand. -/
theorem loop_inv {τ ω β : Type} {f : τ → Option (τ ⊕ ω)} {K : ω → Option β} {r : β} (I : Nat → τ → Prop)
    (h : ∀ n s, I n s → StepOK I K r n (f s)) : ∀ n s, I n s → (loopM f s).bind K = some r := by
  intro n
  induction n using Nat.strongRecOn with
  | ind n ih =>
    intro s hs
    have h1 := h n s hs
    cases hf : f s with
    | none => rw [hf] at h1; exact h1.elim
    | some o =>
      rw [hf] at h1
      cases o with
      | inr w => rw [Go.Pl.out hf]; exact h1
      | inl s' =>
        obtain ⟨m, h2, h3⟩ := h1
        rw [Go.Pl.next hf]; exact ih m h2 s' h3

theorem ord_iff {e7 : Int} {l : List Queued} : (List.range l.length).all (ordP e7 l) = true ↔ ∀ i x, l[i]? = some x → (if i = 0 then 0 else (l[i - 1]?.map (·.At)).getD 0) ≤ x.At ∧ x.At ≤ e7 ∧ okP x.P = true := by
  rw [List.all_eq_true]
  constructor
  · intro h i x hx
    have hi : i < l.length := (List.getElem?_eq_some_iff.1 hx).1
    have h1 := h i (List.mem_range.2 hi)
    simp only [ordP, hx, Bool.and_eq_true, Bool.not_eq_true', decide_eq_false_iff_not] at h1
    obtain ⟨a, b, c⟩ := h1
    exact ⟨by omega, by omega, c⟩
  · intro h i hi
    have hi : i < l.length := List.mem_range.1 hi
    have hx : l[i]? = some l[i] := List.getElem?_eq_getElem hi
    obtain ⟨a, b, c⟩ := h i _ hx
    simp only [ordP, hx, Bool.and_eq_true, Bool.not_eq_true', decide_eq_false_iff_not]
    exact ⟨by omega, by omega, c⟩

theorem ord_up {e7 now : Int} {l : List Queued} (hle : e7 ≤ now) (h : (List.range l.length).all (ordP e7 l) = true) : (List.range l.length).all (ordP now l) = true := by
  rw [ord_iff] at h ⊢
  intro i x hx
  obtain ⟨a, b, c⟩ := h i x hx
  exact ⟨a, by omega, c⟩

theorem ord_snoc {e7 now : Int} {l : List Queued} {p : Packet} (hle : e7 ≤ now) (h0 : 0 ≤ now) (hp : okP p = true) (h : (List.range l.length).all (ordP e7 l) = true) : (List.range (l ++ [Queued.mk p now]).length).all (ordP now (l ++ [Queued.mk p now])) = true := by
  rw [ord_iff] at h ⊢
  intro i x hx
  have hi : i < (l ++ [Queued.mk p now]).length := (List.getElem?_eq_some_iff.1 hx).1
  rw [List.length_append, List.length_singleton] at hi
  have hm : i ≠ 0 → (l ++ [Queued.mk p now])[i - 1]? = l[i - 1]? := fun hz => List.getElem?_append_left (by omega)
  by_cases hlt : i < l.length
  · rw [List.getElem?_append_left hlt] at hx
    obtain ⟨a, b, c⟩ := h i x hx
    refine ⟨?_, by omega, c⟩
    by_cases hz : i = 0
    · rw [if_pos hz] at a ⊢; exact a
    · rw [if_neg hz] at a ⊢; rw [hm hz]; exact a
  · have hil : i = l.length := by omega
    subst hil
    have hx' : x = Queued.mk p now := by simpa using hx.symm
    subst hx'
    refine ⟨?_, Int.le_refl _, hp⟩
    by_cases hz : l.length = 0
    · rw [if_pos hz]; exact h0
    · rw [if_neg hz, hm hz]
      have hlt : l.length - 1 < l.length := by omega
      obtain ⟨a, b, c⟩ := h (l.length - 1) _ (List.getElem?_eq_getElem hlt)
      rw [List.getElem?_eq_getElem hlt]
      exact Int.le_trans b hle

theorem v_keep {q : Queue} {l l' : List Queued} {now : Int} (hv : vB q = true) (hg : Good q l) (hn : okT now = true) (hle : q.Vars.e7 ≤ now) (hlen : (l'.length : Int) ≤ q.Room) (hord : (List.range l'.length).all (ordP now l') = true) (sd : Int) :
    vB (withU q [l'] now sd) = true := by
  have hd := delay_range hg hn hle
  have hn' : 0 ≤ now ∧ now ≤ 10000000 := by simpa only [okT, Bool.and_eq_true, decide_eq_true_eq] using hn
  have h0 : 0 ≤ u0 q now ∧ u0 q now ≤ 1000000 := by
    unfold u0; split
    · exact hg.e0
    · exact clamp_range _
  have h1 : 0 ≤ u1 q now ∧ u1 q now ≤ now := by
    have := hg.e1; have := hg.e7
    unfold u1; split <;> omega
  have h2 : 0 ≤ u2 q now ∧ u2 q now ≤ 10000000 := by
    have := hg.e2
    unfold u2; split <;> omega
  unfold vB at hv
  rw [hg.lists] at hv
  simp only [Bool.and_eq_true, decide_eq_true_eq, okT, ordB] at hv
  simp only [vB, withU, ordB, okT]
  simp only [Bool.and_eq_true]
  obtain ⟨a, b, c, d, e, f, g, h, i, j, k, m⟩ := hv
  exact ⟨a, ⟨decide_eq_true b.1, decide_eq_true b.2⟩, ⟨decide_eq_true c.1, decide_eq_true c.2⟩, ⟨decide_eq_true d.1, decide_eq_true d.2⟩, ⟨decide_eq_true e.1, decide_eq_true e.2⟩, decide_eq_true hlen, ⟨decide_eq_true hn'.1, decide_eq_true hn'.2⟩, ⟨decide_eq_true h0.1, decide_eq_true h0.2⟩, ⟨decide_eq_true h1.1, decide_eq_true h1.2⟩, ⟨decide_eq_true h2.1, decide_eq_true h2.2⟩, k, hord⟩

/-- What a Put does to a valid queue. -/
theorem put_ok {q : Queue} {l : List Queued} {p : Packet} {now : Int} (hv : vB q = true) (hg : Good q l) (hp : okP p = true) (hn : okT now = true) (hle : q.Vars.e7 ≤ now) :
    ∃ l' d sd, putR q p now = (withU q [l'] now sd, d, 0) ∧ vB (withU q [l'] now sd) = true ∧ ((l' = l ∧ d = [p]) ∨ (d = [] ∧ ∃ m, l' = l ++ [Queued.mk (Packet.mk p.Flow p.Sub p.Number p.Data p.Size p.Sent p.Able m) now] ∧ (p.Able = false → m = p.Marked) ∧ (m = p.Marked ∨ m = true))) := by
  have he : errB q now = 0 := by
    have : decide (now < q.Vars.e7) = false := by simp; omega
    unfold errB; rw [hv, hn, this]; rfl
  have hn0 : 0 ≤ now := by simp only [okT, Bool.and_eq_true, decide_eq_true_eq] at hn; exact hn.1
  have hlen := hg.len
  have hz : (!(0 : Int) == 0) = false := rfl
  unfold putR
  rw [hp, he, hg.lists, hz]
  simp only [Bool.not_true, cond_false]
  by_cases c : (l.length : Int) = q.Room
  · rw [show ((l.length : Int) == q.Room) = true by simpa using c]
    exact ⟨l, [p], q.Seed, rfl, v_keep hv hg hn hle hlen (ord_up hle hg.ord) _, .inl ⟨rfl, rfl⟩⟩
  · rw [show ((l.length : Int) == q.Room) = false by simpa using c]
    simp only [cond_false]
    cases decide (rn q.Seed < u0 q now)
    · exact ⟨_, [], sd1 q.Seed, rfl, v_keep hv hg hn hle (by simp; omega) (ord_snoc hle hn0 hp hg.ord) _, .inr ⟨rfl, p.Marked, rfl, fun _ => rfl, .inl rfl⟩⟩
    · cases ha : p.Able
      · exact ⟨l, [p], sd1 q.Seed, rfl, v_keep hv hg hn hle hlen (ord_up hle hg.ord) _, .inl ⟨rfl, rfl⟩⟩
      · refine ⟨_, [], sd1 q.Seed, rfl, v_keep hv hg hn hle (by simp; omega) (ord_snoc hle hn0 (p := markP p) hp hg.ord) _, .inr ⟨rfl, true, ?_, fun h => by simp at h, .inr rfl⟩⟩
        simp only [markP, ha]

/-- What a Take does to a valid queue. -/
theorem take_ok {q : Queue} {l : List Queued} {now : Int} (hv : vB q = true) (hg : Good q l) (hn : okT now = true) (hle : q.Vars.e7 ≤ now) :
    (l = [] ∧ takeR q now = (withU q [[]] now q.Seed, zeroP, false, [], 0) ∧ vB (withU q [[]] now q.Seed) = true) ∨ (∃ x xs, l = x :: xs ∧ takeR q now = (withU q [xs] now q.Seed, x.P, true, [], 0) ∧ vB (withU q [xs] now q.Seed) = true) := by
  have he : errB q now = 0 := by
    have : decide (now < q.Vars.e7) = false := by simp; omega
    unfold errB; rw [hv, hn, this]; rfl
  have hz : (!(0 : Int) == 0) = false := rfl
  have hlen := hg.len
  have hord := hg.ord
  unfold takeR
  rw [he, hg.lists, hz]
  simp only [cond_false]
  match l, hg, hlen, hord with
  | [], hg, hlen, hord => exact .inl ⟨rfl, rfl, v_keep hv hg hn hle hlen rfl _⟩
  | x :: xs, hg, hlen, hord =>
    refine .inr ⟨x, xs, rfl, rfl, v_keep hv hg hn hle (by simp at hlen; omega) (ord_up hle ?_) _⟩
    unfold ordB at hord
    rw [ord_iff] at hord ⊢
    intro i y hy
    obtain ⟨a, b, c⟩ := hord (i + 1) y (by simpa using hy)
    refine ⟨?_, b, c⟩
    by_cases hi : i = 0
    · subst hi
      obtain ⟨a0, _, _⟩ := hord 0 x rfl
      simp at a a0
      simp; omega
    · rw [if_neg (by omega), show i + 1 - 1 = (i - 1) + 1 by omega, List.getElem?_cons_succ] at a
      rw [if_neg hi]; exact a

theorem u0_rise {q : Queue} {x : Queued} {xs : List Queued} (hg : Good q (x :: xs)) {now : Int} (hn : okT now = true) (hle : q.Vars.e7 + 16000 ≤ now) (ha : q.Policy.A + 1000 ≤ now - x.At) (h2 : q.Vars.e2 ≤ now - x.At) :
    u2 q now = now - x.At ∧ ¬ (u0 q now < if q.Vars.e0 + q.Policy.B < 1000000 then q.Vars.e0 + q.Policy.B else 1000000) := by
  have h1 := hg.e1
  have h0 := hg.e0
  have hb := hg.b
  have hc := hg.c
  have hd : delayI q now = now - x.At := by unfold delayI; rw [hg.lists]
  have hb16 : ¬ (now - q.Vars.e1 < 16000) := by omega
  unfold u2 u0
  rw [if_neg hb16, if_neg hb16]
  refine ⟨hd, ?_⟩
  unfold newP
  rw [hd]
  have m1 : q.Policy.B * 1000 ≤ q.Policy.B * (now - x.At - q.Policy.A) := Int.mul_le_mul_of_nonneg_left (by omega) hb.1
  have m2 : 0 ≤ q.Policy.C * (now - x.At - q.Vars.e2) := Int.mul_nonneg hc.1 (by omega)
  generalize q.Policy.B * (now - x.At - q.Policy.A) = y1 at *
  generalize q.Policy.C * (now - x.At - q.Vars.e2) = y2 at *
  have k1 : q.Policy.B ≤ y1 / 1000 := by omega
  have k2 : 0 ≤ y2 / 1000 := by omega
  generalize y1 / 1000 = z1 at *
  generalize y2 / 1000 = z2 at *
  unfold clampP
  split <;> split <;> split <;> omega

/-- The queue that rises. -/
structure Up (q : Queue) : Prop where
  v : vB q = true
  first : ∃ x xs, q.Lists = [x :: xs] ∧ q.Policy.A + 1000 ≤ q.Vars.e7 - x.At ∧ q.Vars.e2 ≤ q.Vars.e7 - x.At

theorem rises_eq (q : Queue) (p : Packet) (many : Int) (hb : bnd q) : Models.law21_IntegralRises q p many = some true := by
  have hl : ∀ l ∈ q.Lists, l.length ≤ 2 ^ 63 - 1 := hb.2
  unfold Models.law21_IntegralRises
  rw [few_some hb, rv_eq q hl, rpacket_eq]
  simp only [Models.law21_head, Option.bind_some]
  cases (bif q.Lists.all (fun l => decide (l.length ≤ 600)) then decide ((q.Lists.length : Int) ≤ 20) else false)
  · rfl
  cases hv : vB q
  · rfl
  cases hp : okP p
  · rfl
  obtain ⟨l, hg⟩ := good_of hv
  have hq := hg.lists
  rw [hq]
  match l, hg, hq with
  | [], hg, hq => rfl
  | x :: xs, hg, hq =>
    have hpos : (((x :: xs).length : Int) == 0) = false := by simp; omega
    have hg1 : [x :: xs][Int.toNat 0]? = some (x :: xs) := rfl
    have hg2 : (x :: xs)[Int.toNat 0]? = some x := rfl
    have hx := first_at hg
    have h7 := hg.e7
    have hA := hg.a
    have w1 : IntKind.i64.wrap (q.Vars.e7 - x.At) = q.Vars.e7 - x.At := IntWalk.i64_in _ (by omega)
    have w2 : IntKind.i64.wrap (q.Policy.A + 1000) = q.Policy.A + 1000 := IntWalk.i64_in _ (by omega)
    simp only [hg1, hg2, Option.bind_some, hpos, cond_false, Bool.not_true, w1, w2]
    by_cases c1 : q.Vars.e7 - x.At < q.Policy.A + 1000
    · simp only [c1, decide_true, cond_true]
    by_cases c2 : q.Vars.e7 - x.At < q.Vars.e2
    · simp only [c1, c2, decide_true, decide_false, cond_true, cond_false]
    simp only [c1, c2, decide_false, cond_false]
    have hm : (IntKind.i64.wrap many).tmod 30 ≤ 29 := by
      have := Int.tmod_lt_of_pos (IntKind.i64.wrap many) (show (0 : Int) < 30 by decide)
      omega
    generalize (IntKind.i64.wrap many).tmod 30 = m at *
    refine loop_inv (fun n s => ∃ (c : Queue) (i : Int), s = (c.Vars.e7, false, i, c.Policy.Kind, c.Policy.A, c.Policy.B, c.Policy.C, c.Room, c.Lists, c.Vars.e0, c.Vars.e1, c.Vars.e2, c.Vars.e3, c.Vars.e4, c.Vars.e5, c.Vars.e6, c.Vars.e7, c.Seed) ∧ Up c ∧ 0 ≤ i ∧ i ≤ 30 ∧ n = (30 - i).toNat) ?_ 30 _ ⟨q, 0, by rw [hq], ⟨hv, x, xs, hq, by omega, by omega⟩, by omega, by omega, rfl⟩
    rintro n s ⟨c, i, rfl, hu, hi0, hi1, hn⟩
    obtain ⟨y, ys, hy, ha, h2⟩ := hu.first
    obtain ⟨l', hg'⟩ := good_of hu.v
    have hll := hg'.lists
    rw [hy] at hll
    obtain rfl : y :: ys = l' := by simpa using hll
    have e7 := hg'.e7
    have b0 := hg'.b
    have e0 := hg'.e0
    have hw : IntKind.i64.wrap (c.Vars.e7 + 16000) = c.Vars.e7 + 16000 := IntWalk.i64_in _ (by omega)
    by_cases c3 : i < m
    · by_cases c4 : 10000000 < c.Vars.e7 + 16000
      · simp only [c3, c4, hw, decide_true, cond_true]
        rfl
      · have hok : okT (c.Vars.e7 + 16000) = true := by simp only [okT, Bool.and_eq_true, decide_eq_true_eq]; omega
        have hlb : ∀ l ∈ c.Lists, l.length ≤ 2 ^ 63 - 1 := by
          intro l hl; rw [hy] at hl
          have : l = y :: ys := by simpa using hl
          have h5 := hg'.len; have h6 := hg'.room
          subst this; omega
        obtain ⟨l'', d, sd, hput, hv', hd⟩ := put_ok hu.v hg' hp hok (by omega)
        obtain ⟨hu2, hu0⟩ := u0_rise hg' hok (by omega) (by omega) (by omega)
        have ec : Queue.mk (Policy.mk c.Policy.Kind c.Policy.A c.Policy.B c.Policy.C) c.Room c.Lists (A8.mk c.Vars.e0 c.Vars.e1 c.Vars.e2 c.Vars.e3 c.Vars.e4 c.Vars.e5 c.Vars.e6 c.Vars.e7) c.Seed = c := rfl
        have hw2 : IntKind.i64.wrap (i + 1) = i + 1 := IntWalk.i64_in _ (by omega)
        have hw3 : IntKind.i64.wrap (c.Vars.e0 + c.Policy.B) = c.Vars.e0 + c.Policy.B := IntWalk.i64_in _ (by omega)
        have hu0' : ¬ ((withU c [l''] (c.Vars.e7 + 16000) sd).Vars.e0 < if c.Vars.e0 + c.Policy.B < 1000000 then c.Vars.e0 + c.Policy.B else 1000000) := hu0
        have hz : (!(0 : Int) == 0) = false := rfl
        simp only [c3, c4, hw, decide_true, decide_false, cond_true, cond_false, ec, tput_eq c p _ hlb, hput, Option.bind_some, hz, hw2, hw3, hu0']
        refine ⟨(30 - (i + 1)).toNat, by omega, withU c [l''] (c.Vars.e7 + 16000) sd, i + 1, rfl, ⟨hv', ?_⟩, by omega, by omega, rfl⟩
        have hfst : ∃ ys', l'' = y :: ys' := by
          rcases hd with ⟨h, _⟩ | ⟨_, m, h, _⟩
          · exact ⟨ys, h⟩
          · exact ⟨_, h⟩
        obtain ⟨ys', h⟩ := hfst
        refine ⟨y, ys', by rw [h]; rfl, ?_, ?_⟩
        · show c.Policy.A + 1000 ≤ c.Vars.e7 + 16000 - y.At
          omega
        · show u2 c (c.Vars.e7 + 16000) ≤ c.Vars.e7 + 16000 - y.At
          omega
    · simp only [c3, decide_false, cond_false]
      rfl

end Go.Proofs.YtfjkpjgbigcpiaaDoor
end

section
set_option linter.unusedVariables false
/- The law IntegralRises: its row. -/
namespace Go.Proofs.YtfjkpjgbigcpiaaDoor.integralRises
open Go.PI Go.ChangeShapes Go.WideShapes Go.ChangeAt Go.RowKit
theorem own : ownKnob Tryd.prog.godebug = none := by kernel_rfl
theorem laidOut : laidOutB Tryd.prog = true := by kernel_rfl
theorem okWide_struct {P : Program} {w : World} {r : Reach} {base : Nat} {t : TypeId} {v : Value} {fs : Array Field} (ht : P.underlying t = some (.struct fs)) (h : Value.okWide P w r base t v) : ∃ cs, v = .agg cs := by
  unfold Value.okWide at h
  rw [ht] at h
  obtain ⟨cs, h, _⟩ := h
  exact ⟨cs, h⟩
theorem rep_agg {E : Env} {l : List AV} {cs : Array Value} (h : RepL E false l (Value.agg cs).cells.toList) : Rep E false (.agg l) (.agg cs) := by
  simp only [Rep]
  exact ⟨cs.toList, by simp, by simpa [Value.cells] using h⟩
theorem rep_slice {E : Env} {l : List AV} {a : Option Addr} {len cap : Nat} (h : RepL E false l (Value.slice a len cap).cells.toList) {x : AV} (hl : l = [x]) : Rep E false x (.slice a len cap) := by
  subst hl
  have h2 : Rep E false x (Value.slice a len cap) ∧ leafV (Value.slice a len cap) = true := by simpa [Value.cells, RepL] using h
  exact h2.1
theorem walk (W : World) (cs0 : Array Value) (cs1 : Array Value) (a2 : Int) {l0 : List AV} {l1 : List AV} (e0 : RepL (Env.all W) false l0 (Value.agg cs0 : Value).cells.toList) (e1 : RepL (Env.all W) false l1 (Value.agg cs1 : Value).cells.toList) {n0 : Nat} (s0 : Shape Tryd.prog n0 28 l0) {n1 : Nat} (s1 : Shape Tryd.prog n1 30 l1) (hw2 : (Lit.int .u8 a2).wf = true) (hG : GlobOk (Env.all W)) : Calls Tryd.prog 9 #[.agg cs0, .agg cs1, .int .u8 a2] W fun e w' => e = .returned (.bool true) ∧ Below W.heap.size W w' := by
  obtain ⟨x0, w0, r0⟩ := sh27 (shape_same (show Tryd.prog.underlying 28 = Tryd.prog.underlying 27 by kernel_rfl) s0)
  obtain ⟨x1, w1, r1⟩ := sh29 (shape_same (show Tryd.prog.underlying 30 = Tryd.prog.underlying 29 by kernel_rfl) s1)
  have hs : SumOk C T 9 ⟨[28, 30, 5], [4], fun x => Go.Models.law21_IntegralRises x.1 x.2.1 x.2.2⟩ := mkS_sum s38 rfl
  refine law_true Cok hs rfl (x := (x0, x1, a2)) (y := true) (rises_eq x0 x1 a2 (bnd_wf w0)) ?_ («as» := [.agg l0, .agg l1, .lit (.int .u8 a2)]) ⟨r0, r1, rfl, trivial⟩ hG (vs := [.agg cs0, .agg cs1, .int .u8 a2]) ?_
  · intro l hl
    match l, hl with
    | [a], hl => have : a = .lit (.bool true) := hl.1; rw [this]
    | [], hl => exact False.elim hl
    | _ :: _ :: _, hl => exact False.elim hl.2
  · simp only [RepT]
    exact ⟨rep_agg e0, rep_agg e1, by simp [Rep], trivial⟩
set_option maxRecDepth 100000 in
theorem lifted (os : Os) (started : os.Started) (H : Type) (enc : TypeId × Value → H) :
    ReturnsInHanded {} Tryd.checked os 9 .any (fun w args => (Rows.integralRisesSpec.pre enc Tryd.prog Tryd.f9 [] false w args ∧ laidMetH Tryd.prog Rows.integralRisesRow.laid w) ∧ sizedMet enc Tryd.prog Tryd.f9 (OpenSpec.ofChange Rows.integralRisesSpec) false w args) (Rows.integralRisesSpec.post enc Tryd.prog Tryd.f9 false true false false) := by
  refine returnsInHanded_of_change_and (C := Tryd.checked) (X := fun w _ => laidMetH Tryd.prog Rows.integralRisesRow.laid w) (fun _ _ _ hh h => h.of_heap hh) own started (by kernel_rfl) Tryd.func9
    (ChangeSpec.witness_at (enc := enc) (C := Tryd.checked) (os := os) (X := fun w _ => laidMetH Tryd.prog Rows.integralRisesRow.laid w) false (World.laidAll Tryd.prog os Rows.integralRisesRow.laid) #[.agg #[.int .i64 0, .int .i64 0, .int .i64 0, .int .i64 0, .int .i64 0, .slice none 0 0, .int .i64 0, .int .i64 0, .int .i64 0, .int .i64 0, .int .i64 0, .int .i64 0, .int .i64 0, .int .i64 0, .int .u64 0], .agg #[.int .i64 0, .int .i64 0, .int .i64 0, .int .i64 0, .int .i64 0, .int .i64 0, .bool false, .bool false], .int .u8 0] 8 (World.laidAll_os _ _ _) (by kernel_rfl) (by kernel_rfl) (by kernel_rfl) (by kernel_rfl) (by kernel_rfl)
      (by rw [MakeChecks.laidMetH_plain _ _ _ (by kernel_rfl)]; exact laidMet_laidAll _ (by kernel_rfl) (by kernel_rfl))) ?_
  intro W base args ds gs before hval0 hW _ _ hL _
  have hG : GlobOk (Env.all W) := globOk hL
  have hval : ∀ (j : Nat) t v, Tryd.f9.params[j]? = some t → args[j]? = some v → Value.okWide Tryd.prog W .any base t v := hval0
  have hW' := hW
  obtain ⟨p, q, hA0, hV, rfl, hfz, hnd⟩ := hW
  have hA : DataW.TrodAll enc Tryd.prog W 0 (fun _ => true) true Tryd.f9.params.toList args.toList ds p := hA0
  rw [Tryd.params9] at hA hval
  obtain ⟨v0, vs0, d0, ds0, p0, q0, hargs, rfl, rfl, h0, r0⟩ := trodAll_cons hA
  obtain ⟨v1, vs1, d1, ds1, p1, q1, rfl, rfl, rfl, h1, r1⟩ := trodAll_cons r0
  obtain ⟨v2, vs2, d2, ds2, p2, q2, rfl, rfl, rfl, h2, r2⟩ := trodAll_cons r1
  obtain ⟨rfl, rfl, rfl⟩ := trodAll_nil r2
  obtain rfl : args = #[v0, v1, v2] := by cases args; simp_all
  obtain ⟨rfl, rfl⟩ := trodVars_none hV
  obtain ⟨cs0, rfl⟩ := okWide_struct Tryd.underlying28 (hval 0 28 v0 rfl rfl)
  obtain ⟨cs1, rfl⟩ := okWide_struct Tryd.underlying30 (hval 1 30 v1 rfl rfl)
  obtain ⟨a2, rfl, rfl, rfl, w2⟩ := open_int Tryd.underlying5 (hval 2 5 v2 rfl rfl) h2
  have k0 := h0
  have lt0 : ∀ x ∈ p0, x.block < W.heap.size := by obtain ⟨m, hm⟩ := k0; exact DataW.trod_lt m _ _ _ hm
  have k1 := h1
  have lt1 : ∀ x ∈ p1, x.block < W.heap.size := by obtain ⟨m, hm⟩ := k1; exact DataW.trod_lt m _ _ _ hm
  obtain ⟨f0, hf0⟩ := h0
  obtain ⟨l0, e0, s0⟩ := read_ok f0 10 28 _ _ (by kernel_rfl) hf0
  obtain ⟨f1, hf1⟩ := h1
  obtain ⟨l1, e1, s1⟩ := read_ok f1 10 30 _ _ (by kernel_rfl) hf1
  clear hA0 hval0
  refine (walk W cs0 cs1 a2 e0 e1 s0 s1 w2 hG).mono fun e W' ⟨he, bel⟩ => ?_
  subst he
  exact ⟨_, rfl, _, _, _, [], _, [], hW', trodAll_mk1 (shut_bool Tryd.underlying4 _), (trodAll_cons_mk (Below.trod laidOut (by kernel_rfl) (of_decide_eq_true (by kernel_rfl)) k0 bel lt0) (trodAll_cons_mk (Below.trod laidOut (by kernel_rfl) (of_decide_eq_true (by kernel_rfl)) k1 bel lt1) (trodAll_cons_mk (shut_int Tryd.underlying5 w2) trodAll_mk0))), rfl, bel.frame _, fun h => by cases h⟩
theorem over : Rows.integralRisesRow.holds Tryd.pinned (OpenSpec.ofChange Rows.integralRisesSpec) :=
  OpenClaim.holds_of_wide 9 Tryd.f9 rfl rfl rfl rfl rfl rfl rfl ⟨rfl, rfl, rfl, rfl, rfl⟩ rfl rfl rfl rfl rfl (by kernel_rfl) Tryd.func9 (by kernel_rfl)
    (of_decide_eq_true (by kernel_rfl)) (by unfold Func.isWrapper; first | (rw [if_pos (by decide +kernel)]; kernel_rfl) | (rw [if_neg (by decide +kernel)]; exact ⟨rfl, rfl⟩))
    (fun os started H enc _ => lifted os started H enc)
theorem proved : Rows.IntegralRisesSaid := over
theorem card : Rows.IntegralRisesCardSaid :=
  Claim7.holds_tied_plain_at .later [] [.data] true (true, "105d156e0701894084c3f098812b09192154abd4eeca6a17becc14797918a3c7") false proved (fun _ h => by cases h) (by kernel_rfl) (fun _ h => by cases h) integralRises_row_tie rfl ⟨rfl, rfl⟩ (by kernel_rfl) rfl
    (fun f fn hf hfn => by
      obtain rfl : f = 9 := Option.some.inj ((show Tryd.prog.funcNamed "queuelab/queuelablaw21.IntegralRises" = some 9 by kernel_rfl).symm.trans hf) |>.symm
      obtain rfl : fn = Tryd.f9 := (Option.some.inj (Tryd.func9.symm.trans hfn)).symm
      exact ⟨by kernel_rfl, fun j t ht => by
        rw [Tryd.params9] at ht
        have hm : t ∈ [28, 30, 5] := by simpa using Array.mem_of_getElem? ht
        have hall : ([28, 30, 5].all fun u => !Tryd.prog.wantsStandIn u) = true := by kernel_rfl
        exact (show Tryd.prog.wantsStandIn t = false by simpa using List.all_eq_true.1 hall t hm)⟩)
    (by kernel_rfl)
end Go.Proofs.YtfjkpjgbigcpiaaDoor.integralRises
namespace Go.Proofs.YtfjkpjgbigcpiaaDoor
/-- The tied card, under a short name, for the claim. -/
theorem integralRises_card_holds : Rows.IntegralRisesCardSaid := integralRises.card
end Go.Proofs.YtfjkpjgbigcpiaaDoor
end
