/- The law IntegralMatchesReference returns true for every input, and each argument reads as it read before; the package variable that it reads is laid by the program's text (a tied card); no conditions. This file: the row and the card, last of the parts. -/
import Derived.Test.YtfjkpjgbigcpiaaDoorRows
import Derived.Test.YtfjkpjgbigcpiaaDoorCards
import Derived.Test.YtfjkpjgbigcpiaaDoorTie
import Derived.WalkKit
import Derived.ProofKit
import Derived.OpenShut
import Derived.ShutString
import Derived.ChangeOld
import Derived.Below
import Derived.SizedLaws
import Derived.LaidMore
import Derived.MakeChecks
import Derived.Lay
import Derived.LaidOnce
import Derived.SevenTiedAt
import Derived.Test.YtfjkpjgbigcpiaaDoorX6
section
set_option linter.unusedVariables false
set_option maxRecDepth 100000
namespace Go.Proofs.YtfjkpjgbigcpiaaDoor
open Go.PI Go.Pl

theorem put_vars {q : Queue} {p : Packet} {now : Int} (h : (putR q p now).2.2 = 0) : errB q now = 0 ∧ (putR q p now).1.Vars.e0 = u0 q now ∧ (putR q p now).1.Vars.e1 = u1 q now ∧ (putR q p now).1.Vars.e2 = u2 q now ∧ (putR q p now).1.Vars.e7 = now := by
  unfold putR at *
  cases hp : okP p
  · rw [hp] at h
    have h' : (1 : Int) = 0 := h
    exact absurd h' (by decide)
  cases he : (errB q now == 0)
  · rw [hp, he] at h
    have h' : errB q now = 0 := h
    rw [h'] at he
    exact absurd he (by decide)
  have he0 : errB q now = 0 := by simpa using he
  obtain ⟨hv, ht, hle⟩ := err_zero he0
  obtain ⟨l, hg⟩ := good_of hv
  rw [hg.lists]
  refine ⟨he0, ?_⟩
  simp only [Bool.not_true, cond_false]
  cases ((l.length : Int) == q.Room) <;> cases decide (rn q.Seed < u0 q now) <;> cases p.Able <;> exact ⟨rfl, rfl, rfl, rfl⟩

theorem take_vars {q : Queue} {now : Int} (h : (takeR q now).2.2.2.2 = 0) : errB q now = 0 ∧ (takeR q now).1.Vars.e0 = u0 q now ∧ (takeR q now).1.Vars.e1 = u1 q now ∧ (takeR q now).1.Vars.e2 = u2 q now ∧ (takeR q now).1.Vars.e7 = now := by
  unfold takeR at *
  cases he : (errB q now == 0)
  · rw [he] at h
    have h' : errB q now = 0 := h
    rw [h'] at he
    exact absurd he (by decide)
  have he0 : errB q now = 0 := by simpa using he
  obtain ⟨hv, ht, hle⟩ := err_zero he0
  obtain ⟨l, hg⟩ := good_of hv
  rw [hg.lists]
  refine ⟨he0, ?_⟩
  match l with
  | [] => exact ⟨rfl, rfl, rfl, rfl⟩
  | x :: xs => exact ⟨rfl, rfl, rfl, rfl⟩

theorem wrap_ok {q : Queue} {now : Int} (h : errB q now = 0) : IntKind.i64.wrap (now - q.Vars.e1) = now - q.Vars.e1 := by
  obtain ⟨hv, ht, hle⟩ := err_zero h
  obtain ⟨l, hg⟩ := good_of hv
  have h3 := hg.e1
  have h7 := hg.e7
  simp only [okT, Bool.and_eq_true, decide_eq_true_eq] at ht
  exact IntWalk.i64_in _ (by omega)

theorem period_eq (q : Queue) (p : Packet) (now : Int) (hb : bnd q) : Models.law21_IntegralPeriod q p now = some true := by
  have hl : ∀ l ∈ q.Lists, l.length ≤ 2 ^ 63 - 1 := hb.2
  unfold Models.law21_IntegralPeriod
  rw [few_some hb, tput_eq q p now hl, ttake_eq q now hl]
  simp only [Models.law21_head, Option.bind_some]
  cases (bif q.Lists.all (fun l => decide (l.length ≤ 600)) then decide ((q.Lists.length : Int) ≤ 20) else false)
  · rfl
  have H1 := put_vars (q := q) (p := p) (now := now)
  have H2 := take_vars (q := q) (now := now)
  generalize putR q p now = R1 at *
  generalize takeR q now = R2 at *
  obtain ⟨q3, l4, i5⟩ := R1
  obtain ⟨q6, q7, b8, l9, i10⟩ := R2
  simp only at H1 H2
  simp only [Bool.not_true, cond_false, cond_true]
  by_cases hd : IntKind.i64.wrap (now - q.Vars.e1) < 16000
  · have hd2 : ¬ 16000 ≤ IntKind.i64.wrap (now - q.Vars.e1) := by omega
    have small : errB q now = 0 → u0 q now = q.Vars.e0 ∧ u1 q now = q.Vars.e1 ∧ u2 q now = q.Vars.e2 := by
      intro h
      rw [wrap_ok h] at hd
      simp only [u0, u1, u2, if_pos hd, and_self]
    simp only [hd, hd2, decide_true, decide_false, cond_true, cond_false]
    by_cases h5 : i5 = 0
    · obtain ⟨he, a0, a1, a2, a7⟩ := H1 h5
      obtain ⟨s0, s1, s2⟩ := small he
      rw [s0] at a0; rw [s1] at a1; rw [s2] at a2
      have b5 : (i5 == 0) = true := by simpa using h5
      by_cases h10 : i10 = 0
      · obtain ⟨_, c0, c1, c2, c7⟩ := H2 h10
        rw [s0] at c0; rw [s1] at c1; rw [s2] at c2
        have b10 : (i10 == 0) = true := by simpa using h10
        simp only [b5, b10, a0, a1, a2, a7, c0, c1, c2, c7, beq_self_eq_true, cond_true, cond_false, Bool.not_true]
      · have b10 : (i10 == 0) = false := by simpa using h10
        simp only [b5, b10, a0, a1, a2, a7, beq_self_eq_true, cond_true, cond_false, Bool.not_true, Bool.not_false]
    · have b5 : (i5 == 0) = false := by simpa using h5
      by_cases h10 : i10 = 0
      · obtain ⟨he, c0, c1, c2, c7⟩ := H2 h10
        obtain ⟨s0, s1, s2⟩ := small he
        rw [s0] at c0; rw [s1] at c1; rw [s2] at c2
        have b10 : (i10 == 0) = true := by simpa using h10
        simp only [b5, b10, c0, c1, c2, c7, beq_self_eq_true, cond_true, cond_false, Bool.not_true, Bool.not_false]
      · have b10 : (i10 == 0) = false := by simpa using h10
        simp only [b5, b10, cond_true, cond_false, Bool.not_false]
  · have hd2 : 16000 ≤ IntKind.i64.wrap (now - q.Vars.e1) := by omega
    have big : errB q now = 0 → u1 q now = now := by
      intro h
      rw [wrap_ok h] at hd
      simp only [u1, if_neg hd]
    simp only [hd, hd2, decide_true, decide_false, cond_true, cond_false]
    by_cases h5 : i5 = 0
    · obtain ⟨he, a0, a1, a2, a7⟩ := H1 h5
      have s1 := big he
      rw [s1] at a1
      have b5 : (i5 == 0) = true := by simpa using h5
      by_cases h10 : i10 = 0
      · obtain ⟨_, c0, c1, c2, c7⟩ := H2 h10
        rw [s1] at c1
        have b10 : (i10 == 0) = true := by simpa using h10
        simp only [b5, b10, a0, a1, a2, a7, c0, c1, c2, c7, beq_self_eq_true, cond_true, cond_false, Bool.not_true]
      · have b10 : (i10 == 0) = false := by simpa using h10
        simp only [b5, b10, a0, a1, a2, a7, beq_self_eq_true, cond_true, cond_false, Bool.not_true, Bool.not_false]
    · have b5 : (i5 == 0) = false := by simpa using h5
      by_cases h10 : i10 = 0
      · obtain ⟨he, c0, c1, c2, c7⟩ := H2 h10
        have s1 := big he
        rw [s1] at c1
        have b10 : (i10 == 0) = true := by simpa using h10
        simp only [b5, b10, c0, c1, c2, c7, beq_self_eq_true, cond_true, cond_false, Bool.not_true, Bool.not_false]
      · have b10 : (i10 == 0) = false := by simpa using h10
        simp only [b5, b10, cond_true, cond_false, Bool.not_false]

end Go.Proofs.YtfjkpjgbigcpiaaDoor
end

section
set_option linter.unusedVariables false
set_option maxRecDepth 100000
namespace Go.Proofs.YtfjkpjgbigcpiaaDoor
open Go.PI Go.Pl

theorem sh_eq {x k : Int} (hx : 0 ≤ x ∧ x ≤ 18446744073709551615) (hk : 1 ≤ k) : IntKind.u64.wrap (x.tdiv k) = x.fdiv k := by
  rw [Int.tdiv_eq_ediv_of_nonneg hx.1, Int.fdiv_eq_ediv_of_nonneg _ (by omega)]
  have h1 : 0 ≤ x / k := Int.ediv_nonneg hx.1 (by omega)
  have h2 : x / k ≤ x := Int.ediv_le_self _ hx.1
  exact IntWalk.u64_in _ (by omega)

theorem rnext_eq (seed : Int) : Models.ref17_Next seed = some (rx3 seed, sd1 seed) := by
  have hs : 0 ≤ sd1 seed ∧ sd1 seed ≤ 18446744073709551615 := u64_range (seed + 11400714819323198485)
  have e1 : IntKind.u64.wrap (IntKind.u64.wrap (((BitVec.ofInt 64 (sd1 seed) ^^^ BitVec.ofInt 64 (IntKind.u64.wrap ((sd1 seed).tdiv 1073741824))).toNat : Nat) : Int) * 13787848793156543929) = rx1 seed := by
    rw [sh_eq hs (by decide)]; rfl
  have h1 : 0 ≤ rx1 seed ∧ rx1 seed ≤ 18446744073709551615 := by rw [← e1]; exact u64_range _
  have e2 : IntKind.u64.wrap (IntKind.u64.wrap (((BitVec.ofInt 64 (rx1 seed) ^^^ BitVec.ofInt 64 (IntKind.u64.wrap ((rx1 seed).tdiv 134217728))).toNat : Nat) : Int) * 10723151780598845931) = rx2 seed := by
    rw [sh_eq h1 (by decide)]; rfl
  have h2 : 0 ≤ rx2 seed ∧ rx2 seed ≤ 18446744073709551615 := by rw [← e2]; exact u64_range _
  have e3 : IntKind.u64.wrap (((BitVec.ofInt 64 (rx2 seed) ^^^ BitVec.ofInt 64 (IntKind.u64.wrap ((rx2 seed).tdiv 2147483648))).toNat : Nat) : Int) = rx3 seed := by
    rw [sh_eq h2 (by decide)]
    show _ = IntKind.u64.wrap (IntKind.u64.wrap (((BitVec.ofInt 64 (rx2 seed) ^^^ BitVec.ofInt 64 ((rx2 seed).fdiv 2147483648)).toNat : Nat) : Int) * 1)
    rw [Int.mul_one]
    generalize (((BitVec.ofInt 64 (rx2 seed) ^^^ BitVec.ofInt 64 ((rx2 seed).fdiv 2147483648)).toNat : Nat) : Int) = z
    exact (IntWalk.u64_in _ (u64_range z)).symm
  unfold Models.ref17_Next
  rw [show IntKind.u64.wrap (seed + 11400714819323198485) = sd1 seed from rfl, e1, e2, e3]

theorem rbelow_eq (seed : Int) : Models.ref17_Below seed 1000000 = some (rn seed, sd1 seed, 0) := by
  have h3 : 0 ≤ rx3 seed ∧ rx3 seed ≤ 18446744073709551615 :=
    u64_range (IntKind.u64.wrap (((BitVec.ofInt 64 (rx2 seed) ^^^ BitVec.ofInt 64 ((rx2 seed).fdiv (2 ^ min (Int.toNat 31) 64))).toNat : Nat) : Int) * 1)
  unfold Models.ref17_Below
  rw [rnext_eq]
  have h : IntKind.u64.wrap ((rx3 seed).tdiv 4294967296) = (rx3 seed).fdiv (2 ^ min (Int.toNat 32) 64) := sh_eq (k := 4294967296) h3 (by decide)
  have c1 : ¬ ((1000000 : Int) < 1) := by decide
  have c2 : ¬ ((1000000000 : Int) < 1000000) := by decide
  have c3 : ¬ ((1000000 : Int) = 0) := by decide
  simp only [Option.bind_some, c1, c2, c3, decide_false, cond_false, h]
  rfl

def updQ (q : Queue) (now : Int) : Queue := Queue.mk q.Policy q.Room q.Lists (A8.mk (u0 q now) (u1 q now) (u2 q now) q.Vars.e3 q.Vars.e4 q.Vars.e5 q.Vars.e6 q.Vars.e7) q.Seed

theorem rdelay_eq {q : Queue} {l : List Queued} (h : Good q l) {now : Int} (hn : okT now = true) (hle : q.Vars.e7 ≤ now) : Models.ref21_Delay q now = some (delayI q now) := by
  have hr := delay_range h hn hle
  unfold Models.ref21_Delay delayI at *
  rw [h.lists] at hr ⊢
  match l, h with
  | [], _ => rfl
  | x :: xs, h =>
    have hpos : (((x :: xs).length : Int) == 0) = false := by simp; omega
    have hg : [x :: xs][Int.toNat 0]? = some (x :: xs) := rfl
    have hg2 : (x :: xs)[Int.toNat 0]? = some x := rfl
    have hw : IntKind.i64.wrap (now - x.At) = now - x.At := IntWalk.i64_in _ (by
      have : 0 ≤ now - x.At ∧ now - x.At ≤ 10000000 := hr
      omega)
    simp only [hg, Option.bind_some, hpos, cond_false, hg2, hw]

theorem rupd_eq {q : Queue} {l : List Queued} (h : Good q l) {now : Int} (hn : okT now = true) (hle : q.Vars.e7 ≤ now) : Models.ref21_Updated q now = some (updQ q now) := by
  have hr := delay_range h hn hle
  have ha := h.a
  have h2 := h.e2
  have h0 := h.e0
  have h1 := h.e1
  have h7 := h.e7
  have hnow : 0 ≤ now ∧ now ≤ 10000000 := by simp only [okT, Bool.and_eq_true, decide_eq_true_eq] at hn; exact hn
  have hw : IntKind.i64.wrap (now - q.Vars.e1) = now - q.Vars.e1 := IntWalk.i64_in _ (by omega)
  unfold Models.ref21_Updated
  rw [hw]
  by_cases c : now - q.Vars.e1 < 16000
  · simp only [c, decide_true, cond_true, updQ, u0, u1, u2, if_true]
  · rw [rdelay_eq h hn hle]
    simp only [c, decide_false, cond_false, Option.bind_some]
    have w1 : IntKind.i64.wrap (delayI q now - q.Policy.A) = delayI q now - q.Policy.A := IntWalk.i64_in _ (by omega)
    have w2 : IntKind.i64.wrap (delayI q now - q.Vars.e2) = delayI q now - q.Vars.e2 := IntWalk.i64_in _ (by omega)
    have m1 := mul_range h.b (d := delayI q now - q.Policy.A) (by omega)
    have m2 := mul_range h.c (d := delayI q now - q.Vars.e2) (by omega)
    simp only [updQ, u0, u1, u2, c, if_false, newP, clampP]
    rw [w1, w2]
    generalize q.Policy.B * (delayI q now - q.Policy.A) = y1 at *
    generalize q.Policy.C * (delayI q now - q.Vars.e2) = y2 at *
    have w3 : IntKind.i64.wrap y1 = y1 := IntWalk.i64_in _ (by omega)
    have w4 : IntKind.i64.wrap y2 = y2 := IntWalk.i64_in _ (by omega)
    have w5 : IntKind.i64.wrap (q.Vars.e0 + y1 / 1000) = q.Vars.e0 + y1 / 1000 := IntWalk.i64_in _ (by omega)
    have w6 : IntKind.i64.wrap (q.Vars.e0 + y1 / 1000 + y2 / 1000) = q.Vars.e0 + y1 / 1000 + y2 / 1000 := IntWalk.i64_in _ (by omega)
    rw [w3, w4, down_eq y1 (by omega), down_eq y2 (by omega)]
    simp only [Option.bind_some, w5, w6]

theorem rput_eq (q : Queue) (p : Packet) (now : Int) (hl : ∀ l ∈ q.Lists, l.length ≤ 2 ^ 63 - 1) : Models.ref21_Put q p now = some (putR q p now) := by
  unfold Models.ref21_Put putR
  rw [rpacket_eq, refused_eq q now hl]
  simp only [Option.bind_some]
  cases hp : okP p
  · rfl
  cases he : (errB q now == 0)
  · rfl
  obtain ⟨hv, ht, hle⟩ := err_zero (by simpa using he)
  obtain ⟨l, hg⟩ := good_of hv
  have h1 := hg.len
  have h2 := hg.room
  rw [rupd_eq hg ht hle, hg.lists]
  have hgl : (updQ q now).Lists[Int.toNat 0]? = some l := by show q.Lists[0]? = some l; rw [hg.lists]; rfl
  have r3 : (0 + l.length) * 64 ≤ 2 ^ 44 := by omega
  have r4 : 0 + l.length ≤ 2 ^ 44 := by omega
  have r1 : (l.length + 1) * 64 ≤ 2 ^ 44 := by omega
  have r2 : l.length + 1 ≤ 2 ^ 44 := by omega
  have hroom : (updQ q now).Room = q.Room := rfl
  have hseed : (updQ q now).Seed = q.Seed := rfl
  have he0 : (updQ q now).Vars.e0 = u0 q now := rfl
  simp only [Bool.not_true, cond_false, Option.bind_some, hgl, r1, r2, r3, r4, decide_true, Bool.and_self, cond_true, hroom, hseed, he0, rbelow_eq, Models.ref18_With]
  cases ((l.length : Int) == q.Room)
  · obtain ⟨pf, ps, pn, pd, pz, pt, pa, pm⟩ := p
    cases decide (rn q.Seed < u0 q now) <;> cases pa <;> rfl
  · rfl

theorem rtake_eq (q : Queue) (now : Int) (hl : ∀ l ∈ q.Lists, l.length ≤ 2 ^ 63 - 1) : Models.ref21_Take q now = some (takeR q now) := by
  unfold Models.ref21_Take takeR
  rw [refused_eq q now hl]
  simp only [Option.bind_some]
  cases he : (errB q now == 0)
  · rfl
  obtain ⟨hv, ht, hle⟩ := err_zero (by simpa using he)
  obtain ⟨l, hg⟩ := good_of hv
  have h1 := hg.len
  have h2 := hg.room
  rw [rupd_eq hg ht hle, hg.lists]
  have hgl : (updQ q now).Lists[Int.toNat 0]? = some l := by show q.Lists[0]? = some l; rw [hg.lists]; rfl
  simp only [Bool.not_true, cond_false, Option.bind_some, hgl, Models.ref18_With]
  match l, h1 with
  | [], _ => rfl
  | x :: xs, h1 =>
    have hb : (((x :: xs).length : Int) == 0) = false := by simp; omega
    have hd : Int.toNat 1 ≤ (x :: xs).length := by simp
    have hdr : List.drop (Int.toNat 1) (x :: xs) = xs := rfl
    have hg2 : (x :: xs)[Int.toNat 0]? = some x := rfl
    have h3 : (0 + xs.length) * 64 ≤ 2 ^ 44 := by simp at h1; omega
    have h4 : 0 + xs.length ≤ 2 ^ 44 := by simp at h1; omega
    simp only [hb, cond_false, hd, decide_true, cond_true, hdr, hg2, Option.bind_some, h3, h4, Bool.and_self]
    rfl

theorem bnd_zero : bnd zeroQ := ⟨by simp [zeroQ], by simp [zeroQ]⟩
theorem bnd_one {q : Queue} {l : List Queued} {now sd : Int} (h : l.length ≤ 2 ^ 63 - 1) : bnd (withU q [l] now sd) := ⟨by simp [withU], by simpa [withU] using h⟩

theorem put_bnd (q : Queue) (p : Packet) (now : Int) : bnd (putR q p now).1 ∧ (putR q p now).2.1.length ≤ 1 := by
  unfold putR
  cases hp : okP p
  · exact ⟨bnd_zero, Nat.zero_le _⟩
  cases he : (errB q now == 0)
  · exact ⟨bnd_zero, Nat.zero_le _⟩
  obtain ⟨hv, ht, hle⟩ := err_zero (by simpa using he)
  obtain ⟨l, hg⟩ := good_of hv
  have h1 := hg.len
  have h2 := hg.room
  rw [hg.lists]
  simp only [Bool.not_true, cond_false]
  cases ((l.length : Int) == q.Room)
  · cases decide (rn q.Seed < u0 q now)
    · exact ⟨bnd_one (by simp; omega), Nat.zero_le _⟩
    · cases p.Able
      · exact ⟨bnd_one (by omega), by simp⟩
      · exact ⟨bnd_one (by simp; omega), Nat.zero_le _⟩
  · exact ⟨bnd_one (by omega), by simp⟩

theorem take_bnd (q : Queue) (now : Int) : bnd (takeR q now).1 ∧ (takeR q now).2.2.2.1.length ≤ 1 := by
  unfold takeR
  cases he : (errB q now == 0)
  · exact ⟨bnd_zero, Nat.zero_le _⟩
  obtain ⟨hv, ht, hle⟩ := err_zero (by simpa using he)
  obtain ⟨l, hg⟩ := good_of hv
  have h1 := hg.len
  have h2 := hg.room
  rw [hg.lists]
  match l, h1 with
  | [], _ => exact ⟨bnd_one (by simp), Nat.zero_le _⟩
  | x :: xs, h1 => exact ⟨bnd_one (by simp at h1; omega), Nat.zero_le _⟩

theorem same_bnd {a : Queue} (h : bnd a) : Models.ref18_Same a a = some true :=
  same_self a (by have := h.1; omega) (fun l hl => by have := h.2 l hl; omega)

theorem matches_eq (q : Queue) (p : Packet) (now : Int) (hb : bnd q) : Models.law21_IntegralMatchesReference q p now = some true := by
  have hl : ∀ l ∈ q.Lists, l.length ≤ 2 ^ 63 - 1 := hb.2
  unfold Models.law21_IntegralMatchesReference
  rw [few_some hb, tput_eq q p now hl, rput_eq q p now hl, ttake_eq q now hl, rtake_eq q now hl]
  have htv : Models.integral_Valid q = some (vB q) := by
    unfold Models.integral_Valid; rw [tv_eq q hl]; rfl
  rw [htv, rv_eq q hl]
  obtain ⟨h1, h2⟩ := put_bnd q p now
  obtain ⟨h3, h4⟩ := take_bnd q now
  simp only [Models.law21_head, Option.bind_some]
  cases (bif q.Lists.all (fun l => decide (l.length ≤ 600)) then decide ((q.Lists.length : Int) ≤ 20) else false)
  · rfl
  · simp [same_bnd h1, same_bnd h3, packets_self _ (Nat.le_trans h2 (by omega)), packets_self _ (Nat.le_trans h4 (by omega))]

end Go.Proofs.YtfjkpjgbigcpiaaDoor
end

section
set_option linter.unusedVariables false
/- The law IntegralMatchesReference: its row. -/
namespace Go.Proofs.YtfjkpjgbigcpiaaDoor.integralMatchesReference
open Go.PI Go.ChangeShapes Go.WideShapes Go.ChangeAt Go.RowKit
theorem own : ownKnob Tryd.prog.godebug = none := by kernel_rfl
theorem laidOut : laidOutB Tryd.prog = true := by kernel_rfl
theorem okWide_struct {P : Program} {w : World} {r : Reach} {base : Nat} {t : TypeId} {v : Value} {fs : Array Field} (ht : P.underlying t = some (.struct fs)) (h : Value.okWide P w r base t v) : ∃ cs, v = .agg cs := by
  unfold Value.okWide at h
  rw [ht] at h
  obtain ⟨cs, h, _⟩ := h
  exact ⟨cs, h⟩
theorem rep_agg {E : Env} {l : List AV} {cs : Array Value} (h : RepL E false l (Value.agg cs).cells.toList) : Rep E false (.agg l) (.agg cs) := by
  simp only [Rep]
  exact ⟨cs.toList, by simp, by simpa [Value.cells] using h⟩
theorem rep_slice {E : Env} {l : List AV} {a : Option Addr} {len cap : Nat} (h : RepL E false l (Value.slice a len cap).cells.toList) {x : AV} (hl : l = [x]) : Rep E false x (.slice a len cap) := by
  subst hl
  have h2 : Rep E false x (Value.slice a len cap) ∧ leafV (Value.slice a len cap) = true := by simpa [Value.cells, RepL] using h
  exact h2.1
theorem walk (W : World) (cs0 : Array Value) (cs1 : Array Value) (a2 : Int) {l0 : List AV} {l1 : List AV} (e0 : RepL (Env.all W) false l0 (Value.agg cs0 : Value).cells.toList) (e1 : RepL (Env.all W) false l1 (Value.agg cs1 : Value).cells.toList) {n0 : Nat} (s0 : Shape Tryd.prog n0 28 l0) {n1 : Nat} (s1 : Shape Tryd.prog n1 30 l1) (hw2 : (Lit.int .i64 a2).wf = true) (hG : GlobOk (Env.all W)) : Calls Tryd.prog 3 #[.agg cs0, .agg cs1, .int .i64 a2] W fun e w' => e = .returned (.bool true) ∧ Below W.heap.size W w' := by
  obtain ⟨x0, w0, r0⟩ := sh27 (shape_same (show Tryd.prog.underlying 28 = Tryd.prog.underlying 27 by kernel_rfl) s0)
  obtain ⟨x1, w1, r1⟩ := sh29 (shape_same (show Tryd.prog.underlying 30 = Tryd.prog.underlying 29 by kernel_rfl) s1)
  have hs : SumOk C T 3 ⟨[28, 30, 3], [4], fun x => Go.Models.law21_IntegralMatchesReference x.1 x.2.1 x.2.2⟩ := mkS_sum s38 rfl
  refine law_true Cok hs rfl (x := (x0, x1, a2)) (y := true) (matches_eq x0 x1 a2 (bnd_wf w0)) ?_ («as» := [.agg l0, .agg l1, .lit (.int .i64 a2)]) ⟨r0, r1, rfl, trivial⟩ hG (vs := [.agg cs0, .agg cs1, .int .i64 a2]) ?_
  · intro l hl
    match l, hl with
    | [a], hl => have : a = .lit (.bool true) := hl.1; rw [this]
    | [], hl => exact False.elim hl
    | _ :: _ :: _, hl => exact False.elim hl.2
  · simp only [RepT]
    exact ⟨rep_agg e0, rep_agg e1, by simp [Rep], trivial⟩
set_option maxRecDepth 100000 in
theorem lifted (os : Os) (started : os.Started) (H : Type) (enc : TypeId × Value → H) :
    ReturnsInHanded {} Tryd.checked os 3 .any (fun w args => (Rows.integralMatchesReferenceSpec.pre enc Tryd.prog Tryd.f3 [] false w args ∧ laidMetH Tryd.prog Rows.integralMatchesReferenceRow.laid w) ∧ sizedMet enc Tryd.prog Tryd.f3 (OpenSpec.ofChange Rows.integralMatchesReferenceSpec) false w args) (Rows.integralMatchesReferenceSpec.post enc Tryd.prog Tryd.f3 false true false false) := by
  refine returnsInHanded_of_change_and (C := Tryd.checked) (X := fun w _ => laidMetH Tryd.prog Rows.integralMatchesReferenceRow.laid w) (fun _ _ _ hh h => h.of_heap hh) own started (by kernel_rfl) Tryd.func3
    (ChangeSpec.witness_at (enc := enc) (C := Tryd.checked) (os := os) (X := fun w _ => laidMetH Tryd.prog Rows.integralMatchesReferenceRow.laid w) false (World.laidAll Tryd.prog os Rows.integralMatchesReferenceRow.laid) #[.agg #[.int .i64 0, .int .i64 0, .int .i64 0, .int .i64 0, .int .i64 0, .slice none 0 0, .int .i64 0, .int .i64 0, .int .i64 0, .int .i64 0, .int .i64 0, .int .i64 0, .int .i64 0, .int .i64 0, .int .u64 0], .agg #[.int .i64 0, .int .i64 0, .int .i64 0, .int .i64 0, .int .i64 0, .int .i64 0, .bool false, .bool false], .int .i64 0] 8 (World.laidAll_os _ _ _) (by kernel_rfl) (by kernel_rfl) (by kernel_rfl) (by kernel_rfl) (by kernel_rfl)
      (by rw [MakeChecks.laidMetH_plain _ _ _ (by kernel_rfl)]; exact laidMet_laidAll _ (by kernel_rfl) (by kernel_rfl))) ?_
  intro W base args ds gs before hval0 hW _ _ hL _
  have hG : GlobOk (Env.all W) := globOk hL
  have hval : ∀ (j : Nat) t v, Tryd.f3.params[j]? = some t → args[j]? = some v → Value.okWide Tryd.prog W .any base t v := hval0
  have hW' := hW
  obtain ⟨p, q, hA0, hV, rfl, hfz, hnd⟩ := hW
  have hA : DataW.TrodAll enc Tryd.prog W 0 (fun _ => true) true Tryd.f3.params.toList args.toList ds p := hA0
  rw [Tryd.params3] at hA hval
  obtain ⟨v0, vs0, d0, ds0, p0, q0, hargs, rfl, rfl, h0, r0⟩ := trodAll_cons hA
  obtain ⟨v1, vs1, d1, ds1, p1, q1, rfl, rfl, rfl, h1, r1⟩ := trodAll_cons r0
  obtain ⟨v2, vs2, d2, ds2, p2, q2, rfl, rfl, rfl, h2, r2⟩ := trodAll_cons r1
  obtain ⟨rfl, rfl, rfl⟩ := trodAll_nil r2
  obtain rfl : args = #[v0, v1, v2] := by cases args; simp_all
  obtain ⟨rfl, rfl⟩ := trodVars_none hV
  obtain ⟨cs0, rfl⟩ := okWide_struct Tryd.underlying28 (hval 0 28 v0 rfl rfl)
  obtain ⟨cs1, rfl⟩ := okWide_struct Tryd.underlying30 (hval 1 30 v1 rfl rfl)
  obtain ⟨a2, rfl, rfl, rfl, w2⟩ := open_int Tryd.underlying3 (hval 2 3 v2 rfl rfl) h2
  have k0 := h0
  have lt0 : ∀ x ∈ p0, x.block < W.heap.size := by obtain ⟨m, hm⟩ := k0; exact DataW.trod_lt m _ _ _ hm
  have k1 := h1
  have lt1 : ∀ x ∈ p1, x.block < W.heap.size := by obtain ⟨m, hm⟩ := k1; exact DataW.trod_lt m _ _ _ hm
  obtain ⟨f0, hf0⟩ := h0
  obtain ⟨l0, e0, s0⟩ := read_ok f0 10 28 _ _ (by kernel_rfl) hf0
  obtain ⟨f1, hf1⟩ := h1
  obtain ⟨l1, e1, s1⟩ := read_ok f1 10 30 _ _ (by kernel_rfl) hf1
  clear hA0 hval0
  refine (walk W cs0 cs1 a2 e0 e1 s0 s1 w2 hG).mono fun e W' ⟨he, bel⟩ => ?_
  subst he
  exact ⟨_, rfl, _, _, _, [], _, [], hW', trodAll_mk1 (shut_bool Tryd.underlying4 _), (trodAll_cons_mk (Below.trod laidOut (by kernel_rfl) (of_decide_eq_true (by kernel_rfl)) k0 bel lt0) (trodAll_cons_mk (Below.trod laidOut (by kernel_rfl) (of_decide_eq_true (by kernel_rfl)) k1 bel lt1) (trodAll_cons_mk (shut_int Tryd.underlying3 w2) trodAll_mk0))), rfl, bel.frame _, fun h => by cases h⟩
theorem over : Rows.integralMatchesReferenceRow.holds Tryd.pinned (OpenSpec.ofChange Rows.integralMatchesReferenceSpec) :=
  OpenClaim.holds_of_wide 3 Tryd.f3 rfl rfl rfl rfl rfl rfl rfl ⟨rfl, rfl, rfl, rfl, rfl⟩ rfl rfl rfl rfl rfl (by kernel_rfl) Tryd.func3 (by kernel_rfl)
    (of_decide_eq_true (by kernel_rfl)) (by unfold Func.isWrapper; first | (rw [if_pos (by decide +kernel)]; kernel_rfl) | (rw [if_neg (by decide +kernel)]; exact ⟨rfl, rfl⟩))
    (fun os started H enc _ => lifted os started H enc)
theorem proved : Rows.IntegralMatchesReferenceSaid := over
theorem card : Rows.IntegralMatchesReferenceCardSaid :=
  Claim7.holds_tied_plain_at .later [] [.data] true (true, "105d156e0701894084c3f098812b09192154abd4eeca6a17becc14797918a3c7") false proved (fun _ h => by cases h) (by kernel_rfl) (fun _ h => by cases h) integralMatchesReference_row_tie rfl ⟨rfl, rfl⟩ (by kernel_rfl) rfl
    (fun f fn hf hfn => by
      obtain rfl : f = 3 := Option.some.inj ((show Tryd.prog.funcNamed "queuelab/queuelablaw21.IntegralMatchesReference" = some 3 by kernel_rfl).symm.trans hf) |>.symm
      obtain rfl : fn = Tryd.f3 := (Option.some.inj (Tryd.func3.symm.trans hfn)).symm
      exact ⟨by kernel_rfl, fun j t ht => by
        rw [Tryd.params3] at ht
        have hm : t ∈ [28, 30, 3] := by simpa using Array.mem_of_getElem? ht
        have hall : ([28, 30, 3].all fun u => !Tryd.prog.wantsStandIn u) = true := by kernel_rfl
        exact (show Tryd.prog.wantsStandIn t = false by simpa using List.all_eq_true.1 hall t hm)⟩)
    (by kernel_rfl)
end Go.Proofs.YtfjkpjgbigcpiaaDoor.integralMatchesReference
namespace Go.Proofs.YtfjkpjgbigcpiaaDoor
/-- The tied card, under a short name, for the claim. -/
theorem integralMatchesReference_card_holds : Rows.IntegralMatchesReferenceCardSaid := integralMatchesReference.card
end Go.Proofs.YtfjkpjgbigcpiaaDoor
end
