/- The law TailConserves returns true for every input, and each argument reads as it read before; no conditions. This file: the row, last of the parts. -/
import Derived.Test.YtnbagejbdkhooaaProg
import Derived.KernelRfl
import Derived.ProofKit
import Derived.Test.YtnbagejbdkhooaaRows
import Derived.WalkKit
import Derived.OpenShut
import Derived.ShutString
import Derived.ChangeOld
import Derived.Below
import Derived.SizedLaws
import Derived.Test.YtnbagejbdkhooaaX5
section
set_option linter.unusedVariables false
/- The types of this seat: what must hold of them (printed by gen_tys.py out of the dump). -/
set_option linter.unusedSimpArgs false
namespace Go.Proofs.Ytnbagejbdkhooaa
open Go.PI

theorem rlc {H : SHeap den} {v : V} {vs : List V} {l : List AV} : RL T H (v :: vs) l ↔ ∃ c cs, l = c :: cs ∧ R T H v c ∧ RL T H vs cs := RL_cons_iff (T := T)
theorem rln {H : SHeap den} {l : List AV} : RL T H [] l ↔ l = [] := RL_nil_iff (T := T)
theorem dI_ok {H : SHeap den} {k : IntKind} {v : V} {x : Int} {a : AV} (h : dI k v = some x) (hr : R T H v a) : a = .lit (.int k x) := by
  unfold dI at h
  split at h
  · split at h
    · rename_i e
      simp only [Option.some.injEq] at h
      subst h; subst e
      simpa only [R] using hr
    · simp at h
  · simp at h
theorem dB_ok {H : SHeap den} {v : V} {x : Bool} {a : AV} (h : dB v = some x) (hr : R T H v a) : a = .lit (.bool x) := by
  unfold dB at h
  split at h
  · simp only [Option.some.injEq] at h
    subst h
    simpa only [R] using hr
  · simp at h
theorem dS_ok {H : SHeap den} {v : V} {x : ByteArray} {a : AV} (h : dS v = some x) (hr : R T H v a) : a = .lit (.string x) := by
  unfold dS at h
  split at h
  · simp only [Option.some.injEq] at h
    subst h
    simpa only [R] using hr
  · simp at h
theorem uk2 (x : Int) (a : AV) (H : SHeap den) (h : rp2 x a) : R T H (up2 x) a := by
  unfold up2; simp only [R]; exact h
theorem dk2 (v : V) (x : Int) (a : AV) (H : SHeap den) (h : dn2 v = some x) (hr : R T H v a) : rp2 x a := dI_ok h hr
theorem ek2 (x : Int) (a : AV) (h : rp2 x a) : okElem false 1 a = true ∧ closed a = true ∧ isLeaf a = true := by
  unfold rp2 at h; subst h; exact ⟨rfl, rfl, rfl⟩
theorem uk3 (x : Int) (a : AV) (H : SHeap den) (h : rp3 x a) : R T H (up3 x) a := by
  unfold up3; simp only [R]; exact h
theorem dk3 (v : V) (x : Int) (a : AV) (H : SHeap den) (h : dn3 v = some x) (hr : R T H v a) : rp3 x a := dI_ok h hr
theorem ek3 (x : Int) (a : AV) (h : rp3 x a) : okElem false 1 a = true ∧ closed a = true ∧ isLeaf a = true := by
  unfold rp3 at h; subst h; exact ⟨rfl, rfl, rfl⟩
theorem uk4 (x : Bool) (a : AV) (H : SHeap den) (h : rp4 x a) : R T H (up4 x) a := by
  unfold up4; simp only [R]; exact h
theorem dk4 (v : V) (x : Bool) (a : AV) (H : SHeap den) (h : dn4 v = some x) (hr : R T H v a) : rp4 x a := dB_ok h hr
theorem ek4 (x : Bool) (a : AV) (h : rp4 x a) : okElem false 1 a = true ∧ closed a = true ∧ isLeaf a = true := by
  unfold rp4 at h; subst h; exact ⟨rfl, rfl, rfl⟩
theorem uk5 (x : Int) (a : AV) (H : SHeap den) (h : rp5 x a) : R T H (up5 x) a := by
  unfold up5; simp only [R]; exact h
theorem dk5 (v : V) (x : Int) (a : AV) (H : SHeap den) (h : dn5 v = some x) (hr : R T H v a) : rp5 x a := dI_ok h hr
theorem ek5 (x : Int) (a : AV) (h : rp5 x a) : okElem false 1 a = true ∧ closed a = true ∧ isLeaf a = true := by
  unfold rp5 at h; subst h; exact ⟨rfl, rfl, rfl⟩
theorem uk9 (x : ByteArray) (a : AV) (H : SHeap den) (h : rp9 x a) : R T H (up9 x) a := by
  unfold up9; simp only [R]; exact h
theorem dk9 (v : V) (x : ByteArray) (a : AV) (H : SHeap den) (h : dn9 v = some x) (hr : R T H v a) : rp9 x a := dS_ok h hr
theorem ek9 (x : ByteArray) (a : AV) (h : rp9 x a) : okElem false 1 a = true ∧ closed a = true ∧ isLeaf a = true := by
  unfold rp9 at h; subst h; exact ⟨rfl, rfl, rfl⟩
theorem uk22 (x : Policy) (a : AV) (H : SHeap den) (h : rp22 x a) : R T H (up22 x) a := by
  unfold rp22 at h; subst h
  unfold up22
  simp only [R]
  refine ⟨_, rfl, ?_⟩
  simp only [RL, R, and_true, true_and]
theorem dk22 (v : V) (x : Policy) (a : AV) (H : SHeap den) (h : dn22 v = some x) (hr : R T H v a) : rp22 x a := by
  unfold dn22 at h
  split at h
  · simp only [Option.bind_eq_some_iff, Option.some.injEq] at h
    obtain ⟨b0, g0, b1, g1, b2, g2, b3, g3, rfl⟩ := h
    simp only [R] at hr
    obtain ⟨_, rfl, hl⟩ := hr
    obtain ⟨c0, _, rfl, r0, hl⟩ := rlc.1 hl
    obtain ⟨c1, _, rfl, r1, hl⟩ := rlc.1 hl
    obtain ⟨c2, _, rfl, r2, hl⟩ := rlc.1 hl
    obtain ⟨c3, _, rfl, r3, hl⟩ := rlc.1 hl
    have hl0 := rln.1 hl
    subst hl0
    have e0 := dk3 _ _ _ H g0 r0
    have e1 := dk3 _ _ _ H g1 r1
    have e2 := dk3 _ _ _ H g2 r2
    have e3 := dk3 _ _ _ H g3 r3
    unfold rp3 at e0; subst e0
    unfold rp3 at e1; subst e1
    unfold rp3 at e2; subst e2
    unfold rp3 at e3; subst e3
    exact rfl
  · simp at h
theorem ek22 (x : Policy) (a : AV) (h : rp22 x a) : okElem true 4 a = true ∧ closed a = true := by
  unfold rp22 at h; subst h
  exact ⟨by simp [okElem, leaf_int, leaf_bool, leaf_str], by simp [closed, closedL]⟩
theorem uk29 (x : Packet) (a : AV) (H : SHeap den) (h : rp29 x a) : R T H (up29 x) a := by
  unfold rp29 at h; subst h
  unfold up29
  simp only [R]
  refine ⟨_, rfl, ?_⟩
  simp only [RL, R, and_true, true_and]
theorem dk29 (v : V) (x : Packet) (a : AV) (H : SHeap den) (h : dn29 v = some x) (hr : R T H v a) : rp29 x a := by
  unfold dn29 at h
  split at h
  · simp only [Option.bind_eq_some_iff, Option.some.injEq] at h
    obtain ⟨b0, g0, b1, g1, b2, g2, b3, g3, b4, g4, b5, g5, b6, g6, b7, g7, rfl⟩ := h
    simp only [R] at hr
    obtain ⟨_, rfl, hl⟩ := hr
    obtain ⟨c0, _, rfl, r0, hl⟩ := rlc.1 hl
    obtain ⟨c1, _, rfl, r1, hl⟩ := rlc.1 hl
    obtain ⟨c2, _, rfl, r2, hl⟩ := rlc.1 hl
    obtain ⟨c3, _, rfl, r3, hl⟩ := rlc.1 hl
    obtain ⟨c4, _, rfl, r4, hl⟩ := rlc.1 hl
    obtain ⟨c5, _, rfl, r5, hl⟩ := rlc.1 hl
    obtain ⟨c6, _, rfl, r6, hl⟩ := rlc.1 hl
    obtain ⟨c7, _, rfl, r7, hl⟩ := rlc.1 hl
    have hl0 := rln.1 hl
    subst hl0
    have e0 := dk3 _ _ _ H g0 r0
    have e1 := dk3 _ _ _ H g1 r1
    have e2 := dk3 _ _ _ H g2 r2
    have e3 := dk3 _ _ _ H g3 r3
    have e4 := dk3 _ _ _ H g4 r4
    have e5 := dk3 _ _ _ H g5 r5
    have e6 := dk4 _ _ _ H g6 r6
    have e7 := dk4 _ _ _ H g7 r7
    unfold rp3 at e0; subst e0
    unfold rp3 at e1; subst e1
    unfold rp3 at e2; subst e2
    unfold rp3 at e3; subst e3
    unfold rp3 at e4; subst e4
    unfold rp3 at e5; subst e5
    unfold rp4 at e6; subst e6
    unfold rp4 at e7; subst e7
    exact rfl
  · simp at h
theorem ek29 (x : Packet) (a : AV) (h : rp29 x a) : okElem true 8 a = true ∧ closed a = true := by
  unfold rp29 at h; subst h
  exact ⟨by simp [okElem, leaf_int, leaf_bool, leaf_str], by simp [closed, closedL]⟩
theorem uk49 (x : Queued) (a : AV) (H : SHeap den) (h : rp49 x a) : R T H (up49 x) a := by
  unfold rp49 at h; subst h
  unfold up49
  simp only [R]
  refine ⟨_, rfl, ?_⟩
  simp only [RL, R, and_true, true_and]
theorem dk49 (v : V) (x : Queued) (a : AV) (H : SHeap den) (h : dn49 v = some x) (hr : R T H v a) : rp49 x a := by
  unfold dn49 at h
  split at h
  · simp only [Option.bind_eq_some_iff, Option.some.injEq] at h
    obtain ⟨b0, g0, b1, g1, b2, g2, b3, g3, b4, g4, b5, g5, b6, g6, b7, g7, b8, g8, rfl⟩ := h
    simp only [R] at hr
    obtain ⟨_, rfl, hl⟩ := hr
    obtain ⟨c0, _, rfl, r0, hl⟩ := rlc.1 hl
    obtain ⟨c1, _, rfl, r1, hl⟩ := rlc.1 hl
    obtain ⟨c2, _, rfl, r2, hl⟩ := rlc.1 hl
    obtain ⟨c3, _, rfl, r3, hl⟩ := rlc.1 hl
    obtain ⟨c4, _, rfl, r4, hl⟩ := rlc.1 hl
    obtain ⟨c5, _, rfl, r5, hl⟩ := rlc.1 hl
    obtain ⟨c6, _, rfl, r6, hl⟩ := rlc.1 hl
    obtain ⟨c7, _, rfl, r7, hl⟩ := rlc.1 hl
    obtain ⟨c8, _, rfl, r8, hl⟩ := rlc.1 hl
    have hl0 := rln.1 hl
    subst hl0
    have e0 := dk3 _ _ _ H g0 r0
    have e1 := dk3 _ _ _ H g1 r1
    have e2 := dk3 _ _ _ H g2 r2
    have e3 := dk3 _ _ _ H g3 r3
    have e4 := dk3 _ _ _ H g4 r4
    have e5 := dk3 _ _ _ H g5 r5
    have e6 := dk4 _ _ _ H g6 r6
    have e7 := dk4 _ _ _ H g7 r7
    have e8 := dk3 _ _ _ H g8 r8
    unfold rp3 at e0; subst e0
    unfold rp3 at e1; subst e1
    unfold rp3 at e2; subst e2
    unfold rp3 at e3; subst e3
    unfold rp3 at e4; subst e4
    unfold rp3 at e5; subst e5
    unfold rp4 at e6; subst e6
    unfold rp4 at e7; subst e7
    unfold rp3 at e8; subst e8
    exact rfl
  · simp at h
theorem ek49 (x : Queued) (a : AV) (h : rp49 x a) : okElem true 9 a = true ∧ closed a = true := by
  unfold rp49 at h; subst h
  exact ⟨by simp [okElem, leaf_int, leaf_bool, leaf_str], by simp [closed, closedL]⟩
theorem uk47 (x : List Queued) (a : AV) (H : SHeap den) (h : rp47 x a) : R T H (up47 x) a := by
  unfold up47; simp only [R]; exact h
theorem lk47 {H : SHeap den} : ∀ (vs : List V) (l : List Queued) (m : List AV), dl47 vs = some l → RL T H vs m → All2 rp49 l m
  | [], l, [], h, _ => by simp [dl47] at h; subst h; trivial
  | v :: vs, l, a :: m, h, hr => by
    simp only [RL] at hr
    simp only [dl47, Option.bind_eq_some_iff, Option.map_eq_some_iff] at h
    obtain ⟨x, h1, ys, h2, rfl⟩ := h
    exact ⟨dk49 _ _ _ H h1 hr.1, lk47 vs ys m h2 hr.2⟩
  | [], _, _ :: _, _, h => by simp [RL] at h
  | _ :: _, _, [], _, h => by simp [RL] at h
theorem dk47 (v : V) (x : List Queued) (a : AV) (H : SHeap den) (h : dn47 v = some x) (hr : R T H v a) : rp47 x a := by
  unfold dn47 at h
  split at h
  · rename_i t l
    split at h
    · rename_i e
      subst e
      have e2 : l = x := Option.some.inj h
      subst e2
      simp only [R] at hr
      exact hr
    · simp at h
  · simp only [R] at hr
    obtain ⟨m, rfl, hm, _⟩ := hr
    exact .inl ⟨m, rfl, lk47 _ _ _ h hm⟩
  · simp only [Option.some.injEq] at h
    subst h
    simp only [R] at hr
    exact .inr ⟨rfl, hr⟩
  · simp at h
theorem ek47 (x : List Queued) (a : AV) (h : rp47 x a) : okElem false 1 a = true ∧ closed a = true ∧ isLeaf a = true := by
  rcases h with ⟨l, rfl, _⟩ | ⟨_, rfl⟩ <;> exact ⟨rfl, rfl, rfl⟩
theorem uk24 (x : List (List Queued)) (a : AV) (H : SHeap den) (h : rp24 x a) : R T H (up24 x) a := by
  unfold up24; simp only [R]; exact h
theorem lk24 {H : SHeap den} : ∀ (vs : List V) (l : List (List Queued)) (m : List AV), dl24 vs = some l → RL T H vs m → All2 rp47 l m
  | [], l, [], h, _ => by simp [dl24] at h; subst h; trivial
  | v :: vs, l, a :: m, h, hr => by
    simp only [RL] at hr
    simp only [dl24, Option.bind_eq_some_iff, Option.map_eq_some_iff] at h
    obtain ⟨x, h1, ys, h2, rfl⟩ := h
    exact ⟨dk47 _ _ _ H h1 hr.1, lk24 vs ys m h2 hr.2⟩
  | [], _, _ :: _, _, h => by simp [RL] at h
  | _ :: _, _, [], _, h => by simp [RL] at h
theorem dk24 (v : V) (x : List (List Queued)) (a : AV) (H : SHeap den) (h : dn24 v = some x) (hr : R T H v a) : rp24 x a := by
  unfold dn24 at h
  split at h
  · rename_i t l
    split at h
    · rename_i e
      subst e
      have e2 : l = x := Option.some.inj h
      subst e2
      simp only [R] at hr
      exact hr
    · simp at h
  · simp only [R] at hr
    obtain ⟨m, rfl, hm, _⟩ := hr
    exact .inl ⟨m, rfl, lk24 _ _ _ h hm⟩
  · simp only [Option.some.injEq] at h
    subst h
    simp only [R] at hr
    exact .inr ⟨rfl, hr⟩
  · simp at h
theorem ek24 (x : List (List Queued)) (a : AV) (h : rp24 x a) : okElem false 1 a = true ∧ closed a = true ∧ isLeaf a = true := by
  rcases h with ⟨l, rfl, _⟩ | ⟨_, rfl⟩ <;> exact ⟨rfl, rfl, rfl⟩
theorem uk25 (x : A8 Int) (a : AV) (H : SHeap den) (h : rp25 x a) : R T H (up25 x) a := by
  unfold rp25 at h; subst h
  unfold up25
  simp only [R]
  refine ⟨_, rfl, ?_⟩
  simp only [RL, R, and_true, true_and]
theorem dk25 (v : V) (x : A8 Int) (a : AV) (H : SHeap den) (h : dn25 v = some x) (hr : R T H v a) : rp25 x a := by
  unfold dn25 at h
  split at h
  · simp only [Option.bind_eq_some_iff, Option.some.injEq] at h
    obtain ⟨b0, g0, b1, g1, b2, g2, b3, g3, b4, g4, b5, g5, b6, g6, b7, g7, rfl⟩ := h
    simp only [R] at hr
    obtain ⟨_, rfl, hl⟩ := hr
    obtain ⟨c0, _, rfl, r0, hl⟩ := rlc.1 hl
    obtain ⟨c1, _, rfl, r1, hl⟩ := rlc.1 hl
    obtain ⟨c2, _, rfl, r2, hl⟩ := rlc.1 hl
    obtain ⟨c3, _, rfl, r3, hl⟩ := rlc.1 hl
    obtain ⟨c4, _, rfl, r4, hl⟩ := rlc.1 hl
    obtain ⟨c5, _, rfl, r5, hl⟩ := rlc.1 hl
    obtain ⟨c6, _, rfl, r6, hl⟩ := rlc.1 hl
    obtain ⟨c7, _, rfl, r7, hl⟩ := rlc.1 hl
    have hl0 := rln.1 hl
    subst hl0
    have e0 := dk3 _ _ _ H g0 r0
    have e1 := dk3 _ _ _ H g1 r1
    have e2 := dk3 _ _ _ H g2 r2
    have e3 := dk3 _ _ _ H g3 r3
    have e4 := dk3 _ _ _ H g4 r4
    have e5 := dk3 _ _ _ H g5 r5
    have e6 := dk3 _ _ _ H g6 r6
    have e7 := dk3 _ _ _ H g7 r7
    unfold rp3 at e0; subst e0
    unfold rp3 at e1; subst e1
    unfold rp3 at e2; subst e2
    unfold rp3 at e3; subst e3
    unfold rp3 at e4; subst e4
    unfold rp3 at e5; subst e5
    unfold rp3 at e6; subst e6
    unfold rp3 at e7; subst e7
    exact rfl
  · simp at h
theorem ek25 (x : A8 Int) (a : AV) (h : rp25 x a) : okElem true 8 a = true ∧ closed a = true := by
  unfold rp25 at h; subst h
  exact ⟨by simp [okElem, leaf_int, leaf_bool, leaf_str], by simp [closed, closedL]⟩
theorem uk26 (x : Int) (a : AV) (H : SHeap den) (h : rp26 x a) : R T H (up26 x) a := by
  unfold up26; simp only [R]; exact h
theorem dk26 (v : V) (x : Int) (a : AV) (H : SHeap den) (h : dn26 v = some x) (hr : R T H v a) : rp26 x a := dI_ok h hr
theorem ek26 (x : Int) (a : AV) (h : rp26 x a) : okElem false 1 a = true ∧ closed a = true ∧ isLeaf a = true := by
  unfold rp26 at h; subst h; exact ⟨rfl, rfl, rfl⟩
theorem uk27 (x : Queue) (a : AV) (H : SHeap den) (h : rp27 x a) : R T H (up27 x) a := by
  obtain ⟨a5, h5, rfl⟩ := h
  unfold up27
  simp only [R]
  refine ⟨_, rfl, ?_⟩
  simp only [RL, R, and_true, true_and]
  exact h5
theorem dk27 (v : V) (x : Queue) (a : AV) (H : SHeap den) (h : dn27 v = some x) (hr : R T H v a) : rp27 x a := by
  unfold dn27 at h
  split at h
  · simp only [Option.bind_eq_some_iff, Option.some.injEq] at h
    obtain ⟨b0, g0, b1, g1, b2, g2, b3, g3, b4, g4, b5, g5, b6, g6, b7, g7, b8, g8, b9, g9, b10, g10, b11, g11, b12, g12, b13, g13, b14, g14, rfl⟩ := h
    simp only [R] at hr
    obtain ⟨_, rfl, hl⟩ := hr
    obtain ⟨c0, _, rfl, r0, hl⟩ := rlc.1 hl
    obtain ⟨c1, _, rfl, r1, hl⟩ := rlc.1 hl
    obtain ⟨c2, _, rfl, r2, hl⟩ := rlc.1 hl
    obtain ⟨c3, _, rfl, r3, hl⟩ := rlc.1 hl
    obtain ⟨c4, _, rfl, r4, hl⟩ := rlc.1 hl
    obtain ⟨c5, _, rfl, r5, hl⟩ := rlc.1 hl
    obtain ⟨c6, _, rfl, r6, hl⟩ := rlc.1 hl
    obtain ⟨c7, _, rfl, r7, hl⟩ := rlc.1 hl
    obtain ⟨c8, _, rfl, r8, hl⟩ := rlc.1 hl
    obtain ⟨c9, _, rfl, r9, hl⟩ := rlc.1 hl
    obtain ⟨c10, _, rfl, r10, hl⟩ := rlc.1 hl
    obtain ⟨c11, _, rfl, r11, hl⟩ := rlc.1 hl
    obtain ⟨c12, _, rfl, r12, hl⟩ := rlc.1 hl
    obtain ⟨c13, _, rfl, r13, hl⟩ := rlc.1 hl
    obtain ⟨c14, _, rfl, r14, hl⟩ := rlc.1 hl
    have hl0 := rln.1 hl
    subst hl0
    have e0 := dk3 _ _ _ H g0 r0
    have e1 := dk3 _ _ _ H g1 r1
    have e2 := dk3 _ _ _ H g2 r2
    have e3 := dk3 _ _ _ H g3 r3
    have e4 := dk3 _ _ _ H g4 r4
    have e5 := dk24 _ _ _ H g5 r5
    have e6 := dk3 _ _ _ H g6 r6
    have e7 := dk3 _ _ _ H g7 r7
    have e8 := dk3 _ _ _ H g8 r8
    have e9 := dk3 _ _ _ H g9 r9
    have e10 := dk3 _ _ _ H g10 r10
    have e11 := dk3 _ _ _ H g11 r11
    have e12 := dk3 _ _ _ H g12 r12
    have e13 := dk3 _ _ _ H g13 r13
    have e14 := dk26 _ _ _ H g14 r14
    unfold rp3 at e0; subst e0
    unfold rp3 at e1; subst e1
    unfold rp3 at e2; subst e2
    unfold rp3 at e3; subst e3
    unfold rp3 at e4; subst e4
    unfold rp3 at e6; subst e6
    unfold rp3 at e7; subst e7
    unfold rp3 at e8; subst e8
    unfold rp3 at e9; subst e9
    unfold rp3 at e10; subst e10
    unfold rp3 at e11; subst e11
    unfold rp3 at e12; subst e12
    unfold rp3 at e13; subst e13
    unfold rp26 at e14; subst e14
    exact ⟨_, e5, rfl⟩
  · simp at h
theorem ek27 (x : Queue) (a : AV) (h : rp27 x a) : okElem true 15 a = true ∧ closed a = true := by
  obtain ⟨a5, h5, rfl⟩ := h
  have k5 := ek24 _ _ h5
  exact ⟨by simp [okElem, leaf_int, leaf_bool, leaf_str, k5.2.2], by simp [closed, closedL, k5.2.1]⟩
theorem uk33 (x : List Packet) (a : AV) (H : SHeap den) (h : rp33 x a) : R T H (up33 x) a := by
  unfold up33; simp only [R]; exact h
theorem lk33 {H : SHeap den} : ∀ (vs : List V) (l : List Packet) (m : List AV), dl33 vs = some l → RL T H vs m → All2 rp29 l m
  | [], l, [], h, _ => by simp [dl33] at h; subst h; trivial
  | v :: vs, l, a :: m, h, hr => by
    simp only [RL] at hr
    simp only [dl33, Option.bind_eq_some_iff, Option.map_eq_some_iff] at h
    obtain ⟨x, h1, ys, h2, rfl⟩ := h
    exact ⟨dk29 _ _ _ H h1 hr.1, lk33 vs ys m h2 hr.2⟩
  | [], _, _ :: _, _, h => by simp [RL] at h
  | _ :: _, _, [], _, h => by simp [RL] at h
theorem dk33 (v : V) (x : List Packet) (a : AV) (H : SHeap den) (h : dn33 v = some x) (hr : R T H v a) : rp33 x a := by
  unfold dn33 at h
  split at h
  · rename_i t l
    split at h
    · rename_i e
      subst e
      have e2 : l = x := Option.some.inj h
      subst e2
      simp only [R] at hr
      exact hr
    · simp at h
  · simp only [R] at hr
    obtain ⟨m, rfl, hm, _⟩ := hr
    exact .inl ⟨m, rfl, lk33 _ _ _ h hm⟩
  · simp only [Option.some.injEq] at h
    subst h
    simp only [R] at hr
    exact .inr ⟨rfl, hr⟩
  · simp at h
theorem ek33 (x : List Packet) (a : AV) (h : rp33 x a) : okElem false 1 a = true ∧ closed a = true ∧ isLeaf a = true := by
  rcases h with ⟨l, rfl, _⟩ | ⟨_, rfl⟩ <;> exact ⟨rfl, rfl, rfl⟩
theorem uk65 (x : Int) (a : AV) (H : SHeap den) (h : rp65 x a) : R T H (up65 x) a := by
  unfold up65; simp only [R]; exact h
theorem dk65 (v : V) (x : Int) (a : AV) (H : SHeap den) (h : dn65 v = some x) (hr : R T H v a) : rp65 x a := dI_ok h hr
theorem ek65 (x : Int) (a : AV) (h : rp65 x a) : okElem false 1 a = true ∧ closed a = true ∧ isLeaf a = true := by
  unfold rp65 at h; subst h; exact ⟨rfl, rfl, rfl⟩
theorem uk66 (x : Step) (a : AV) (H : SHeap den) (h : rp66 x a) : R T H (up66 x) a := by
  unfold rp66 at h; subst h
  unfold up66
  simp only [R]
  refine ⟨_, rfl, ?_⟩
  simp only [RL, R, and_true, true_and]
theorem dk66 (v : V) (x : Step) (a : AV) (H : SHeap den) (h : dn66 v = some x) (hr : R T H v a) : rp66 x a := by
  unfold dn66 at h
  split at h
  · simp only [Option.bind_eq_some_iff, Option.some.injEq] at h
    obtain ⟨b0, g0, b1, g1, b2, g2, b3, g3, b4, g4, b5, g5, b6, g6, b7, g7, b8, g8, b9, g9, rfl⟩ := h
    simp only [R] at hr
    obtain ⟨_, rfl, hl⟩ := hr
    obtain ⟨c0, _, rfl, r0, hl⟩ := rlc.1 hl
    obtain ⟨c1, _, rfl, r1, hl⟩ := rlc.1 hl
    obtain ⟨c2, _, rfl, r2, hl⟩ := rlc.1 hl
    obtain ⟨c3, _, rfl, r3, hl⟩ := rlc.1 hl
    obtain ⟨c4, _, rfl, r4, hl⟩ := rlc.1 hl
    obtain ⟨c5, _, rfl, r5, hl⟩ := rlc.1 hl
    obtain ⟨c6, _, rfl, r6, hl⟩ := rlc.1 hl
    obtain ⟨c7, _, rfl, r7, hl⟩ := rlc.1 hl
    obtain ⟨c8, _, rfl, r8, hl⟩ := rlc.1 hl
    obtain ⟨c9, _, rfl, r9, hl⟩ := rlc.1 hl
    have hl0 := rln.1 hl
    subst hl0
    have e0 := dk65 _ _ _ H g0 r0
    have e1 := dk4 _ _ _ H g1 r1
    have e2 := dk3 _ _ _ H g2 r2
    have e3 := dk3 _ _ _ H g3 r3
    have e4 := dk3 _ _ _ H g4 r4
    have e5 := dk3 _ _ _ H g5 r5
    have e6 := dk3 _ _ _ H g6 r6
    have e7 := dk3 _ _ _ H g7 r7
    have e8 := dk4 _ _ _ H g8 r8
    have e9 := dk4 _ _ _ H g9 r9
    unfold rp65 at e0; subst e0
    unfold rp4 at e1; subst e1
    unfold rp3 at e2; subst e2
    unfold rp3 at e3; subst e3
    unfold rp3 at e4; subst e4
    unfold rp3 at e5; subst e5
    unfold rp3 at e6; subst e6
    unfold rp3 at e7; subst e7
    unfold rp4 at e8; subst e8
    unfold rp4 at e9; subst e9
    exact rfl
  · simp at h
theorem ek66 (x : Step) (a : AV) (h : rp66 x a) : okElem true 10 a = true ∧ closed a = true := by
  unfold rp66 at h; subst h
  exact ⟨by simp [okElem, leaf_int, leaf_bool, leaf_str], by simp [closed, closedL]⟩
theorem uk42 (x : List Step) (a : AV) (H : SHeap den) (h : rp42 x a) : R T H (up42 x) a := by
  unfold up42; simp only [R]; exact h
theorem lk42 {H : SHeap den} : ∀ (vs : List V) (l : List Step) (m : List AV), dl42 vs = some l → RL T H vs m → All2 rp66 l m
  | [], l, [], h, _ => by simp [dl42] at h; subst h; trivial
  | v :: vs, l, a :: m, h, hr => by
    simp only [RL] at hr
    simp only [dl42, Option.bind_eq_some_iff, Option.map_eq_some_iff] at h
    obtain ⟨x, h1, ys, h2, rfl⟩ := h
    exact ⟨dk66 _ _ _ H h1 hr.1, lk42 vs ys m h2 hr.2⟩
  | [], _, _ :: _, _, h => by simp [RL] at h
  | _ :: _, _, [], _, h => by simp [RL] at h
theorem dk42 (v : V) (x : List Step) (a : AV) (H : SHeap den) (h : dn42 v = some x) (hr : R T H v a) : rp42 x a := by
  unfold dn42 at h
  split at h
  · rename_i t l
    split at h
    · rename_i e
      subst e
      have e2 : l = x := Option.some.inj h
      subst e2
      simp only [R] at hr
      exact hr
    · simp at h
  · simp only [R] at hr
    obtain ⟨m, rfl, hm, _⟩ := hr
    exact .inl ⟨m, rfl, lk42 _ _ _ h hm⟩
  · simp only [Option.some.injEq] at h
    subst h
    simp only [R] at hr
    exact .inr ⟨rfl, hr⟩
  · simp at h
theorem ek42 (x : List Step) (a : AV) (h : rp42 x a) : okElem false 1 a = true ∧ closed a = true ∧ isLeaf a = true := by
  rcases h with ⟨l, rfl, _⟩ | ⟨_, rfl⟩ <;> exact ⟨rfl, rfl, rfl⟩
theorem uk56 (x : Queue) (a : AV) (H : SHeap den) (h : rp56 x a) : R T H (up56 x) a := by
  obtain ⟨a5, h5, rfl⟩ := h
  unfold up56
  simp only [R]
  refine ⟨_, rfl, ?_⟩
  simp only [RL, R, and_true, true_and]
  exact h5
theorem dk56 (v : V) (x : Queue) (a : AV) (H : SHeap den) (h : dn56 v = some x) (hr : R T H v a) : rp56 x a := by
  unfold dn56 at h
  split at h
  · simp only [Option.bind_eq_some_iff, Option.some.injEq] at h
    obtain ⟨b0, g0, b1, g1, b2, g2, b3, g3, b4, g4, b5, g5, b6, g6, b7, g7, b8, g8, b9, g9, b10, g10, b11, g11, b12, g12, b13, g13, b14, g14, rfl⟩ := h
    simp only [R] at hr
    obtain ⟨_, rfl, hl⟩ := hr
    obtain ⟨c0, _, rfl, r0, hl⟩ := rlc.1 hl
    obtain ⟨c1, _, rfl, r1, hl⟩ := rlc.1 hl
    obtain ⟨c2, _, rfl, r2, hl⟩ := rlc.1 hl
    obtain ⟨c3, _, rfl, r3, hl⟩ := rlc.1 hl
    obtain ⟨c4, _, rfl, r4, hl⟩ := rlc.1 hl
    obtain ⟨c5, _, rfl, r5, hl⟩ := rlc.1 hl
    obtain ⟨c6, _, rfl, r6, hl⟩ := rlc.1 hl
    obtain ⟨c7, _, rfl, r7, hl⟩ := rlc.1 hl
    obtain ⟨c8, _, rfl, r8, hl⟩ := rlc.1 hl
    obtain ⟨c9, _, rfl, r9, hl⟩ := rlc.1 hl
    obtain ⟨c10, _, rfl, r10, hl⟩ := rlc.1 hl
    obtain ⟨c11, _, rfl, r11, hl⟩ := rlc.1 hl
    obtain ⟨c12, _, rfl, r12, hl⟩ := rlc.1 hl
    obtain ⟨c13, _, rfl, r13, hl⟩ := rlc.1 hl
    obtain ⟨c14, _, rfl, r14, hl⟩ := rlc.1 hl
    have hl0 := rln.1 hl
    subst hl0
    have e0 := dk3 _ _ _ H g0 r0
    have e1 := dk3 _ _ _ H g1 r1
    have e2 := dk3 _ _ _ H g2 r2
    have e3 := dk3 _ _ _ H g3 r3
    have e4 := dk3 _ _ _ H g4 r4
    have e5 := dk24 _ _ _ H g5 r5
    have e6 := dk3 _ _ _ H g6 r6
    have e7 := dk3 _ _ _ H g7 r7
    have e8 := dk3 _ _ _ H g8 r8
    have e9 := dk3 _ _ _ H g9 r9
    have e10 := dk3 _ _ _ H g10 r10
    have e11 := dk3 _ _ _ H g11 r11
    have e12 := dk3 _ _ _ H g12 r12
    have e13 := dk3 _ _ _ H g13 r13
    have e14 := dk26 _ _ _ H g14 r14
    unfold rp3 at e0; subst e0
    unfold rp3 at e1; subst e1
    unfold rp3 at e2; subst e2
    unfold rp3 at e3; subst e3
    unfold rp3 at e4; subst e4
    unfold rp3 at e6; subst e6
    unfold rp3 at e7; subst e7
    unfold rp3 at e8; subst e8
    unfold rp3 at e9; subst e9
    unfold rp3 at e10; subst e10
    unfold rp3 at e11; subst e11
    unfold rp3 at e12; subst e12
    unfold rp3 at e13; subst e13
    unfold rp26 at e14; subst e14
    exact ⟨_, e5, rfl⟩
  · simp at h
theorem ek56 (x : Queue) (a : AV) (h : rp56 x a) : okElem true 15 a = true ∧ closed a = true := by
  obtain ⟨a5, h5, rfl⟩ := h
  have k5 := ek24 _ _ h5
  exact ⟨by simp [okElem, leaf_int, leaf_bool, leaf_str, k5.2.2], by simp [closed, closedL, k5.2.1]⟩
theorem T_up (t : Nat) (x : den t) (a : AV) (H : SHeap den) (h : rp t x a) : R T H (up t x) a := by
  unfold rp at h
  split at h
  · exact uk2 _ _ H h
  · exact uk3 _ _ H h
  · exact uk4 _ _ H h
  · exact uk5 _ _ H h
  · exact uk9 _ _ H h
  · exact uk22 _ _ H h
  · exact uk22 _ _ H h
  · exact uk24 _ _ H h
  · exact uk25 _ _ H h
  · exact uk26 _ _ H h
  · exact uk27 _ _ H h
  · exact uk27 _ _ H h
  · exact uk29 _ _ H h
  · exact uk29 _ _ H h
  · exact uk33 _ _ H h
  · exact uk3 _ _ H h
  · exact uk42 _ _ H h
  · exact uk47 _ _ H h
  · exact uk49 _ _ H h
  · exact uk49 _ _ H h
  · exact uk56 _ _ H h
  · exact uk56 _ _ H h
  · exact uk65 _ _ H h
  · exact uk66 _ _ H h
  · exact uk66 _ _ H h
  · exact h.elim
theorem T_dn (t : Nat) (v : V) (x : den t) (a : AV) (H : SHeap den) (h : dn t v = some x) (hr : R T H v a) : rp t x a := by
  revert x h hr
  refine dn.fun_cases_unfolding (motive := fun t v r => ∀ (x : den t), r = some x → R T H v a → rp t x a) ?_ ?_ ?_ ?_ ?_ ?_ ?_ ?_ ?_ ?_ ?_ ?_ ?_ ?_ ?_ ?_ ?_ ?_ ?_ ?_ ?_ ?_ ?_ ?_ ?_ ?_ t v
  · intro v x h hr; exact dk2 _ _ _ H h hr
  · intro v x h hr; exact dk3 _ _ _ H h hr
  · intro v x h hr; exact dk4 _ _ _ H h hr
  · intro v x h hr; exact dk5 _ _ _ H h hr
  · intro v x h hr; exact dk9 _ _ _ H h hr
  · intro v x h hr; exact dk22 _ _ _ H h hr
  · intro v x h hr; exact dk22 _ _ _ H h hr
  · intro v x h hr; exact dk24 _ _ _ H h hr
  · intro v x h hr; exact dk25 _ _ _ H h hr
  · intro v x h hr; exact dk26 _ _ _ H h hr
  · intro v x h hr; exact dk27 _ _ _ H h hr
  · intro v x h hr; exact dk27 _ _ _ H h hr
  · intro v x h hr; exact dk29 _ _ _ H h hr
  · intro v x h hr; exact dk29 _ _ _ H h hr
  · intro v x h hr; exact dk33 _ _ _ H h hr
  · intro v x h hr; exact dk3 _ _ _ H h hr
  · intro v x h hr; exact dk42 _ _ _ H h hr
  · intro v x h hr; exact dk47 _ _ _ H h hr
  · intro v x h hr; exact dk49 _ _ _ H h hr
  · intro v x h hr; exact dk49 _ _ _ H h hr
  · intro v x h hr; exact dk56 _ _ _ H h hr
  · intro v x h hr; exact dk56 _ _ _ H h hr
  · intro v x h hr; exact dk65 _ _ _ H h hr
  · intro v x h hr; exact dk66 _ _ _ H h hr
  · intro v x h hr; exact dk66 _ _ _ H h hr
  · intros; rename_i h _; cases h
theorem T_ok (t : Nat) (x : den t) (a : AV) (h : rp t x a) : okElem (aggT t) (sizeT t) a = true ∧ closed a = true := by
  unfold rp at h
  split at h
  · exact ⟨(ek2 _ _ h).1, (ek2 _ _ h).2.1⟩
  · exact ⟨(ek3 _ _ h).1, (ek3 _ _ h).2.1⟩
  · exact ⟨(ek4 _ _ h).1, (ek4 _ _ h).2.1⟩
  · exact ⟨(ek5 _ _ h).1, (ek5 _ _ h).2.1⟩
  · exact ⟨(ek9 _ _ h).1, (ek9 _ _ h).2.1⟩
  · exact ek22 _ _ h
  · exact ek22 _ _ h
  · exact ⟨(ek24 _ _ h).1, (ek24 _ _ h).2.1⟩
  · exact ek25 _ _ h
  · exact ⟨(ek26 _ _ h).1, (ek26 _ _ h).2.1⟩
  · exact ek27 _ _ h
  · exact ek27 _ _ h
  · exact ek29 _ _ h
  · exact ek29 _ _ h
  · exact ⟨(ek33 _ _ h).1, (ek33 _ _ h).2.1⟩
  · exact ⟨(ek3 _ _ h).1, (ek3 _ _ h).2.1⟩
  · exact ⟨(ek42 _ _ h).1, (ek42 _ _ h).2.1⟩
  · exact ⟨(ek47 _ _ h).1, (ek47 _ _ h).2.1⟩
  · exact ek49 _ _ h
  · exact ek49 _ _ h
  · exact ek56 _ _ h
  · exact ek56 _ _ h
  · exact ⟨(ek65 _ _ h).1, (ek65 _ _ h).2.1⟩
  · exact ek66 _ _ h
  · exact ek66 _ _ h
  · exact h.elim
theorem TOk : T.Ok := ⟨fun t x a H h => T_up t x a H h, fun t v x a H h hr => T_dn t v x a H h hr, fun t x a h => (T_ok t x a h).1, fun t x a h => (T_ok t x a h).2⟩
theorem QOk : Prg.Ok ⟨Try.prog, memo⟩ := Prg.Ok.of (by kernel_rfl) (by kernel_rfl) (by kernel_rfl) (by kernel_rfl)
def ZP (q : Nat × MTy) : Prop := ∀ z za, zeroT q.1 = some z → q.2.zero = some za → rp q.1 z za
theorem z2 : ∀ z za, zeroT 2 = some z → (some (.lit (.int .i64 0)) : Option AV) = some za → rp 2 z za := by
  intro z za h1 h2
  have e1 := Option.some.inj h1
  have e2 := Option.some.inj h2
  subst e1; subst e2
  show rp2 _ _
  unfold rp2
  rfl
theorem z3 : ∀ z za, zeroT 3 = some z → (some (.lit (.int .i64 0)) : Option AV) = some za → rp 3 z za := by
  intro z za h1 h2
  have e1 := Option.some.inj h1
  have e2 := Option.some.inj h2
  subst e1; subst e2
  show rp3 _ _
  unfold rp3
  rfl
theorem z4 : ∀ z za, zeroT 4 = some z → (some (.lit (.bool false)) : Option AV) = some za → rp 4 z za := by
  intro z za h1 h2
  have e1 := Option.some.inj h1
  have e2 := Option.some.inj h2
  subst e1; subst e2
  show rp4 _ _
  unfold rp4
  rfl
theorem z5 : ∀ z za, zeroT 5 = some z → (some (.lit (.int .u8 0)) : Option AV) = some za → rp 5 z za := by
  intro z za h1 h2
  have e1 := Option.some.inj h1
  have e2 := Option.some.inj h2
  subst e1; subst e2
  show rp5 _ _
  unfold rp5
  rfl
theorem z9 : ∀ z za, zeroT 9 = some z → (some (.lit (.string ByteArray.empty)) : Option AV) = some za → rp 9 z za := by
  intro z za h1 h2
  have e1 := Option.some.inj h1
  have e2 := Option.some.inj h2
  subst e1; subst e2
  show rp9 _ _
  unfold rp9
  rfl
theorem z22 : ∀ z za, zeroT 22 = some z → (some (.agg [.lit (.int .i64 0), .lit (.int .i64 0), .lit (.int .i64 0), .lit (.int .i64 0)]) : Option AV) = some za → rp 22 z za := by
  intro z za h1 h2
  have e1 := Option.some.inj h1
  have e2 := Option.some.inj h2
  subst e1; subst e2
  show rp22 _ _
  unfold rp22
  rfl
theorem z23 : ∀ z za, zeroT 23 = some z → (some (.agg [.lit (.int .i64 0), .lit (.int .i64 0), .lit (.int .i64 0), .lit (.int .i64 0)]) : Option AV) = some za → rp 23 z za := by
  intro z za h1 h2
  have e1 := Option.some.inj h1
  have e2 := Option.some.inj h2
  subst e1; subst e2
  show rp22 _ _
  unfold rp22
  rfl
theorem z24 : ∀ z za, zeroT 24 = some z → (some (.lit (.slice none 0 0)) : Option AV) = some za → rp 24 z za := by
  intro z za h1 h2
  have e1 := Option.some.inj h1
  have e2 := Option.some.inj h2
  subst e1; subst e2
  show rp24 _ _
  exact .inr ⟨rfl, rfl⟩
theorem z25 : ∀ z za, zeroT 25 = some z → (some (.agg [.lit (.int .i64 0), .lit (.int .i64 0), .lit (.int .i64 0), .lit (.int .i64 0), .lit (.int .i64 0), .lit (.int .i64 0), .lit (.int .i64 0), .lit (.int .i64 0)]) : Option AV) = some za → rp 25 z za := by
  intro z za h1 h2
  have e1 := Option.some.inj h1
  have e2 := Option.some.inj h2
  subst e1; subst e2
  show rp25 _ _
  unfold rp25
  rfl
theorem z26 : ∀ z za, zeroT 26 = some z → (some (.lit (.int .u64 0)) : Option AV) = some za → rp 26 z za := by
  intro z za h1 h2
  have e1 := Option.some.inj h1
  have e2 := Option.some.inj h2
  subst e1; subst e2
  show rp26 _ _
  unfold rp26
  rfl
theorem z27 : ∀ z za, zeroT 27 = some z → (some (.agg [.lit (.int .i64 0), .lit (.int .i64 0), .lit (.int .i64 0), .lit (.int .i64 0), .lit (.int .i64 0), .lit (.slice none 0 0), .lit (.int .i64 0), .lit (.int .i64 0), .lit (.int .i64 0), .lit (.int .i64 0), .lit (.int .i64 0), .lit (.int .i64 0), .lit (.int .i64 0), .lit (.int .i64 0), .lit (.int .u64 0)]) : Option AV) = some za → rp 27 z za := by
  intro z za h1 h2
  have e1 := Option.some.inj h1
  have e2 := Option.some.inj h2
  subst e1; subst e2
  show rp27 _ _
  exact ⟨_, .inr ⟨rfl, rfl⟩, rfl⟩
theorem z28 : ∀ z za, zeroT 28 = some z → (some (.agg [.lit (.int .i64 0), .lit (.int .i64 0), .lit (.int .i64 0), .lit (.int .i64 0), .lit (.int .i64 0), .lit (.slice none 0 0), .lit (.int .i64 0), .lit (.int .i64 0), .lit (.int .i64 0), .lit (.int .i64 0), .lit (.int .i64 0), .lit (.int .i64 0), .lit (.int .i64 0), .lit (.int .i64 0), .lit (.int .u64 0)]) : Option AV) = some za → rp 28 z za := by
  intro z za h1 h2
  have e1 := Option.some.inj h1
  have e2 := Option.some.inj h2
  subst e1; subst e2
  show rp27 _ _
  exact ⟨_, .inr ⟨rfl, rfl⟩, rfl⟩
theorem z29 : ∀ z za, zeroT 29 = some z → (some (.agg [.lit (.int .i64 0), .lit (.int .i64 0), .lit (.int .i64 0), .lit (.int .i64 0), .lit (.int .i64 0), .lit (.int .i64 0), .lit (.bool false), .lit (.bool false)]) : Option AV) = some za → rp 29 z za := by
  intro z za h1 h2
  have e1 := Option.some.inj h1
  have e2 := Option.some.inj h2
  subst e1; subst e2
  show rp29 _ _
  unfold rp29
  rfl
theorem z30 : ∀ z za, zeroT 30 = some z → (some (.agg [.lit (.int .i64 0), .lit (.int .i64 0), .lit (.int .i64 0), .lit (.int .i64 0), .lit (.int .i64 0), .lit (.int .i64 0), .lit (.bool false), .lit (.bool false)]) : Option AV) = some za → rp 30 z za := by
  intro z za h1 h2
  have e1 := Option.some.inj h1
  have e2 := Option.some.inj h2
  subst e1; subst e2
  show rp29 _ _
  unfold rp29
  rfl
theorem z33 : ∀ z za, zeroT 33 = some z → (some (.lit (.slice none 0 0)) : Option AV) = some za → rp 33 z za := by
  intro z za h1 h2
  have e1 := Option.some.inj h1
  have e2 := Option.some.inj h2
  subst e1; subst e2
  show rp33 _ _
  exact .inr ⟨rfl, rfl⟩
theorem z34 : ∀ z za, zeroT 34 = some z → (some (.lit (.int .i64 0)) : Option AV) = some za → rp 34 z za := by
  intro z za h1 h2
  have e1 := Option.some.inj h1
  have e2 := Option.some.inj h2
  subst e1; subst e2
  show rp3 _ _
  unfold rp3
  rfl
theorem z42 : ∀ z za, zeroT 42 = some z → (some (.lit (.slice none 0 0)) : Option AV) = some za → rp 42 z za := by
  intro z za h1 h2
  have e1 := Option.some.inj h1
  have e2 := Option.some.inj h2
  subst e1; subst e2
  show rp42 _ _
  exact .inr ⟨rfl, rfl⟩
theorem z47 : ∀ z za, zeroT 47 = some z → (some (.lit (.slice none 0 0)) : Option AV) = some za → rp 47 z za := by
  intro z za h1 h2
  have e1 := Option.some.inj h1
  have e2 := Option.some.inj h2
  subst e1; subst e2
  show rp47 _ _
  exact .inr ⟨rfl, rfl⟩
theorem z49 : ∀ z za, zeroT 49 = some z → (some (.agg [.lit (.int .i64 0), .lit (.int .i64 0), .lit (.int .i64 0), .lit (.int .i64 0), .lit (.int .i64 0), .lit (.int .i64 0), .lit (.bool false), .lit (.bool false), .lit (.int .i64 0)]) : Option AV) = some za → rp 49 z za := by
  intro z za h1 h2
  have e1 := Option.some.inj h1
  have e2 := Option.some.inj h2
  subst e1; subst e2
  show rp49 _ _
  unfold rp49
  rfl
theorem z50 : ∀ z za, zeroT 50 = some z → (some (.agg [.lit (.int .i64 0), .lit (.int .i64 0), .lit (.int .i64 0), .lit (.int .i64 0), .lit (.int .i64 0), .lit (.int .i64 0), .lit (.bool false), .lit (.bool false), .lit (.int .i64 0)]) : Option AV) = some za → rp 50 z za := by
  intro z za h1 h2
  have e1 := Option.some.inj h1
  have e2 := Option.some.inj h2
  subst e1; subst e2
  show rp49 _ _
  unfold rp49
  rfl
theorem z56 : ∀ z za, zeroT 56 = some z → (some (.agg [.lit (.int .i64 0), .lit (.int .i64 0), .lit (.int .i64 0), .lit (.int .i64 0), .lit (.int .i64 0), .lit (.slice none 0 0), .lit (.int .i64 0), .lit (.int .i64 0), .lit (.int .i64 0), .lit (.int .i64 0), .lit (.int .i64 0), .lit (.int .i64 0), .lit (.int .i64 0), .lit (.int .i64 0), .lit (.int .u64 0)]) : Option AV) = some za → rp 56 z za := by
  intro z za h1 h2
  have e1 := Option.some.inj h1
  have e2 := Option.some.inj h2
  subst e1; subst e2
  show rp56 _ _
  exact ⟨_, .inr ⟨rfl, rfl⟩, rfl⟩
theorem z57 : ∀ z za, zeroT 57 = some z → (some (.agg [.lit (.int .i64 0), .lit (.int .i64 0), .lit (.int .i64 0), .lit (.int .i64 0), .lit (.int .i64 0), .lit (.slice none 0 0), .lit (.int .i64 0), .lit (.int .i64 0), .lit (.int .i64 0), .lit (.int .i64 0), .lit (.int .i64 0), .lit (.int .i64 0), .lit (.int .i64 0), .lit (.int .i64 0), .lit (.int .u64 0)]) : Option AV) = some za → rp 57 z za := by
  intro z za h1 h2
  have e1 := Option.some.inj h1
  have e2 := Option.some.inj h2
  subst e1; subst e2
  show rp56 _ _
  exact ⟨_, .inr ⟨rfl, rfl⟩, rfl⟩
theorem z65 : ∀ z za, zeroT 65 = some z → (some (.lit (.int .u16 0)) : Option AV) = some za → rp 65 z za := by
  intro z za h1 h2
  have e1 := Option.some.inj h1
  have e2 := Option.some.inj h2
  subst e1; subst e2
  show rp65 _ _
  unfold rp65
  rfl
theorem z66 : ∀ z za, zeroT 66 = some z → (some (.agg [.lit (.int .u16 0), .lit (.bool false), .lit (.int .i64 0), .lit (.int .i64 0), .lit (.int .i64 0), .lit (.int .i64 0), .lit (.int .i64 0), .lit (.int .i64 0), .lit (.bool false), .lit (.bool false)]) : Option AV) = some za → rp 66 z za := by
  intro z za h1 h2
  have e1 := Option.some.inj h1
  have e2 := Option.some.inj h2
  subst e1; subst e2
  show rp66 _ _
  unfold rp66
  rfl
theorem z67 : ∀ z za, zeroT 67 = some z → (some (.agg [.lit (.int .u16 0), .lit (.bool false), .lit (.int .i64 0), .lit (.int .i64 0), .lit (.int .i64 0), .lit (.int .i64 0), .lit (.int .i64 0), .lit (.int .i64 0), .lit (.bool false), .lit (.bool false)]) : Option AV) = some za → rp 67 z za := by
  intro z za h1 h2
  have e1 := Option.some.inj h1
  have e2 := Option.some.inj h2
  subst e1; subst e2
  show rp66 _ _
  unfold rp66
  rfl
theorem ZOk : T.Zeros ⟨Try.prog, memo⟩ := by
  intro t m z za h1 h2 h3
  have hm := lookS_mem h1
  have all : ∀ q, q ∈ memo → ZP q := by
    unfold memo
    intro q hq
    simp only [List.mem_cons, List.not_mem_nil, or_false] at hq
    rcases hq with rfl | rfl | rfl | rfl | rfl | rfl | rfl | rfl | rfl | rfl | rfl | rfl | rfl | rfl | rfl | rfl | rfl | rfl | rfl | rfl | rfl | rfl | rfl | rfl | rfl | rfl | rfl | rfl | rfl | rfl | rfl | rfl | rfl | rfl | rfl | rfl | rfl | rfl | rfl | rfl | rfl | rfl | rfl | rfl | rfl | rfl | rfl | rfl | rfl | rfl | rfl | rfl | rfl | rfl | rfl | rfl | rfl | rfl | rfl | rfl | rfl | rfl | rfl | rfl | rfl | rfl | rfl | rfl | rfl | rfl | rfl | rfl | rfl | rfl | rfl | rfl | rfl | rfl | rfl | rfl | rfl | rfl | rfl
    · exact fun z za h1 _ => by cases h1
    · exact z2
    · exact z3
    · exact z4
    · exact z5
    · exact fun z za h1 _ => by cases h1
    · exact fun z za h1 _ => by cases h1
    · exact fun z za h1 _ => by cases h1
    · exact z9
    · exact fun z za h1 _ => by cases h1
    · exact fun z za h1 _ => by cases h1
    · exact fun z za h1 _ => by cases h1
    · exact fun z za h1 _ => by cases h1
    · exact fun z za h1 _ => by cases h1
    · exact fun z za h1 _ => by cases h1
    · exact fun z za h1 _ => by cases h1
    · exact fun z za h1 _ => by cases h1
    · exact fun z za h1 _ => by cases h1
    · exact fun z za h1 _ => by cases h1
    · exact fun z za h1 _ => by cases h1
    · exact fun z za h1 _ => by cases h1
    · exact z22
    · exact z23
    · exact z24
    · exact z25
    · exact z26
    · exact z27
    · exact z28
    · exact z29
    · exact z30
    · exact fun z za h1 _ => by cases h1
    · exact fun z za h1 _ => by cases h1
    · exact z33
    · exact z34
    · exact fun z za h1 _ => by cases h1
    · exact fun z za h1 _ => by cases h1
    · exact fun z za h1 _ => by cases h1
    · exact fun z za h1 _ => by cases h1
    · exact fun z za h1 _ => by cases h1
    · exact z42
    · exact fun z za h1 _ => by cases h1
    · exact fun z za h1 _ => by cases h1
    · exact fun z za h1 _ => by cases h1
    · exact z47
    · exact fun z za h1 _ => by cases h1
    · exact z49
    · exact z50
    · exact fun z za h1 _ => by cases h1
    · exact fun z za h1 _ => by cases h1
    · exact fun z za h1 _ => by cases h1
    · exact fun z za h1 _ => by cases h1
    · exact fun z za h1 _ => by cases h1
    · exact z56
    · exact z57
    · exact fun z za h1 _ => by cases h1
    · exact fun z za h1 _ => by cases h1
    · exact fun z za h1 _ => by cases h1
    · exact fun z za h1 _ => by cases h1
    · exact fun z za h1 _ => by cases h1
    · exact fun z za h1 _ => by cases h1
    · exact fun z za h1 _ => by cases h1
    · exact z65
    · exact z66
    · exact z67
    · exact fun z za h1 _ => by cases h1
    · exact fun z za h1 _ => by cases h1
    · exact fun z za h1 _ => by cases h1
    · exact fun z za h1 _ => by cases h1
    · exact fun z za h1 _ => by cases h1
    · exact fun z za h1 _ => by cases h1
    · exact fun z za h1 _ => by cases h1
    · exact fun z za h1 _ => by cases h1
    · exact fun z za h1 _ => by cases h1
    · exact fun z za h1 _ => by cases h1
    · exact fun z za h1 _ => by cases h1
    · exact fun z za h1 _ => by cases h1
    · exact fun z za h1 _ => by cases h1
    · exact fun z za h1 _ => by cases h1
    · exact fun z za h1 _ => by cases h1
    · exact fun z za h1 _ => by cases h1
    · exact fun z za h1 _ => by cases h1
    · exact fun z za h1 _ => by cases h1
    · exact fun z za h1 _ => by cases h1
  exact all _ hm z za h3 h2
theorem un2 : Try.prog.underlying 2 = some (.int .i64) := by kernel_rfl
def wf2 (x : Int) : Prop := IntKind.min .i64 ≤ x ∧ x ≤ IntKind.max .i64
theorem sh2 {n : Nat} {l : List AV} (h : Shape Try.prog n 2 l) : ∃ x, wf2 x ∧ ∃ a, l = [a] ∧ rp2 x a := by
  obtain ⟨m, rfl, h1⟩ := shape_int un2 h
  exact ⟨m, h1, _, rfl, rfl⟩
theorem un3 : Try.prog.underlying 3 = some (.int .i64) := by kernel_rfl
def wf3 (x : Int) : Prop := IntKind.min .i64 ≤ x ∧ x ≤ IntKind.max .i64
theorem sh3 {n : Nat} {l : List AV} (h : Shape Try.prog n 3 l) : ∃ x, wf3 x ∧ ∃ a, l = [a] ∧ rp3 x a := by
  obtain ⟨m, rfl, h1⟩ := shape_int un3 h
  exact ⟨m, h1, _, rfl, rfl⟩
theorem un4 : Try.prog.underlying 4 = some .bool := by kernel_rfl
def wf4 (_ : Bool) : Prop := True
theorem sh4 {n : Nat} {l : List AV} (h : Shape Try.prog n 4 l) : ∃ x, wf4 x ∧ ∃ a, l = [a] ∧ rp4 x a := by
  obtain ⟨m, rfl⟩ := shape_bool un4 h
  exact ⟨m, trivial, _, rfl, rfl⟩
theorem un5 : Try.prog.underlying 5 = some (.int .u8) := by kernel_rfl
def wf5 (x : Int) : Prop := IntKind.min .u8 ≤ x ∧ x ≤ IntKind.max .u8
theorem sh5 {n : Nat} {l : List AV} (h : Shape Try.prog n 5 l) : ∃ x, wf5 x ∧ ∃ a, l = [a] ∧ rp5 x a := by
  obtain ⟨m, rfl, h1⟩ := shape_int un5 h
  exact ⟨m, h1, _, rfl, rfl⟩
theorem un9 : Try.prog.underlying 9 = some .string := by kernel_rfl
def wf9 (x : ByteArray) : Prop := x.size ≤ maxLen
theorem sh9 {n : Nat} {l : List AV} (h : Shape Try.prog n 9 l) : ∃ x, wf9 x ∧ ∃ a, l = [a] ∧ rp9 x a := by
  obtain ⟨m, rfl, h1⟩ := shape_str un9 h
  exact ⟨m, h1, _, rfl, rfl⟩
def wf22 (x : Policy) : Prop := wf3 x.Kind ∧ wf3 x.A ∧ wf3 x.B ∧ wf3 x.C
theorem uq22_0 : Try.prog.underlying 3 = Try.prog.underlying 3 := by kernel_rfl
theorem uq22_1 : Try.prog.underlying 3 = Try.prog.underlying 3 := by kernel_rfl
theorem uq22_2 : Try.prog.underlying 3 = Try.prog.underlying 3 := by kernel_rfl
theorem uq22_3 : Try.prog.underlying 3 = Try.prog.underlying 3 := by kernel_rfl
theorem sh22 {n : Nat} {l : List AV} (h : Shape Try.prog n 22 l) : ∃ x, wf22 x ∧ rp22 x (.agg l) := by
  obtain ⟨hl, k, hf⟩ := shape_fields QOk (t := 22) rfl rfl h
  rw [cellsOf_ty QOk (t := 22) rfl] at hl
  have h0 := hf (0, 3) (by simp)
  rw [cellsOf_ty QOk (t := 3) rfl] at h0
  replace h0 := shape_same (uq22_0) h0
  have h1 := hf (1, 3) (by simp)
  rw [cellsOf_ty QOk (t := 3) rfl] at h1
  replace h1 := shape_same (uq22_1) h1
  have h2 := hf (2, 3) (by simp)
  rw [cellsOf_ty QOk (t := 3) rfl] at h2
  replace h2 := shape_same (uq22_2) h2
  have h3 := hf (3, 3) (by simp)
  rw [cellsOf_ty QOk (t := 3) rfl] at h3
  replace h3 := shape_same (uq22_3) h3
  match l, hl with
  | [a0, a1, a2, a3], _ =>
    replace h0 : Shape Try.prog k 3 [a0] := h0
    obtain ⟨x0, w0, b0, e0, r0⟩ := sh3 h0
    simp only [List.cons.injEq, and_true] at e0
    subst e0
    unfold rp3 at r0; subst r0
    replace h1 : Shape Try.prog k 3 [a1] := h1
    obtain ⟨x1, w1, b1, e1, r1⟩ := sh3 h1
    simp only [List.cons.injEq, and_true] at e1
    subst e1
    unfold rp3 at r1; subst r1
    replace h2 : Shape Try.prog k 3 [a2] := h2
    obtain ⟨x2, w2, b2, e2, r2⟩ := sh3 h2
    simp only [List.cons.injEq, and_true] at e2
    subst e2
    unfold rp3 at r2; subst r2
    replace h3 : Shape Try.prog k 3 [a3] := h3
    obtain ⟨x3, w3, b3, e3, r3⟩ := sh3 h3
    simp only [List.cons.injEq, and_true] at e3
    subst e3
    unfold rp3 at r3; subst r3
    exact ⟨⟨x0, x1, x2, x3⟩, ⟨w0, w1, w2, w3⟩, rfl⟩
def wf29 (x : Packet) : Prop := wf3 x.Flow ∧ wf3 x.Sub ∧ wf3 x.Number ∧ wf3 x.Data ∧ wf3 x.Size ∧ wf3 x.Sent ∧ wf4 x.Able ∧ wf4 x.Marked
theorem uq29_0 : Try.prog.underlying 3 = Try.prog.underlying 3 := by kernel_rfl
theorem uq29_1 : Try.prog.underlying 3 = Try.prog.underlying 3 := by kernel_rfl
theorem uq29_2 : Try.prog.underlying 3 = Try.prog.underlying 3 := by kernel_rfl
theorem uq29_3 : Try.prog.underlying 3 = Try.prog.underlying 3 := by kernel_rfl
theorem uq29_4 : Try.prog.underlying 3 = Try.prog.underlying 3 := by kernel_rfl
theorem uq29_5 : Try.prog.underlying 3 = Try.prog.underlying 3 := by kernel_rfl
theorem uq29_6 : Try.prog.underlying 4 = Try.prog.underlying 4 := by kernel_rfl
theorem uq29_7 : Try.prog.underlying 4 = Try.prog.underlying 4 := by kernel_rfl
theorem sh29 {n : Nat} {l : List AV} (h : Shape Try.prog n 29 l) : ∃ x, wf29 x ∧ rp29 x (.agg l) := by
  obtain ⟨hl, k, hf⟩ := shape_fields QOk (t := 29) rfl rfl h
  rw [cellsOf_ty QOk (t := 29) rfl] at hl
  have h0 := hf (0, 3) (by simp)
  rw [cellsOf_ty QOk (t := 3) rfl] at h0
  replace h0 := shape_same (uq29_0) h0
  have h1 := hf (1, 3) (by simp)
  rw [cellsOf_ty QOk (t := 3) rfl] at h1
  replace h1 := shape_same (uq29_1) h1
  have h2 := hf (2, 3) (by simp)
  rw [cellsOf_ty QOk (t := 3) rfl] at h2
  replace h2 := shape_same (uq29_2) h2
  have h3 := hf (3, 3) (by simp)
  rw [cellsOf_ty QOk (t := 3) rfl] at h3
  replace h3 := shape_same (uq29_3) h3
  have h4 := hf (4, 3) (by simp)
  rw [cellsOf_ty QOk (t := 3) rfl] at h4
  replace h4 := shape_same (uq29_4) h4
  have h5 := hf (5, 3) (by simp)
  rw [cellsOf_ty QOk (t := 3) rfl] at h5
  replace h5 := shape_same (uq29_5) h5
  have h6 := hf (6, 4) (by simp)
  rw [cellsOf_ty QOk (t := 4) rfl] at h6
  replace h6 := shape_same (uq29_6) h6
  have h7 := hf (7, 4) (by simp)
  rw [cellsOf_ty QOk (t := 4) rfl] at h7
  replace h7 := shape_same (uq29_7) h7
  match l, hl with
  | [a0, a1, a2, a3, a4, a5, a6, a7], _ =>
    replace h0 : Shape Try.prog k 3 [a0] := h0
    obtain ⟨x0, w0, b0, e0, r0⟩ := sh3 h0
    simp only [List.cons.injEq, and_true] at e0
    subst e0
    unfold rp3 at r0; subst r0
    replace h1 : Shape Try.prog k 3 [a1] := h1
    obtain ⟨x1, w1, b1, e1, r1⟩ := sh3 h1
    simp only [List.cons.injEq, and_true] at e1
    subst e1
    unfold rp3 at r1; subst r1
    replace h2 : Shape Try.prog k 3 [a2] := h2
    obtain ⟨x2, w2, b2, e2, r2⟩ := sh3 h2
    simp only [List.cons.injEq, and_true] at e2
    subst e2
    unfold rp3 at r2; subst r2
    replace h3 : Shape Try.prog k 3 [a3] := h3
    obtain ⟨x3, w3, b3, e3, r3⟩ := sh3 h3
    simp only [List.cons.injEq, and_true] at e3
    subst e3
    unfold rp3 at r3; subst r3
    replace h4 : Shape Try.prog k 3 [a4] := h4
    obtain ⟨x4, w4, b4, e4, r4⟩ := sh3 h4
    simp only [List.cons.injEq, and_true] at e4
    subst e4
    unfold rp3 at r4; subst r4
    replace h5 : Shape Try.prog k 3 [a5] := h5
    obtain ⟨x5, w5, b5, e5, r5⟩ := sh3 h5
    simp only [List.cons.injEq, and_true] at e5
    subst e5
    unfold rp3 at r5; subst r5
    replace h6 : Shape Try.prog k 4 [a6] := h6
    obtain ⟨x6, w6, b6, e6, r6⟩ := sh4 h6
    simp only [List.cons.injEq, and_true] at e6
    subst e6
    unfold rp4 at r6; subst r6
    replace h7 : Shape Try.prog k 4 [a7] := h7
    obtain ⟨x7, w7, b7, e7, r7⟩ := sh4 h7
    simp only [List.cons.injEq, and_true] at e7
    subst e7
    unfold rp4 at r7; subst r7
    exact ⟨⟨x0, x1, x2, x3, x4, x5, x6, x7⟩, ⟨w0, w1, w2, w3, w4, w5, w6, w7⟩, rfl⟩
def wf49 (x : Queued) : Prop := wf29 x.P ∧ wf3 x.At
theorem uq49_0 : Try.prog.underlying 30 = Try.prog.underlying 29 := by kernel_rfl
theorem uq49_1 : Try.prog.underlying 3 = Try.prog.underlying 3 := by kernel_rfl
theorem sh49 {n : Nat} {l : List AV} (h : Shape Try.prog n 49 l) : ∃ x, wf49 x ∧ rp49 x (.agg l) := by
  obtain ⟨hl, k, hf⟩ := shape_fields QOk (t := 49) rfl rfl h
  rw [cellsOf_ty QOk (t := 49) rfl] at hl
  have h0 := hf (0, 30) (by simp)
  rw [cellsOf_ty QOk (t := 30) rfl] at h0
  replace h0 := shape_same (uq49_0) h0
  have h1 := hf (8, 3) (by simp)
  rw [cellsOf_ty QOk (t := 3) rfl] at h1
  replace h1 := shape_same (uq49_1) h1
  match l, hl with
  | [a0, a1, a2, a3, a4, a5, a6, a7, a8], _ =>
    replace h0 : Shape Try.prog k 29 [a0, a1, a2, a3, a4, a5, a6, a7] := h0
    obtain ⟨x0, w0, r0⟩ := sh29 h0
    have e0 : _ = _ := r0
    simp only [AV.agg.injEq, List.cons.injEq, and_true] at e0
    obtain ⟨rfl, rfl, rfl, rfl, rfl, rfl, rfl, rfl⟩ := e0
    replace h1 : Shape Try.prog k 3 [a8] := h1
    obtain ⟨x1, w1, b1, e1, r1⟩ := sh3 h1
    simp only [List.cons.injEq, and_true] at e1
    subst e1
    unfold rp3 at r1; subst r1
    exact ⟨⟨x0, x1⟩, ⟨w0, w1⟩, rfl⟩
theorem un47 : Try.prog.underlying 47 = some (.slice 50) := by kernel_rfl
theorem ue47 : (Try.prog.underlying 50).isSome = true := by kernel_rfl
theorem ua47 : (Try.prog.underlying 50).map isAggD = some true := by kernel_rfl
theorem uu47 : Try.prog.underlying 50 = Try.prog.underlying 49 := by kernel_rfl
def wf47 (x : List Queued) : Prop := x.length ≤ maxLen ∧ ∀ y, y ∈ x → wf49 y
theorem sh47 {n : Nat} {l : List AV} (h : Shape Try.prog n 47 l) : ∃ x, wf47 x ∧ ∃ a, l = [a] ∧ rp47 x a := by
  obtain ⟨d, hd⟩ := Option.isSome_iff_exists.1 ue47
  have hag : isAggD d = true := by have := ua47; rw [hd] at this; simpa using this
  obtain ⟨ys, xs, rfl, h1, h2⟩ := shape_slice (Q := fun y x => wf49 y ∧ rp49 y x) un47 hd h (by
    rintro k x ⟨cl, h1, h2⟩
    rw [hag] at h1
    simp only [if_true] at h1
    replace h2 := shape_same uu47 h2
    subst h1
    obtain ⟨y, hy, r⟩ := sh49 h2
    exact ⟨y, hy, r⟩)
  refine ⟨ys, ⟨h2, ?_⟩, _, rfl, .inl ⟨xs, rfl, h1.mono fun _ _ h => h.2⟩⟩
  intro y hy
  obtain ⟨i, hi⟩ := List.getElem?_of_mem hy
  obtain ⟨_, _, h3⟩ := h1.get hi
  exact h3.1
theorem un24 : Try.prog.underlying 24 = some (.slice 47) := by kernel_rfl
theorem ue24 : (Try.prog.underlying 47).isSome = true := by kernel_rfl
theorem ua24 : (Try.prog.underlying 47).map isAggD = some false := by kernel_rfl
theorem uu24 : Try.prog.underlying 47 = Try.prog.underlying 47 := by kernel_rfl
def wf24 (x : List (List Queued)) : Prop := x.length ≤ maxLen ∧ ∀ y, y ∈ x → wf47 y
theorem sh24 {n : Nat} {l : List AV} (h : Shape Try.prog n 24 l) : ∃ x, wf24 x ∧ ∃ a, l = [a] ∧ rp24 x a := by
  obtain ⟨d, hd⟩ := Option.isSome_iff_exists.1 ue24
  have hag : isAggD d = false := by have := ua24; rw [hd] at this; simpa using this
  obtain ⟨ys, xs, rfl, h1, h2⟩ := shape_slice (Q := fun y x => wf47 y ∧ rp47 y x) un24 hd h (by
    rintro k x ⟨cl, h1, h2⟩
    rw [hag] at h1
    simp only [Bool.false_eq_true, if_false] at h1
    replace h2 := shape_same uu24 h2
    subst h1
    obtain ⟨y, hy, a, ha, r⟩ := sh47 h2
    simp only [List.cons.injEq, and_true] at ha
    subst ha
    exact ⟨y, hy, r⟩)
  refine ⟨ys, ⟨h2, ?_⟩, _, rfl, .inl ⟨xs, rfl, h1.mono fun _ _ h => h.2⟩⟩
  intro y hy
  obtain ⟨i, hi⟩ := List.getElem?_of_mem hy
  obtain ⟨_, _, h3⟩ := h1.get hi
  exact h3.1
def wf25 (x : A8 Int) : Prop := wf3 x.e0 ∧ wf3 x.e1 ∧ wf3 x.e2 ∧ wf3 x.e3 ∧ wf3 x.e4 ∧ wf3 x.e5 ∧ wf3 x.e6 ∧ wf3 x.e7
theorem uq25_0 : Try.prog.underlying 3 = Try.prog.underlying 3 := by kernel_rfl
theorem uq25_1 : Try.prog.underlying 3 = Try.prog.underlying 3 := by kernel_rfl
theorem uq25_2 : Try.prog.underlying 3 = Try.prog.underlying 3 := by kernel_rfl
theorem uq25_3 : Try.prog.underlying 3 = Try.prog.underlying 3 := by kernel_rfl
theorem uq25_4 : Try.prog.underlying 3 = Try.prog.underlying 3 := by kernel_rfl
theorem uq25_5 : Try.prog.underlying 3 = Try.prog.underlying 3 := by kernel_rfl
theorem uq25_6 : Try.prog.underlying 3 = Try.prog.underlying 3 := by kernel_rfl
theorem uq25_7 : Try.prog.underlying 3 = Try.prog.underlying 3 := by kernel_rfl
theorem sh25 {n : Nat} {l : List AV} (h : Shape Try.prog n 25 l) : ∃ x, wf25 x ∧ rp25 x (.agg l) := by
  obtain ⟨hl, k, hf⟩ := shape_array QOk (t := 25) rfl rfl h
  rw [cellsOf_ty QOk (t := 25) rfl] at hl
  have h0 := hf 0 (by omega)
  rw [cellsOf_ty QOk (t := 3) rfl] at h0
  replace h0 := shape_same (uq25_0) h0
  have h1 := hf 1 (by omega)
  rw [cellsOf_ty QOk (t := 3) rfl] at h1
  replace h1 := shape_same (uq25_1) h1
  have h2 := hf 2 (by omega)
  rw [cellsOf_ty QOk (t := 3) rfl] at h2
  replace h2 := shape_same (uq25_2) h2
  have h3 := hf 3 (by omega)
  rw [cellsOf_ty QOk (t := 3) rfl] at h3
  replace h3 := shape_same (uq25_3) h3
  have h4 := hf 4 (by omega)
  rw [cellsOf_ty QOk (t := 3) rfl] at h4
  replace h4 := shape_same (uq25_4) h4
  have h5 := hf 5 (by omega)
  rw [cellsOf_ty QOk (t := 3) rfl] at h5
  replace h5 := shape_same (uq25_5) h5
  have h6 := hf 6 (by omega)
  rw [cellsOf_ty QOk (t := 3) rfl] at h6
  replace h6 := shape_same (uq25_6) h6
  have h7 := hf 7 (by omega)
  rw [cellsOf_ty QOk (t := 3) rfl] at h7
  replace h7 := shape_same (uq25_7) h7
  match l, hl with
  | [a0, a1, a2, a3, a4, a5, a6, a7], _ =>
    replace h0 : Shape Try.prog k 3 [a0] := h0
    obtain ⟨x0, w0, b0, e0, r0⟩ := sh3 h0
    simp only [List.cons.injEq, and_true] at e0
    subst e0
    unfold rp3 at r0; subst r0
    replace h1 : Shape Try.prog k 3 [a1] := h1
    obtain ⟨x1, w1, b1, e1, r1⟩ := sh3 h1
    simp only [List.cons.injEq, and_true] at e1
    subst e1
    unfold rp3 at r1; subst r1
    replace h2 : Shape Try.prog k 3 [a2] := h2
    obtain ⟨x2, w2, b2, e2, r2⟩ := sh3 h2
    simp only [List.cons.injEq, and_true] at e2
    subst e2
    unfold rp3 at r2; subst r2
    replace h3 : Shape Try.prog k 3 [a3] := h3
    obtain ⟨x3, w3, b3, e3, r3⟩ := sh3 h3
    simp only [List.cons.injEq, and_true] at e3
    subst e3
    unfold rp3 at r3; subst r3
    replace h4 : Shape Try.prog k 3 [a4] := h4
    obtain ⟨x4, w4, b4, e4, r4⟩ := sh3 h4
    simp only [List.cons.injEq, and_true] at e4
    subst e4
    unfold rp3 at r4; subst r4
    replace h5 : Shape Try.prog k 3 [a5] := h5
    obtain ⟨x5, w5, b5, e5, r5⟩ := sh3 h5
    simp only [List.cons.injEq, and_true] at e5
    subst e5
    unfold rp3 at r5; subst r5
    replace h6 : Shape Try.prog k 3 [a6] := h6
    obtain ⟨x6, w6, b6, e6, r6⟩ := sh3 h6
    simp only [List.cons.injEq, and_true] at e6
    subst e6
    unfold rp3 at r6; subst r6
    replace h7 : Shape Try.prog k 3 [a7] := h7
    obtain ⟨x7, w7, b7, e7, r7⟩ := sh3 h7
    simp only [List.cons.injEq, and_true] at e7
    subst e7
    unfold rp3 at r7; subst r7
    exact ⟨⟨x0, x1, x2, x3, x4, x5, x6, x7⟩, ⟨w0, w1, w2, w3, w4, w5, w6, w7⟩, rfl⟩
theorem un26 : Try.prog.underlying 26 = some (.int .u64) := by kernel_rfl
def wf26 (x : Int) : Prop := IntKind.min .u64 ≤ x ∧ x ≤ IntKind.max .u64
theorem sh26 {n : Nat} {l : List AV} (h : Shape Try.prog n 26 l) : ∃ x, wf26 x ∧ ∃ a, l = [a] ∧ rp26 x a := by
  obtain ⟨m, rfl, h1⟩ := shape_int un26 h
  exact ⟨m, h1, _, rfl, rfl⟩
def wf27 (x : Queue) : Prop := wf22 x.Policy ∧ wf3 x.Room ∧ wf24 x.Lists ∧ wf25 x.Vars ∧ wf26 x.Seed
theorem uq27_0 : Try.prog.underlying 23 = Try.prog.underlying 22 := by kernel_rfl
theorem uq27_1 : Try.prog.underlying 3 = Try.prog.underlying 3 := by kernel_rfl
theorem uq27_2 : Try.prog.underlying 24 = Try.prog.underlying 24 := by kernel_rfl
theorem uq27_3 : Try.prog.underlying 25 = Try.prog.underlying 25 := by kernel_rfl
theorem uq27_4 : Try.prog.underlying 26 = Try.prog.underlying 26 := by kernel_rfl
theorem sh27 {n : Nat} {l : List AV} (h : Shape Try.prog n 27 l) : ∃ x, wf27 x ∧ rp27 x (.agg l) := by
  obtain ⟨hl, k, hf⟩ := shape_fields QOk (t := 27) rfl rfl h
  rw [cellsOf_ty QOk (t := 27) rfl] at hl
  have h0 := hf (0, 23) (by simp)
  rw [cellsOf_ty QOk (t := 23) rfl] at h0
  replace h0 := shape_same (uq27_0) h0
  have h1 := hf (4, 3) (by simp)
  rw [cellsOf_ty QOk (t := 3) rfl] at h1
  replace h1 := shape_same (uq27_1) h1
  have h2 := hf (5, 24) (by simp)
  rw [cellsOf_ty QOk (t := 24) rfl] at h2
  replace h2 := shape_same (uq27_2) h2
  have h3 := hf (6, 25) (by simp)
  rw [cellsOf_ty QOk (t := 25) rfl] at h3
  replace h3 := shape_same (uq27_3) h3
  have h4 := hf (14, 26) (by simp)
  rw [cellsOf_ty QOk (t := 26) rfl] at h4
  replace h4 := shape_same (uq27_4) h4
  match l, hl with
  | [a0, a1, a2, a3, a4, a5, a6, a7, a8, a9, a10, a11, a12, a13, a14], _ =>
    replace h0 : Shape Try.prog k 22 [a0, a1, a2, a3] := h0
    obtain ⟨x0, w0, r0⟩ := sh22 h0
    have e0 : _ = _ := r0
    simp only [AV.agg.injEq, List.cons.injEq, and_true] at e0
    obtain ⟨rfl, rfl, rfl, rfl⟩ := e0
    replace h1 : Shape Try.prog k 3 [a4] := h1
    obtain ⟨x1, w1, b1, e1, r1⟩ := sh3 h1
    simp only [List.cons.injEq, and_true] at e1
    subst e1
    unfold rp3 at r1; subst r1
    replace h2 : Shape Try.prog k 24 [a5] := h2
    obtain ⟨x2, w2, b2, e2, r2⟩ := sh24 h2
    simp only [List.cons.injEq, and_true] at e2
    subst e2
    have s5 := r2
    replace h3 : Shape Try.prog k 25 [a6, a7, a8, a9, a10, a11, a12, a13] := h3
    obtain ⟨x3, w3, r3⟩ := sh25 h3
    have e3 : _ = _ := r3
    simp only [AV.agg.injEq, List.cons.injEq, and_true] at e3
    obtain ⟨rfl, rfl, rfl, rfl, rfl, rfl, rfl, rfl⟩ := e3
    replace h4 : Shape Try.prog k 26 [a14] := h4
    obtain ⟨x4, w4, b4, e4, r4⟩ := sh26 h4
    simp only [List.cons.injEq, and_true] at e4
    subst e4
    unfold rp26 at r4; subst r4
    exact ⟨⟨x0, x1, x2, x3, x4⟩, ⟨w0, w1, w2, w3, w4⟩, ⟨_, s5, rfl⟩⟩
theorem un33 : Try.prog.underlying 33 = some (.slice 30) := by kernel_rfl
theorem ue33 : (Try.prog.underlying 30).isSome = true := by kernel_rfl
theorem ua33 : (Try.prog.underlying 30).map isAggD = some true := by kernel_rfl
theorem uu33 : Try.prog.underlying 30 = Try.prog.underlying 29 := by kernel_rfl
def wf33 (x : List Packet) : Prop := x.length ≤ maxLen ∧ ∀ y, y ∈ x → wf29 y
theorem sh33 {n : Nat} {l : List AV} (h : Shape Try.prog n 33 l) : ∃ x, wf33 x ∧ ∃ a, l = [a] ∧ rp33 x a := by
  obtain ⟨d, hd⟩ := Option.isSome_iff_exists.1 ue33
  have hag : isAggD d = true := by have := ua33; rw [hd] at this; simpa using this
  obtain ⟨ys, xs, rfl, h1, h2⟩ := shape_slice (Q := fun y x => wf29 y ∧ rp29 y x) un33 hd h (by
    rintro k x ⟨cl, h1, h2⟩
    rw [hag] at h1
    simp only [if_true] at h1
    replace h2 := shape_same uu33 h2
    subst h1
    obtain ⟨y, hy, r⟩ := sh29 h2
    exact ⟨y, hy, r⟩)
  refine ⟨ys, ⟨h2, ?_⟩, _, rfl, .inl ⟨xs, rfl, h1.mono fun _ _ h => h.2⟩⟩
  intro y hy
  obtain ⟨i, hi⟩ := List.getElem?_of_mem hy
  obtain ⟨_, _, h3⟩ := h1.get hi
  exact h3.1
theorem un65 : Try.prog.underlying 65 = some (.int .u16) := by kernel_rfl
def wf65 (x : Int) : Prop := IntKind.min .u16 ≤ x ∧ x ≤ IntKind.max .u16
theorem sh65 {n : Nat} {l : List AV} (h : Shape Try.prog n 65 l) : ∃ x, wf65 x ∧ ∃ a, l = [a] ∧ rp65 x a := by
  obtain ⟨m, rfl, h1⟩ := shape_int un65 h
  exact ⟨m, h1, _, rfl, rfl⟩
def wf66 (x : Step) : Prop := wf65 x.Wait ∧ wf4 x.Take ∧ wf29 x.P
theorem uq66_0 : Try.prog.underlying 65 = Try.prog.underlying 65 := by kernel_rfl
theorem uq66_1 : Try.prog.underlying 4 = Try.prog.underlying 4 := by kernel_rfl
theorem uq66_2 : Try.prog.underlying 30 = Try.prog.underlying 29 := by kernel_rfl
theorem sh66 {n : Nat} {l : List AV} (h : Shape Try.prog n 66 l) : ∃ x, wf66 x ∧ rp66 x (.agg l) := by
  obtain ⟨hl, k, hf⟩ := shape_fields QOk (t := 66) rfl rfl h
  rw [cellsOf_ty QOk (t := 66) rfl] at hl
  have h0 := hf (0, 65) (by simp)
  rw [cellsOf_ty QOk (t := 65) rfl] at h0
  replace h0 := shape_same (uq66_0) h0
  have h1 := hf (1, 4) (by simp)
  rw [cellsOf_ty QOk (t := 4) rfl] at h1
  replace h1 := shape_same (uq66_1) h1
  have h2 := hf (2, 30) (by simp)
  rw [cellsOf_ty QOk (t := 30) rfl] at h2
  replace h2 := shape_same (uq66_2) h2
  match l, hl with
  | [a0, a1, a2, a3, a4, a5, a6, a7, a8, a9], _ =>
    replace h0 : Shape Try.prog k 65 [a0] := h0
    obtain ⟨x0, w0, b0, e0, r0⟩ := sh65 h0
    simp only [List.cons.injEq, and_true] at e0
    subst e0
    unfold rp65 at r0; subst r0
    replace h1 : Shape Try.prog k 4 [a1] := h1
    obtain ⟨x1, w1, b1, e1, r1⟩ := sh4 h1
    simp only [List.cons.injEq, and_true] at e1
    subst e1
    unfold rp4 at r1; subst r1
    replace h2 : Shape Try.prog k 29 [a2, a3, a4, a5, a6, a7, a8, a9] := h2
    obtain ⟨x2, w2, r2⟩ := sh29 h2
    have e2 : _ = _ := r2
    simp only [AV.agg.injEq, List.cons.injEq, and_true] at e2
    obtain ⟨rfl, rfl, rfl, rfl, rfl, rfl, rfl, rfl⟩ := e2
    exact ⟨⟨x0, x1, x2⟩, ⟨w0, w1, w2⟩, rfl⟩
theorem un42 : Try.prog.underlying 42 = some (.slice 67) := by kernel_rfl
theorem ue42 : (Try.prog.underlying 67).isSome = true := by kernel_rfl
theorem ua42 : (Try.prog.underlying 67).map isAggD = some true := by kernel_rfl
theorem uu42 : Try.prog.underlying 67 = Try.prog.underlying 66 := by kernel_rfl
def wf42 (x : List Step) : Prop := x.length ≤ maxLen ∧ ∀ y, y ∈ x → wf66 y
theorem sh42 {n : Nat} {l : List AV} (h : Shape Try.prog n 42 l) : ∃ x, wf42 x ∧ ∃ a, l = [a] ∧ rp42 x a := by
  obtain ⟨d, hd⟩ := Option.isSome_iff_exists.1 ue42
  have hag : isAggD d = true := by have := ua42; rw [hd] at this; simpa using this
  obtain ⟨ys, xs, rfl, h1, h2⟩ := shape_slice (Q := fun y x => wf66 y ∧ rp66 y x) un42 hd h (by
    rintro k x ⟨cl, h1, h2⟩
    rw [hag] at h1
    simp only [if_true] at h1
    replace h2 := shape_same uu42 h2
    subst h1
    obtain ⟨y, hy, r⟩ := sh66 h2
    exact ⟨y, hy, r⟩)
  refine ⟨ys, ⟨h2, ?_⟩, _, rfl, .inl ⟨xs, rfl, h1.mono fun _ _ h => h.2⟩⟩
  intro y hy
  obtain ⟨i, hi⟩ := List.getElem?_of_mem hy
  obtain ⟨_, _, h3⟩ := h1.get hi
  exact h3.1
def wf56 (x : Queue) : Prop := wf27 x
theorem uq56_0 : Try.prog.underlying 28 = Try.prog.underlying 27 := by kernel_rfl
theorem sh56 {n : Nat} {l : List AV} (h : Shape Try.prog n 56 l) : ∃ x, wf56 x ∧ rp56 x (.agg l) := by
  obtain ⟨hl, k, hf⟩ := shape_fields QOk (t := 56) rfl rfl h
  rw [cellsOf_ty QOk (t := 56) rfl] at hl
  have h0 := hf (0, 28) (by simp)
  rw [cellsOf_ty QOk (t := 28) rfl] at h0
  replace h0 := shape_same (uq56_0) h0
  match l, hl with
  | [a0, a1, a2, a3, a4, a5, a6, a7, a8, a9, a10, a11, a12, a13, a14], _ =>
    replace h0 : Shape Try.prog k 27 [a0, a1, a2, a3, a4, a5, a6, a7, a8, a9, a10, a11, a12, a13, a14] := h0
    obtain ⟨x0, w0, r0⟩ := sh27 h0
    obtain ⟨q0_5, s5, e0⟩ := r0
    simp only [AV.agg.injEq, List.cons.injEq, and_true] at e0
    obtain ⟨rfl, rfl, rfl, rfl, rfl, rfl, rfl, rfl, rfl, rfl, rfl, rfl, rfl, rfl, rfl⟩ := e0
    exact ⟨x0, w0, ⟨_, s5, rfl⟩⟩
end Go.Proofs.Ytnbagejbdkhooaa
end

section
set_option linter.unusedVariables false
namespace Go.Proofs.Ytnbagejbdkhooaa.Lib
open Go.PI

noncomputable def C0 : Ctx where
  P := Try.prog
  kind := fun f => if f = 38 then .imp else .pure
  intr := fun _ => none
  acc := fun _ _ => false

theorem fn37 : C0.P.funcs[37]? = some Try.f37 := by kernel_rfl
noncomputable def R (t : Nat) : TyRow := (tyOf Try.prog t).getD ⟨.bool, 0, 0, none, false⟩
theorem se47 : sliceElem C0.P 47 = some (R 50) := by kernel_rfl
theorem st47 : isSliceTy C0.P 47 = true := by kernel_rfl
theorem ze50 : (elemZero (R 50)).isSome = true := by kernel_rfl
theorem sz50 : (R 50).size = 9 := by kernel_rfl
theorem ag50 : (R 50).isAgg = true := by kernel_rfl
theorem by50 : (R 50).bytes = 64 := by kernel_rfl
theorem nil_eq (xs : List AV) (c : Nat) (x y : Operand) : binA C0.P .eql 47 x y (.slx xs c) (.lit (.slice none 0 0)) = some (bol false) := by
  unfold binA
  have h : eqAggA C0.P .eql 47 (.slx xs c) (.lit (.slice none 0 0)) = none := by kernel_rfl
  rw [h]
  show nilEqA C0.P .eql 47 (.slx xs c) (.slice none 0 0) = _
  kernel_rfl
theorem clone_nil : runF C0 37 [.lit nilSl] [] = some (.val (.lit nilSl), []) :=
  (lim_some (growF C0 37 [.lit nilSl] [])).2 ⟨100, by kernel_rfl⟩
theorem clone_slx (xs : List AV) (cap : Nat) (hall : xs.all (okElem (R 50).isAgg (R 50).size) = true) (h1 : xs.length * (R 50).bytes ≤ 2 ^ 44) (h2 : xs.length ≤ 2 ^ 44) : ∃ res hpf, runF C0 37 [.slx xs cap] [] = some (.val res, hpf) ∧ (sealV 1000 res).run hpf = some (.sl xs) := by
  rw [runF_eq (fn := Try.f37) fn37 rfl]
  have hacc : ∀ f d, C0.acc f d = false := fun _ _ => rfl
  have hr : 0 < (R 50).size := by rw [sz50]; decide
  by_cases hx : xs = []
  · subst hx
    simp (decide := true) only [Try.f37, ro_asNil, hacc, op_build0 se47 ze50 hr, op_app, nil_eq, bol, app_none se47 st47 ze50 hr, runC_seq, runC_ops, preps, guardG, List.map_cons, List.map_nil, runG_always, runG_nil, ro_move, ro_buildSlice, ro_binOp, ro_builtin, ro_asTmp, op_move, op_assign, op_bin, evalA, constA, ofVal, doneE, putA, thenG_norm, ifA_ff, app_nil, app_cons, andThen_norm, runC_ret, endF_ret, res_nil, res_tmp, tup_one, List.getElem?_toArray, List.replicate_succ, List.replicate_zero, Nat.reduceSub, Option.bind_some, Option.map_some, setObj_new, List.length_nil, List.length_cons, List.nil_append, List.cons_append, Nat.zero_add, fg0, fg2, fs2, fg3, fs3, fg4, fs4, fg5, fs5, fg6, fs6, fg7, fs7, runC_cond, runC_skip]
    exact ⟨_, _, rfl, rfl⟩
  · simp (decide := true) only [Try.f37, ro_asNil, hacc, op_build0 se47 ze50 hr, op_app, nil_eq, bol, runC_seq, runC_ops, preps, guardG, List.map_cons, List.map_nil, runG_always, runG_nil, ro_move, ro_buildSlice, ro_binOp, ro_builtin, ro_asTmp, op_move, op_assign, op_bin, evalA, constA, ofVal, doneE, putA, thenG_norm, ifA_ff, app_nil, app_cons, andThen_norm, runC_ret, endF_ret, res_nil, res_tmp, tup_one, List.getElem?_toArray, List.replicate_succ, List.replicate_zero, Nat.reduceSub, Option.bind_some, Option.map_some, setObj_new, List.length_nil, List.length_cons, List.nil_append, List.cons_append, Nat.zero_add, fg0, fg2, fs2, fg3, fs3, fg4, fs4, fg5, fs5, fg6, fs6, fg7, fs7, runC_cond, Option.bind_assoc, runC_skip]
    rw [app_first se47 st47 ze50 hr hall hx rfl h1 h2]
    simp (decide := true) only [app_nil, app_cons, Option.bind_some, setObj_new, List.length_nil, List.length_cons, List.nil_append, List.cons_append, Nat.zero_add]
    refine ⟨_, _, rfl, ?_⟩
    exact seal_whole (RM.run_arr_mk rfl)
end Go.Proofs.Ytnbagejbdkhooaa.Lib
end

section
set_option linter.unusedVariables false
namespace Go.Proofs.Ytnbagejbdkhooaa.Lib
open Go.PI
theorem fn38 : C0.P.funcs[38]? = some Try.f38 := by kernel_rfl
theorem st24 : isSliceTy C0.P 24 = true := by kernel_rfl
theorem st3 : isSliceTy C0.P 3 = false := by kernel_rfl
theorem un3 : C0.P.underlying 3 = some (.int .i64) := by kernel_rfl
noncomputable def zero50 : AV := (elemZero (R 50)).getD .undef
theorem zv50 : elemZero (R 50) = some zero50 := by kernel_rfl
theorem zo50 : okElem (R 50).isAgg (R 50).size zero50 = true := by kernel_rfl
theorem grow_zero : runF C0 38 [.lit nilSl, int 0] [] = some (.val (.lit nilSl), []) :=
  (lim_some (growF C0 38 [.lit nilSl, int 0] [])).2 ⟨100, by kernel_rfl⟩
theorem grow_pos (n : Nat) (hn : 0 < n) (h1 : n * (R 50).bytes ≤ 2 ^ 44) (h2 : n ≤ 2 ^ 44) : runF C0 38 [.lit nilSl, int n] [] = some (.val (.osl (R 50).size 0 n 0 0 none), [some (.arr true true false (List.replicate n zero50))]) := by
  rw [runF_eq (fn := Try.f38) fn38 rfl]
  have hacc : ∀ f d, C0.acc f d = false := fun _ _ => rfl
  have hr : 0 < (R 50).size := by rw [sz50]; decide
  have hw : IntKind.i64.wrap ((n : Int) - 0) = (n : Int) := by rw [IntWalk.i64_in _ (by omega)]; omega
  have hw0 : IntKind.i64.wrap (0 - 0) = (0 : Int) := by decide
  have hneg : ¬ ((n : Int) < 0) := by omega
  have hpos : (0 : Int) < (n : Int) := by omega
  have hmap : Option.map (evalA [AV.lit nilSl]) none = (none : Option AV) := rfl
  simp (decide := true) only [Try.f38, ro_asNil, hacc, op_cap0 st47, op_len0 st47, nilE_nil, op_cutA, cut_nil se47, cut_own se47 hn, op_app, app_make se47 st3 un3 zv50 hr zo50 hn h1 h2, hw, hw0, hneg, hpos, bol, Option.map_none, runC_seq, runC_ops, preps, guardG, List.map_cons, List.map_nil, runG_always, runG_nil, ro_move, ro_binOp, ro_slice, ro_builtin, ro_asTmp, op_move, op_assign, op_bin, evalA, constA, ofVal, doneE, putA, thenG_norm, ifA_tt, ifA_ff, app_nil, app_cons, bin_lss, bin_gtr, bin_sub, andThen_norm, runC_ret, endF_ret, res_nil, res_tmp, tup_one, List.getElem?_toArray, List.replicate_succ, List.replicate_zero, Nat.reduceSub, Nat.reduceAdd, Option.bind_some, Option.map_some, decide_true, decide_false, setObj_new, List.length_nil, List.length_cons, List.nil_append, List.cons_append, Nat.zero_add, fg0, fs0, fg1, fs1, fg4, fs4, fg5, fs5, fg6, fs6, fg8, fs8, fg9, fs9, fg10, fs10, fg11, fs11, fg12, fs12, fg13, fs13, fg14, fs14, fg15, fs15, fg16, fs16, fg17, fs17, fg18, fs18, fg19, fs19, fg20, fs20, fg21, fs21, fg22, fs22, fg23, fs23, fg24, fs24, fg25, fs25, fg26, fs26, runC_cond, runC_skip]
end Go.Proofs.Ytnbagejbdkhooaa.Lib
end

section
set_option linter.unusedVariables false
namespace Go.Proofs.Ytnbagejbdkhooaa.Lib
open Go.PI
theorem fn30 : C0.P.funcs[30]? = some Try.f30 := by kernel_rfl
theorem ty47 : tyOf C0.P 47 = some (R 47) := by kernel_rfl
theorem ag47 : (R 47).isAgg = false := by kernel_rfl
theorem sz47 : (R 47).size = 1 := by kernel_rfl
theorem se24 : sliceElem C0.P 24 = some (R 47) := by kernel_rfl
theorem ae24 : arrayElem C0.P 24 = none := by kernel_rfl
theorem ld47 {nm : Nat} {ev : Operand → AV} {dst : Option Tmp} {type : TypeId} {pos : String} {after : Array Edge} {guard : Option (Nat × Bool)} {hp : AHeap} {x : Operand} :
   (opEff C0.P nm ev ⟨dst, .load 47 x, type, pos, after, guard⟩).run hp = oneE (loadN false 1 hp (ev x)) := by rw [op_load ty47, loadV_N ag47 sz47]
theorem ix24 (x ix : AV) : indexAddrA C0.P 24 x ix = (asNat ix).bind fun i => sliceIxA false 1 i x := by rw [ix_slice se24 ae24, ag47, sz47]
def I1 (ls : List (List AV)) (k : Nat) (s : St) : Prop :=
  ∃ (i : Nat) (j1 j4 j5 j6 j7 j8 j12 j13 j14 j15 j16 j17 j18 j19 j20 j21 j22 j23 j24 j25 j26 j27 j28 j29 j30 j31 j32 j33 j34 j35 : AV), k = ls.length - i ∧ i ≤ ls.length ∧ s = ⟨30, [.sl (ls.map .sl), j1, .lit nilSl, int ((ls.take i).flatten.length : Nat), j4, j5, j6, j7, j8, .sl (ls.map .sl), int ls.length, int i, j12, j13, j14, j15, j16, j17, j18, j19, j20, j21, j22, j23, j24, j25, j26, j27, j28, j29, j30, j31, j32, j33, j34, j35], []⟩
def P1 (ls : List (List AV)) (o : Out) : Prop :=
  ∃ (j11 j1 j4 j5 j6 j7 j8 j12 j13 j14 j15 j16 j17 j18 j19 j20 j21 j22 j23 j24 j25 j26 j27 j28 j29 j30 j31 j32 j33 j34 j35 : AV), o = .exit 0 ⟨30, [.sl (ls.map .sl), j1, .lit nilSl, int (ls.flatten.length : Nat), j4, j5, j6, j7, j8, .sl (ls.map .sl), int ls.length, j11, j12, j13, j14, j15, j16, j17, j18, j19, j20, j21, j22, j23, j24, j25, j26, j27, j28, j29, j30, j31, j32, j33, j34, j35], []⟩
theorem flat_le {α : Type} (ls : List (List α)) (i : Nat) : (ls.take i).flatten.length ≤ ls.flatten.length := by
  have h : ls.flatten.length = (ls.take i).flatten.length + (ls.drop i).flatten.length := by
    rw [← List.length_append, ← List.flatten_append, List.take_append_drop]
  omega
theorem flat_succ {α : Type} (ls : List (List α)) (i : Nat) (h : i < ls.length) : (ls.take (i + 1)).flatten = (ls.take i).flatten ++ ls[i] := by
  rw [List.take_succ_eq_append_getElem h, List.flatten_append]; simp only [List.flatten_cons, List.flatten_nil, List.append_nil]
noncomputable def cur (ls : List (List AV)) (i : Nat) : AV := if ls.flatten.length = 0 then .lit nilSl else .osl (R 50).size 0 ls.flatten.length 0 (ls.take i).flatten.length none
noncomputable def hpc (ls : List (List AV)) (i : Nat) : AHeap := if ls.flatten.length = 0 then [] else [some (.arr true true false ((ls.take i).flatten ++ List.replicate (ls.flatten.length - (ls.take i).flatten.length) zero50))]
theorem grow_cur (ls : List (List AV)) (h1 : ls.flatten.length * (R 50).bytes ≤ 2 ^ 44) (h2 : ls.flatten.length ≤ 2 ^ 44) : runF C0 38 [.lit (.slice none 0 0), int ls.flatten.length] [] = some (.val (cur ls 0), hpc ls 0) := by
  unfold cur hpc
  by_cases h : ls.flatten.length = 0
  · rw [if_pos h, if_pos h, h]; exact grow_zero
  · rw [if_neg h, if_neg h]
    simpa using grow_pos _ (by omega) h1 h2
theorem trunc_cur (ls : List (List AV)) (i : Nat) : truncA 0 (cur ls i) (hpc ls i) = hpc ls i := by
  unfold cur hpc truncA
  by_cases h : ls.flatten.length = 0
  · rw [if_pos h, if_pos h]; simp
  · rw [if_neg h, if_neg h]; simp [below]
theorem forget_cur (ls : List (List AV)) (i : Nat) : forget (hpc ls i).length (cur ls (i + 1)) = cur ls (i + 1) := by
  apply forget_eq
  unfold cur hpc
  by_cases h : ls.flatten.length = 0
  · rw [if_pos h, if_pos h]; rfl
  · rw [if_neg h, if_neg h]; simp [below]
theorem reset_cur (ls : List (List AV)) (i : Nat) (f : Nat) (fr : List AV) : resetA (hpc ls i).length ⟨f, fr, hpc ls (i + 1)⟩ = ⟨f, fr.map (forget (hpc ls i).length), hpc ls (i + 1)⟩ := by
  have hl : (hpc ls i).length = (hpc ls (i + 1)).length := by
    unfold hpc
    by_cases h : ls.flatten.length = 0
    · rw [if_pos h, if_pos h]
    · rw [if_neg h, if_neg h]; rfl
  have ht : (hpc ls (i + 1)).take (hpc ls i).length = hpc ls (i + 1) := by rw [hl]; exact List.take_length
  rw [reset_eq]
  · simp only [ht]
  · simp only [ht]
    unfold hpc
    by_cases h : ls.flatten.length = 0
    · rw [if_pos h]; rfl
    · rw [if_neg h]; rfl
theorem putElems_end (a ys : List AV) (k : Nat) (z : AV) (h : ys.length ≤ k) : putElems (a ++ List.replicate k z) a.length ys = a ++ ys ++ List.replicate (k - ys.length) z := by
  induction ys generalizing a k with
  | nil => simp [putElems]
  | cons y ys ih =>
    obtain ⟨k, rfl⟩ : ∃ m, k = m + 1 := ⟨k - 1, by simp at h; omega⟩
    have := ih (a ++ [y]) k (by simp at h; omega)
    simp only [putElems, List.replicate_succ]
    simp only [List.length_append, List.length_cons, List.length_nil] at this
    rw [List.set_append_right _ _ (Nat.le_refl _), Nat.sub_self, List.set_cons_zero]
    simpa [List.append_assoc] using this
theorem app_cur (ls : List (List AV)) (i : Nat) (hi : i < ls.length) (hall : ls[i].all (okElem (R 50).isAgg (R 50).size) = true) :
    ∃ wr, (∀ nm, (appendA C0.P nm 47 47 (cur ls i) (.sl ls[i])).run (hpc ls i) = some ⟨cur ls (i + 1), wr⟩) ∧ applyWr (hpc ls i) wr = hpc ls (i + 1) := by
  have hr : 0 < (R 50).size := by rw [sz50]; decide
  have hf := flat_succ ls i hi
  have hle := flat_le ls (i + 1)
  have hlen : (ls.take (i + 1)).flatten.length = (ls.take i).flatten.length + ls[i].length := by rw [hf, List.length_append]
  by_cases h : ls.flatten.length = 0
  · have he : ls[i] = [] := List.length_eq_zero_iff.1 (by omega)
    refine ⟨[], fun nm => ?_, ?_⟩
    · unfold cur hpc
      rw [if_pos h, if_pos h, if_pos h, he]
      simp [appendA, se47, srcA, st47, elemsA, RM.run_bind, RM.run_pure, ze50, hr]
    · unfold hpc; rw [if_pos h, if_pos h]; rfl
  · by_cases he : ls[i] = []
    · have hl0 : ls[i].length = 0 := by rw [he]; rfl
      rw [hl0] at hlen
      have hf2 : (ls.take (i + 1)).flatten = (ls.take i).flatten := by rw [hf, he, List.append_nil]
      refine ⟨[], fun nm => ?_, ?_⟩
      · unfold cur hpc
        rw [if_neg h, if_neg h, if_neg h, he, hf2]
        simp [appendA, se47, srcA, st47, elemsA, RM.run_bind, RM.run_pure, ze50, hr]
      · unfold hpc; rw [if_neg h, if_neg h, hf2]; rfl
    · have hne : ls[i].isEmpty = false := by cases hq : ls[i] <;> simp_all
      have hes : ((ls.take i).flatten ++ List.replicate (ls.flatten.length - (ls.take i).flatten.length) zero50).length = ls.flatten.length := by
        rw [List.length_append, List.length_replicate]; omega
      refine ⟨[(0, .arr true true false ((ls.take (i + 1)).flatten ++ List.replicate (ls.flatten.length - (ls.take (i + 1)).flatten.length) zero50))], fun nm => ?_, ?_⟩
      · unfold cur hpc
        rw [if_neg h, if_neg h, if_neg h]
        have ho := RM.run_arr_mk (hp := [some (.arr true true false ((ls.take i).flatten ++ List.replicate (ls.flatten.length - (ls.take i).flatten.length) zero50))]) (n := 0) rfl
        rw [hes] at ho
        have hput := putElems_end (ls.take i).flatten ls[i] (ls.flatten.length - (ls.take i).flatten.length) zero50 (by omega)
        simp only [appendA, se47, srcA, st47, elemsA, RM.run_bind, RM.run_pure, Option.bind_some, ze50, hr, hall, decide_true, Bool.and_self, hne, ho]
        rw [if_neg (by rintro (h1 | h1 | h1); (exact absurd h1 (by decide)); (rw [hes] at h1; omega); (exact h1 rfl)), if_pos (by simp only [Option.getD_none]; omega), if_pos (by rw [hes]; omega)]
        simp only [RM.run_pure, Nat.zero_add, hput, hlen, ← hf]
        rw [Nat.sub_sub]
      · unfold hpc; rw [if_neg h, if_neg h]; rfl
def I2 (ls : List (List AV)) (k : Nat) (s : St) : Prop :=
  ∃ (i : Nat) (j1 j4 j5 j7 j8 j9 j10 j11 j12 j13 j14 j15 j16 j17 j18 j19 j20 j21 j22 j23 j24 j28 j29 j30 j31 j32 j33 j34 j35 : AV), k = ls.length - i ∧ i ≤ ls.length ∧ s = ⟨30, [.sl (ls.map .sl), j1, .lit nilSl, int (ls.flatten.length : Nat), j4, j5, cur ls i, j7, j8, j9, j10, j11, j12, j13, j14, j15, j16, j17, j18, j19, j20, j21, j22, j23, j24, .sl (ls.map .sl), int ls.length, int i, j28, j29, j30, j31, j32, j33, j34, j35], hpc ls i⟩
def P2 (ls : List (List AV)) (o : Out) : Prop :=
  ∃ (j27 j1 j4 j5 j7 j8 j9 j10 j11 j12 j13 j14 j15 j16 j17 j18 j19 j20 j21 j22 j23 j24 j28 j29 j30 j31 j32 j33 j34 j35 : AV), o = .exit 2 ⟨30, [.sl (ls.map .sl), j1, .lit nilSl, int (ls.flatten.length : Nat), j4, j5, cur ls ls.length, j7, j8, j9, j10, j11, j12, j13, j14, j15, j16, j17, j18, j19, j20, j21, j22, j23, j24, .sl (ls.map .sl), int ls.length, j27, j28, j29, j30, j31, j32, j33, j34, j35], hpc ls ls.length⟩
theorem concat_run (ls : List (List AV)) (hn : ls.length ≤ 2 ^ 44) (hall : ∀ l ∈ ls, l.all (okElem (R 50).isAgg (R 50).size) = true) (hT1 : ls.flatten.length * (R 50).bytes ≤ 2 ^ 44) (hT : ls.flatten.length ≤ 2 ^ 44) : ∃ res hpf, runF C0 30 [.sl (ls.map .sl)] [] = some (.val res, hpf) ∧ (sealV 1000 res).run hpf = some (.sl ls.flatten) := by
  have key : runF C0 30 [.sl (ls.map .sl)] [] = some (.val (cur ls ls.length), hpc ls ls.length) := by
    rw [runF_eq (fn := Try.f30) fn30 rfl]
    have hacc : ∀ f d, C0.acc f d = false := fun _ _ => rfl
    have hr : 0 < (R 50).size := by rw [sz50]; decide
    simp (decide := true) only [Try.f30, ro_asNil, hacc, op_len st24, List.length_map, runC_seq, runC_ops, preps, guardG, List.map_cons, List.map_nil, runG_always, runG_nil, ro_move, ro_builtin, ro_asInt, op_move, op_assign, evalA, constA, ofVal, doneE, putA, thenG_norm, app_nil, andThen_norm, List.getElem?_toArray, List.replicate_succ, List.replicate_zero, Nat.reduceSub, Option.bind_some, List.length_nil, List.length_cons, List.nil_append, List.cons_append, Nat.zero_add, fg0, fs2, fs3, fg9, fs9, fs10, fs11, runC_block, Option.bind_assoc, lenE_sl]
    refine loop_bind (I1 ls) (P1 ls) ls.length ?_ ?_ ?_
    · exact ⟨0, _, _, _, _, _, _, _, _, _, _, _, _, _, _, _, _, _, _, _, _, _, _, _, _, _, _, _, _, _, _, rfl, Nat.zero_le _, rfl⟩
    · rintro k s ⟨i, j1, j4, j5, j6, j7, j8, j12, j13, j14, j15, j16, j17, j18, j19, j20, j21, j22, j23, j24, j25, j26, j27, j28, j29, j30, j31, j32, j33, j34, j35, hk, hi, rfl⟩
      have hwrap : IntKind.i64.wrap ((i : Int) + 1) = ((i + 1 : Nat) : Int) := by
        rw [IntWalk.i64_in _ (by omega)]; omega
      by_cases hlt : i < ls.length
      · have hget : (ls.map AV.sl)[i]? = some (.sl ls[i]) := by simp [hlt]
        have hok : okElem false 1 (.sl ls[i]) = true := by simp [okElem, isLeaf]
        have hp0 : partA false 1 (.sl ls[i]) 0 = some (.sl ls[i]) := by simp [partA, isLeaf]
        have hlt2 : ((i : Int) < (ls.length : Int)) := by omega
        have hf := flat_succ ls i hlt
        have hle := flat_le ls (i + 1)
        have hlen : (ls.take (i + 1)).flatten.length = (ls.take i).flatten.length + ls[i].length := by rw [hf, List.length_append]
        have hsz : IntKind.i64.wrap (((ls.take i).flatten.length : Int) + (ls[i].length : Int)) = (((ls.take (i + 1)).flatten.length : Nat) : Int) := by
          rw [IntWalk.i64_in _ (by omega)]; omega
        have hneg : ¬ (((ls.take (i + 1)).flatten.length : Int) < 0) := by omega
        left
        refine ⟨_, by simp (decide := true) only [hget, hok, hlt2, hwrap, hsz, hneg, ld47, ix24, op_len st47, bol, runC_seq, runC_ops, preps, guardG, List.map_cons, List.map_nil, runG_always, runG_nil, ro_move, ro_load, ro_binOp, ro_indexAddr, ro_builtin, ro_asTmp, op_move, op_assign, op_bin, evalA, constA, ofVal, doneE, putA, thenG_norm, ifA_tt, ifA_ff, app_nil, bin_lss, bin_add, andThen_norm, List.getElem?_toArray, Option.bind_some, Option.map_some, decide_true, decide_false, List.length_nil, isLeaf, oneE, partA, if_true, fg3, fs3, fg5, fs5, fg9, fg10, fg11, fs11, fg12, fs12, fg13, fs13, fg14, fs14, fg15, fs15, fg16, fs16, fg17, fs17, fg18, fs18, fg19, fs19, fg20, fs20, fg22, fs22, runC_block, runC_cond, blockA_norm, op_indexAddr, asNat_cast, sliceIxA, loadN, runC_skip, lenE_sl]; rfl, ls.length - (i + 1), by omega, ?_⟩
        rw [reset_eq (by simp)]
        exact ⟨i + 1, _, _, _, _, _, _, _, _, _, _, _, _, _, _, _, _, _, _, _, _, _, _, _, _, _, _, _, _, _, _, rfl, by omega, rfl⟩
      · have hlt2 : ¬ ((i : Int) < (ls.length : Int)) := by omega
        have hie : i = ls.length := by omega
        right
        refine ⟨_, by simp (decide := true) only [hlt2, bol, runC_seq, runC_ops, preps, guardG, List.map_cons, List.map_nil, runG_always, runG_nil, ro_binOp, op_bin, evalA, doneE, putA, thenG_norm, ifA_ff, app_nil, bin_lss, andThen_norm, andThen_exit, List.getElem?_toArray, Option.bind_some, Option.map_some, decide_false, List.length_nil, fg10, fg11, fg12, fs12, runC_cond, runC_exit]; rfl, by simp, ?_⟩
        have : ls.take i = ls := by rw [hie]; exact List.take_length
        rw [this]
        exact ⟨_, _, _, _, _, _, _, _, _, _, _, _, _, _, _, _, _, _, _, _, _, _, _, _, _, _, _, _, _, _, _, rfl⟩
    · rintro o ⟨j11, j1, j4, j5, j6, j7, j8, j12, j13, j14, j15, j16, j17, j18, j19, j20, j21, j22, j23, j24, j25, j26, j27, j28, j29, j30, j31, j32, j33, j34, j35, rfl⟩
      simp (decide := true) only [runC_seq, runC_ops, preps, guardG, List.map_cons, List.map_nil, runG_always, ro_move, op_move, evalA, constA, ofVal, doneE, putA, thenG_norm, app_nil, andThen_norm, List.getElem?_toArray, Option.bind_some, List.length_nil, runO_call, resolve_fn, fg3, fg23, fs23, blockA_eq, Option.bind_assoc]
      have hk38 : C0.kind 38 = .imp := rfl
      have hal38 : ∀ a t, isAllocOp (Op.call ⟨.value (.func 38), a, t⟩) = false := fun _ _ => rfl
      simp only [callA, hal38, hk38]
      rw [grow_cur ls hT1 hT]
      simp only [Option.bind_some, doneI, List.length_nil, trunc_cur]
      simp (decide := true) only [op_len st24, List.length_map, runC_seq, runC_ops, preps, guardG, List.map_cons, List.map_nil, runG_always, runG_nil, ro_move, ro_builtin, ro_asTmp, op_move, op_assign, evalA, constA, ofVal, doneE, putA, thenG_norm, app_nil, andThen_norm, List.getElem?_toArray, Option.bind_some, fg0, fs6, fg24, fs24, fg25, fs25, fs26, fs27, runC_block, Option.bind_assoc, lenE_sl]
      refine loop_bind (I2 ls) (P2 ls) ls.length ?_ ?_ ?_
      · exact ⟨0, _, _, _, _, _, _, _, _, _, _, _, _, _, _, _, _, _, _, _, _, _, _, _, _, _, _, _, _, _, rfl, Nat.zero_le _, rfl⟩
      · rintro k s ⟨i, j1, j4, j5, j7, j8, j9, j10, j11, j12, j13, j14, j15, j16, j17, j18, j19, j20, j21, j22, j23, j24, j28, j29, j30, j31, j32, j33, j34, j35, hk, hi, rfl⟩
        have hwrap : IntKind.i64.wrap ((i : Int) + 1) = ((i + 1 : Nat) : Int) := by
          rw [IntWalk.i64_in _ (by omega)]; omega
        by_cases hlt : i < ls.length
        · have hget : (ls.map AV.sl)[i]? = some (.sl ls[i]) := by simp [hlt]
          have hok : okElem false 1 (.sl ls[i]) = true := by simp [okElem, isLeaf]
          have hp0 : partA false 1 (.sl ls[i]) 0 = some (.sl ls[i]) := by simp [partA, isLeaf]
          have hlt2 : ((i : Int) < (ls.length : Int)) := by omega
          obtain ⟨wr, hap, hwr⟩ := app_cur ls i hlt (hall _ (List.getElem_mem hlt))
          left
          refine ⟨_, by simp (decide := true) only [hget, hok, hlt2, hwrap, op_app, hap, hwr, ld47, ix24, bol, runC_seq, runC_ops, preps, guardG, List.map_cons, List.map_nil, runG_always, runG_nil, ro_move, ro_load, ro_binOp, ro_indexAddr, ro_builtin, ro_asTmp, op_move, op_assign, op_bin, evalA, constA, ofVal, doneE, putA, thenG_norm, ifA_tt, app_nil, bin_lss, bin_add, andThen_norm, List.getElem?_toArray, Option.bind_some, Option.map_some, decide_true, isLeaf, oneE, partA, if_true, fg6, fs6, fg8, fs8, fg25, fg26, fg27, fs27, fg28, fs28, fg29, fs29, fg30, fs30, fg31, fs31, fg32, fs32, fg33, fs33, fg34, fs34, runC_block, runC_cond, blockA_norm, op_indexAddr, asNat_cast, sliceIxA, loadN, runC_skip]; rfl, ls.length - (i + 1), by omega, ?_⟩
          rw [reset_cur]
          simp only [List.map_cons, List.map_nil, forget_cur]
          exact ⟨i + 1, _, _, _, _, _, _, _, _, _, _, _, _, _, _, _, _, _, _, _, _, _, _, _, _, _, _, _, _, _, rfl, by omega, rfl⟩
        · have hlt2 : ¬ ((i : Int) < (ls.length : Int)) := by omega
          have hie : i = ls.length := by omega
          right
          refine ⟨_, by simp (decide := true) only [hlt2, bol, runC_seq, runC_ops, preps, guardG, List.map_cons, List.map_nil, runG_always, runG_nil, ro_binOp, op_bin, evalA, doneE, putA, thenG_norm, ifA_ff, app_nil, bin_lss, andThen_norm, andThen_exit, List.getElem?_toArray, Option.bind_some, Option.map_some, decide_false, fg26, fg27, fg28, fs28, runC_cond, runC_exit]; rfl, by simp, ?_⟩
          subst hie
          exact ⟨_, _, _, _, _, _, _, _, _, _, _, _, _, _, _, _, _, _, _, _, _, _, _, _, _, _, _, _, _, _, rfl⟩
      · rintro o ⟨j27, j1, j4, j5, j7, j8, j9, j10, j11, j12, j13, j14, j15, j16, j17, j18, j19, j20, j21, j22, j23, j24, j28, j29, j30, j31, j32, j33, j34, j35, rfl⟩
        simp (decide := true) only [runC_seq, runC_ops, preps, guardG, List.map_cons, List.map_nil, runG_always, runG_nil, ro_move, ro_asTmp, op_move, op_assign, evalA, doneE, putA, thenG_norm, app_nil, andThen_norm, runC_ret, endF_ret, res_nil, res_tmp, tup_one, List.getElem?_toArray, Option.bind_some, Option.map_some, fg2, fs2, fg6, fg35, fs35, blockA_eq]
  refine ⟨_, _, key, ?_⟩
  unfold cur hpc
  by_cases h : ls.flatten.length = 0
  · rw [if_pos h, if_pos h, List.length_eq_zero_iff.1 h]; rfl
  · rw [if_neg h, if_neg h]
    simp only [List.take_length, Nat.sub_self, List.replicate_zero, List.append_nil]
    exact seal_whole (RM.run_arr_mk rfl)
end Go.Proofs.Ytnbagejbdkhooaa.Lib
end

section
set_option linter.unusedVariables false
/- Models of the functions of this seat, and that they hold (printed by chain.py). -/
set_option maxRecDepth 100000
set_option maxHeartbeats 0
namespace Go.Proofs.Ytnbagejbdkhooaa
open Go.PI
def row50 : TyRow := ⟨.struct #[], 9, 64, none, false⟩
noncomputable def C : Ctx where
  P := Try.prog
  kind := fun f => match Go.PI.lookS [(40, ()), (41, ()), (42, ()), (55, ()), (56, ()), (57, ()), (59, ())] f with | some _ => .imp | none => .pure
  intr := fun g => Go.PI.lookS [(37, cloneI row50), (30, concatI row50)] g
  acc := fun _ _ => true
theorem libOk : Lib.C0.Ok where
  name := by
    have h : (Try.prog.funcs.toList.all fun fn => !(fn.name == "runtime.NumGoroutine") || !fn.body.isSome) = true := by kernel_rfl
    intro f fn hf hb
    have hm : fn ∈ Try.prog.funcs.toList := by
      have := Array.mem_of_getElem? hf
      exact Array.mem_toList_iff.2 this
    have := List.all_eq_true.1 h fn hm
    rw [hb] at this
    simpa using this
  intr := fun g h al r hg => by simp [Lib.C0] at hg
  intrFn := fun g h hg => by simp [Lib.C0] at hg
  intrO := fun g h al r hpf hg => by simp [Lib.C0] at hg
  intrOFn := fun g h hg => by simp [Lib.C0] at hg
theorem Cok : C.Ok where
  name := libOk.name
  intrO := fun g h al r hpf hg => by cases hg
  intrOFn := fun g h hg => by cases hg
  intr := by
    intro g h al r hg hr Ec w vs hI ha
    by_cases h37 : g = 37
    · subst h37
      have : h = cloneI row50 := by
        have : C.intr 37 = some (cloneI row50) := rfl
        rw [hg] at this; exact Option.some.inj this
      subst this
      exact clone_ok (r := row50) libOk ⟨_, Lib.clone_nil⟩ (fun xs cap h1 h2 h3 => Lib.clone_slx xs cap (by rw [Lib.ag50, Lib.sz50]; exact h1) (by rw [Lib.by50]; exact h2) h3) hr Ec w vs hI ha
    · by_cases h30 : g = 30
      · subst h30
        have : h = concatI row50 := by
          have : C.intr 30 = some (concatI row50) := rfl
          rw [hg] at this; exact Option.some.inj this
        subst this
        exact concat_ok (r := row50) libOk (fun ls h0 h1 h2 h3 => Lib.concat_run ls h0 (by rw [Lib.ag50, Lib.sz50]; exact h1) (by rw [Lib.by50]; exact h2) h3) hr Ec w vs hI ha
      · exfalso
        have : C.intr g = none := by
          have e1 : Nat.beq 37 g = false := by
            cases hq : Nat.beq 37 g
            · rfl
            · exact absurd (Nat.eq_of_beq_eq_true hq).symm h37
          have e2 : Nat.beq 30 g = false := by
            cases hq : Nat.beq 30 g
            · rfl
            · exact absurd (Nat.eq_of_beq_eq_true hq).symm h30
          show Go.PI.lookS [(37, cloneI row50), (30, concatI row50)] g = none
          simp only [lookS, e1, e2]
        rw [this] at hg; simp at hg
  intrFn := by
    intro g h hg
    by_cases h37 : g = 37
    · subst h37; exact ⟨_, Lib.fn37, rfl⟩
    · by_cases h30 : g = 30
      · subst h30; exact ⟨_, Lib.fn30, rfl⟩
      · exfalso
        have : C.intr g = none := by
          have e1 : Nat.beq 37 g = false := by
            cases hq : Nat.beq 37 g
            · rfl
            · exact absurd (Nat.eq_of_beq_eq_true hq).symm h37
          have e2 : Nat.beq 30 g = false := by
            cases hq : Nat.beq 30 g
            · rfl
            · exact absurd (Nat.eq_of_beq_eq_true hq).symm h30
          show Go.PI.lookS [(37, cloneI row50), (30, concatI row50)] g = none
          simp only [lookS, e1, e2]
        rw [this] at hg; simp at hg
theorem ok50 (x : Queued) (a : AV) (h : rp49 x a) : okElem row50.isAgg row50.size a = true := (ek49 x a h).1
def _root_.Go.Models.slices_Clone (s : List Queued) : Option (List Queued) := cloneM 64 s
def _root_.Go.Models.slices_Concat (s : List (List Queued)) : Option (List Queued) := concatM 64 s
def _root_.Go.Models.law18_head : Option Bool := some true
theorem hand37 : SumOk C T 37 ⟨[47], [47], fun x => Go.Models.slices_Clone x⟩ :=
  sumOk_hand (C := C) (T := T) (g := 37) (t := 47) (u := 47) (I := cloneI row50) (F := Go.Models.slices_Clone) rfl rfl fun x a y h hy => by
    obtain ⟨l, h1, h2⟩ := clone_ans (r := row50) (rpe := rp49) (x := x) (y := y) ok50 h hy
    exact ⟨l, h1, .inl ⟨l, rfl, h2⟩⟩
theorem hand30 : SumOk C T 30 ⟨[24], [47], fun x => Go.Models.slices_Concat x⟩ :=
  sumOk_hand (C := C) (T := T) (g := 30) (t := 24) (u := 47) (I := concatI row50) (F := Go.Models.slices_Concat) rfl rfl fun x a y h hy => by
    obtain ⟨l, h1, h2⟩ := concat_ans (r := row50) (rpe := rp49) (x := x) (y := y) ok50 h hy
    exact ⟨l, h1, .inl ⟨l, rfl, h2⟩⟩
noncomputable def headV : Option (Res × AHeap) → Option Bool
  | some (.val (.lit (.bool b)), _) => some b
  | _ => none
theorem head_ev : headV (evF C 300 9 [] []) = some true := by kernel_rfl
theorem head_run : ∃ hpf, runF C 9 [] [] = some (.val (.lit (.bool true)), hpf) := by
  have h := head_ev
  unfold headV at h
  split at h
  · rename_i b hpf hq
    simp only [Option.some.injEq] at h
    subst h
    exact ⟨hpf, (lim_some (growF C 9 [] [])).2 ⟨300, hq⟩⟩
  · simp at h
theorem hand9 : SumOk C T 9 ⟨[], [4], fun x => Go.Models.law18_head⟩ where
  kind := rfl
  ans := by
    intro x al y hx hy
    match al, hx with
    | _ :: _, hx => exact False.elim hx
    | [], _ =>
      obtain ⟨hpf, h⟩ := head_run
      have hy' : some true = some (y : Bool) := hy
      have hy2 : (y : Bool) = true := (Option.some.inj hy').symm
      subst hy2
      refine ⟨.lit (.bool true), hpf, [.lit (.bool true)], ?_, rfl, rfl, ?_⟩
      · have hi : C.intr 9 = none := rfl
        simp only [ansC, hi, h]
      · exact ⟨rfl, trivial⟩

theorem flat30 (x : Packet) (a : AV) (h : rp29 x a) : flat a = true := by
  unfold rp29 at h
  subst h
  rfl
noncomputable def _root_.Go.Models.law18_packets (l : List Queued) : Option ((List Packet)) :=
  (loopM (fun ((i1, l2) : Int × List Packet) =>
      bif decide (i1 < (↑l.length : Int)) then
        bif decide (0 ≤ i1) then
          (l[i1.toNat]?).bind fun q3 =>
          bif decide ((l2.length + 1) * 56 ≤ 2 ^ 44) && decide (l2.length + 1 ≤ 2 ^ 44) then
            some (Sum.inl (IntKind.i64.wrap (i1 + 1), l2 ++ [q3.P]))
          else
            none
        else
          none
      else
        some (Sum.inr (i1, l2))) (0, [])).bind fun (i4, l5) =>
  some l5
noncomputable def hints21 : List (Nat × Nat × Hint) := [(21, 3, ⟨[(3, .own 8 1), (8, .val 3)], [9, 10, 11, 5, 12, 13, 14, 15, 16, 17], [(1, .list 30)], [⟨some 0, [(3, .own 8 1), (8, .val 3)], []⟩]⟩)]
theorem ownNil : ∀ (g : FuncId) (σ : OSumm T), lookS ([] : List (Nat × OSumm T)) g = some σ → OwnOk C T g σ := fun g σ h => by simp [lookS] at h
theorem own21 : OwnOk C T 21 ⟨[47], 30, 8, fun x => Go.Models.law18_packets x⟩ :=
  ownOk_of (S := mkS C T memo (Go.PI.look2 hints21) (fun _ _ => false) [] 0 []) (σ := ⟨[47], 30, 8, fun x => Go.Models.law18_packets x⟩) (mkS_zero TOk QOk ZOk ownNil) (k := 400) rfl flat30 (fun x => by kernel_rfl)
noncomputable def owns : List (Nat × OSumm T) := [(21, ⟨[47], 30, 8, fun x => Go.Models.law18_packets x⟩)]
theorem ownsOk : ∀ (g : FuncId) (σ : OSumm T), lookS owns g = some σ → OwnOk C T g σ := by
  intro g σ h
  have := lookS_mem h
  simp only [owns, List.mem_singleton, Prod.mk.injEq] at this
  obtain ⟨rfl, rfl⟩ := this
  exact own21
end Go.Proofs.Ytnbagejbdkhooaa
open Go Go.PI Go.Proofs Go.Proofs.Ytnbagejbdkhooaa
noncomputable def Go.Models.law18_empty (room : Int) : Option Queue :=
  some (Queue.mk (Policy.mk 1 0 0 0) room [[]] (A8.mk 0 0 0 0 0 0 0 0) 0)
noncomputable def Go.Models.tail_inside (n : Int) (low : Int) (high : Int) : Option Bool :=
  bif decide (low ≤ n) then
    some (decide (n ≤ high))
  else
    some false
noncomputable def Go.Models.tail_packet (p : Packet) : Option Bool :=
  (Models.tail_inside p.Flow 0 7).bind fun b1 =>
  bif b1 then
    (Models.tail_inside p.Sub 0 3).bind fun b2 =>
    bif b2 then
      (Models.tail_inside p.Number 0 1000000000).bind fun b3 =>
      bif b3 then
        (Models.tail_inside p.Data 0 1000000000).bind fun b4 =>
        bif b4 then
          (Models.tail_inside p.Size 1 10000).bind fun b5 =>
          bif b5 then
            (Models.tail_inside p.Sent 0 10000000).bind fun b6 =>
            some b6
          else
            some false
        else
          some false
      else
        some false
    else
      some false
  else
    some false
noncomputable def Go.Models.tail_line_waiting (l : Queue) : Option ((List Queued)) :=
  (l.Lists[Int.toNat 0]?).bind fun l1 =>
  some l1
noncomputable def Go.Models.tail_line_ordered (l : Queue) : Option Bool :=
  (Models.tail_line_waiting l).bind fun l1 =>
  (loopM (fun ((i2, i3, i4) : Int × Int × Int) =>
      bif decide (i3 < (↑l1.length : Int)) then
        bif decide (0 ≤ i3) then
          (l1[i3.toNat]?).bind fun q5 =>
          bif decide (q5.At < i4) then
            some (Sum.inr (Sum.inl (i3, q5.At)))
          else
            bif decide (l.Vars.e7 < q5.At) then
              some (Sum.inr (Sum.inl (i3, q5.At)))
            else
              (Models.tail_packet q5.P).bind fun b6 =>
              bif !b6 then
                some (Sum.inr (Sum.inl (i3, q5.At)))
              else
                some (Sum.inl (i2, IntKind.i64.wrap (i3 + 1), q5.At))
        else
          none
      else
        some (Sum.inr (Sum.inr (i2, i3, i4)))) (0, 0, 0)).bind fun w7 =>
  Sum.elim (fun (i8, i9) =>
    some (!decide (0 ≤ i8))) (fun (i10, i11, i12) =>
    some true) w7
noncomputable def Go.Models.tail_line_valid (l : Queue) : Option Bool :=
  bif l.Policy.Kind == 1 && (l.Policy.A == 0 && (l.Policy.B == 0 && l.Policy.C == 0)) then
    bif l.Vars.e0 == 0 && (l.Vars.e1 == 0 && (l.Vars.e2 == 0 && (l.Vars.e3 == 0 && (l.Vars.e4 == 0 && (l.Vars.e5 == 0 && (l.Vars.e6 == 0 && 0 == 0)))))) then
      bif l.Seed == 0 then
        (Models.tail_inside l.Vars.e7 0 10000000).bind fun b1 =>
        bif b1 then
          (Models.tail_inside l.Room 1 500).bind fun b2 =>
          bif b2 then
            bif (↑l.Lists.length : Int) == 1 then
              (Models.tail_line_waiting l).bind fun l3 =>
              bif decide ((↑l3.length : Int) ≤ l.Room) then
                (Models.tail_line_ordered l).bind fun b4 =>
                some b4
              else
                some false
            else
              some false
          else
            some false
        else
          some false
      else
        some false
    else
      some false
  else
    some false
noncomputable def Go.Models.tail_line_at (l : Queue) (now : Int) : Option Int :=
  (Models.tail_line_valid l).bind fun b1 =>
  bif !b1 then
    some 1
  else
    (Models.tail_inside now 0 10000000).bind fun b2 =>
    bif !b2 then
      some 1
    else
      bif decide (now < l.Vars.e7) then
        some 18
      else
        some 0
noncomputable def Go.Models.tail_line_with (l : Queue) (list : List Queued) (now : Int) : Option Queue :=
  (Models.slices_Clone list).bind fun l1 =>
  some (Queue.mk l.Policy l.Room [l1] (A8.mk l.Vars.e0 l.Vars.e1 l.Vars.e2 l.Vars.e3 l.Vars.e4 l.Vars.e5 l.Vars.e6 now) l.Seed)
noncomputable def Go.Models.tail_Put (q : Queue) (p : Packet) (now : Int) : Option (Queue × (List Packet) × Int) :=
  (Models.tail_packet p).bind fun b1 =>
  bif !b1 then
    some (Queue.mk (Policy.mk 0 0 0 0) 0 [] (A8.mk 0 0 0 0 0 0 0 0) 0, [], 1)
  else
    (Models.tail_line_at q now).bind fun i2 =>
    bif !i2 == 0 then
      some (Queue.mk (Policy.mk 0 0 0 0) 0 [] (A8.mk 0 0 0 0 0 0 0 0) 0, [], i2)
    else
      (Models.tail_line_waiting q).bind fun l3 =>
      bif (↑l3.length : Int) == q.Room then
        (Models.tail_line_waiting q).bind fun l4 =>
        (Models.tail_line_with q l4 now).bind fun q5 =>
        some (q5, [p], 0)
      else
        (Models.tail_line_waiting q).bind fun l6 =>
        (Models.slices_Concat [l6, [Queued.mk p now]]).bind fun l7 =>
        (Models.tail_line_with q l7 now).bind fun q8 =>
        some (q8, [], 0)
noncomputable def Go.Models.tail_Take (q : Queue) (now : Int) : Option (Queue × Packet × Bool × (List Packet) × Int) :=
  (Models.tail_line_at q now).bind fun i1 =>
  bif !i1 == 0 then
    some (Queue.mk (Policy.mk 0 0 0 0) 0 [] (A8.mk 0 0 0 0 0 0 0 0) 0, Packet.mk 0 0 0 0 0 0 false false, false, [], i1)
  else
    (Models.tail_line_waiting q).bind fun l2 =>
    bif (↑l2.length : Int) == 0 then
      (Models.tail_line_with q [] now).bind fun q3 =>
      some (q3, Packet.mk 0 0 0 0 0 0 false false, false, [], 0)
    else
      (Models.tail_line_waiting q).bind fun l4 =>
      bif decide (Int.toNat 1 ≤ l4.length) then
        (Models.tail_line_with q (List.drop (Int.toNat 1) l4) now).bind fun q5 =>
        (Models.tail_line_waiting q).bind fun l6 =>
        (l6[Int.toNat 0]?).bind fun q7 =>
        some (q5, q7.P, true, [], 0)
      else
        none
noncomputable def Go.Models.ref18_Packets (a : List Packet) (b : List Packet) : Option Bool :=
  bif !(↑a.length : Int) == (↑b.length : Int) then
    some false
  else
    (loopM (fun ((b1, i2) : Bool × Int) =>
        bif decide (i2 < (↑a.length : Int)) then
          bif decide (0 ≤ i2) then
            (a[i2.toNat]?).bind fun q3 =>
            bif decide (0 ≤ i2) then
              (b[i2.toNat]?).bind fun q4 =>
              bif !(q3.Flow == q4.Flow && (q3.Sub == q4.Sub && (q3.Number == q4.Number && (q3.Data == q4.Data && (q3.Size == q4.Size && (q3.Sent == q4.Sent && (q3.Able == q4.Able && q3.Marked == q4.Marked))))))) then
                some (Sum.inr (Sum.inl false))
              else
                some (Sum.inl (b1, IntKind.i64.wrap (i2 + 1)))
            else
              none
          else
            none
        else
          some (Sum.inr (Sum.inr (b1, i2)))) (false, 0)).bind fun w5 =>
    Sum.elim (fun b6 =>
      some b6) (fun (b7, i8) =>
      some true) w5
noncomputable def Go.Models.tail_Valid (q : Queue) : Option Bool :=
  (Models.tail_line_valid q).bind fun b1 =>
  some b1
noncomputable def Go.Models.ref18_Few (q : Queue) : Option Bool :=
  (loopM (fun ((b1, i2) : Bool × Int) =>
      bif decide (i2 < (↑q.Lists.length : Int)) then
        bif decide (0 ≤ i2) then
          (q.Lists[i2.toNat]?).bind fun l3 =>
          bif decide (600 < (↑l3.length : Int)) then
            some (Sum.inr (Sum.inl false))
          else
            some (Sum.inl (b1, IntKind.i64.wrap (i2 + 1)))
        else
          none
      else
        some (Sum.inr (Sum.inr (b1, i2)))) (false, 0)).bind fun w4 =>
  Sum.elim (fun b5 =>
    some b5) (fun (b6, i7) =>
    some (decide ((↑q.Lists.length : Int) ≤ 20))) w4
noncomputable def Go.Models.ref18_number (n : Int) : Option Bool :=
  bif decide (0 ≤ n) then
    some (decide (n ≤ 1000000000))
  else
    some false
noncomputable def Go.Models.ref18_Time (n : Int) : Option Bool :=
  bif decide (0 ≤ n) then
    some (decide (n ≤ 10000000))
  else
    some false
noncomputable def Go.Models.ref18_Packet (p : Packet) : Option Bool :=
  bif decide (0 ≤ p.Flow) then
    bif decide (p.Flow < 8) then
      bif decide (0 ≤ p.Sub) then
        bif decide (p.Sub < 4) then
          (Models.ref18_number p.Number).bind fun b1 =>
          bif b1 then
            (Models.ref18_number p.Data).bind fun b2 =>
            bif b2 then
              bif decide (1 ≤ p.Size) then
                bif decide (p.Size ≤ 10000) then
                  (Models.ref18_Time p.Sent).bind fun b3 =>
                  some b3
                else
                  some false
              else
                some false
            else
              some false
          else
            some false
        else
          some false
      else
        some false
    else
      some false
  else
    some false
noncomputable def Go.Models.ref18_List (l : List Queued) (last : Int) : Option Bool :=
  (loopM (fun ((b1, i2) : Bool × Int) =>
      bif decide (i2 < (↑l.length : Int)) then
        bif decide (0 ≤ i2) then
          (l[i2.toNat]?).bind fun q3 =>
          (Models.ref18_Packet q3.P).bind fun b4 =>
          bif !b4 then
            some (Sum.inr (Sum.inl false))
          else
            bif decide (0 ≤ i2) then
              (l[i2.toNat]?).bind fun q5 =>
              (Models.ref18_Time q5.At).bind fun b6 =>
              bif !b6 then
                some (Sum.inr (Sum.inl false))
              else
                bif decide (0 ≤ i2) then
                  (l[i2.toNat]?).bind fun q7 =>
                  bif decide (last < q7.At) then
                    some (Sum.inr (Sum.inl false))
                  else
                    bif decide (0 < i2) then
                      bif decide (0 ≤ i2) then
                        (l[i2.toNat]?).bind fun q8 =>
                        bif decide (0 ≤ IntKind.i64.wrap (i2 - 1)) then
                          (l[(IntKind.i64.wrap (i2 - 1)).toNat]?).bind fun q9 =>
                          bif decide (q8.At < q9.At) then
                            some (Sum.inr (Sum.inl false))
                          else
                            some (Sum.inl (b1, IntKind.i64.wrap (i2 + 1)))
                        else
                          none
                      else
                        none
                    else
                      some (Sum.inl (b1, IntKind.i64.wrap (i2 + 1)))
                else
                  none
            else
              none
        else
          none
      else
        some (Sum.inr (Sum.inr (b1, i2)))) (false, 0)).bind fun w10 =>
  Sum.elim (fun b11 =>
    some b11) (fun (b12, i13) =>
    some true) w10
noncomputable def Go.Models.ref18_Valid (q : Queue) : Option Bool :=
  bif !(q.Policy.Kind == 1 && (q.Policy.A == 0 && (q.Policy.B == 0 && q.Policy.C == 0))) then
    some false
  else
    bif decide (q.Room < 1) then
      some false
    else
      bif decide (500 < q.Room) then
        some false
      else
        bif !(↑q.Lists.length : Int) == 1 then
          some false
        else
          bif !q.Seed == 0 then
            some false
          else
            (Models.ref18_Time q.Vars.e7).bind fun b1 =>
            bif !b1 then
              some false
            else
              (loopM (fun ((b2, i3) : Bool × Int) =>
                  bif decide (i3 < 7) then
                    bif decide (0 ≤ i3) then
                      bif decide (i3.toNat = 0) then
                        bif !q.Vars.e0 == 0 then
                          some (Sum.inr (Sum.inl false))
                        else
                          some (Sum.inl (b2, IntKind.i64.wrap (i3 + 1)))
                      else
                        bif decide (i3.toNat = 0 + 1) then
                          bif !q.Vars.e1 == 0 then
                            some (Sum.inr (Sum.inl false))
                          else
                            some (Sum.inl (b2, IntKind.i64.wrap (i3 + 1)))
                        else
                          bif decide (i3.toNat = 0 + 1 + 1) then
                            bif !q.Vars.e2 == 0 then
                              some (Sum.inr (Sum.inl false))
                            else
                              some (Sum.inl (b2, IntKind.i64.wrap (i3 + 1)))
                          else
                            bif decide (i3.toNat = 0 + 1 + 1 + 1) then
                              bif !q.Vars.e3 == 0 then
                                some (Sum.inr (Sum.inl false))
                              else
                                some (Sum.inl (b2, IntKind.i64.wrap (i3 + 1)))
                            else
                              bif decide (i3.toNat = 0 + 1 + 1 + 1 + 1) then
                                bif !q.Vars.e4 == 0 then
                                  some (Sum.inr (Sum.inl false))
                                else
                                  some (Sum.inl (b2, IntKind.i64.wrap (i3 + 1)))
                              else
                                bif decide (i3.toNat = 0 + 1 + 1 + 1 + 1 + 1) then
                                  bif !q.Vars.e5 == 0 then
                                    some (Sum.inr (Sum.inl false))
                                  else
                                    some (Sum.inl (b2, IntKind.i64.wrap (i3 + 1)))
                                else
                                  bif decide (i3.toNat = 0 + 1 + 1 + 1 + 1 + 1 + 1) then
                                    bif !q.Vars.e6 == 0 then
                                      some (Sum.inr (Sum.inl false))
                                    else
                                      some (Sum.inl (b2, IntKind.i64.wrap (i3 + 1)))
                                  else
                                    bif decide (i3.toNat = 0 + 1 + 1 + 1 + 1 + 1 + 1 + 1) then
                                      bif !q.Vars.e7 == 0 then
                                        some (Sum.inr (Sum.inl false))
                                      else
                                        some (Sum.inl (b2, IntKind.i64.wrap (i3 + 1)))
                                    else
                                      none
                    else
                      none
                  else
                    some (Sum.inr (Sum.inr (b2, i3)))) (false, 0)).bind fun w4 =>
              Sum.elim (fun b5 =>
                some b5) (fun (b6, i7) =>
                (q.Lists[Int.toNat 0]?).bind fun l8 =>
                bif decide ((↑l8.length : Int) ≤ q.Room) then
                  (q.Lists[Int.toNat 0]?).bind fun l9 =>
                  (Models.ref18_List l9 q.Vars.e7).bind fun b10 =>
                  some b10
                else
                  some false) w4
noncomputable def Go.Models.ref18_refused (q : Queue) (now : Int) : Option Int :=
  (Models.ref18_Valid q).bind fun b1 =>
  bif !b1 then
    some 1
  else
    (Models.ref18_Time now).bind fun b2 =>
    bif !b2 then
      some 1
    else
      bif decide (now < q.Vars.e7) then
        some 18
      else
        some 0
noncomputable def Go.Models.ref18_With (q : Queue) (lists : List (List Queued)) (now : Int) : Option Queue :=
  some (Queue.mk q.Policy q.Room lists (A8.mk q.Vars.e0 q.Vars.e1 q.Vars.e2 q.Vars.e3 q.Vars.e4 q.Vars.e5 q.Vars.e6 now) q.Seed)
noncomputable def Go.Models.ref18_Put (q : Queue) (p : Packet) (now : Int) : Option (Queue × (List Packet) × Int) :=
  (Models.ref18_Packet p).bind fun b1 =>
  bif !b1 then
    some (Queue.mk (Policy.mk 0 0 0 0) 0 [] (A8.mk 0 0 0 0 0 0 0 0) 0, [], 1)
  else
    (Models.ref18_refused q now).bind fun i2 =>
    bif !i2 == 0 then
      some (Queue.mk (Policy.mk 0 0 0 0) 0 [] (A8.mk 0 0 0 0 0 0 0 0) 0, [], i2)
    else
      (q.Lists[Int.toNat 0]?).bind fun l3 =>
      bif decide ((0 + l3.length) * 64 ≤ 2 ^ 44) && decide (0 + l3.length ≤ 2 ^ 44) then
        bif (↑([] ++ l3).length : Int) == q.Room then
          (Models.ref18_With q [[] ++ l3] now).bind fun q4 =>
          some (q4, [p], 0)
        else
          bif decide ((([] ++ l3).length + 1) * 64 ≤ 2 ^ 44) && decide (([] ++ l3).length + 1 ≤ 2 ^ 44) then
            (Models.ref18_With q [[] ++ l3 ++ [Queued.mk p now]] now).bind fun q5 =>
            some (q5, [], 0)
          else
            none
      else
        none
noncomputable def Go.Models.ref18_Take (q : Queue) (now : Int) : Option (Queue × Packet × Bool × (List Packet) × Int) :=
  (Models.ref18_refused q now).bind fun i1 =>
  bif !i1 == 0 then
    some (Queue.mk (Policy.mk 0 0 0 0) 0 [] (A8.mk 0 0 0 0 0 0 0 0) 0, Packet.mk 0 0 0 0 0 0 false false, false, [], i1)
  else
    (q.Lists[Int.toNat 0]?).bind fun l2 =>
    bif (↑l2.length : Int) == 0 then
      (Models.ref18_With q [[]] now).bind fun q3 =>
      some (q3, Packet.mk 0 0 0 0 0 0 false false, false, [], 0)
    else
      (q.Lists[Int.toNat 0]?).bind fun l4 =>
      bif decide (Int.toNat 1 ≤ l4.length) then
        bif decide ((0 + (List.drop (Int.toNat 1) l4).length) * 64 ≤ 2 ^ 44) && decide (0 + (List.drop (Int.toNat 1) l4).length ≤ 2 ^ 44) then
          (Models.ref18_With q [[] ++ List.drop (Int.toNat 1) l4] now).bind fun q5 =>
          (q.Lists[Int.toNat 0]?).bind fun l6 =>
          (l6[Int.toNat 0]?).bind fun q7 =>
          some (q5, q7.P, true, [], 0)
        else
          none
      else
        none
noncomputable def Go.Models.ref18_SameList (a : List Queued) (b : List Queued) : Option Bool :=
  bif !(↑a.length : Int) == (↑b.length : Int) then
    some false
  else
    (loopM (fun ((b1, i2) : Bool × Int) =>
        bif decide (i2 < (↑a.length : Int)) then
          bif decide (0 ≤ i2) then
            (a[i2.toNat]?).bind fun q3 =>
            bif decide (0 ≤ i2) then
              (b[i2.toNat]?).bind fun q4 =>
              bif !(q3.P.Flow == q4.P.Flow && (q3.P.Sub == q4.P.Sub && (q3.P.Number == q4.P.Number && (q3.P.Data == q4.P.Data && (q3.P.Size == q4.P.Size && (q3.P.Sent == q4.P.Sent && (q3.P.Able == q4.P.Able && (q3.P.Marked == q4.P.Marked && q3.At == q4.At)))))))) then
                some (Sum.inr (Sum.inl false))
              else
                some (Sum.inl (b1, IntKind.i64.wrap (i2 + 1)))
            else
              none
          else
            none
        else
          some (Sum.inr (Sum.inr (b1, i2)))) (false, 0)).bind fun w5 =>
    Sum.elim (fun b6 =>
      some b6) (fun (b7, i8) =>
      some true) w5
noncomputable def Go.Models.ref18_Same (a : Queue) (b : Queue) : Option Bool :=
  bif !(a.Policy.Kind == b.Policy.Kind && (a.Policy.A == b.Policy.A && (a.Policy.B == b.Policy.B && a.Policy.C == b.Policy.C))) then
    some false
  else
    bif !a.Room == b.Room then
      some false
    else
      bif !(a.Vars.e0 == b.Vars.e0 && (a.Vars.e1 == b.Vars.e1 && (a.Vars.e2 == b.Vars.e2 && (a.Vars.e3 == b.Vars.e3 && (a.Vars.e4 == b.Vars.e4 && (a.Vars.e5 == b.Vars.e5 && (a.Vars.e6 == b.Vars.e6 && a.Vars.e7 == b.Vars.e7))))))) then
        some false
      else
        bif !a.Seed == b.Seed then
          some false
        else
          bif !(↑a.Lists.length : Int) == (↑b.Lists.length : Int) then
            some false
          else
            (loopM (fun ((b1, i2) : Bool × Int) =>
                bif decide (i2 < (↑a.Lists.length : Int)) then
                  bif decide (0 ≤ i2) then
                    (a.Lists[i2.toNat]?).bind fun l3 =>
                    bif decide (0 ≤ i2) then
                      (b.Lists[i2.toNat]?).bind fun l4 =>
                      (Models.ref18_SameList l3 l4).bind fun b5 =>
                      bif !b5 then
                        some (Sum.inr (Sum.inl false))
                      else
                        some (Sum.inl (b1, IntKind.i64.wrap (i2 + 1)))
                    else
                      none
                  else
                    none
                else
                  some (Sum.inr (Sum.inr (b1, i2)))) (false, 0)).bind fun w6 =>
            Sum.elim (fun b7 =>
              some b7) (fun (b8, i9) =>
              some true) w6
noncomputable def Go.Models.law18_TailMatchesReference (q : Queue) (p : Packet) (now : Int) : Option Bool :=
  (Models.law18_head).bind fun b1 =>
  (Models.ref18_Few q).bind fun b2 =>
  bif !b2 then
    some b1
  else
    (Models.tail_Put q p now).bind fun (q3, l4, i5) =>
    (Models.ref18_Put q p now).bind fun (q6, l7, i8) =>
    (Models.tail_Take q now).bind fun (q9, q10, b11, l12, i13) =>
    (Models.ref18_Take q now).bind fun (q14, q15, b16, l17, i18) =>
    bif b1 then
      (Models.tail_Valid q).bind fun b19 =>
      (Models.ref18_Valid q).bind fun b20 =>
      bif b19 == b20 then
        (Models.ref18_Same q3 q6).bind fun b21 =>
        bif b21 then
          (Models.ref18_Packets l4 l7).bind fun b22 =>
          bif b22 then
            bif i5 == i8 then
              (Models.ref18_Same q9 q14).bind fun b23 =>
              bif b23 then
                bif q10.Flow == q15.Flow && (q10.Sub == q15.Sub && (q10.Number == q15.Number && (q10.Data == q15.Data && (q10.Size == q15.Size && (q10.Sent == q15.Sent && (q10.Able == q15.Able && q10.Marked == q15.Marked)))))) then
                  bif b11 == b16 then
                    (Models.ref18_Packets l12 l17).bind fun b24 =>
                    bif b24 then
                      some (i13 == i18)
                    else
                      some false
                  else
                    some false
                else
                  some false
              else
                some false
            else
              some false
          else
            some false
        else
          some false
      else
        some false
    else
      some false
noncomputable def Go.Models.law18_TailRoom (q : Queue) (p : Packet) (now : Int) : Option Bool :=
  (Models.law18_head).bind fun b1 =>
  (Models.ref18_Few q).bind fun b2 =>
  bif !b2 then
    some b1
  else
    (Models.tail_Put q p now).bind fun (q3, l4, i5) =>
    bif !i5 == 0 then
      bif b1 then
        bif (↑l4.length : Int) == 0 then
          (Models.ref18_Same q3 (Queue.mk (Policy.mk 0 0 0 0) 0 [] (A8.mk 0 0 0 0 0 0 0 0) 0)).bind fun b6 =>
          some b6
        else
          some false
      else
        some false
    else
      bif !(↑q.Lists.length : Int) == 1 then
        some false
      else
        bif !(↑q3.Lists.length : Int) == 1 then
          some false
        else
          (q.Lists[Int.toNat 0]?).bind fun l7 =>
          (q3.Lists[Int.toNat 0]?).bind fun l8 =>
          bif (↑l7.length : Int) == q.Room then
            bif b1 then
              (Models.ref18_Packets l4 [p]).bind fun b9 =>
              bif b9 then
                (Models.ref18_SameList l7 l8).bind fun b10 =>
                some b10
              else
                some false
            else
              some false
          else
            bif b1 then
              bif (↑l4.length : Int) == 0 then
                bif (↑l8.length : Int) == IntKind.i64.wrap ((↑l7.length : Int) + 1) then
                  bif decide ((↑l8.length : Int) ≤ q.Room) then
                    bif decide ((↑l7.length : Int).toNat ≤ l8.length) then
                      (Models.ref18_SameList (List.take (↑l7.length : Int).toNat l8) l7).bind fun b11 =>
                      bif b11 then
                        (l8[(↑l7.length : Int).toNat]?).bind fun q12 =>
                        some (q12.P.Flow == p.Flow && (q12.P.Sub == p.Sub && (q12.P.Number == p.Number && (q12.P.Data == p.Data && (q12.P.Size == p.Size && (q12.P.Sent == p.Sent && (q12.P.Able == p.Able && (q12.P.Marked == p.Marked && q12.At == now))))))))
                      else
                        some false
                    else
                      none
                  else
                    some false
                else
                  some false
              else
                some false
            else
              some false
noncomputable def Go.Models.law18_TailWorks (q : Queue) (now : Int) : Option Bool :=
  (Models.law18_head).bind fun b1 =>
  (Models.ref18_Few q).bind fun b2 =>
  bif !b2 then
    some b1
  else
    (Models.tail_Take q now).bind fun (q3, q4, b5, l6, i7) =>
    bif !i7 == 0 then
      bif b1 then
        bif !b5 then
          bif q4.Flow == 0 && (q4.Sub == 0 && (q4.Number == 0 && (q4.Data == 0 && (q4.Size == 0 && (q4.Sent == 0 && (q4.Able == false && q4.Marked == false)))))) then
            some ((↑l6.length : Int) == 0)
          else
            some false
        else
          some false
      else
        some false
    else
      bif !(↑q.Lists.length : Int) == 1 then
        some false
      else
        bif !(↑q3.Lists.length : Int) == 1 then
          some false
        else
          bif !(↑l6.length : Int) == 0 then
            some false
          else
            (q.Lists[Int.toNat 0]?).bind fun l8 =>
            bif !b5 == decide (0 < (↑l8.length : Int)) then
              some false
            else
              bif !b5 then
                bif b1 then
                  bif q4.Flow == 0 && (q4.Sub == 0 && (q4.Number == 0 && (q4.Data == 0 && (q4.Size == 0 && (q4.Sent == 0 && (q4.Able == false && q4.Marked == false)))))) then
                    (q3.Lists[Int.toNat 0]?).bind fun l9 =>
                    some ((↑l9.length : Int) == 0)
                  else
                    some false
                else
                  some false
              else
                bif b1 then
                  (q.Lists[Int.toNat 0]?).bind fun l10 =>
                  (l10[Int.toNat 0]?).bind fun q11 =>
                  bif q4.Flow == q11.P.Flow && (q4.Sub == q11.P.Sub && (q4.Number == q11.P.Number && (q4.Data == q11.P.Data && (q4.Size == q11.P.Size && (q4.Sent == q11.P.Sent && (q4.Able == q11.P.Able && q4.Marked == q11.P.Marked)))))) then
                    (q3.Lists[Int.toNat 0]?).bind fun l12 =>
                    (q.Lists[Int.toNat 0]?).bind fun l13 =>
                    bif decide (Int.toNat 1 ≤ l13.length) then
                      (Models.ref18_SameList l12 (List.drop (Int.toNat 1) l13)).bind fun b14 =>
                      some b14
                    else
                      none
                  else
                    some false
                else
                  some false
noncomputable def Go.Models.law18_TailTimes (q : Queue) (p : Packet) (now : Int) : Option Bool :=
  (Models.law18_head).bind fun b1 =>
  (Models.ref18_Few q).bind fun b2 =>
  bif !b2 then
    some b1
  else
    (Models.ref18_Valid q).bind fun b3 =>
    bif !b3 then
      some b1
    else
      (Models.ref18_Packet p).bind fun b4 =>
      bif !b4 then
        some b1
      else
        (Models.ref18_Time now).bind fun b5 =>
        bif !b5 then
          some b1
        else
          (Models.tail_Put q p now).bind fun (q6, l7, i8) =>
          (Models.tail_Take q now).bind fun (q9, q10, b11, l12, i13) =>
          bif decide (now < q.Vars.e7) then
            bif b1 then
              bif i8 == 18 then
                some (i13 == 18)
              else
                some false
            else
              some false
          else
            bif b1 then
              bif i8 == 0 then
                bif i13 == 0 then
                  bif q6.Vars.e0 == q.Vars.e0 && (q6.Vars.e1 == q.Vars.e1 && (q6.Vars.e2 == q.Vars.e2 && (q6.Vars.e3 == q.Vars.e3 && (q6.Vars.e4 == q.Vars.e4 && (q6.Vars.e5 == q.Vars.e5 && (q6.Vars.e6 == q.Vars.e6 && q6.Vars.e7 == now)))))) then
                    bif q9.Vars.e0 == q.Vars.e0 && (q9.Vars.e1 == q.Vars.e1 && (q9.Vars.e2 == q.Vars.e2 && (q9.Vars.e3 == q.Vars.e3 && (q9.Vars.e4 == q.Vars.e4 && (q9.Vars.e5 == q.Vars.e5 && (q9.Vars.e6 == q.Vars.e6 && q9.Vars.e7 == now)))))) then
                      bif q6.Policy.Kind == q.Policy.Kind && (q6.Policy.A == q.Policy.A && (q6.Policy.B == q.Policy.B && q6.Policy.C == q.Policy.C)) then
                        bif q9.Policy.Kind == q.Policy.Kind && (q9.Policy.A == q.Policy.A && (q9.Policy.B == q.Policy.B && q9.Policy.C == q.Policy.C)) then
                          bif q6.Room == q.Room then
                            bif q9.Room == q.Room then
                              bif q6.Seed == 0 then
                                some (q9.Seed == 0)
                              else
                                some false
                            else
                              some false
                          else
                            some false
                        else
                          some false
                      else
                        some false
                    else
                      some false
                  else
                    some false
                else
                  some false
              else
                some false
            else
              some false
noncomputable def Go.Models.law18_played (q : Queue) (steps : List Ytnbagejbdkhooaa.Step) : Option (Queue × (List Packet) × (List Packet) × (List Packet) × Bool) :=
  (loopM (fun ((i1, b2, i3, l4, l5, l6, l7, l8, l9, i10, i11, i12, i13, i14, l15, i16, i17, i18, i19, i20, i21, i22, i23, i24, i25, i26, i27, i28, i29, l30, i31, i32, i33, i34, i35, i36, i37, i38, i39) : Int × Bool × Int × List Packet × List Packet × List Packet × List Packet × List Packet × List Packet × Int × Int × Int × Int × Int × List (List Queued) × Int × Int × Int × Int × Int × Int × Int × Int × Int × Int × Int × Int × Int × Int × List (List Queued) × Int × Int × Int × Int × Int × Int × Int × Int × Int) =>
      bif decide (i3 < (↑steps.length : Int)) then
        bif decide (0 ≤ i3) then
          (steps[i3.toNat]?).bind fun q40 =>
          bif q40.Take then
            (Models.tail_Take (Queue.mk (Policy.mk i25 i26 i27 i28) i29 l30 (A8.mk i31 i32 i33 i34 i35 i36 i37 i38) i39) (if IntKind.i64.wrap (i1 + IntKind.i64.wrap q40.Wait) < 10000000 then IntKind.i64.wrap (i1 + IntKind.i64.wrap q40.Wait) else 10000000)).bind fun (q41, q42, b43, l44, i45) =>
            bif !i45 == 0 then
              some (Sum.inr (Sum.inl (false, l4, l5, l6, l7, l8, l9, i25, i26, i27, i28, i29, l30, i31, i32, i33, i34, i35, i36, i37, i38, i39, i25, i26, i27, i28, i29, l30, i31, i32, i33, i34, i35, i36, i37, i38, i39, [], [], [])))
            else
              bif !(↑l44.length : Int) == 0 then
                some (Sum.inr (Sum.inl (false, l4, l5, l6, l7, l8, l9, i25, i26, i27, i28, i29, l30, i31, i32, i33, i34, i35, i36, i37, i38, i39, i25, i26, i27, i28, i29, l30, i31, i32, i33, i34, i35, i36, i37, i38, i39, [], [], [])))
              else
                bif b43 then
                  bif decide ((l7.length + 1) * 56 ≤ 2 ^ 44) && decide (l7.length + 1 ≤ 2 ^ 44) then
                    some (Sum.inl (if IntKind.i64.wrap (i1 + IntKind.i64.wrap q40.Wait) < 10000000 then IntKind.i64.wrap (i1 + IntKind.i64.wrap q40.Wait) else 10000000, b2, IntKind.i64.wrap (i3 + 1), l4, l5, l6, l7 ++ [q42], l8, l9, i10, i11, i12, i13, i14, l15, i16, i17, i18, i19, i20, i21, i22, i23, i24, q41.Policy.Kind, q41.Policy.A, q41.Policy.B, q41.Policy.C, q41.Room, q41.Lists, q41.Vars.e0, q41.Vars.e1, q41.Vars.e2, q41.Vars.e3, q41.Vars.e4, q41.Vars.e5, q41.Vars.e6, q41.Vars.e7, q41.Seed))
                  else
                    none
                else
                  some (Sum.inl (if IntKind.i64.wrap (i1 + IntKind.i64.wrap q40.Wait) < 10000000 then IntKind.i64.wrap (i1 + IntKind.i64.wrap q40.Wait) else 10000000, b2, IntKind.i64.wrap (i3 + 1), l4, l5, l6, l7, l8, l9, i10, i11, i12, i13, i14, l15, i16, i17, i18, i19, i20, i21, i22, i23, i24, q41.Policy.Kind, q41.Policy.A, q41.Policy.B, q41.Policy.C, q41.Room, q41.Lists, q41.Vars.e0, q41.Vars.e1, q41.Vars.e2, q41.Vars.e3, q41.Vars.e4, q41.Vars.e5, q41.Vars.e6, q41.Vars.e7, q41.Seed))
          else
            (Models.ref18_Packet (Packet.mk q40.P.Flow q40.P.Sub (IntKind.i64.wrap (500000000 + i3)) q40.P.Data q40.P.Size q40.P.Sent q40.P.Able q40.P.Marked)).bind fun b46 =>
            bif !b46 then
              some (Sum.inl (if IntKind.i64.wrap (i1 + IntKind.i64.wrap q40.Wait) < 10000000 then IntKind.i64.wrap (i1 + IntKind.i64.wrap q40.Wait) else 10000000, b2, IntKind.i64.wrap (i3 + 1), l4, l5, l6, l7, l8, l9, i10, i11, i12, i13, i14, l15, i16, i17, i18, i19, i20, i21, i22, i23, i24, i25, i26, i27, i28, i29, l30, i31, i32, i33, i34, i35, i36, i37, i38, i39))
            else
              (Models.tail_Put (Queue.mk (Policy.mk i25 i26 i27 i28) i29 l30 (A8.mk i31 i32 i33 i34 i35 i36 i37 i38) i39) (Packet.mk q40.P.Flow q40.P.Sub (IntKind.i64.wrap (500000000 + i3)) q40.P.Data q40.P.Size q40.P.Sent q40.P.Able q40.P.Marked) (if IntKind.i64.wrap (i1 + IntKind.i64.wrap q40.Wait) < 10000000 then IntKind.i64.wrap (i1 + IntKind.i64.wrap q40.Wait) else 10000000)).bind fun (q47, l48, i49) =>
              bif !i49 == 0 then
                some (Sum.inr (Sum.inr (Sum.inl (false, l4, l5, l6, l7, l8, l9, i25, i26, i27, i28, i29, l30, i31, i32, i33, i34, i35, i36, i37, i38, i39, i25, i26, i27, i28, i29, l30, i31, i32, i33, i34, i35, i36, i37, i38, i39, [], [], []))))
              else
                bif !(↑q47.Lists.length : Int) == 1 then
                  some (Sum.inr (Sum.inr (Sum.inl (false, l4, l5, l6, l7, l8, l9, i25, i26, i27, i28, i29, l30, i31, i32, i33, i34, i35, i36, i37, i38, i39, i25, i26, i27, i28, i29, l30, i31, i32, i33, i34, i35, i36, i37, i38, i39, [], [], []))))
                else
                  bif decide ((l8.length + 1) * 56 ≤ 2 ^ 44) && decide (l8.length + 1 ≤ 2 ^ 44) then
                    bif decide ((l9.length + l48.length) * 56 ≤ 2 ^ 44) && decide (l9.length + l48.length ≤ 2 ^ 44) then
                      some (Sum.inl (if IntKind.i64.wrap (i1 + IntKind.i64.wrap q40.Wait) < 10000000 then IntKind.i64.wrap (i1 + IntKind.i64.wrap q40.Wait) else 10000000, b2, IntKind.i64.wrap (i3 + 1), l4, l5, l6, l7, l8 ++ [Packet.mk q40.P.Flow q40.P.Sub (IntKind.i64.wrap (500000000 + i3)) q40.P.Data q40.P.Size q40.P.Sent q40.P.Able q40.P.Marked], l9 ++ l48, i10, i11, i12, i13, i14, l15, i16, i17, i18, i19, i20, i21, i22, i23, i24, q47.Policy.Kind, q47.Policy.A, q47.Policy.B, q47.Policy.C, q47.Room, q47.Lists, q47.Vars.e0, q47.Vars.e1, q47.Vars.e2, q47.Vars.e3, q47.Vars.e4, q47.Vars.e5, q47.Vars.e6, q47.Vars.e7, q47.Seed))
                    else
                      none
                  else
                    none
        else
          none
      else
        some (Sum.inr (Sum.inr (Sum.inr (i1, b2, i3, l4, l5, l6, l7, l8, l9, i10, i11, i12, i13, i14, l15, i16, i17, i18, i19, i20, i21, i22, i23, i24, i25, i26, i27, i28, i29, l30, i31, i32, i33, i34, i35, i36, i37, i38, i39))))) (q.Vars.e7, false, 0, [], [], [], [], [], [], 0, 0, 0, 0, 0, [], 0, 0, 0, 0, 0, 0, 0, 0, 0, q.Policy.Kind, q.Policy.A, q.Policy.B, q.Policy.C, q.Room, q.Lists, q.Vars.e0, q.Vars.e1, q.Vars.e2, q.Vars.e3, q.Vars.e4, q.Vars.e5, q.Vars.e6, q.Vars.e7, q.Seed)).bind fun w50 =>
  Sum.elim (fun (b51, l52, l53, l54, l55, l56, l57, i58, i59, i60, i61, i62, l63, i64, i65, i66, i67, i68, i69, i70, i71, i72, i73, i74, i75, i76, i77, l78, i79, i80, i81, i82, i83, i84, i85, i86, i87, l88, l89, l90) =>
    some (Queue.mk (Policy.mk i58 i59 i60 i61) i62 l63 (A8.mk i64 i65 i66 i67 i68 i69 i70 i71) i72, l88, l89, l90, b51)) (fun w91 =>
    Sum.elim (fun (b92, l93, l94, l95, l96, l97, l98, i99, i100, i101, i102, i103, l104, i105, i106, i107, i108, i109, i110, i111, i112, i113, i114, i115, i116, i117, i118, l119, i120, i121, i122, i123, i124, i125, i126, i127, i128, l129, l130, l131) =>
      some (Queue.mk (Policy.mk i99 i100 i101 i102) i103 l104 (A8.mk i105 i106 i107 i108 i109 i110 i111 i112) i113, l129, l130, l131, b92)) (fun (i132, b133, i134, l135, l136, l137, l138, l139, l140, i141, i142, i143, i144, i145, l146, i147, i148, i149, i150, i151, i152, i153, i154, i155, i156, i157, i158, i159, i160, l161, i162, i163, i164, i165, i166, i167, i168, i169, i170) =>
      some (Queue.mk (Policy.mk i156 i157 i158 i159) i160 l161 (A8.mk i162 i163 i164 i165 i166 i167 i168 i169) i170, l139, l138, l140, true)) w91) w50
noncomputable def Go.Models.law18_TailMoreRoom (room : Int) (more : Int) (steps : List Ytnbagejbdkhooaa.Step) : Option Bool :=
  (Models.law18_head).bind fun b1 =>
  bif decide (200 < (↑steps.length : Int)) then
    some b1
  else
    (Models.law18_empty (IntKind.i64.wrap (1 + (IntKind.i64.wrap room).tmod 100))).bind fun q2 =>
    (Models.law18_empty (IntKind.i64.wrap (q2.Room + (IntKind.i64.wrap more).tmod 100))).bind fun q3 =>
    (Models.law18_played q2 steps).bind fun (q4, l5, l6, l7, b8) =>
    (Models.law18_played q3 steps).bind fun (q9, l10, l11, l12, b13) =>
    bif !b8 then
      some false
    else
      bif !b13 then
        some false
      else
        bif !(↑q4.Lists.length : Int) == 1 then
          some false
        else
          bif !(↑q9.Lists.length : Int) == 1 then
            some false
          else
            bif b1 then
              (Models.ref18_Packets l5 l10).bind fun b14 =>
              bif b14 then
                bif decide ((↑l12.length : Int) ≤ (↑l7.length : Int)) then
                  bif decide ((↑l6.length : Int) ≤ (↑l11.length : Int)) then
                    (q9.Lists[Int.toNat 0]?).bind fun l15 =>
                    (q4.Lists[Int.toNat 0]?).bind fun l16 =>
                    some (decide (IntKind.i64.wrap ((↑l16.length : Int) + (↑l6.length : Int)) ≤ IntKind.i64.wrap ((↑l15.length : Int) + (↑l11.length : Int))))
                  else
                    some false
                else
                  some false
              else
                some false
            else
              some false
noncomputable def Go.Models.law18_small (q : Queue) (steps : List Ytnbagejbdkhooaa.Step) : Option Bool :=
  bif decide ((↑steps.length : Int) ≤ 200) then
    (Models.ref18_Few q).bind fun b1 =>
    bif b1 then
      (Models.ref18_Valid q).bind fun b2 =>
      some b2
    else
      some false
  else
    some false
noncomputable def Go.Models.law18_TailConserves (q : Queue) (steps : List Ytnbagejbdkhooaa.Step) : Option Bool :=
  (Models.law18_head).bind fun b1 =>
  (Models.law18_small q steps).bind fun b2 =>
  bif !b2 then
    some b1
  else
    (Models.law18_played q steps).bind fun (q3, l4, l5, l6, b7) =>
    bif !b7 then
      some false
    else
      bif !(↑q3.Lists.length : Int) == 1 then
        some false
      else
        (q.Lists[Int.toNat 0]?).bind fun l8 =>
        (Models.law18_packets l8).bind fun l9 =>
        bif decide ((l9.length + l4.length) * 56 ≤ 2 ^ 44) && decide (l9.length + l4.length ≤ 2 ^ 44) then
          bif l5.isEmpty then
            (q3.Lists[Int.toNat 0]?).bind fun l10 =>
            (Models.law18_packets l10).bind fun l11 =>
            bif l11.isEmpty then
              (loopM (fun ((i12, i13, b14, i15) : Int × Int × Bool × Int) =>
                  bif decide (i15 < (↑(l9 ++ l4).length : Int)) then
                    bif decide (0 ≤ i15) then
                      bif decide (i15.toNat < (l9 ++ l4).length) then
                        ((l9 ++ l4)[0 + i15.toNat]?).bind fun q16 =>
                        (q.Lists[Int.toNat 0]?).bind fun l17 =>
                        bif decide ((↑l17.length : Int) ≤ i15) then
                          bif decide (i12 < (↑l6.length : Int)) then
                            bif decide (0 ≤ i12) then
                              (l6[i12.toNat]?).bind fun q18 =>
                              bif q18.Flow == q16.Flow && (q18.Sub == q16.Sub && (q18.Number == q16.Number && (q18.Data == q16.Data && (q18.Size == q16.Size && (q18.Sent == q16.Sent && (q18.Able == q16.Able && q18.Marked == q16.Marked)))))) then
                                some (Sum.inl (IntKind.i64.wrap (i12 + 1), i13, b14, IntKind.i64.wrap (i15 + 1)))
                              else
                                bif decide (i13 < (↑0 : Int)) then
                                  bif decide (0 ≤ i13) then
                                    none
                                  else
                                    none
                                else
                                  some (Sum.inr (Sum.inl false))
                            else
                              none
                          else
                            bif decide (i13 < (↑0 : Int)) then
                              bif decide (0 ≤ i13) then
                                none
                              else
                                none
                            else
                              some (Sum.inr (Sum.inl false))
                        else
                          bif decide (i13 < (↑0 : Int)) then
                            bif decide (0 ≤ i13) then
                              none
                            else
                              none
                          else
                            some (Sum.inr (Sum.inl false))
                      else
                        none
                    else
                      none
                  else
                    some (Sum.inr (Sum.inr (i12, i13, b14, i15)))) (0, 0, false, 0)).bind fun w19 =>
              Sum.elim (fun b20 =>
                some b20) (fun (i21, i22, b23, i24) =>
                bif b1 then
                  bif IntKind.i64.wrap (i22 + i21) == (↑(l9 ++ l4).length : Int) then
                    bif IntKind.i64.wrap ((↑0 : Int) + (↑l6.length : Int)) == (↑(l9 ++ l4).length : Int) then
                      (Models.tail_Valid q3).bind fun b25 =>
                      some b25
                    else
                      some false
                  else
                    some false
                else
                  some false) w19
            else
              bif decide (0 + l11.length ≤ 0) then
                none
              else
                bif decide ((0 + l11.length) * 56 ≤ 2 ^ 44) && decide (0 + l11.length ≤ 2 ^ 44) then
                  (loopM (fun ((i26, i27, b28, i29) : Int × Int × Bool × Int) =>
                      bif decide (i29 < (↑(l9 ++ l4).length : Int)) then
                        bif decide (0 ≤ i29) then
                          bif decide (i29.toNat < (l9 ++ l4).length) then
                            ((l9 ++ l4)[0 + i29.toNat]?).bind fun q30 =>
                            (q.Lists[Int.toNat 0]?).bind fun l31 =>
                            bif decide ((↑l31.length : Int) ≤ i29) then
                              bif decide (i26 < (↑l6.length : Int)) then
                                bif decide (0 ≤ i26) then
                                  (l6[i26.toNat]?).bind fun q32 =>
                                  bif q32.Flow == q30.Flow && (q32.Sub == q30.Sub && (q32.Number == q30.Number && (q32.Data == q30.Data && (q32.Size == q30.Size && (q32.Sent == q30.Sent && (q32.Able == q30.Able && q32.Marked == q30.Marked)))))) then
                                    some (Sum.inl (IntKind.i64.wrap (i26 + 1), i27, b28, IntKind.i64.wrap (i29 + 1)))
                                  else
                                    bif decide (i27 < (↑l11.length : Int)) then
                                      bif decide (0 ≤ i27) then
                                        bif decide (i27.toNat < l11.length) then
                                          (l11[0 + i27.toNat]?).bind fun q33 =>
                                          bif q33.Flow == q30.Flow && (q33.Sub == q30.Sub && (q33.Number == q30.Number && (q33.Data == q30.Data && (q33.Size == q30.Size && (q33.Sent == q30.Sent && (q33.Able == q30.Able && q33.Marked == q30.Marked)))))) then
                                            some (Sum.inl (i26, IntKind.i64.wrap (i27 + 1), b28, IntKind.i64.wrap (i29 + 1)))
                                          else
                                            some (Sum.inr (Sum.inl false))
                                        else
                                          none
                                      else
                                        none
                                    else
                                      some (Sum.inr (Sum.inl false))
                                else
                                  none
                              else
                                bif decide (i27 < (↑l11.length : Int)) then
                                  bif decide (0 ≤ i27) then
                                    bif decide (i27.toNat < l11.length) then
                                      (l11[0 + i27.toNat]?).bind fun q34 =>
                                      bif q34.Flow == q30.Flow && (q34.Sub == q30.Sub && (q34.Number == q30.Number && (q34.Data == q30.Data && (q34.Size == q30.Size && (q34.Sent == q30.Sent && (q34.Able == q30.Able && q34.Marked == q30.Marked)))))) then
                                        some (Sum.inl (i26, IntKind.i64.wrap (i27 + 1), b28, IntKind.i64.wrap (i29 + 1)))
                                      else
                                        some (Sum.inr (Sum.inl false))
                                    else
                                      none
                                  else
                                    none
                                else
                                  some (Sum.inr (Sum.inl false))
                            else
                              bif decide (i27 < (↑l11.length : Int)) then
                                bif decide (0 ≤ i27) then
                                  bif decide (i27.toNat < l11.length) then
                                    (l11[0 + i27.toNat]?).bind fun q35 =>
                                    bif q35.Flow == q30.Flow && (q35.Sub == q30.Sub && (q35.Number == q30.Number && (q35.Data == q30.Data && (q35.Size == q30.Size && (q35.Sent == q30.Sent && (q35.Able == q30.Able && q35.Marked == q30.Marked)))))) then
                                      some (Sum.inl (i26, IntKind.i64.wrap (i27 + 1), b28, IntKind.i64.wrap (i29 + 1)))
                                    else
                                      some (Sum.inr (Sum.inl false))
                                  else
                                    none
                                else
                                  none
                              else
                                some (Sum.inr (Sum.inl false))
                          else
                            none
                        else
                          none
                      else
                        some (Sum.inr (Sum.inr (i26, i27, b28, i29)))) (0, 0, false, 0)).bind fun w36 =>
                  Sum.elim (fun b37 =>
                    some b37) (fun (i38, i39, b40, i41) =>
                    bif b1 then
                      bif IntKind.i64.wrap (i39 + i38) == (↑(l9 ++ l4).length : Int) then
                        bif IntKind.i64.wrap ((↑l11.length : Int) + (↑l6.length : Int)) == (↑(l9 ++ l4).length : Int) then
                          (Models.tail_Valid q3).bind fun b42 =>
                          some b42
                        else
                          some false
                      else
                        some false
                    else
                      some false) w36
                else
                  none
          else
            bif decide (0 + l5.length ≤ 0) then
              none
            else
              bif decide ((0 + l5.length) * 56 ≤ 2 ^ 44) && decide (0 + l5.length ≤ 2 ^ 44) then
                (q3.Lists[Int.toNat 0]?).bind fun l43 =>
                (Models.law18_packets l43).bind fun l44 =>
                bif decide ((l5.length + l44.length) * 56 ≤ 2 ^ 44) && decide (l5.length + l44.length ≤ 2 ^ 44) then
                  (loopM (fun ((i45, i46, b47, i48) : Int × Int × Bool × Int) =>
                      bif decide (i48 < (↑(l9 ++ l4).length : Int)) then
                        bif decide (0 ≤ i48) then
                          bif decide (i48.toNat < (l9 ++ l4).length) then
                            ((l9 ++ l4)[0 + i48.toNat]?).bind fun q49 =>
                            (q.Lists[Int.toNat 0]?).bind fun l50 =>
                            bif decide ((↑l50.length : Int) ≤ i48) then
                              bif decide (i45 < (↑l6.length : Int)) then
                                bif decide (0 ≤ i45) then
                                  (l6[i45.toNat]?).bind fun q51 =>
                                  bif q51.Flow == q49.Flow && (q51.Sub == q49.Sub && (q51.Number == q49.Number && (q51.Data == q49.Data && (q51.Size == q49.Size && (q51.Sent == q49.Sent && (q51.Able == q49.Able && q51.Marked == q49.Marked)))))) then
                                    some (Sum.inl (IntKind.i64.wrap (i45 + 1), i46, b47, IntKind.i64.wrap (i48 + 1)))
                                  else
                                    bif decide (i46 < (↑(l5 ++ l44).length : Int)) then
                                      bif decide (0 ≤ i46) then
                                        bif decide (i46.toNat < (l5 ++ l44).length) then
                                          ((l5 ++ l44)[0 + i46.toNat]?).bind fun q52 =>
                                          bif q52.Flow == q49.Flow && (q52.Sub == q49.Sub && (q52.Number == q49.Number && (q52.Data == q49.Data && (q52.Size == q49.Size && (q52.Sent == q49.Sent && (q52.Able == q49.Able && q52.Marked == q49.Marked)))))) then
                                            some (Sum.inl (i45, IntKind.i64.wrap (i46 + 1), b47, IntKind.i64.wrap (i48 + 1)))
                                          else
                                            some (Sum.inr (Sum.inl false))
                                        else
                                          none
                                      else
                                        none
                                    else
                                      some (Sum.inr (Sum.inl false))
                                else
                                  none
                              else
                                bif decide (i46 < (↑(l5 ++ l44).length : Int)) then
                                  bif decide (0 ≤ i46) then
                                    bif decide (i46.toNat < (l5 ++ l44).length) then
                                      ((l5 ++ l44)[0 + i46.toNat]?).bind fun q53 =>
                                      bif q53.Flow == q49.Flow && (q53.Sub == q49.Sub && (q53.Number == q49.Number && (q53.Data == q49.Data && (q53.Size == q49.Size && (q53.Sent == q49.Sent && (q53.Able == q49.Able && q53.Marked == q49.Marked)))))) then
                                        some (Sum.inl (i45, IntKind.i64.wrap (i46 + 1), b47, IntKind.i64.wrap (i48 + 1)))
                                      else
                                        some (Sum.inr (Sum.inl false))
                                    else
                                      none
                                  else
                                    none
                                else
                                  some (Sum.inr (Sum.inl false))
                            else
                              bif decide (i46 < (↑(l5 ++ l44).length : Int)) then
                                bif decide (0 ≤ i46) then
                                  bif decide (i46.toNat < (l5 ++ l44).length) then
                                    ((l5 ++ l44)[0 + i46.toNat]?).bind fun q54 =>
                                    bif q54.Flow == q49.Flow && (q54.Sub == q49.Sub && (q54.Number == q49.Number && (q54.Data == q49.Data && (q54.Size == q49.Size && (q54.Sent == q49.Sent && (q54.Able == q49.Able && q54.Marked == q49.Marked)))))) then
                                      some (Sum.inl (i45, IntKind.i64.wrap (i46 + 1), b47, IntKind.i64.wrap (i48 + 1)))
                                    else
                                      some (Sum.inr (Sum.inl false))
                                  else
                                    none
                                else
                                  none
                              else
                                some (Sum.inr (Sum.inl false))
                          else
                            none
                        else
                          none
                      else
                        some (Sum.inr (Sum.inr (i45, i46, b47, i48)))) (0, 0, false, 0)).bind fun w55 =>
                  Sum.elim (fun b56 =>
                    some b56) (fun (i57, i58, b59, i60) =>
                    bif b1 then
                      bif IntKind.i64.wrap (i58 + i57) == (↑(l9 ++ l4).length : Int) then
                        bif IntKind.i64.wrap ((↑(l5 ++ l44).length : Int) + (↑l6.length : Int)) == (↑(l9 ++ l4).length : Int) then
                          (Models.tail_Valid q3).bind fun b61 =>
                          some b61
                        else
                          some false
                      else
                        some false
                    else
                      some false) w55
                else
                  none
              else
                none
        else
          none
namespace Go.Proofs.Ytnbagejbdkhooaa
noncomputable def hints : List (Nat × Nat × Hint) := [(42, 2, ⟨[(4, .val 3), (8, .val 3)], [9, 10, 5, 11, 12, 13, 14, 15, 16, 17, 18], [(1, .one (.val 2))], [⟨none, [(4, .val 3)], []⟩, ⟨some 0, [(4, .val 3), (8, .val 3)], []⟩]⟩), (18, 4, ⟨[(4, .val 4), (5, .val 3)], [11, 12, 13, 14, 17, 18, 19, 20, 21, 22, 23, 24, 25, 15, 16], [], [⟨none, [(4, .val 4)], []⟩, ⟨some 0, [(4, .val 4), (5, .val 3)], []⟩]⟩), (10, 2, ⟨[(2, .val 4), (3, .val 3)], [4, 5, 6, 7, 8, 11, 12, 13, 14, 15, 16, 17, 9, 10], [], [⟨none, [(2, .val 4)], []⟩, ⟨some 0, [(2, .val 4), (3, .val 3)], []⟩]⟩), (34, 2, ⟨[(4, .val 4), (5, .val 3)], [6, 7, 8, 9, 12, 13, 14, 15, 16, 17, 18, 19, 20, 21, 22, 23, 24, 25, 26, 27, 28, 29, 30, 31, 32, 33, 34, 35, 36, 37, 38, 39, 40, 41, 42, 43, 44, 45, 46, 47, 48, 49, 50, 51, 52, 53, 54, 10, 11], [], [⟨none, [(4, .val 4)], []⟩, ⟨some 0, [(4, .val 4), (5, .val 3)], []⟩]⟩), (16, 4, ⟨[(2, .val 4), (3, .val 3)], [36, 37, 40, 41, 42, 43, 44, 38, 39], [], [⟨none, [(2, .val 4)], []⟩, ⟨some 0, [(2, .val 4), (3, .val 3)], []⟩]⟩), (22, 4, ⟨[(4, .val 4), (5, .val 3)], [11, 12, 13, 14, 17, 18, 19, 20, 21, 22, 23, 24, 25, 15, 16], [], [⟨none, [(4, .val 4)], []⟩, ⟨some 0, [(4, .val 4), (5, .val 3)], []⟩]⟩), (17, 4, ⟨[(4, .val 4), (5, .val 3)], [41, 42, 43, 44, 45, 48, 49, 50, 51, 52, 53, 54, 55, 56, 57, 58, 59, 46, 47], [], [⟨none, [(4, .val 4)], []⟩, ⟨some 0, [(4, .val 4), (5, .val 3)], []⟩]⟩), (20, 4, ⟨[(12, .val 3), (5, .own 8 2), (6, .own 8 3), (7, .own 8 4), (8, .val 4), (10, .own 8 6), (9, .own 8 5), (11, .own 8 7), (28, .val 3)], [29, 30, 31, 32, 14, 13, 33, 34, 35, 36, 37, 38, 39, 40, 42, 43, 44, 41, 45, 46, 47, 48, 49, 15, 16, 17, 18, 19, 50, 51, 52, 53, 54, 55, 56, 57, 58, 59, 60, 61, 62, 63, 64, 65, 66, 67, 68, 69, 70, 71, 73, 74, 75, 76, 77, 72, 78, 79, 80, 20, 21, 22, 81, 82, 83, 84, 85, 86, 87, 88, 89, 90, 91, 92, 93, 94, 95, 96, 97, 98, 99], [(2, .list 30), (3, .list 30), (4, .list 30), (6, .list 30), (5, .list 30), (7, .list 30), (1, .agg [.val 2, .val 2, .val 2, .val 2, .val 2, .val 24, .val 2, .val 2, .val 2, .val 2, .val 2, .val 2, .val 2, .val 2, .val 26]), (0, .agg [.val 2, .val 2, .val 2, .val 2, .val 2, .val 24, .val 2, .val 2, .val 2, .val 2, .val 2, .val 2, .val 2, .val 2, .val 26])], [⟨none, [(5, .own 8 11), (6, .own 8 12), (7, .own 8 13), (8, .val 4)], [.junk, .junk, .junk, .list true false 30, .list true false 30, .list true false 30]⟩, ⟨none, [(5, .own 8 10), (6, .own 8 11), (7, .own 8 12), (8, .val 4)], [.junk, .junk, .list true false 30, .list true false 30, .list true false 30]⟩, ⟨some 0, [(12, .val 3), (5, .own 8 2), (6, .own 8 3), (7, .own 8 4), (8, .val 4), (10, .own 8 6), (9, .own 8 5), (11, .own 8 7), (28, .val 3)], []⟩]⟩), (4, 11, ⟨[(14, .val 3), (13, .val 3), (4, .val 4), (58, .val 3)], [59, 60, 61, 62, 16, 15, 64, 65, 66, 67, 68, 69, 70, 71, 72, 73, 74, 75, 76, 77, 78, 79, 80, 81, 82, 83, 84, 63, 85, 86, 88, 89, 90, 91, 92, 93, 94, 95, 96, 97, 98, 99, 87, 100, 101, 102], [], [⟨none, [(4, .val 4)], [.junk]⟩, ⟨some 0, [(14, .val 3), (13, .val 3), (4, .val 4), (58, .val 3)], []⟩]⟩)]
def roll : FuncId → Nat → Bool := fun _ _ => false
noncomputable def sums : List (Nat × Summ T) := [(25, ⟨[3], [28], fun x => Go.Models.law18_empty x⟩),
  (36, ⟨[3, 3, 3], [4], fun x => Go.Models.tail_inside x.1 x.2.1 x.2.2⟩),
  (26, ⟨[30], [4], fun x => Go.Models.tail_packet x⟩),
  (28, ⟨[57], [47], fun x => Go.Models.tail_line_waiting x⟩),
  (39, ⟨[57], [4], fun x => Go.Models.tail_line_ordered x⟩),
  (33, ⟨[57], [4], fun x => Go.Models.tail_line_valid x⟩),
  (27, ⟨[57, 3], [34], fun x => Go.Models.tail_line_at x.1 x.2⟩),
  (37, ⟨[47], [47], fun x => Go.Models.slices_Clone x⟩),
  (29, ⟨[57, 47, 3], [28], fun x => Go.Models.tail_line_with x.1 x.2.1 x.2.2⟩),
  (30, ⟨[24], [47], fun x => Go.Models.slices_Concat x⟩),
  (11, ⟨[28, 30, 3], [28, 33, 34], fun x => Go.Models.tail_Put x.1 x.2.1 x.2.2⟩),
  (13, ⟨[28, 3], [28, 30, 4, 33, 34], fun x => Go.Models.tail_Take x.1 x.2⟩),
  (18, ⟨[33, 33], [4], fun x => Go.Models.ref18_Packets x.1 x.2⟩),
  (15, ⟨[28], [4], fun x => Go.Models.tail_Valid x⟩),
  (9, ⟨[], [4], fun x => Go.Models.law18_head ⟩),
  (10, ⟨[28], [4], fun x => Go.Models.ref18_Few x⟩),
  (35, ⟨[3], [4], fun x => Go.Models.ref18_number x⟩),
  (24, ⟨[3], [4], fun x => Go.Models.ref18_Time x⟩),
  (23, ⟨[30], [4], fun x => Go.Models.ref18_Packet x⟩),
  (34, ⟨[47, 3], [4], fun x => Go.Models.ref18_List x.1 x.2⟩),
  (16, ⟨[28], [4], fun x => Go.Models.ref18_Valid x⟩),
  (31, ⟨[28, 3], [34], fun x => Go.Models.ref18_refused x.1 x.2⟩),
  (32, ⟨[28, 24, 3], [28], fun x => Go.Models.ref18_With x.1 x.2.1 x.2.2⟩),
  (12, ⟨[28, 30, 3], [28, 33, 34], fun x => Go.Models.ref18_Put x.1 x.2.1 x.2.2⟩),
  (14, ⟨[28, 3], [28, 30, 4, 33, 34], fun x => Go.Models.ref18_Take x.1 x.2⟩),
  (22, ⟨[47, 47], [4], fun x => Go.Models.ref18_SameList x.1 x.2⟩),
  (17, ⟨[28, 28], [4], fun x => Go.Models.ref18_Same x.1 x.2⟩),
  (3, ⟨[28, 30, 3], [4], fun x => Go.Models.law18_TailMatchesReference x.1 x.2.1 x.2.2⟩),
  (5, ⟨[28, 30, 3], [4], fun x => Go.Models.law18_TailRoom x.1 x.2.1 x.2.2⟩),
  (6, ⟨[28, 3], [4], fun x => Go.Models.law18_TailWorks x.1 x.2⟩),
  (7, ⟨[28, 30, 3], [4], fun x => Go.Models.law18_TailTimes x.1 x.2.1 x.2.2⟩),
  (20, ⟨[28, 42], [28, 33, 33, 33, 4], fun x => Go.Models.law18_played x.1 x.2⟩),
  (8, ⟨[5, 5, 42], [4], fun x => Go.Models.law18_TailMoreRoom x.1 x.2.1 x.2.2⟩),
  (19, ⟨[28, 42], [4], fun x => Go.Models.law18_small x.1 x.2⟩),
  (4, ⟨[28, 42], [4], fun x => Go.Models.law18_TailConserves x.1 x.2⟩)]
noncomputable abbrev S (n : Nat) : SCtx := mkS C T memo (Go.PI.look2 hints) roll sums n owns
theorem s0 : (S 0).Ok := mkS_zero TOk QOk ZOk ownsOk
theorem s1 : (S 1).Ok := mkS_next s0 (f := 25) rfl rfl rfl 400 (fun x => by kernel_rfl)
theorem s2 : (S 2).Ok := mkS_next s1 (f := 36) rfl rfl rfl 400 (fun x => by kernel_rfl)
theorem s3 : (S 3).Ok := mkS_next s2 (f := 26) rfl rfl rfl 400 (fun x => by kernel_rfl)
theorem s4 : (S 4).Ok := mkS_next s3 (f := 28) rfl rfl rfl 400 (fun x => by kernel_rfl)
theorem s5 : (S 5).Ok := mkS_next s4 (f := 39) rfl rfl rfl 400 (fun x => by kernel_rfl)
theorem s6 : (S 6).Ok := mkS_next s5 (f := 33) rfl rfl rfl 400 (fun x => by kernel_rfl)
theorem s7 : (S 7).Ok := mkS_next s6 (f := 27) rfl rfl rfl 400 (fun x => by kernel_rfl)
theorem s8 : (S 8).Ok := mkS_step s7 (f := 37) rfl hand37
theorem s9 : (S 9).Ok := mkS_next s8 (f := 29) rfl rfl rfl 400 (fun x => by kernel_rfl)
theorem s10 : (S 10).Ok := mkS_step s9 (f := 30) rfl hand30
theorem s11 : (S 11).Ok := mkS_next s10 (f := 11) rfl rfl rfl 400 (fun x => by kernel_rfl)
theorem s12 : (S 12).Ok := mkS_next s11 (f := 13) rfl rfl rfl 400 (fun x => by kernel_rfl)
theorem s13 : (S 13).Ok := mkS_next s12 (f := 18) rfl rfl rfl 400 (fun x => by kernel_rfl)
theorem s14 : (S 14).Ok := mkS_next s13 (f := 15) rfl rfl rfl 400 (fun x => by kernel_rfl)
theorem s15 : (S 15).Ok := mkS_step s14 (f := 9) rfl hand9
theorem s16 : (S 16).Ok := mkS_next s15 (f := 10) rfl rfl rfl 400 (fun x => by kernel_rfl)
theorem s17 : (S 17).Ok := mkS_next s16 (f := 35) rfl rfl rfl 400 (fun x => by kernel_rfl)
theorem s18 : (S 18).Ok := mkS_next s17 (f := 24) rfl rfl rfl 400 (fun x => by kernel_rfl)
theorem s19 : (S 19).Ok := mkS_next s18 (f := 23) rfl rfl rfl 400 (fun x => by kernel_rfl)
theorem s20 : (S 20).Ok := mkS_next s19 (f := 34) rfl rfl rfl 400 (fun x => by kernel_rfl)
theorem s21 : (S 21).Ok := mkS_next s20 (f := 16) rfl rfl rfl 400 (fun x => by kernel_rfl)
theorem s22 : (S 22).Ok := mkS_next s21 (f := 31) rfl rfl rfl 400 (fun x => by kernel_rfl)
theorem s23 : (S 23).Ok := mkS_next s22 (f := 32) rfl rfl rfl 400 (fun x => by kernel_rfl)
theorem s24 : (S 24).Ok := mkS_next s23 (f := 12) rfl rfl rfl 400 (fun x => by kernel_rfl)
theorem s25 : (S 25).Ok := mkS_next s24 (f := 14) rfl rfl rfl 400 (fun x => by kernel_rfl)
theorem s26 : (S 26).Ok := mkS_next s25 (f := 22) rfl rfl rfl 400 (fun x => by kernel_rfl)
theorem s27 : (S 27).Ok := mkS_next s26 (f := 17) rfl rfl rfl 400 (fun x => by kernel_rfl)
theorem s28 : (S 28).Ok := mkS_next s27 (f := 3) rfl rfl rfl 400 (fun x => by kernel_rfl)
theorem s29 : (S 29).Ok := mkS_next s28 (f := 5) rfl rfl rfl 400 (fun x => by kernel_rfl)
theorem s30 : (S 30).Ok := mkS_next s29 (f := 6) rfl rfl rfl 400 (fun x => by kernel_rfl)
theorem s31 : (S 31).Ok := mkS_next s30 (f := 7) rfl rfl rfl 400 (fun x => by kernel_rfl)
theorem s32 : (S 32).Ok := mkS_next s31 (f := 20) rfl rfl rfl 400 (fun x => by kernel_rfl)
theorem s33 : (S 33).Ok := mkS_next s32 (f := 8) rfl rfl rfl 400 (fun x => by kernel_rfl)
theorem s34 : (S 34).Ok := mkS_next s33 (f := 19) rfl rfl rfl 400 (fun x => by kernel_rfl)
theorem s35 : (S 35).Ok := mkS_next s34 (f := 4) rfl rfl rfl 400 (fun x => by kernel_rfl)
end Go.Proofs.Ytnbagejbdkhooaa
end

section
set_option linter.unusedVariables false
set_option maxRecDepth 100000
namespace Go.Proofs.Ytnbagejbdkhooaa
open Go.PI Go.Pl

theorem few_eq (q : Queue) (hq : q.Lists.length ≤ 2 ^ 63 - 1) : Models.ref18_Few q = some (bif q.Lists.all (fun l => decide (l.length ≤ 600)) then decide ((q.Lists.length : Int) ≤ 20) else false) := by
  unfold Models.ref18_Few
  rw [loop_list q.Lists (fun i => ((false, (i : Int)) : Bool × Int)) (fun l => decide (l.length ≤ 600)) (.inl false) (.inr (false, (q.Lists.length : Int)))]
  · cases q.Lists.all (fun l => decide (l.length ≤ 600)) <;> rfl
  · intro i hi
    have h1 : ((i : Int) < (q.Lists.length : Int)) := by omega
    simp only [h1, decide_true, cond_true, Int.natCast_nonneg, Int.toNat_natCast, List.getElem?_eq_getElem hi, Option.bind_some, wrap_succ hi hq]
    by_cases h6 : (q.Lists[i]).length ≤ 600
    · have : ¬ ((600 : Int) < ((q.Lists[i]).length : Int)) := by omega
      simp only [this, h6, decide_true, decide_false, cond_true, cond_false]
    · have : ((600 : Int) < ((q.Lists[i]).length : Int)) := by omega
      simp only [this, h6, decide_true, decide_false, cond_true, cond_false]
  · simp
  · rfl

theorem bif_and {a b : Bool} : (bif a then some b else some false) = some (a && b) := by cases a <;> rfl
theorem bif_nand {a b : Bool} : (bif a then some false else some b) = some (!a && b) := by cases a <;> rfl

theorem inside_eq (n lo hi : Int) : Models.tail_inside n lo hi = some (decide (lo ≤ n) && decide (n ≤ hi)) := bif_and
theorem number_eq (n : Int) : Models.ref18_number n = some (decide (0 ≤ n) && decide (n ≤ 1000000000)) := bif_and
theorem time_eq (n : Int) : Models.ref18_Time n = some (decide (0 ≤ n) && decide (n ≤ 10000000)) := bif_and

def okT (n : Int) : Bool := decide (0 ≤ n) && decide (n ≤ 10000000)
def okP (p : Packet) : Bool := (decide (0 ≤ p.Flow) && decide (p.Flow ≤ 7)) && ((decide (0 ≤ p.Sub) && decide (p.Sub ≤ 3)) && ((decide (0 ≤ p.Number) && decide (p.Number ≤ 1000000000)) &&
  ((decide (0 ≤ p.Data) && decide (p.Data ≤ 1000000000)) && ((decide (1 ≤ p.Size) && decide (p.Size ≤ 10000)) && okT p.Sent))))

theorem tpacket_eq (p : Packet) : Models.tail_packet p = some (okP p) := by
  unfold Models.tail_packet
  simp only [inside_eq, Option.bind_some, bif_and]
  rfl
theorem rpacket_eq (p : Packet) : Models.ref18_Packet p = some (okP p) := by
  unfold Models.ref18_Packet
  simp only [number_eq, time_eq, Option.bind_some, bif_and, Option.some.injEq]
  unfold okP okT
  have h1 : decide (p.Flow < 8) = decide (p.Flow ≤ 7) := decide_eq_decide.2 (by omega)
  have h2 : decide (p.Sub < 4) = decide (p.Sub ≤ 3) := decide_eq_decide.2 (by omega)
  rw [h1, h2]
  simp only [Bool.and_assoc]

/-- Two lists place by place. -/
theorem all_zip {α β : Type} (q : α × β → Bool) (a : List α) (b : List β) : ∀ i (h : i < (a.zip b).length), (a.zip b)[i] = (a[i]'(by simp at h; omega), b[i]'(by simp at h; omega)) := by
  intro i h; simp

instance : DecidableEq Packet := fun a b =>
  decidable_of_iff (a.Flow = b.Flow ∧ a.Sub = b.Sub ∧ a.Number = b.Number ∧ a.Data = b.Data ∧ a.Size = b.Size ∧ a.Sent = b.Sent ∧ a.Able = b.Able ∧ a.Marked = b.Marked) (by cases a; cases b; simp)

theorem packets_self (a : List Packet) (ha : a.length ≤ 2 ^ 63 - 1) : Models.ref18_Packets a a = some true := by
  unfold Models.ref18_Packets
  rw [loop_list a (fun i => ((false, (i : Int)) : Bool × Int)) (fun _ => true) (.inl false) (.inr (false, (a.length : Int)))]
  · have : a.all (fun _ => true) = true := by simp
    simp [this]
  · intro i hi
    have h1 : ((i : Int) < (a.length : Int)) := by omega
    simp [h1, Int.natCast_nonneg, List.getElem?_eq_getElem hi, wrap_succ hi ha]
  · simp
  · rfl

theorem samelist_self (a : List Queued) (ha : a.length ≤ 2 ^ 63 - 1) : Models.ref18_SameList a a = some true := by
  unfold Models.ref18_SameList
  rw [loop_list a (fun i => ((false, (i : Int)) : Bool × Int)) (fun _ => true) (.inl false) (.inr (false, (a.length : Int)))]
  · have : a.all (fun _ => true) = true := by simp
    simp [this]
  · intro i hi
    have h1 : ((i : Int) < (a.length : Int)) := by omega
    simp [h1, Int.natCast_nonneg, List.getElem?_eq_getElem hi, wrap_succ hi ha]
  · simp
  · rfl

theorem same_self (a : Queue) (ha : a.Lists.length ≤ 2 ^ 63 - 1) (hl : ∀ l ∈ a.Lists, l.length ≤ 2 ^ 63 - 1) : Models.ref18_Same a a = some true := by
  unfold Models.ref18_Same
  rw [loop_list a.Lists (fun i => ((false, (i : Int)) : Bool × Int)) (fun _ => true) (.inl false) (.inr (false, (a.Lists.length : Int)))]
  · have : a.Lists.all (fun _ => true) = true := by simp
    simp [this]
  · intro i hi
    have h1 : ((i : Int) < (a.Lists.length : Int)) := by omega
    simp [h1, Int.natCast_nonneg, List.getElem?_eq_getElem hi, wrap_succ hi ha, samelist_self _ (hl _ (List.getElem_mem hi))]
  · simp
  · rfl

/-- What waits is in order. -/
def ordFrom (e7 : Int) : Int → List Queued → Bool
  | _, [] => true
  | t, x :: xs => !decide (x.At < t) && (!decide (e7 < x.At) && (okP x.P && ordFrom e7 x.At xs))

def ordP (e7 : Int) (l : List Queued) (i : Nat) : Bool :=
  match l[i]? with
  | none => true
  | some x => !decide (x.At < (if i = 0 then 0 else (l[i - 1]?.map (·.At)).getD 0)) && (!decide (e7 < x.At) && okP x.P)

theorem tordered_eq (q : Queue) (l : List Queued) (hw : Models.tail_line_waiting q = some l) (hl : l.length ≤ 2 ^ 63 - 1) : Models.tail_line_ordered q = some ((List.range l.length).all (ordP q.Vars.e7 l)) := by
  unfold Models.tail_line_ordered
  rw [hw]
  simp only [Option.bind_some]
  have := loop_all (f := (fun ((i2, i3, i4) : Int × Int × Int) =>
      bif decide (i3 < (↑l.length : Int)) then
        bif decide (0 ≤ i3) then
          (l[i3.toNat]?).bind fun q5 =>
          bif decide (q5.At < i4) then
            some (Sum.inr (Sum.inl (i3, q5.At)))
          else
            bif decide (q.Vars.e7 < q5.At) then
              some (Sum.inr (Sum.inl (i3, q5.At)))
            else
              (Models.tail_packet q5.P).bind fun b6 =>
              bif !b6 then
                some (Sum.inr (Sum.inl (i3, q5.At)))
              else
                some (Sum.inl (i2, IntKind.i64.wrap (i3 + 1), q5.At))
        else
          none
      else
        some (Sum.inr (Sum.inr (i2, i3, i4))))) (fun i => ((0, (i : Int), if i = 0 then 0 else (l[i - 1]?.map (·.At)).getD 0) : Int × Int × Int)) (ordP q.Vars.e7 l)
      (fun i => .inl ((i : Int), (l[i]?.map (·.At)).getD 0)) l.length (.inr (0, (l.length : Int), if l.length = 0 then 0 else (l[l.length - 1]?.map (·.At)).getD 0)) ?_ ?_
  · rcases this with ⟨h1, h2⟩ | ⟨h1, i, hi, _, h2⟩
    · rw [h1]
      have h2' := h2
      simp only [if_true, Int.natCast_zero] at h2'
      rw [h2']
      rfl
    · rw [h1]
      have h2' := h2
      simp only [if_true, Int.natCast_zero] at h2'
      rw [h2']
      simp
  · intro i hi
    have h1 : ((i : Int) < (l.length : Int)) := by omega
    have hne : i + 1 ≠ 0 := by omega
    simp only [h1, decide_true, cond_true, Int.natCast_nonneg, Int.toNat_natCast, List.getElem?_eq_getElem hi, Option.bind_some, wrap_succ hi hl, tpacket_eq, ordP, hne, if_false, Nat.add_sub_cancel, Option.map_some, Option.getD_some]
    cases decide (l[i].At < if i = 0 then 0 else (Option.map (fun x => x.At) l[i - 1]?).getD 0) <;> cases decide (q.Vars.e7 < l[i].At) <;> cases okP l[i].P <;> rfl
  · simp

def refP (last : Int) (l : List Queued) (i : Nat) : Bool :=
  match l[i]? with
  | none => true
  | some x => okP x.P && (okT x.At && (!decide (last < x.At) && !(decide (0 < i) && decide (x.At < (l[i - 1]?.map (·.At)).getD 0))))

theorem rlist_eq (l : List Queued) (last : Int) (hl : l.length ≤ 2 ^ 63 - 1) : Models.ref18_List l last = some ((List.range l.length).all (refP last l)) := by
  have key : ∀ f : Bool × Int → Option (Bool × Int ⊕ (Bool ⊕ Bool × Int)), (∀ i, i < l.length → f (false, (i : Int)) = some (bif refP last l i then .inl (false, ((i + 1 : Nat) : Int)) else .inr (.inl false))) →
      f (false, (l.length : Int)) = some (.inr (.inr (false, (l.length : Int)))) →
      ((loopM f (false, 0)).bind fun w10 => Sum.elim (fun b11 => some b11) (fun ((b12, i13) : Bool × Int) => some true) w10) = some ((List.range l.length).all (refP last l)) := by
    intro f h he
    have := loop_all (f := f) (fun i => ((false, (i : Int)) : Bool × Int)) (refP last l) (fun _ => .inl false) l.length (.inr (false, (l.length : Int))) h he
    rcases this with ⟨h1, h2⟩ | ⟨h1, i, hi, _, h2⟩
    · rw [h1]
      have h2' : loopM f (false, 0) = some (.inr (false, (l.length : Int))) := h2
      rw [h2']; rfl
    · rw [h1]
      have h2' : loopM f (false, 0) = some (.inl false) := h2
      rw [h2']; rfl
  unfold Models.ref18_List
  apply key
  · intro i hi
    have h1 : ((i : Int) < (l.length : Int)) := by omega
    by_cases h0 : i = 0
    · subst h0
      have hz : ¬ ((0 : Int) < ((0 : Nat) : Int)) := by simp
      simp only [h1, decide_true, cond_true, Int.natCast_nonneg, Int.toNat_natCast, List.getElem?_eq_getElem hi, Option.bind_some, wrap_succ hi hl, rpacket_eq, time_eq, refP, hz, decide_false, cond_false, Nat.lt_irrefl, Bool.false_and, Bool.not_false, Bool.and_true]
      show _ = some (bif okP l[0].P && (okT l[0].At && !decide (last < l[0].At)) then _ else _)
      unfold okT
      cases okP l[0].P <;> cases (decide (0 ≤ l[0].At) && decide (l[0].At ≤ 10000000)) <;> cases decide (last < l[0].At) <;> rfl
    · have hz : ((0 : Int) < (i : Int)) := by omega
      have hz2 : 0 < i := by omega
      have hw : IntKind.i64.wrap ((i : Int) - 1) = ((i - 1 : Nat) : Int) := by
        rw [IntWalk.i64_in _ (by omega)]; omega
      have hi2 : i - 1 < l.length := by omega
      simp only [h1, decide_true, cond_true, Int.natCast_nonneg, Int.toNat_natCast, List.getElem?_eq_getElem hi, List.getElem?_eq_getElem hi2, Option.bind_some, wrap_succ hi hl, rpacket_eq, time_eq, refP, hz, hz2, hw, decide_true, Bool.true_and, Option.map_some, Option.getD_some]
      unfold okT
      cases okP l[i].P <;> cases (decide (0 ≤ l[i].At) && decide (l[i].At ≤ 10000000)) <;> cases decide (last < l[i].At) <;> cases decide (l[i].At < l[i - 1].At) <;> rfl
  · simp

theorem ord_ref (e7 : Int) (l : List Queued) (h : okT e7 = true) : (List.range l.length).all (ordP e7 l) = (List.range l.length).all (refP e7 l) := by
  simp only [okT, Bool.and_eq_true, decide_eq_true_eq] at h
  rw [Bool.eq_iff_iff, List.all_eq_true, List.all_eq_true]
  constructor
  · intro hp
    have hge : ∀ i (hi : i < l.length), 0 ≤ l[i].At := by
      intro i
      induction i with
      | zero =>
        intro hi
        have := hp 0 (List.mem_range.2 hi)
        simp only [ordP, List.getElem?_eq_getElem hi, if_true, Bool.and_eq_true, Bool.not_eq_true', decide_eq_false_iff_not] at this
        omega
      | succ i ih =>
        intro hi
        have := hp (i + 1) (List.mem_range.2 hi)
        have hi2 : i < l.length := by omega
        have := ih hi2
        simp only [ordP, List.getElem?_eq_getElem hi, List.getElem?_eq_getElem hi2, Nat.add_sub_cancel, Nat.succ_ne_zero, if_false, Option.map_some, Option.getD_some, Bool.and_eq_true, Bool.not_eq_true', decide_eq_false_iff_not] at *
        omega
    intro i hi
    have hi' := List.mem_range.1 hi
    have h0 := hge i hi'
    have := hp i hi
    by_cases hz : i = 0
    · subst hz
      simp only [ordP, refP, okT, List.getElem?_eq_getElem hi', if_true, Bool.and_eq_true, Bool.not_eq_true', decide_eq_false_iff_not, decide_eq_true_eq, Nat.lt_irrefl, decide_false, Bool.false_and] at *
      exact ⟨this.2.2, ⟨h0, by omega⟩, this.2.1, trivial⟩
    · have hi2 : i - 1 < l.length := by omega
      simp only [ordP, refP, okT, List.getElem?_eq_getElem hi', List.getElem?_eq_getElem hi2, hz, if_false, Option.map_some, Option.getD_some, Bool.and_eq_true, Bool.not_eq_true', decide_eq_false_iff_not, decide_eq_true_eq, Bool.and_eq_false_iff] at *
      exact ⟨this.2.2, ⟨h0, by omega⟩, this.2.1, .inr this.1⟩
  · intro hp i hi
    have hi' := List.mem_range.1 hi
    have := hp i hi
    by_cases hz : i = 0
    · subst hz
      simp only [ordP, refP, okT, List.getElem?_eq_getElem hi', if_true, Bool.and_eq_true, Bool.not_eq_true', decide_eq_false_iff_not, decide_eq_true_eq] at *
      exact ⟨by omega, this.2.2.1, this.1⟩
    · have hi2 : i - 1 < l.length := by omega
      have hz2 : 0 < i := by omega
      simp only [ordP, refP, okT, List.getElem?_eq_getElem hi', List.getElem?_eq_getElem hi2, hz, hz2, if_false, Option.map_some, Option.getD_some, Bool.and_eq_true, Bool.not_eq_true', decide_eq_false_iff_not, decide_eq_true_eq, Bool.and_eq_false_iff, decide_true] at *
      refine ⟨?_, this.2.2.1, this.1⟩
      rcases this.2.2.2 with h | h
      · simp at h
      · omega

def polB (q : Queue) : Bool := q.Policy.Kind == 1 && (q.Policy.A == 0 && (q.Policy.B == 0 && q.Policy.C == 0))
def varB (q : Queue) : Bool := [q.Vars.e0, q.Vars.e1, q.Vars.e2, q.Vars.e3, q.Vars.e4, q.Vars.e5, q.Vars.e6].all (· == 0)
def ordB (q : Queue) (l : List Queued) : Bool := (List.range l.length).all (ordP q.Vars.e7 l)
def validB (q : Queue) : Bool :=
  polB q && (varB q && ((q.Seed == 0) && (okT q.Vars.e7 && ((decide (1 ≤ q.Room) && decide (q.Room ≤ 500)) && (match q.Lists with
    | [l] => decide ((l.length : Int) ≤ q.Room) && ordB q l
    | _ => false)))))

theorem waiting_eq (q : Queue) : Models.tail_line_waiting q = q.Lists[0]? := by
  unfold Models.tail_line_waiting
  show q.Lists[0]?.bind some = _
  cases q.Lists[0]? <;> rfl

theorem tvalid_eq (q : Queue) (hl : ∀ l ∈ q.Lists, l.length ≤ 2 ^ 63 - 1) : Models.tail_line_valid q = some (validB q) := by
  unfold Models.tail_line_valid validB
  have hv : (q.Vars.e0 == 0 && (q.Vars.e1 == 0 && (q.Vars.e2 == 0 && (q.Vars.e3 == 0 && (q.Vars.e4 == 0 && (q.Vars.e5 == 0 && (q.Vars.e6 == 0 && (0 : Int) == 0))))))) = varB q := by
    simp [varB]
  simp only [inside_eq, Option.bind_some]
  have hp : (q.Policy.Kind == 1 && (q.Policy.A == 0 && (q.Policy.B == 0 && q.Policy.C == 0))) = polB q := rfl
  rw [hp]
  have ht : (decide (0 ≤ q.Vars.e7) && decide (q.Vars.e7 ≤ 10000000)) = okT q.Vars.e7 := rfl
  rw [ht]
  have hrest : (bif ((q.Lists.length : Int)) == 1 then
              (Models.tail_line_waiting q).bind fun l3 =>
              bif decide ((↑l3.length : Int) ≤ q.Room) then
                (Models.tail_line_ordered q).bind fun b4 =>
                some b4
              else
                some false
            else
              some false) = some (match q.Lists with
    | [l] => decide ((l.length : Int) ≤ q.Room) && ordB q l
    | _ => false) := by
    match hq : q.Lists with
    | [] => rfl
    | [l] =>
      have hw : Models.tail_line_waiting q = some l := by rw [waiting_eq, hq]; rfl
      rw [hw, tordered_eq q l hw (hl l (by rw [hq]; simp))]
      simp only [Option.bind_some, bif_and]
      rfl
    | a :: b :: r =>
      have : (((a :: b :: r).length : Int) == 1) = false := by simp; omega
      rw [this]; rfl
  rw [hrest]
  simp only [bif_and, varB, List.all_cons, List.all_nil, beq_self_eq_true]

theorem rvars_eq (q : Queue) (K : Bool × Int → Option Bool) (f : Bool × Int → Option (Bool × Int ⊕ (Bool ⊕ Bool × Int)))
    (h : ∀ (i : Nat) (hi : i < 7), f (false, (i : Int)) = some (bif ([q.Vars.e0, q.Vars.e1, q.Vars.e2, q.Vars.e3, q.Vars.e4, q.Vars.e5, q.Vars.e6][i]'(by simpa using hi)) == 0 then .inl (false, ((i + 1 : Nat) : Int)) else .inr (.inl false)))
    (he : f (false, 7) = some (.inr (.inr (false, 7)))) :
    ((loopM f (false, 0)).bind fun w4 => Sum.elim (fun b5 => some b5) K w4) = bif varB q then K (false, 7) else some false := by
  rw [loop_list [q.Vars.e0, q.Vars.e1, q.Vars.e2, q.Vars.e3, q.Vars.e4, q.Vars.e5, q.Vars.e6] (fun i => ((false, (i : Int)) : Bool × Int)) (· == 0) (.inl false) (.inr (false, 7))]
  · show _ = bif ([q.Vars.e0, q.Vars.e1, q.Vars.e2, q.Vars.e3, q.Vars.e4, q.Vars.e5, q.Vars.e6].all (· == 0)) then K (false, 7) else some false
    cases [q.Vars.e0, q.Vars.e1, q.Vars.e2, q.Vars.e3, q.Vars.e4, q.Vars.e5, q.Vars.e6].all (· == 0) <;> rfl
  · exact h
  · exact he
  · rfl

theorem rvalid_eq (q : Queue) (hl : ∀ l ∈ q.Lists, l.length ≤ 2 ^ 63 - 1) : Models.ref18_Valid q = some (validB q) := by
  unfold Models.ref18_Valid
  simp only [time_eq, Option.bind_some]
  rw [rvars_eq q]
  · have hp : (q.Policy.Kind == 1 && (q.Policy.A == 0 && (q.Policy.B == 0 && q.Policy.C == 0))) = polB q := rfl
    rw [hp]
    have ht : (decide (0 ≤ q.Vars.e7) && decide (q.Vars.e7 ≤ 10000000)) = okT q.Vars.e7 := rfl
    rw [ht]
    have h1 : decide (q.Room < 1) = !decide (1 ≤ q.Room) := by
      by_cases h : q.Room < 1
      · have : ¬ 1 ≤ q.Room := by omega
        simp [h, this]
      · have : 1 ≤ q.Room := by omega
        simp [h, this]
    have h2 : decide (500 < q.Room) = !decide (q.Room ≤ 500) := by
      by_cases h : 500 < q.Room
      · have : ¬ q.Room ≤ 500 := by omega
        simp [h, this]
      · have : q.Room ≤ 500 := by omega
        simp [h, this]
    rw [h1, h2]
    unfold validB
    match hq : q.Lists with
    | [] =>
      have : ((([] : List (List Queued)).length : Int) == 1) = false := by simp
      rw [this]
      cases polB q <;> cases varB q <;> cases decide (1 ≤ q.Room) <;> cases decide (q.Room ≤ 500) <;> cases (q.Seed == 0) <;> cases okT q.Vars.e7 <;> rfl
    | a :: b :: r =>
      have : (((a :: b :: r).length : Int) == 1) = false := by simp; omega
      rw [this]
      cases polB q <;> cases varB q <;> cases decide (1 ≤ q.Room) <;> cases decide (q.Room ≤ 500) <;> cases (q.Seed == 0) <;> cases okT q.Vars.e7 <;> rfl
    | [l] =>
      have : ((([l] : List (List Queued)).length : Int) == 1) = true := by simp
      rw [this]
      have hg : [l][Int.toNat 0]? = some l := rfl
      simp only [hg, Option.bind_some, rlist_eq l _ (hl l (by rw [hq]; simp)), bif_and]
      cases hok : okT q.Vars.e7
      · cases polB q <;> cases varB q <;> cases decide (1 ≤ q.Room) <;> cases decide (q.Room ≤ 500) <;> cases (q.Seed == 0) <;> rfl
      · rw [← ord_ref _ _ hok]
        show _ = some (polB q && (varB q && ((q.Seed == 0) && (true && ((decide (1 ≤ q.Room) && decide (q.Room ≤ 500)) && (decide ((l.length : Int) ≤ q.Room) && (List.range l.length).all (ordP q.Vars.e7 l)))))))
        cases polB q <;> cases varB q <;> cases decide (1 ≤ q.Room) <;> cases decide (q.Room ≤ 500) <;> cases (q.Seed == 0) <;> rfl
  · intro i hi
    match i, hi with
    | 0, _ => simp; cases (q.Vars.e0 == 0) <;> rfl
    | 1, _ => simp; cases (q.Vars.e1 == 0) <;> rfl
    | 2, _ => simp; cases (q.Vars.e2 == 0) <;> rfl
    | 3, _ => simp; cases (q.Vars.e3 == 0) <;> rfl
    | 4, _ => simp; cases (q.Vars.e4 == 0) <;> rfl
    | 5, _ => simp; cases (q.Vars.e5 == 0) <;> rfl
    | 6, _ => simp; cases (q.Vars.e6 == 0) <;> rfl
  · simp

def errB (q : Queue) (now : Int) : Int := bif !validB q then 1 else bif !okT now then 1 else bif decide (now < q.Vars.e7) then 18 else 0
def withQ (q : Queue) (ls : List (List Queued)) (now : Int) : Queue := Queue.mk q.Policy q.Room ls (A8.mk q.Vars.e0 q.Vars.e1 q.Vars.e2 q.Vars.e3 q.Vars.e4 q.Vars.e5 q.Vars.e6 now) q.Seed
def zeroQ : Queue := Queue.mk (Policy.mk 0 0 0 0) 0 [] (A8.mk 0 0 0 0 0 0 0 0) 0
def zeroP : Packet := Packet.mk 0 0 0 0 0 0 false false

theorem at_eq (q : Queue) (now : Int) (hl : ∀ l ∈ q.Lists, l.length ≤ 2 ^ 63 - 1) : Models.tail_line_at q now = some (errB q now) := by
  unfold Models.tail_line_at
  rw [tvalid_eq q hl, inside_eq]
  simp only [Option.bind_some, errB]
  show _ = some (bif !validB q then 1 else bif !(decide (0 ≤ now) && decide (now ≤ 10000000)) then 1 else bif decide (now < q.Vars.e7) then 18 else 0)
  cases validB q <;> cases (decide (0 ≤ now) && decide (now ≤ 10000000)) <;> cases decide (now < q.Vars.e7) <;> rfl
theorem refused_eq (q : Queue) (now : Int) (hl : ∀ l ∈ q.Lists, l.length ≤ 2 ^ 63 - 1) : Models.ref18_refused q now = some (errB q now) := by
  unfold Models.ref18_refused
  rw [rvalid_eq q hl, time_eq]
  simp only [Option.bind_some, errB]
  show _ = some (bif !validB q then 1 else bif !(decide (0 ≤ now) && decide (now ≤ 10000000)) then 1 else bif decide (now < q.Vars.e7) then 18 else 0)
  cases validB q <;> cases (decide (0 ≤ now) && decide (now ≤ 10000000)) <;> cases decide (now < q.Vars.e7) <;> rfl

theorem err_zero {q : Queue} {now : Int} (h : errB q now = 0) : ∃ l, q.Lists = [l] ∧ (l.length : Int) ≤ q.Room ∧ q.Room ≤ 500 ∧ validB q = true ∧ okT now = true ∧ q.Vars.e7 ≤ now := by
  unfold errB at h
  cases hv : validB q
  · rw [hv] at h; simp at h
  cases ht : okT now
  · rw [hv, ht] at h; simp at h
  cases hd : decide (now < q.Vars.e7)
  · have hv' := hv
    unfold validB at hv
    simp only [Bool.and_eq_true] at hv
    obtain ⟨_, _, _, _, ⟨_, hr⟩, hm⟩ := hv
    simp only [decide_eq_true_eq] at hr
    simp only [decide_eq_false_iff_not] at hd
    split at hm
    · rename_i l hq
      simp only [Bool.and_eq_true, decide_eq_true_eq] at hm
      exact ⟨l, hq, hm.1, hr, rfl, rfl, by omega⟩
    · simp at hm
  · rw [hv, ht, hd] at h; simp at h

theorem with_eq (q : Queue) (l : List Queued) (now : Int) (hl : l.length ≤ 1000) : Models.tail_line_with q l now = some (withQ q [l] now) := by
  unfold Models.tail_line_with Models.slices_Clone cloneM roomM
  have h1 : l.length * 64 ≤ 2 ^ 44 := by omega
  have h2 : l.length ≤ 2 ^ 44 := by omega
  simp only [h1, h2, decide_true, Bool.and_self, cond_true, Option.bind_some]
  rfl

def putR (q : Queue) (p : Packet) (now : Int) : Queue × List Packet × Int :=
  bif !okP p then (zeroQ, [], 1) else bif !errB q now == 0 then (zeroQ, [], errB q now) else
    match q.Lists with
    | [l] => bif (l.length : Int) == q.Room then (withQ q [l] now, [p], 0) else (withQ q [l ++ [Queued.mk p now]] now, [], 0)
    | _ => (zeroQ, [], 0)

theorem tput_eq (q : Queue) (p : Packet) (now : Int) (hl : ∀ l ∈ q.Lists, l.length ≤ 2 ^ 63 - 1) : Models.tail_Put q p now = some (putR q p now) := by
  unfold Models.tail_Put putR
  rw [tpacket_eq, at_eq q now hl]
  simp only [Option.bind_some]
  cases hp : okP p
  · rfl
  cases he : (errB q now == 0)
  · rfl
  obtain ⟨l, hq, h1, h2, _⟩ := err_zero (by simpa using he)
  rw [waiting_eq, hq]
  simp only [List.getElem?_cons_zero, Option.bind_some, Bool.not_true, cond_false]
  have hlen : l.length ≤ 500 := by omega
  rw [with_eq q l now (by omega)]
  have hc : Models.slices_Concat [l, [Queued.mk p now]] = some (l ++ [Queued.mk p now]) := by
    unfold Models.slices_Concat concatM roomM
    have h3 : (l.length + 1) * 64 ≤ 2 ^ 44 := by omega
    have h4 : l.length + 1 ≤ 2 ^ 44 := by omega
    simp [h3, h4]
  rw [hc]
  simp only [Option.bind_some]
  rw [with_eq q (l ++ [Queued.mk p now]) now (by simp; omega)]
  cases ((l.length : Int) == q.Room) <;> rfl

theorem rput_eq (q : Queue) (p : Packet) (now : Int) (hl : ∀ l ∈ q.Lists, l.length ≤ 2 ^ 63 - 1) : Models.ref18_Put q p now = some (putR q p now) := by
  unfold Models.ref18_Put putR
  rw [rpacket_eq, refused_eq q now hl]
  simp only [Option.bind_some]
  cases hp : okP p
  · rfl
  cases he : (errB q now == 0)
  · rfl
  obtain ⟨l, hq, h1, h2, _⟩ := err_zero (by simpa using he)
  rw [hq]
  have hg : [l][Int.toNat 0]? = some l := rfl
  have hlen : l.length ≤ 500 := by omega
  have h3 : (0 + l.length) * 64 ≤ 2 ^ 44 := by omega
  have h4 : 0 + l.length ≤ 2 ^ 44 := by omega
  have h5 : (l.length + 1) * 64 ≤ 2 ^ 44 := by omega
  have h6 : l.length + 1 ≤ 2 ^ 44 := by omega
  simp only [hg, Option.bind_some, Bool.not_true, cond_false, List.nil_append, h3, h4, h5, h6, decide_true, Bool.and_self, cond_true, Models.ref18_With]
  cases ((l.length : Int) == q.Room) <;> rfl

def takeR (q : Queue) (now : Int) : Queue × Packet × Bool × List Packet × Int :=
  bif !errB q now == 0 then (zeroQ, zeroP, false, [], errB q now) else
    match q.Lists with
    | [[]] => (withQ q [[]] now, zeroP, false, [], 0)
    | [x :: xs] => (withQ q [xs] now, x.P, true, [], 0)
    | _ => (zeroQ, zeroP, false, [], 0)

theorem ttake_eq (q : Queue) (now : Int) (hl : ∀ l ∈ q.Lists, l.length ≤ 2 ^ 63 - 1) : Models.tail_Take q now = some (takeR q now) := by
  unfold Models.tail_Take takeR
  rw [at_eq q now hl]
  simp only [Option.bind_some]
  cases he : (errB q now == 0)
  · rfl
  obtain ⟨l, hq, h1, h2, _⟩ := err_zero (by simpa using he)
  rw [waiting_eq, hq]
  simp only [List.getElem?_cons_zero, Option.bind_some, Bool.not_true, cond_false]
  match l with
  | [] =>
    rw [with_eq q [] now (by simp)]
    rfl
  | x :: xs =>
    have hx : xs.length ≤ 1000 := by simp at h1; omega
    have hb : (((x :: xs).length : Int) == 0) = false := by simp; omega
    have hd : Int.toNat 1 ≤ (x :: xs).length := by simp
    have hdr : List.drop (Int.toNat 1) (x :: xs) = xs := rfl
    have hg : (x :: xs)[Int.toNat 0]? = some x := rfl
    simp only [hb, cond_false, hd, decide_true, cond_true, hdr, hg, Option.bind_some]
    rw [with_eq q xs now hx]
    rfl

theorem rtake_eq (q : Queue) (now : Int) (hl : ∀ l ∈ q.Lists, l.length ≤ 2 ^ 63 - 1) : Models.ref18_Take q now = some (takeR q now) := by
  unfold Models.ref18_Take takeR
  rw [refused_eq q now hl]
  simp only [Option.bind_some]
  cases he : (errB q now == 0)
  · rfl
  obtain ⟨l, hq, h1, h2, _⟩ := err_zero (by simpa using he)
  rw [hq]
  have hg0 : [l][Int.toNat 0]? = some l := rfl
  simp only [hg0, Option.bind_some, Bool.not_true, cond_false, Models.ref18_With]
  match l with
  | [] => rfl
  | x :: xs =>
    have hx : xs.length ≤ 1000 := by simp at h1; omega
    have hb : (((x :: xs).length : Int) == 0) = false := by simp; omega
    have hd : Int.toNat 1 ≤ (x :: xs).length := by simp
    have hdr : List.drop (Int.toNat 1) (x :: xs) = xs := rfl
    have hg : (x :: xs)[Int.toNat 0]? = some x := rfl
    have h3 : (0 + xs.length) * 64 ≤ 2 ^ 44 := by omega
    have h4 : 0 + xs.length ≤ 2 ^ 44 := by omega
    simp only [hb, cond_false, hd, decide_true, cond_true, hdr, hg, Option.bind_some, h3, h4, Bool.and_self, List.nil_append]
    rfl

def bnd (q : Queue) : Prop := q.Lists.length ≤ 2 ^ 63 - 1 ∧ ∀ l ∈ q.Lists, l.length ≤ 2 ^ 63 - 1
theorem bnd_zero : bnd zeroQ := ⟨by simp [zeroQ], by simp [zeroQ]⟩
theorem bnd_one {q : Queue} {l : List Queued} {now : Int} (h : l.length ≤ 2 ^ 63 - 1) : bnd (withQ q [l] now) := ⟨by simp [withQ], by simpa [withQ] using h⟩

theorem put_bnd (q : Queue) (p : Packet) (now : Int) : bnd (putR q p now).1 ∧ (putR q p now).2.1.length ≤ 1 := by
  unfold putR
  cases hp : okP p
  · exact ⟨bnd_zero, Nat.zero_le _⟩
  cases he : (errB q now == 0)
  · exact ⟨bnd_zero, Nat.zero_le _⟩
  obtain ⟨l, hq, h1, h2, _⟩ := err_zero (by simpa using he)
  rw [hq]
  simp only [Bool.not_true, cond_false]
  cases ((l.length : Int) == q.Room)
  · exact ⟨bnd_one (by simp; omega), Nat.zero_le _⟩
  · exact ⟨bnd_one (by omega), by simp⟩

theorem take_bnd (q : Queue) (now : Int) : bnd (takeR q now).1 ∧ (takeR q now).2.2.2.1.length ≤ 1 := by
  unfold takeR
  cases he : (errB q now == 0)
  · exact ⟨bnd_zero, Nat.zero_le _⟩
  obtain ⟨l, hq, h1, h2, _⟩ := err_zero (by simpa using he)
  rw [hq]
  match l with
  | [] => exact ⟨bnd_one (by simp), Nat.zero_le _⟩
  | x :: xs => exact ⟨bnd_one (by simp at h1; omega), Nat.zero_le _⟩

theorem same_bnd {a : Queue} (h : bnd a) : Models.ref18_Same a a = some true :=
  same_self a (by have := h.1; omega) (fun l hl => by have := h.2 l hl; omega)

theorem matches_eq (q : Queue) (p : Packet) (now : Int) (hb : bnd q) : Models.law18_TailMatchesReference q p now = some true := by
  have hl : ∀ l ∈ q.Lists, l.length ≤ 2 ^ 63 - 1 := fun l h => by have := hb.2 l h; omega
  unfold Models.law18_TailMatchesReference
  rw [few_eq q (by have := hb.1; omega), tput_eq q p now hl, rput_eq q p now hl, ttake_eq q now hl, rtake_eq q now hl]
  have htv : Models.tail_Valid q = some (validB q) := by
    unfold Models.tail_Valid; rw [tvalid_eq q hl]; rfl
  rw [htv, rvalid_eq q hl]
  obtain ⟨h1, h2⟩ := put_bnd q p now
  obtain ⟨h3, h4⟩ := take_bnd q now
  simp only [Models.law18_head, Option.bind_some]
  cases (bif q.Lists.all (fun l => decide (l.length ≤ 600)) then decide ((q.Lists.length : Int) ≤ 20) else false)
  · rfl
  · simp [same_bnd h1, same_bnd h3, packets_self _ (Nat.le_trans h2 (by omega)), packets_self _ (Nat.le_trans h4 (by omega))]

theorem bnd_wf {q : Queue} (h : wf27 q) : bnd q := by
  obtain ⟨_, _, h, _, _⟩ := h
  exact ⟨Nat.le_trans h.1 (by decide), fun l hl => Nat.le_trans (h.2 l hl).1 (by decide)⟩

end Go.Proofs.Ytnbagejbdkhooaa
end

section
set_option linter.unusedVariables false
set_option maxRecDepth 100000
namespace Go.Proofs.Ytnbagejbdkhooaa
open Go.PI Go.Pl

theorem err_bnd {q : Queue} {now : Int} (h : errB q now = 0) : ∃ l, q.Lists = [l] ∧ l.length ≤ 500 := by
  obtain ⟨l, hq, h1, h2, _⟩ := err_zero h
  exact ⟨l, hq, by omega⟩

theorem same_zero : Models.ref18_Same zeroQ zeroQ = some true := same_bnd bnd_zero

theorem room_eq (q : Queue) (p : Packet) (now : Int) (hb : bnd q) : Models.law18_TailRoom q p now = some true := by
  have hl : ∀ l ∈ q.Lists, l.length ≤ 2 ^ 63 - 1 := fun l h => by have := hb.2 l h; omega
  unfold Models.law18_TailRoom
  rw [few_eq q (by have := hb.1; omega), tput_eq q p now hl]
  simp only [Models.law18_head, Option.bind_some]
  cases (bif q.Lists.all (fun l => decide (l.length ≤ 600)) then decide ((q.Lists.length : Int) ≤ 20) else false)
  · rfl
  simp only [Bool.not_true, cond_false, cond_true]
  unfold putR
  cases hp : okP p
  · exact congrArg (fun z => Option.bind z some) same_zero
  cases he : (errB q now == 0)
  · simp only [Bool.not_true, Bool.not_false, cond_false, cond_true, he, List.length_nil, Int.natCast_zero, beq_self_eq_true]
    exact congrArg (fun z => Option.bind z some) same_zero
  obtain ⟨l, hq, h1, h2, h3, h4, h5⟩ := err_zero (by simpa using he)
  rw [hq]
  simp only [Bool.not_true, cond_false]
  have hz : ((0 : Int) == 0) = true := rfl
  have hg : [l][Int.toNat 0]? = some l := rfl
  have hlen : l.length ≤ 500 := by omega
  cases hr : ((l.length : Int) == q.Room)
  · have hw : IntKind.i64.wrap ((l.length : Int) + 1) = (l.length : Int) + 1 := IntWalk.i64_in _ (by omega)
    have hr' : ¬ (l.length : Int) = q.Room := by simpa using hr
    have hle : (l.length : Int) + 1 ≤ q.Room := by omega
    have ht : List.take l.length (l ++ [Queued.mk p now]) = l := by simp
    have hgl : (l ++ [Queued.mk p now])[l.length]? = some (Queued.mk p now) := by simp
    have hg2 : [l ++ [Queued.mk p now]][Int.toNat 0]? = some (l ++ [Queued.mk p now]) := rfl
    simp only [cond_false, hz, Bool.not_true, withQ, List.length_singleton, hg, hg2, Option.bind_some, hr, List.length_append, List.length_nil, hw, ht, hgl, Int.toNat_natCast]
    simp [hle, samelist_self l (by omega)]
  · simp only [cond_true, hz, Bool.not_true, cond_false, withQ, List.length_singleton, hg, Option.bind_some, hr, packets_self [p] (by simp), samelist_self l (by omega)]
    rfl

theorem works_eq (q : Queue) (now : Int) (hb : bnd q) : Models.law18_TailWorks q now = some true := by
  have hl : ∀ l ∈ q.Lists, l.length ≤ 2 ^ 63 - 1 := fun l h => by have := hb.2 l h; omega
  unfold Models.law18_TailWorks
  rw [few_eq q (by have := hb.1; omega), ttake_eq q now hl]
  simp only [Models.law18_head, Option.bind_some]
  cases (bif q.Lists.all (fun l => decide (l.length ≤ 600)) then decide ((q.Lists.length : Int) ≤ 20) else false)
  · rfl
  simp only [Bool.not_true, cond_false, cond_true]
  unfold takeR
  cases he : (errB q now == 0)
  · simp only [Bool.not_false, cond_true, he]
    rfl
  obtain ⟨l, hq, h1, h2, h3, h4, h5⟩ := err_zero (by simpa using he)
  rw [hq]
  have hz : ((0 : Int) == 0) = true := rfl
  match l with
  | [] => rfl
  | x :: xs =>
    have hlen : xs.length ≤ 500 := by simp at h1; omega
    have hd : Int.toNat 1 ≤ (x :: xs).length := by simp
    have hdr : List.drop (Int.toNat 1) (x :: xs) = xs := rfl
    have hg : (x :: xs)[Int.toNat 0]? = some x := rfl
    have hg1 : [x :: xs][Int.toNat 0]? = some (x :: xs) := rfl
    have hg2 : [xs][Int.toNat 0]? = some xs := rfl
    have hpos : decide (0 < ((x :: xs).length : Int)) = true := by simp
    simp only [Bool.not_true, cond_false, cond_true, hz, withQ, List.length_singleton, hg, hg1, hg2, hd, hdr, hpos, Option.bind_some, samelist_self xs (by omega), beq_self_eq_true, Bool.and_self, decide_true, List.length_nil, Int.natCast_zero]
    rfl

theorem times_eq (q : Queue) (p : Packet) (now : Int) (hb : bnd q) : Models.law18_TailTimes q p now = some true := by
  have hl : ∀ l ∈ q.Lists, l.length ≤ 2 ^ 63 - 1 := fun l h => by have := hb.2 l h; omega
  unfold Models.law18_TailTimes
  rw [few_eq q (by have := hb.1; omega), tput_eq q p now hl, ttake_eq q now hl, rvalid_eq q hl, rpacket_eq, time_eq]
  simp only [Models.law18_head, Option.bind_some]
  cases (bif q.Lists.all (fun l => decide (l.length ≤ 600)) then decide ((q.Lists.length : Int) ≤ 20) else false)
  · rfl
  cases hv : validB q
  · rfl
  cases hp : okP p
  · rfl
  have ht : (decide (0 ≤ now) && decide (now ≤ 10000000)) = okT now := rfl
  rw [ht]
  cases hn : okT now
  · rfl
  have he : errB q now = bif decide (now < q.Vars.e7) then 18 else 0 := by
    unfold errB; rw [hv, hn]; rfl
  cases hd : decide (now < q.Vars.e7)
  · have he0 : errB q now = 0 := by rw [he, hd]; rfl
    obtain ⟨l, hq, h1, h2, h3, h4, h5⟩ := err_zero he0
    have hs : (q.Seed == 0) = true := by
      unfold validB at hv
      simp only [Bool.and_eq_true] at hv
      exact hv.2.2.1
    have hs' : q.Seed = 0 := by simpa using hs
    obtain ⟨l', d, hput⟩ : ∃ l' d, putR q p now = (withQ q [l'] now, d, 0) := by
      unfold putR
      rw [he0, hq, hp]
      show ∃ l' d, (bif (l.length : Int) == q.Room then (withQ q [l] now, [p], 0) else (withQ q [l ++ [Queued.mk p now]] now, [], 0)) = ((withQ q [l'] now, d, 0) : Queue × List Packet × Int)
      cases hr : ((l.length : Int) == q.Room)
      · exact ⟨_, _, rfl⟩
      · exact ⟨_, _, rfl⟩
    obtain ⟨l2, x2, b2, d2, htake⟩ : ∃ l2 x2 b2 d2, takeR q now = (withQ q [l2] now, x2, b2, d2, 0) := by
      unfold takeR
      rw [he0, hq]
      match l with
      | [] => exact ⟨_, _, _, _, rfl⟩
      | x :: xs => exact ⟨_, _, _, _, rfl⟩
    rw [hput, htake]
    simp [withQ, hs']
  · have he1 : errB q now = 18 := by rw [he, hd]; rfl
    unfold putR takeR
    rw [he1, hp]
    rfl

end Go.Proofs.Ytnbagejbdkhooaa
end

section
set_option linter.unusedVariables false
set_option maxRecDepth 100000
namespace Go.Proofs.Ytnbagejbdkhooaa
open Go.PI Go.Pl

/-- A loop that counts to its end. -/
theorem loop_count {τ ω : Type} {f : τ → Option (τ ⊕ ω)} (st : Nat → τ) (n : Nat) (w : ω) {x0 : τ} (hx : x0 = st 0)
    (h : ∀ i, i < n → f (st i) = some (.inl (st (i + 1)))) (he : f (st n) = some (.inr w)) : loopM f x0 = some w := by
  subst hx
  have key : ∀ m i, m = n - i → i ≤ n → loopM f (st i) = some w := by
    intro m
    induction m with
    | zero =>
      intro i hm hi
      have : i = n := by omega
      subst this
      exact out he
    | succ m ih =>
      intro i hm hi
      rw [next (h i (by omega))]
      exact ih (i + 1) (by omega) (by omega)
  exact key n 0 rfl (Nat.zero_le _)

/-- What waits is in order. -/
def ordR (e7 : Int) : Int → List Queued → Prop
  | _, [] => True
  | t, x :: xs => t ≤ x.At ∧ x.At ≤ e7 ∧ okP x.P = true ∧ ordR e7 x.At xs

def ordPt (e7 t : Int) (l : List Queued) (i : Nat) : Bool :=
  match l[i]? with
  | none => true
  | some x => !decide (x.At < (if i = 0 then t else (l[i - 1]?.map (·.At)).getD 0)) && (!decide (e7 < x.At) && okP x.P)

theorem ordPt_succ (e7 t : Int) (x : Queued) (xs : List Queued) (i : Nat) : ordPt e7 t (x :: xs) (i + 1) = ordPt e7 x.At xs i := by
  unfold ordPt
  simp only [List.getElem?_cons_succ, Nat.succ_ne_zero, if_false, Nat.add_sub_cancel]
  cases i with
  | zero => simp
  | succ j => simp

theorem ordR_iff (e7 : Int) : ∀ (l : List Queued) (t : Int), (∀ i, i < l.length → ordPt e7 t l i = true) ↔ ordR e7 t l
  | [], t => by simp [ordR]
  | x :: xs, t => by
    rw [ordR, ← ordR_iff e7 xs x.At]
    constructor
    · intro h
      have h0 := h 0 (by simp)
      simp only [ordPt, List.getElem?_cons_zero, if_true, Bool.and_eq_true, Bool.not_eq_true', decide_eq_false_iff_not] at h0
      refine ⟨by omega, by omega, h0.2.2, fun i hi => ?_⟩
      rw [← ordPt_succ e7 t x xs i]; exact h (i + 1) (by simp; omega)
    · rintro ⟨h1, h2, h3, h4⟩ i hi
      cases i with
      | zero =>
        simp only [ordPt, List.getElem?_cons_zero, if_true, Bool.and_eq_true, Bool.not_eq_true', decide_eq_false_iff_not]
        exact ⟨by omega, by omega, h3⟩
      | succ j => rw [ordPt_succ]; exact h4 j (by simp at hi; omega)

theorem ordB_iff (q : Queue) (l : List Queued) : ordB q l = true ↔ ordR q.Vars.e7 0 l := by
  rw [← ordR_iff]
  unfold ordB
  rw [List.all_eq_true]
  constructor
  · intro h i hi; exact h i (List.mem_range.2 hi)
  · intro h i hi; exact h i (List.mem_range.1 hi)

theorem ordR_mono {e e' : Int} (he : e ≤ e') : ∀ (l : List Queued) {s t : Int}, t ≤ s → ordR e s l → ordR e' t l
  | [], _, _, _, _ => trivial
  | x :: xs, s, t, ht, h => ⟨by have := h.1; omega, by have := h.2.1; omega, h.2.2.1, ordR_mono he xs (Int.le_refl _) h.2.2.2⟩

theorem ordR_append {e e' : Int} (he : e ≤ e') {p : Packet} (hp : okP p = true) : ∀ (l : List Queued) {t : Int}, t ≤ e' → ordR e t l → ordR e' t (l ++ [Queued.mk p e'])
  | [], _, ht, _ => ⟨ht, Int.le_refl _, hp, trivial⟩
  | x :: xs, t, _, h => ⟨h.1, by have := h.2.1; omega, h.2.2.1, ordR_append he hp xs (by have := h.2.1; omega) h.2.2.2⟩

theorem valid_iff (q : Queue) : validB q = true ↔ polB q = true ∧ varB q = true ∧ (q.Seed == 0) = true ∧ okT q.Vars.e7 = true ∧ (1 ≤ q.Room ∧ q.Room ≤ 500) ∧
    ∃ l, q.Lists = [l] ∧ (l.length : Int) ≤ q.Room ∧ ordR q.Vars.e7 0 l := by
  unfold validB
  simp only [Bool.and_eq_true, decide_eq_true_eq]
  constructor
  · rintro ⟨h1, h2, h3, h4, h5, h6⟩
    refine ⟨h1, h2, h3, h4, h5, ?_⟩
    split at h6
    · rename_i l hl
      simp only [Bool.and_eq_true, decide_eq_true_eq] at h6
      exact ⟨l, hl, h6.1, (ordB_iff q l).1 h6.2⟩
    · simp at h6
  · rintro ⟨h1, h2, h3, h4, h5, l, hl, h6, h7⟩
    refine ⟨h1, h2, h3, h4, h5, ?_⟩
    rw [hl]
    simp only [Bool.and_eq_true, decide_eq_true_eq]
    exact ⟨h6, (ordB_iff q l).2 h7⟩

theorem valid_with {q : Queue} {l : List Queued} {t : Int} (hv : validB q = true) (ht : okT t = true) (hlen : (l.length : Int) ≤ q.Room) (ho : ordR t 0 l) : validB (withQ q [l] t) = true := by
  obtain ⟨h1, h2, h3, _, h5, _⟩ := (valid_iff q).1 hv
  exact (valid_iff _).2 ⟨h1, h2, h3, ht, h5, l, rfl, hlen, ho⟩

/-- A run's state: the time, the queue, what was taken, what came, what was dropped. -/
structure St18 where
  now : Int
  q : Queue
  taken : List Packet
  came : List Packet
  dropped : List Packet

def clk (now w : Int) : Int := if IntKind.i64.wrap (now + IntKind.i64.wrap w) < 10000000 then IntKind.i64.wrap (now + IntKind.i64.wrap w) else 10000000
theorem clk_def (now w : Int) : (if IntKind.i64.wrap (now + IntKind.i64.wrap w) < 10000000 then IntKind.i64.wrap (now + IntKind.i64.wrap w) else 10000000) = clk now w := rfl
def pk (i : Int) (s : Step) : Packet := Packet.mk s.P.Flow s.P.Sub (IntKind.i64.wrap (500000000 + i)) s.P.Data s.P.Size s.P.Sent s.P.Able s.P.Marked
theorem pk_def (i : Int) (s : Step) : Packet.mk s.P.Flow s.P.Sub (IntKind.i64.wrap (500000000 + i)) s.P.Data s.P.Size s.P.Sent s.P.Able s.P.Marked = pk i s := rfl
theorem eta_q (q : Queue) : Queue.mk (Policy.mk q.Policy.Kind q.Policy.A q.Policy.B q.Policy.C) q.Room q.Lists (A8.mk q.Vars.e0 q.Vars.e1 q.Vars.e2 q.Vars.e3 q.Vars.e4 q.Vars.e5 q.Vars.e6 q.Vars.e7) q.Seed = q := rfl

theorem clk_ok {now w : Int} (hn : okT now = true) (hw : 0 ≤ w ∧ w ≤ 65535) : okT (clk now w) = true ∧ now ≤ clk now w := by
  simp only [okT, Bool.and_eq_true, decide_eq_true_eq] at hn ⊢
  have h1 : IntKind.i64.wrap w = w := IntWalk.i64_in _ (by omega)
  have h2 : IntKind.i64.wrap (now + w) = now + w := IntWalk.i64_in _ (by omega)
  unfold clk
  rw [h1, h2]
  split <;> omega

def stepR (i : Int) (s : Step) (x : St18) : St18 :=
  let t := clk x.now s.Wait
  if s.Take = true then
    match x.q.Lists with
    | [y :: ys] => ⟨t, withQ x.q [ys] t, x.taken ++ [y.P], x.came, x.dropped⟩
    | _ => ⟨t, withQ x.q [[]] t, x.taken, x.came, x.dropped⟩
  else if okP (pk i s) = true then
    match x.q.Lists with
    | [l] => if (l.length : Int) = x.q.Room then ⟨t, withQ x.q [l] t, x.taken, x.came ++ [pk i s], x.dropped ++ [pk i s]⟩
      else ⟨t, withQ x.q [l ++ [Queued.mk (pk i s) t]] t, x.taken, x.came ++ [pk i s], x.dropped⟩
    | _ => x
  else ⟨t, x.q, x.taken, x.came, x.dropped⟩

def runN (q : Queue) (steps : List Step) : Nat → St18
  | 0 => ⟨q.Vars.e7, q, [], [], []⟩
  | i + 1 => match steps[i]? with
    | some s => stepR i s (runN q steps i)
    | none => runN q steps i

theorem runN_succ {q : Queue} {steps : List Step} {i : Nat} (h : i < steps.length) : runN q steps (i + 1) = stepR i steps[i] (runN q steps i) := by
  rw [runN, List.getElem?_eq_getElem h]

/-- What stands after each call. -/
structure Inv18 (x : St18) : Prop where
  v : validB x.q = true
  t : okT x.now = true
  le : x.q.Vars.e7 ≤ x.now

theorem Inv18.list {x : St18} (h : Inv18 x) : ∃ l, x.q.Lists = [l] ∧ (l.length : Int) ≤ x.q.Room ∧ x.q.Room ≤ 500 ∧ ordR x.q.Vars.e7 0 l := by
  obtain ⟨_, _, _, _, h5, l, h6, h7, h8⟩ := (valid_iff _).1 h.v
  exact ⟨l, h6, h7, h5.2, h8⟩

theorem Inv18.err {x : St18} (h : Inv18 x) {t : Int} (ht : okT t = true) (hle : x.now ≤ t) : errB x.q t = 0 := by
  unfold errB
  have := h.le
  have hd : ¬ t < x.q.Vars.e7 := by omega
  rw [h.v, ht]
  simp [hd]

theorem ordR_tail {e e' t : Int} {y : Queued} {ys : List Queued} (he : e ≤ e') (h : ordR e t (y :: ys)) (ht : 0 ≤ t) : ordR e' 0 ys :=
  ordR_mono he ys (by have := h.1; omega) h.2.2.2

theorem step_inv {x : St18} (h : Inv18 x) {s : Step} (hw : 0 ≤ s.Wait ∧ s.Wait ≤ 65535) (i : Int) : Inv18 (stepR i s x) := by
  obtain ⟨l, hl, h1, h2, h3⟩ := h.list
  obtain ⟨ht, hle⟩ := clk_ok h.t hw
  have he : x.q.Vars.e7 ≤ clk x.now s.Wait := by have := h.le; omega
  unfold stepR
  simp only [hl]
  by_cases hT : s.Take = true
  · rw [if_pos hT]
    match l, hl, h1, h3 with
    | [], hl, h1, h3 => exact ⟨valid_with h.v ht h1 trivial, ht, Int.le_refl _⟩
    | y :: ys, hl, h1, h3 => exact ⟨valid_with h.v ht (by simp at h1; omega) (ordR_tail he h3 (Int.le_refl _)), ht, Int.le_refl _⟩
  · rw [if_neg hT]
    by_cases hp : okP (pk i s) = true
    · rw [if_pos hp]
      by_cases hr : (l.length : Int) = x.q.Room
      · rw [if_pos hr]
        exact ⟨valid_with h.v ht h1 (ordR_mono he l (Int.le_refl _) h3), ht, Int.le_refl _⟩
      · rw [if_neg hr]
        have h0 : 0 ≤ clk x.now s.Wait := by simp only [okT, Bool.and_eq_true, decide_eq_true_eq] at ht; omega
        exact ⟨valid_with h.v ht (by simp; omega) (ordR_append he hp l h0 h3), ht, Int.le_refl _⟩
    · rw [if_neg hp]
      exact ⟨h.v, ht, he⟩

theorem step_len {x : St18} (s : Step) (i : Int) (n : Nat) (h : x.taken.length ≤ n ∧ x.came.length ≤ n ∧ x.dropped.length ≤ n) :
    (stepR i s x).taken.length ≤ n + 1 ∧ (stepR i s x).came.length ≤ n + 1 ∧ (stepR i s x).dropped.length ≤ n + 1 := by
  unfold stepR
  simp only
  split
  · split <;> simp <;> omega
  · split
    · split
      · split <;> simp <;> omega
      · omega
    · exact ⟨by simp; omega, by simp; omega, by simp; omega⟩

theorem run_inv {q : Queue} {steps : List Step} (hv : validB q = true) (hs : ∀ s ∈ steps, 0 ≤ s.Wait ∧ s.Wait ≤ 65535) :
    ∀ i, i ≤ steps.length → Inv18 (runN q steps i) ∧ (runN q steps i).taken.length ≤ i ∧ (runN q steps i).came.length ≤ i ∧ (runN q steps i).dropped.length ≤ i := by
  intro i
  induction i with
  | zero => intro _; exact ⟨⟨hv, ((valid_iff q).1 hv).2.2.2.1, Int.le_refl _⟩, Nat.le_refl _, Nat.le_refl _, Nat.le_refl _⟩
  | succ i ih =>
    intro hi
    have hlt : i < steps.length := by omega
    obtain ⟨h1, h2⟩ := ih (by omega)
    rw [runN_succ hlt]
    exact ⟨step_inv h1 (hs _ (List.getElem_mem hlt)) i, step_len _ _ i h2⟩

theorem step_take_nil {x : St18} {s : Step} {i : Int} (hT : s.Take = true) (hl : x.q.Lists = [[]]) :
    stepR i s x = ⟨clk x.now s.Wait, withQ x.q [[]] (clk x.now s.Wait), x.taken, x.came, x.dropped⟩ := by
  unfold stepR; simp only [hT, hl, if_true]
theorem step_take_cons {x : St18} {s : Step} {i : Int} {y : Queued} {ys : List Queued} (hT : s.Take = true) (hl : x.q.Lists = [y :: ys]) :
    stepR i s x = ⟨clk x.now s.Wait, withQ x.q [ys] (clk x.now s.Wait), x.taken ++ [y.P], x.came, x.dropped⟩ := by
  unfold stepR; simp only [hT, hl, if_true]
theorem step_skip {x : St18} {s : Step} {i : Int} (hT : ¬ s.Take = true) (hp : ¬ okP (pk i s) = true) :
    stepR i s x = ⟨clk x.now s.Wait, x.q, x.taken, x.came, x.dropped⟩ := by
  unfold stepR; simp only [hT, hp, if_false, Bool.false_eq_true]
theorem step_drop {x : St18} {s : Step} {i : Int} {l : List Queued} (hT : ¬ s.Take = true) (hp : okP (pk i s) = true) (hl : x.q.Lists = [l]) (hr : (l.length : Int) = x.q.Room) :
    stepR i s x = ⟨clk x.now s.Wait, withQ x.q [l] (clk x.now s.Wait), x.taken, x.came ++ [pk i s], x.dropped ++ [pk i s]⟩ := by
  unfold stepR; simp only [hT, hp, hl, hr, if_true, if_false, Bool.false_eq_true]
theorem step_put {x : St18} {s : Step} {i : Int} {l : List Queued} (hT : ¬ s.Take = true) (hp : okP (pk i s) = true) (hl : x.q.Lists = [l]) (hr : ¬ (l.length : Int) = x.q.Room) :
    stepR i s x = ⟨clk x.now s.Wait, withQ x.q [l ++ [Queued.mk (pk i s) (clk x.now s.Wait)]] (clk x.now s.Wait), x.taken, x.came ++ [pk i s], x.dropped⟩ := by
  unfold stepR; simp only [hT, hp, hl, hr, if_true, if_false, Bool.false_eq_true]

theorem list_bnd {x : St18} (h : Inv18 x) : ∀ l ∈ x.q.Lists, l.length ≤ 2 ^ 63 - 1 := by
  obtain ⟨l, hl, h1, h2, _⟩ := h.list
  rw [hl]
  intro l' hl'
  simp only [List.mem_singleton] at hl'
  subst hl'
  omega

theorem played_eq (q : Queue) (steps : List Step) (hv : validB q = true) (hn : steps.length ≤ 200) (hs : ∀ s ∈ steps, 0 ≤ s.Wait ∧ s.Wait ≤ 65535) :
    Models.law18_played q steps = some ((runN q steps steps.length).q, (runN q steps steps.length).came, (runN q steps steps.length).taken, (runN q steps steps.length).dropped, true) := by
  unfold Models.law18_played
  rw [loop_count (fun i => ((runN q steps i).now, false, (i : Int), [], [], [], (runN q steps i).taken, (runN q steps i).came, (runN q steps i).dropped, 0, 0, 0, 0, 0, [], 0, 0, 0, 0, 0, 0, 0, 0, 0,
      (runN q steps i).q.Policy.Kind, (runN q steps i).q.Policy.A, (runN q steps i).q.Policy.B, (runN q steps i).q.Policy.C, (runN q steps i).q.Room, (runN q steps i).q.Lists,
      (runN q steps i).q.Vars.e0, (runN q steps i).q.Vars.e1, (runN q steps i).q.Vars.e2, (runN q steps i).q.Vars.e3, (runN q steps i).q.Vars.e4, (runN q steps i).q.Vars.e5, (runN q steps i).q.Vars.e6, (runN q steps i).q.Vars.e7,
      (runN q steps i).q.Seed)) steps.length
    (.inr (.inr ((runN q steps steps.length).now, false, (steps.length : Int), [], [], [], (runN q steps steps.length).taken, (runN q steps steps.length).came, (runN q steps steps.length).dropped, 0, 0, 0, 0, 0, [], 0, 0, 0, 0, 0, 0, 0, 0, 0,
      (runN q steps steps.length).q.Policy.Kind, (runN q steps steps.length).q.Policy.A, (runN q steps steps.length).q.Policy.B, (runN q steps steps.length).q.Policy.C, (runN q steps steps.length).q.Room, (runN q steps steps.length).q.Lists,
      (runN q steps steps.length).q.Vars.e0, (runN q steps steps.length).q.Vars.e1, (runN q steps steps.length).q.Vars.e2, (runN q steps steps.length).q.Vars.e3, (runN q steps steps.length).q.Vars.e4, (runN q steps steps.length).q.Vars.e5, (runN q steps steps.length).q.Vars.e6, (runN q steps steps.length).q.Vars.e7,
      (runN q steps steps.length).q.Seed))) ?_ ?_ ?_]
  · rfl
  · rfl
  · intro i hi
    obtain ⟨hI, l1, l2, l3⟩ := run_inv hv hs i (by omega)
    have hw := hs _ (List.getElem_mem hi)
    rw [runN_succ hi]
    generalize hx : runN q steps i = x at hI l1 l2 l3
    generalize hsi : steps[i] = s at hw
    obtain ⟨ht, hle⟩ := clk_ok hI.t hw
    have hE := hI.err ht hle
    obtain ⟨l, hl, h1, h2, h3⟩ := hI.list
    have hb := list_bnd hI
    have hlt : ((i : Int) < (steps.length : Int)) := by omega
    simp only [hlt, decide_true, cond_true, Int.natCast_nonneg, Int.toNat_natCast, List.getElem?_eq_getElem hi, hsi, Option.bind_some, eta_q, clk_def, pk_def, wrap_succ hi (by omega), ttake_eq x.q _ hb, tput_eq x.q _ _ hb, rpacket_eq]
    by_cases hT : s.Take = true
    · simp only [hT, cond_true]
      have r1 : (x.taken.length + 1) * 56 ≤ 2 ^ 44 := by omega
      have r2 : x.taken.length + 1 ≤ 2 ^ 44 := by omega
      match l, hl with
      | [], hl =>
        have htake : takeR x.q (clk x.now s.Wait) = (withQ x.q [[]] (clk x.now s.Wait), zeroP, false, [], 0) := by
          unfold takeR; rw [hE, hl]; rfl
        rw [htake, step_take_nil hT hl]
        rfl
      | y :: ys, hl =>
        have htake : takeR x.q (clk x.now s.Wait) = (withQ x.q [ys] (clk x.now s.Wait), y.P, true, [], 0) := by
          unfold takeR; rw [hE, hl]; rfl
        rw [htake, step_take_cons hT hl]
        simp only [r1, r2, decide_true, Bool.and_self, cond_true]
        rfl
    · have hT' : s.Take = false := by simpa using hT
      simp only [hT', cond_false]
      by_cases hp : okP (pk i s) = true
      · have r1 : (x.came.length + 1) * 56 ≤ 2 ^ 44 := by omega
        have r2 : x.came.length + 1 ≤ 2 ^ 44 := by omega
        have r3 : (x.dropped.length + 1) * 56 ≤ 2 ^ 44 := by omega
        have r4 : x.dropped.length + 1 ≤ 2 ^ 44 := by omega
        have r5 : (x.dropped.length + 0) * 56 ≤ 2 ^ 44 := by omega
        have r6 : x.dropped.length + 0 ≤ 2 ^ 44 := by omega
        by_cases hr : (l.length : Int) = x.q.Room
        · have hput : putR x.q (pk i s) (clk x.now s.Wait) = (withQ x.q [l] (clk x.now s.Wait), [pk i s], 0) := by
            unfold putR
            rw [hp, hE, hl]
            have : ((l.length : Int) == x.q.Room) = true := by simpa using hr
            show (bif (l.length : Int) == x.q.Room then _ else _) = _
            rw [this]; rfl
          rw [hput, hp, step_drop hT hp hl hr]
          simp only [r1, r2, r3, r4, List.length_singleton, withQ, decide_true, Bool.and_self, cond_true]
          rfl
        · have hput : putR x.q (pk i s) (clk x.now s.Wait) = (withQ x.q [l ++ [Queued.mk (pk i s) (clk x.now s.Wait)]] (clk x.now s.Wait), [], 0) := by
            unfold putR
            rw [hp, hE, hl]
            have : ((l.length : Int) == x.q.Room) = false := by simpa using hr
            show (bif (l.length : Int) == x.q.Room then _ else _) = _
            rw [this]; rfl
          rw [hput, hp, step_put hT hp hl hr]
          simp only [r1, r2, r5, r6, List.length_nil, List.length_singleton, withQ, decide_true, Bool.and_self, cond_true, List.append_nil]
          rfl
      · rw [step_skip hT hp]
        have hp' : okP (pk i s) = false := by simpa using hp
        rw [hp']
        rfl
  · have hge : ¬ ((steps.length : Int) < (steps.length : Int)) := by omega
    simp only [hge, decide_false, cond_false]

end Go.Proofs.Ytnbagejbdkhooaa
end

section
set_option linter.unusedVariables false
set_option maxRecDepth 100000
namespace Go.Proofs.Ytnbagejbdkhooaa
open Go.PI Go.Pl

def emptyQ (room : Int) : Queue := Queue.mk (Policy.mk 1 0 0 0) room [[]] (A8.mk 0 0 0 0 0 0 0 0) 0
theorem empty_eq (room : Int) : Models.law18_empty room = some (emptyQ room) := rfl
theorem empty_room (room : Int) : (emptyQ room).Room = room := rfl
theorem empty_valid {room : Int} (h : 1 ≤ room ∧ room ≤ 500) : validB (emptyQ room) = true :=
  (valid_iff _).2 ⟨rfl, rfl, rfl, rfl, h, [], rfl, by simp only [emptyQ, List.length_nil]; omega, trivial⟩

/-- Two runs with the same calls, one of them with more room. -/
structure Two (a b : Int) (x y : St18) : Prop where
  now : x.now = y.now
  came : x.came = y.came
  ra : x.q.Room = a
  rb : y.q.Room = b
  lists : ∃ lx ly, x.q.Lists = [lx] ∧ y.q.Lists = [ly] ∧ (lx.length : Int) ≤ a ∧ lx.length + x.taken.length + x.dropped.length = x.came.length ∧
    ly.length + y.taken.length + y.dropped.length = y.came.length
  dr : y.dropped.length ≤ x.dropped.length
  tk : x.taken.length ≤ y.taken.length

theorem two_step {a b : Int} (hab : a ≤ b) {x y : St18} (h : Two a b x y) (s : Step) (i : Int) : Two a b (stepR i s x) (stepR i s y) := by
  obtain ⟨hn, hc, hra, hrb, ⟨lx, ly, hx, hy, hle, sx, sy⟩, hd, ht⟩ := h
  have hcl : x.came.length = y.came.length := by rw [hc]
  by_cases hT : s.Take = true
  · match lx, ly, hx, hy, hle, sx, sy with
    | [], [], hx, hy, hle, sx, sy =>
      rw [step_take_nil hT hx, step_take_nil hT hy, hn]
      exact ⟨rfl, hc, hra, hrb, ⟨[], [], rfl, rfl, hle, sx, sy⟩, hd, ht⟩
    | [], v :: vs, hx, hy, hle, sx, sy =>
      rw [step_take_nil hT hx, step_take_cons hT hy, hn]
      exact ⟨rfl, hc, hra, hrb, ⟨[], vs, rfl, rfl, hle, sx, by simp at sy ⊢; omega⟩, hd, by simp; omega⟩
    | u :: us, [], hx, hy, hle, sx, sy =>
      rw [step_take_cons hT hx, step_take_nil hT hy, hn]
      exact ⟨rfl, hc, hra, hrb, ⟨us, [], rfl, rfl, by simp at hle; omega, by simp at sx ⊢; omega, sy⟩, hd, by simp at sx sy ⊢; omega⟩
    | u :: us, v :: vs, hx, hy, hle, sx, sy =>
      rw [step_take_cons hT hx, step_take_cons hT hy, hn]
      exact ⟨rfl, hc, hra, hrb, ⟨us, vs, rfl, rfl, by simp at hle; omega, by simp at sx ⊢; omega, by simp at sy ⊢; omega⟩, hd, by simp; omega⟩
  · by_cases hp : okP (pk i s) = true
    · by_cases h1 : (lx.length : Int) = x.q.Room <;> by_cases h2 : (ly.length : Int) = y.q.Room
      · rw [step_drop hT hp hx h1, step_drop hT hp hy h2, hn]
        exact ⟨rfl, by rw [hc], hra, hrb, ⟨lx, ly, rfl, rfl, hle, by simp; omega, by simp; omega⟩, by simp; omega, ht⟩
      · rw [step_drop hT hp hx h1, step_put hT hp hy h2, hn]
        exact ⟨rfl, by rw [hc], hra, hrb, ⟨lx, _, rfl, rfl, hle, by simp; omega, by simp; omega⟩, by simp; omega, ht⟩
      · rw [step_put hT hp hx h1, step_drop hT hp hy h2, hn]
        exact ⟨rfl, by rw [hc], hra, hrb, ⟨_, ly, rfl, rfl, by simp; omega, by simp; omega, by simp; omega⟩, by simp; omega, ht⟩
      · rw [step_put hT hp hx h1, step_put hT hp hy h2, hn]
        exact ⟨rfl, by rw [hc], hra, hrb, ⟨_, _, rfl, rfl, by simp; omega, by simp; omega, by simp; omega⟩, hd, ht⟩
    · rw [step_skip hT hp, step_skip hT hp, hn]
      exact ⟨rfl, hc, hra, hrb, ⟨lx, ly, hx, hy, hle, sx, sy⟩, hd, ht⟩

theorem two_run {a b : Int} (h0 : 0 ≤ a) (hab : a ≤ b) (steps : List Step) : ∀ i, i ≤ steps.length → Two a b (runN (emptyQ a) steps i) (runN (emptyQ b) steps i) := by
  intro i
  induction i with
  | zero => intro _; exact ⟨rfl, rfl, rfl, rfl, ⟨[], [], rfl, rfl, h0, rfl, rfl⟩, Nat.le_refl _, Nat.le_refl _⟩
  | succ i ih =>
    intro hi
    have hlt : i < steps.length := by omega
    rw [runN_succ hlt, runN_succ hlt]
    exact two_step hab (ih (by omega)) _ _

theorem more_eq (room more : Int) (steps : List Step) (hr : 0 ≤ room ∧ room ≤ 255) (hm : 0 ≤ more ∧ more ≤ 255) (hs : ∀ s ∈ steps, 0 ≤ s.Wait ∧ s.Wait ≤ 65535) :
    Models.law18_TailMoreRoom room more steps = some true := by
  unfold Models.law18_TailMoreRoom
  simp only [Models.law18_head, Option.bind_some]
  by_cases hn : (200 : Int) < (steps.length : Int)
  · simp only [hn, decide_true, cond_true]
  have ht : (IntKind.i64.wrap room).tmod 100 = room % 100 := by
    rw [IntWalk.i64_in _ (by omega)]; exact Int.tmod_eq_emod_of_nonneg (by omega)
  have ht2 : (IntKind.i64.wrap more).tmod 100 = more % 100 := by
    rw [IntWalk.i64_in _ (by omega)]; exact Int.tmod_eq_emod_of_nonneg (by omega)
  have ha : IntKind.i64.wrap (1 + room % 100) = 1 + room % 100 := IntWalk.i64_in _ (by omega)
  have hb : IntKind.i64.wrap (1 + room % 100 + more % 100) = 1 + room % 100 + more % 100 := IntWalk.i64_in _ (by omega)
  simp only [hn, decide_false, cond_false, ht, ht2, ha, empty_eq, Option.bind_some, empty_room, hb]
  generalize hA : 1 + room % 100 = a
  generalize hB : a + more % 100 = b
  have va : validB (emptyQ a) = true := empty_valid (by omega)
  have vb : validB (emptyQ b) = true := empty_valid (by omega)
  rw [played_eq _ _ va (by omega) hs, played_eq _ _ vb (by omega) hs]
  obtain ⟨hnow, hc, hra, hrb, ⟨lx, ly, hx, hy, hle, sx, sy⟩, hd, htk⟩ := two_run (a := a) (b := b) (by omega) (by omega) steps steps.length (Nat.le_refl _)
  obtain ⟨_, x1, x2, x3⟩ := run_inv va hs steps.length (Nat.le_refl _)
  obtain ⟨_, y1, y2, y3⟩ := run_inv vb hs steps.length (Nat.le_refl _)
  generalize runN (emptyQ a) steps steps.length = x at *
  generalize runN (emptyQ b) steps steps.length = y at *
  have w1 : IntKind.i64.wrap ((lx.length : Int) + (x.taken.length : Int)) = (lx.length : Int) + (x.taken.length : Int) := IntWalk.i64_in _ (by omega)
  have w2 : IntKind.i64.wrap ((ly.length : Int) + (y.taken.length : Int)) = (ly.length : Int) + (y.taken.length : Int) := IntWalk.i64_in _ (by omega)
  have e1 : ((y.dropped.length : Int) ≤ (x.dropped.length : Int)) := by omega
  have e2 : ((x.taken.length : Int) ≤ (y.taken.length : Int)) := by omega
  have e3 : ((lx.length : Int) + (x.taken.length : Int) ≤ (ly.length : Int) + (y.taken.length : Int)) := by
    have : x.came.length = y.came.length := by rw [hc]
    omega
  have hg1 : [lx][Int.toNat 0]? = some lx := rfl
  have hg2 : [ly][Int.toNat 0]? = some ly := rfl
  simp only [Option.bind_some, Bool.not_true, cond_false, hx, hy, List.length_singleton, hc, packets_self y.came (by omega), cond_true, e1, e2, e3, decide_true, hg1, hg2, w1, w2]
  rfl

theorem u16_bnd {x : Int} (h : wf65 x) : 0 ≤ x ∧ x ≤ 65535 := by
  have h1 : IntKind.min .u16 = 0 := by decide
  have h2 : IntKind.max .u16 = 65535 := by decide
  unfold wf65 at h
  rw [h1, h2] at h
  exact h

end Go.Proofs.Ytnbagejbdkhooaa
end

section
set_option linter.unusedVariables false
set_option maxRecDepth 100000
namespace Go.Proofs.Ytnbagejbdkhooaa
open Go.PI Go.Pl

/-- The packets of a list. -/
theorem packets_eq (l : List Queued) (hl : l.length ≤ 1000) : Models.law18_packets l = some (l.map (·.P)) := by
  unfold Models.law18_packets
  rw [loop_count (fun i => ((i : Int), (l.take i).map (·.P))) l.length ((l.length : Int), l.map (·.P)) ?_ ?_ ?_]
  · rfl
  · simp
  · intro i hi
    have h1 : ((i : Int) < (l.length : Int)) := by omega
    have h2 : (((l.take i).map (·.P)).length + 1) * 56 ≤ 2 ^ 44 := by simp; omega
    have h3 : ((l.take i).map (·.P)).length + 1 ≤ 2 ^ 44 := by simp; omega
    have h4 : (l.take (i + 1)).map (·.P) = (l.take i).map (·.P) ++ [l[i].P] := by
      rw [List.take_add_one, List.getElem?_eq_getElem hi, List.map_append]
      rfl
    simp only [h1, h2, h3, h4, decide_true, Bool.and_self, cond_true, Int.natCast_nonneg, Int.toNat_natCast, List.getElem?_eq_getElem hi, Option.bind_some, wrap_succ hi (show l.length ≤ 2 ^ 63 - 1 by omega)]
  · have h1 : ¬ ((l.length : Int) < (l.length : Int)) := by omega
    simp only [h1, decide_false, cond_false, List.take_length]

/-- What came is what was accepted and what was dropped, in order. -/
inductive Mix {α : Type} : List α → List α → List α → Prop
  | nil : Mix [] [] []
  | acc (x : α) {c a d : List α} (h : Mix c a d) : Mix (x :: c) (x :: a) d
  | drp (x : α) {c a d : List α} (h : Mix c a d) : Mix (x :: c) a (x :: d)

theorem Mix.snoc_acc {α : Type} (x : α) {c a d : List α} (h : Mix c a d) : Mix (c ++ [x]) (a ++ [x]) d := by
  induction h with
  | nil => exact .acc x .nil
  | acc y h ih => exact .acc y ih
  | drp y h ih => exact .drp y ih
theorem Mix.snoc_drp {α : Type} (x : α) {c a d : List α} (h : Mix c a d) : Mix (c ++ [x]) a (d ++ [x]) := by
  induction h with
  | nil => exact .drp x .nil
  | acc y h ih => exact .acc y ih
  | drp y h ih => exact .drp y ih
theorem Mix.length {α : Type} {c a d : List α} (h : Mix c a d) : c.length = a.length + d.length := by
  induction h with
  | nil => rfl
  | acc y h ih => simp only [List.length_cons]; omega
  | drp y h ih => simp only [List.length_cons]; omega
theorem Mix.mem_d {α : Type} {c a d : List α} (h : Mix c a d) : ∀ y ∈ d, y ∈ c := by
  induction h with
  | nil => simp
  | acc z h ih => intro y hy; exact List.mem_cons_of_mem _ (ih y hy)
  | drp z h ih =>
    intro y hy
    rcases List.mem_cons.1 hy with rfl | hy
    · simp
    · exact List.mem_cons_of_mem _ (ih y hy)

/-- The loop that holds what came against what went. -/
theorem mix_loop {τ ω : Type} {f : τ → Option (τ ⊕ ω)} (st : Nat → Nat → Nat → τ) (e : ω) (all out dropped : List Packet) (n0 : Nat) (bad : ω)
    (hf : ∀ lost at_ i p, all[i]? = some p → f (st lost at_ i) = some (if n0 ≤ i ∧ dropped[lost]? = some p then .inl (st (lost + 1) at_ (i + 1)) else if out[at_]? = some p then .inl (st lost (at_ + 1) (i + 1)) else .inr bad))
    (he : f (st dropped.length out.length all.length) = some (.inr e)) {c a d : List Packet} (hm : Mix c a d) (hnd : c.Pairwise (· ≠ ·)) :
    ∀ preA preO preD, all = preA ++ c → out = preO ++ a → dropped = preD ++ d → n0 ≤ preA.length → loopM f (st preD.length preO.length preA.length) = some e := by
  induction hm with
  | nil =>
    intro preA preO preD h1 h2 h3 _
    rw [List.append_nil] at h1 h2 h3
    subst h1 h2 h3
    exact Go.Pl.out he
  | @acc x c a d h ih =>
    intro preA preO preD h1 h2 h3 hn
    have hg : all[preA.length]? = some x := by rw [h1]; simp
    have ho : out[preO.length]? = some x := by rw [h2]; simp
    have hd : ¬ (n0 ≤ preA.length ∧ dropped[preD.length]? = some x) := by
      rintro ⟨_, hx⟩
      rw [h3] at hx
      have hmem : x ∈ d := by
        rw [List.getElem?_append_right (Nat.le_refl _), Nat.sub_self] at hx
        exact List.mem_of_getElem? hx
      exact (List.pairwise_cons.1 hnd).1 x (h.mem_d x hmem) rfl
    have hs := hf preD.length preO.length preA.length x hg
    rw [if_neg hd, if_pos ho] at hs
    rw [next hs]
    have := ih (List.pairwise_cons.1 hnd).2 (preA ++ [x]) (preO ++ [x]) preD (by rw [h1]; simp) (by rw [h2]; simp) h3 (by simp; omega)
    simpa using this
  | @drp x c a d h ih =>
    intro preA preO preD h1 h2 h3 hn
    have hg : all[preA.length]? = some x := by rw [h1]; simp
    have hd : n0 ≤ preA.length ∧ dropped[preD.length]? = some x := ⟨hn, by rw [h3]; simp⟩
    have hs := hf preD.length preO.length preA.length x hg
    rw [if_pos hd] at hs
    rw [next hs]
    have := ih (List.pairwise_cons.1 hnd).2 (preA ++ [x]) preO (preD ++ [x]) (by rw [h1]; simp) h2 (by rw [h3]; simp) (by simp; omega)
    simpa using this

theorem first_loop {τ ω : Type} {f : τ → Option (τ ⊕ ω)} (st : Nat → Nat → Nat → τ) (all out dropped : List Packet) (n0 : Nat) (bad : ω)
    (hf : ∀ lost at_ i p, all[i]? = some p → f (st lost at_ i) = some (if n0 ≤ i ∧ dropped[lost]? = some p then .inl (st (lost + 1) at_ (i + 1)) else if out[at_]? = some p then .inl (st lost (at_ + 1) (i + 1)) else .inr bad))
    (p0 : List Packet) (hn : n0 = p0.length) {c a : List Packet} (h1 : all = p0 ++ c) (h2 : out = p0 ++ a) :
    ∀ k, k ≤ p0.length → loopM f (st 0 0 0) = loopM f (st 0 k k) := by
  intro k
  induction k with
  | zero => intro _; rfl
  | succ k ih =>
    intro hk
    have hlt : k < p0.length := by omega
    have hg : all[k]? = some p0[k] := by rw [h1, List.getElem?_append_left hlt, List.getElem?_eq_getElem hlt]
    have ho : out[k]? = some p0[k] := by rw [h2, List.getElem?_append_left hlt, List.getElem?_eq_getElem hlt]
    have hs := hf 0 k k _ hg
    rw [if_neg (by omega), if_pos ho] at hs
    rw [ih (by omega), next hs]

/-- Both together. -/
theorem whole_loop {τ ω : Type} {f : τ → Option (τ ⊕ ω)} (st : Nat → Nat → Nat → τ) (e : ω) (all out dropped : List Packet) (bad : ω) (p0 c a : List Packet) (h1 : all = p0 ++ c) (h2 : out = p0 ++ a)
    (hf : ∀ lost at_ i p, all[i]? = some p → f (st lost at_ i) = some (if p0.length ≤ i ∧ dropped[lost]? = some p then .inl (st (lost + 1) at_ (i + 1)) else if out[at_]? = some p then .inl (st lost (at_ + 1) (i + 1)) else .inr bad))
    (he : f (st dropped.length out.length all.length) = some (.inr e)) (hm : Mix c a dropped) (hnd : c.Pairwise (· ≠ ·)) : loopM f (st 0 0 0) = some e := by
  rw [first_loop st all out dropped p0.length bad hf p0 rfl h1 h2 p0.length (Nat.le_refl _)]
  exact mix_loop st e all out dropped p0.length bad hf he hm hnd p0 p0 [] h1 h2 rfl (Nat.le_refl _)

theorem peq (a b : Packet) : (a.Flow == b.Flow && (a.Sub == b.Sub && (a.Number == b.Number && (a.Data == b.Data && (a.Size == b.Size && (a.Sent == b.Sent && (a.Able == b.Able && a.Marked == b.Marked))))))) = decide (a = b) := by
  cases a; cases b
  rw [Bool.eq_iff_iff]
  simp

/-- A run keeps what it must. -/
structure Kept (p0 : List Packet) (i : Nat) (x : St18) : Prop where
  acc : ∃ l a, x.q.Lists = [l] ∧ Mix x.came a x.dropped ∧ x.taken ++ l.map (·.P) = p0 ++ a
  num : ∀ p ∈ x.came, p.Number < 500000000 + i
  dis : x.came.Pairwise (· ≠ ·)

theorem kept_step {p0 : List Packet} {x : St18} {i : Nat} (hi : i < 1000) (h : Kept p0 i x) (s : Step) : Kept p0 (i + 1) (stepR i s x) := by
  obtain ⟨⟨l, a, hl, hm, ha⟩, hn, hd⟩ := h
  have hnum : (pk i s).Number = 500000000 + i := by
    show IntKind.i64.wrap (500000000 + (i : Int)) = _
    exact IntWalk.i64_in _ (by omega)
  have hn' : ∀ p ∈ x.came, p.Number < 500000000 + ((i + 1 : Nat) : Int) := fun p hp => by have := hn p hp; omega
  have hcn : ∀ p ∈ x.came ++ [pk i s], p.Number < 500000000 + ((i + 1 : Nat) : Int) := by
    intro p hp
    rcases List.mem_append.1 hp with hp | hp
    · exact hn' p hp
    · simp only [List.mem_singleton] at hp; subst hp; omega
  have hcd : (x.came ++ [pk i s]).Pairwise (· ≠ ·) := by
    rw [List.pairwise_append]
    refine ⟨hd, by simp, fun u hu v hv => ?_⟩
    simp only [List.mem_singleton] at hv
    subst hv
    intro he
    have := hn u hu
    rw [he] at this
    omega
  by_cases hT : s.Take = true
  · match l, hl, ha with
    | [], hl, ha =>
      rw [step_take_nil hT hl]
      exact ⟨⟨[], a, rfl, hm, ha⟩, hn', hd⟩
    | y :: ys, hl, ha =>
      rw [step_take_cons hT hl]
      exact ⟨⟨ys, a, rfl, hm, by rw [List.append_assoc]; exact ha⟩, hn', hd⟩
  · by_cases hp : okP (pk i s) = true
    · by_cases hr : (l.length : Int) = x.q.Room
      · rw [step_drop hT hp hl hr]
        exact ⟨⟨l, a, rfl, hm.snoc_drp _, ha⟩, hcn, hcd⟩
      · rw [step_put hT hp hl hr]
        exact ⟨⟨_, a ++ [pk i s], rfl, hm.snoc_acc _, by rw [List.map_append, ← List.append_assoc, ha, List.append_assoc]; rfl⟩, hcn, hcd⟩
    · rw [step_skip hT hp]
      exact ⟨⟨l, a, hl, hm, ha⟩, hn', hd⟩

theorem kept_run {q : Queue} {l0 : List Queued} (hq : q.Lists = [l0]) {steps : List Step} (hn : steps.length ≤ 200) : ∀ i, i ≤ steps.length → Kept (l0.map (·.P)) i (runN q steps i) := by
  intro i
  induction i with
  | zero => intro _; exact ⟨⟨l0, [], hq, .nil, by simp [runN]⟩, by simp [runN], by simp [runN]⟩
  | succ i ih =>
    intro hi
    have hlt : i < steps.length := by omega
    rw [runN_succ hlt]
    exact kept_step (by omega) (ih (by omega)) _

end Go.Proofs.Ytnbagejbdkhooaa
end

section
set_option linter.unusedVariables false
set_option maxRecDepth 100000
namespace Go.Proofs.Ytnbagejbdkhooaa
open Go.PI Go.Pl

theorem bind_loop {τ ω β : Type} {f : τ → Option (τ ⊕ ω)} {x0 : τ} {e : ω} {K : ω → Option β} {r : Option β} (h : loopM f x0 = some e) (hk : K e = r) : (loopM f x0).bind K = r := by
  rw [h]; exact hk

theorem small_eq (q : Queue) (steps : List Step) (hb : bnd q) : Models.law18_small q steps = some (decide ((steps.length : Int) ≤ 200) && ((bif q.Lists.all (fun l => decide (l.length ≤ 600)) then decide ((q.Lists.length : Int) ≤ 20) else false) && validB q)) := by
  have hl : ∀ l ∈ q.Lists, l.length ≤ 2 ^ 63 - 1 := fun l h => by have := hb.2 l h; omega
  unfold Models.law18_small
  rw [few_eq q (by have := hb.1; omega), rvalid_eq q hl]
  simp only [Option.bind_some]
  cases decide ((steps.length : Int) ≤ 200)
  · rfl
  · cases (bif q.Lists.all (fun l => decide (l.length ≤ 600)) then decide ((q.Lists.length : Int) ≤ 20) else false) <;> rfl

theorem conserves_eq (q : Queue) (steps : List Step) (hb : bnd q) (hs : ∀ s ∈ steps, 0 ≤ s.Wait ∧ s.Wait ≤ 65535) : Models.law18_TailConserves q steps = some true := by
  unfold Models.law18_TailConserves
  simp only [Models.law18_head, Option.bind_some, small_eq q steps hb]
  by_cases hn0 : (steps.length : Int) ≤ 200
  case neg => simp only [hn0, decide_false, Bool.false_and, Bool.not_false, cond_true]
  cases hfew : (bif q.Lists.all (fun l => decide (l.length ≤ 600)) then decide ((q.Lists.length : Int) ≤ 20) else false)
  · simp only [Bool.false_and, Bool.and_false, Bool.not_false, cond_true]
  cases hv : validB q
  · simp only [Bool.and_false, Bool.not_false, cond_true]
  have hn : steps.length ≤ 200 := by omega
  obtain ⟨_, _, _, _, hroom, l0, hq, hl0, _⟩ := (valid_iff q).1 hv
  rw [played_eq q steps hv hn hs]
  obtain ⟨⟨lf, a, hlf, hm, hacc⟩, hnum, hdis⟩ := kept_run hq hn steps.length (Nat.le_refl _)
  obtain ⟨hI, t1, t2, t3⟩ := run_inv hv hs steps.length (Nat.le_refl _)
  generalize runN q steps steps.length = x at *
  obtain ⟨lf', hlf', hf1, hf2, _⟩ := hI.list
  rw [hlf] at hlf'
  obtain rfl : lf = lf' := by simpa using hlf'
  have hL0 : l0.length ≤ 500 := by omega
  have hLf : lf.length ≤ 500 := by omega
  have hg0 : [l0][Int.toNat 0]? = some l0 := rfl
  have hgf : [lf][Int.toNat 0]? = some lf := rfl
  have hone : (!(([lf].length : Nat) : Int) == 1) = false := rfl
  have hval : Models.tail_Valid x.q = some true := by
    unfold Models.tail_Valid; rw [tvalid_eq x.q (list_bnd hI), hI.v]; rfl
  have r1 : ((l0.map (·.P)).length + x.came.length) * 56 ≤ 2 ^ 44 := by simp; omega
  have r2 : (l0.map (·.P)).length + x.came.length ≤ 2 ^ 44 := by simp; omega
  have hlen := congrArg List.length hacc
  simp only [List.length_append, List.length_map] at hlen
  have hmix := hm.length
  have hall : (l0.map (·.P) ++ x.came).length = l0.length + x.came.length := by simp
  have small : (l0.map (·.P) ++ x.came).length ≤ 2 ^ 63 - 1 := by rw [hall]; omega
  have hdl : x.dropped.length ≤ 2 ^ 63 - 1 := by omega
  simp only [hn0, decide_true, Bool.and_self, Bool.not_true, cond_false, Option.bind_some, hlf, hone, hq, hg0, packets_eq l0 (by omega), r1, r2, cond_true, hgf, packets_eq lf (by omega), hval]
  by_cases ht : x.taken = []
  · have hte : x.taken.isEmpty = true := by rw [ht]; rfl
    rw [ht, List.nil_append] at hacc
    have hl : lf.length = l0.length + a.length := by rw [ht] at hlen; simpa using hlen
    simp only [hte, cond_true]
    by_cases he : lf.map (·.P) = []
    · have hee : (lf.map (·.P)).isEmpty = true := by rw [he]; rfl
      have hlf0 : lf.length = 0 := by have := congrArg List.length he; simpa using this
      simp only [hee, cond_true]
      refine bind_loop (whole_loop (fun lost at_ i => ((lost : Int), (at_ : Int), false, (i : Int))) (.inr ((x.dropped.length : Int), (((lf.map (·.P)).length : Nat) : Int), false, (((l0.map (·.P) ++ x.came).length : Nat) : Int)))
        (l0.map (·.P) ++ x.came) (lf.map (·.P)) x.dropped (.inl false) (l0.map (·.P)) x.came a rfl hacc ?_ ?_ hm hdis) ?_
      · intro lost at_ i p hp
        have hi : i < (l0.map (·.P) ++ x.came).length := (List.getElem?_eq_some_iff.1 hp).1
        have e1 : ((i : Int) < (((l0.map (·.P) ++ x.came).length : Nat) : Int)) := by omega
        have e2 : ¬ ((at_ : Int) < ((0 : Nat) : Int)) := by omega
        have e3 : ¬ ((at_ : Int) < 0) := by omega
        have ho : (lf.map (·.P))[at_]? = none := by rw [he]; rfl
        have hpl : (l0.map (·.P)).length = l0.length := by simp
        simp only [e1, hi, decide_true, cond_true, Int.natCast_nonneg, Int.toNat_natCast, Nat.zero_add, hp, Option.bind_some, peq, ho, hpl]
        by_cases c1 : (l0.length : Int) ≤ (i : Int)
        · have c1' : l0.length ≤ i := by omega
          cases hd : x.dropped[lost]? with
          | none =>
            have : ¬ ((lost : Int) < (x.dropped.length : Int)) := by have := List.getElem?_eq_none_iff.1 hd; omega
            simp [c1, c1', this, e3]
          | some z =>
            have hlt : lost < x.dropped.length := (List.getElem?_eq_some_iff.1 hd).1
            have : ((lost : Int) < (x.dropped.length : Int)) := by omega
            by_cases hz : z = p
            · simp [c1, c1', this, hz, wrap_succ hlt hdl, wrap_succ hi small]
            · simp [c1, c1', this, hz, e3]
        · have c1' : ¬ l0.length ≤ i := by omega
          simp [c1, c1', e3]
      · have e1 : ¬ ((((l0.map (·.P) ++ x.came).length : Nat) : Int) < (((l0.map (·.P) ++ x.came).length : Nat) : Int)) := by omega
        simp only [e1, decide_false, cond_false]
      · have w1 : IntKind.i64.wrap ((((lf.map (·.P)).length : Nat) : Int) + (x.dropped.length : Int)) = (((l0.map (·.P) ++ x.came).length : Nat) : Int) := by
          rw [IntWalk.i64_in _ (by simp; omega)]; simp; omega
        have w2 : IntKind.i64.wrap (((0 : Nat) : Int) + (x.dropped.length : Int)) = (((l0.map (·.P) ++ x.came).length : Nat) : Int) := by
          rw [IntWalk.i64_in _ (by omega)]; simp; omega
        have w3 : IntKind.i64.wrap (0 + (x.dropped.length : Int)) = (((l0.map (·.P) ++ x.came).length : Nat) : Int) := by
          rw [IntWalk.i64_in _ (by omega)]; simp; omega
        simp only [Sum.elim_inr, w1, w3, beq_self_eq_true, cond_true]
    · have hee : (lf.map (·.P)).isEmpty = false := by cases hx : lf.map (·.P) with | nil => exact absurd hx he | cons => rfl
      have hpos : ¬ (0 + (lf.map (·.P)).length ≤ 0) := by
        intro h
        exact he (List.eq_nil_of_length_eq_zero (by omega))
      have r3 : (0 + (lf.map (·.P)).length) * 56 ≤ 2 ^ 44 := by simp; omega
      have r4 : 0 + (lf.map (·.P)).length ≤ 2 ^ 44 := by simp; omega
      have hol : (lf.map (·.P)).length ≤ 2 ^ 63 - 1 := by simp; omega
      simp only [hee, hpos, r3, r4, decide_false, decide_true, Bool.and_self, cond_true, cond_false]
      refine bind_loop (whole_loop (fun lost at_ i => ((lost : Int), (at_ : Int), false, (i : Int))) (.inr ((x.dropped.length : Int), (((lf.map (·.P)).length : Nat) : Int), false, (((l0.map (·.P) ++ x.came).length : Nat) : Int)))
        (l0.map (·.P) ++ x.came) (lf.map (·.P)) x.dropped (.inl false) (l0.map (·.P)) x.came a rfl hacc ?_ ?_ hm hdis) ?_
      · intro lost at_ i p hp
        have hi : i < (l0.map (·.P) ++ x.came).length := (List.getElem?_eq_some_iff.1 hp).1
        have e1 : ((i : Int) < (((l0.map (·.P) ++ x.came).length : Nat) : Int)) := by omega
        have hpl : (l0.map (·.P)).length = l0.length := by simp
        generalize hO : lf.map (·.P) = out at *
        have okO : (bif decide ((at_ : Int) < (out.length : Int)) then bif decide (0 ≤ (at_ : Int)) then bif decide ((at_ : Int).toNat < out.length) then (out[0 + (at_ : Int).toNat]?).bind fun z => bif decide (z = p) then some (Sum.inl ((lost : Int), IntKind.i64.wrap ((at_ : Int) + 1), false, IntKind.i64.wrap ((i : Int) + 1))) else some (Sum.inr (Sum.inl false)) else none else none else some (Sum.inr (Sum.inl false))) =
            some (if out[at_]? = some p then Sum.inl ((lost : Int), ((at_ + 1 : Nat) : Int), false, ((i + 1 : Nat) : Int)) else (Sum.inr (Sum.inl false) : (Int × Int × Bool × Int) ⊕ (Bool ⊕ (Int × Int × Bool × Int)))) := by
          cases ho : out[at_]? with
          | none =>
            have : ¬ ((at_ : Int) < (out.length : Int)) := by have := List.getElem?_eq_none_iff.1 ho; omega
            simp [this]
          | some z =>
            have hlt : at_ < out.length := (List.getElem?_eq_some_iff.1 ho).1
            have : ((at_ : Int) < (out.length : Int)) := by omega
            by_cases hz : z = p
            · subst hz; simp only [this, hlt, decide_true, cond_true, Int.natCast_nonneg, Int.toNat_natCast, Nat.zero_add, ho, Option.bind_some, wrap_succ hlt hol, wrap_succ hi small, if_true]
            · have hz2 : ¬ some z = some p := fun e => hz (Option.some.inj e); simp only [this, hlt, decide_true, cond_true, Int.natCast_nonneg, Int.toNat_natCast, Nat.zero_add, ho, Option.bind_some, hz, hz2, decide_false, cond_false, if_false]
        simp only [e1, hi, decide_true, cond_true, Int.natCast_nonneg, Int.toNat_natCast, Nat.zero_add, hp, Option.bind_some, peq, hpl] at okO ⊢
        by_cases c1 : (l0.length : Int) ≤ (i : Int)
        · have c1' : l0.length ≤ i := by omega
          cases hd : x.dropped[lost]? with
          | none =>
            have : ¬ ((lost : Int) < (x.dropped.length : Int)) := by have := List.getElem?_eq_none_iff.1 hd; omega
            simp only [c1, c1', this, decide_true, decide_false, cond_true, cond_false, okO, true_and, reduceCtorEq, if_false]
          | some z =>
            have hlt : lost < x.dropped.length := (List.getElem?_eq_some_iff.1 hd).1
            have : ((lost : Int) < (x.dropped.length : Int)) := by omega
            by_cases hz : z = p
            · simp [c1, c1', this, hz, wrap_succ hlt hdl, wrap_succ hi small]
            · have hz' : ¬ some z = some p := fun e => hz (Option.some.inj e)
              simp only [c1, c1', this, hz, hz', decide_true, decide_false, cond_true, cond_false, okO, Option.bind_some, true_and, if_false]
        · have c1' : ¬ l0.length ≤ i := by omega
          simp only [c1, c1', decide_false, cond_false, okO, false_and, if_false]
      · have e1 : ¬ ((((l0.map (·.P) ++ x.came).length : Nat) : Int) < (((l0.map (·.P) ++ x.came).length : Nat) : Int)) := by omega
        simp only [e1, decide_false, cond_false]
      · have w1 : IntKind.i64.wrap ((((lf.map (·.P)).length : Nat) : Int) + (x.dropped.length : Int)) = (((l0.map (·.P) ++ x.came).length : Nat) : Int) := by
          rw [IntWalk.i64_in _ (by simp; omega)]; simp; omega
        simp only [Sum.elim_inr, w1, beq_self_eq_true, cond_true]
  · have hte : x.taken.isEmpty = false := by cases hx : x.taken with | nil => exact absurd hx ht | cons => rfl
    have hpos : ¬ (0 + x.taken.length ≤ 0) := by
      intro h
      exact ht (List.eq_nil_of_length_eq_zero (by omega))
    have r3 : (0 + x.taken.length) * 56 ≤ 2 ^ 44 := by omega
    have r4 : 0 + x.taken.length ≤ 2 ^ 44 := by omega
    have r5 : (x.taken.length + (lf.map (·.P)).length) * 56 ≤ 2 ^ 44 := by simp; omega
    have r6 : x.taken.length + (lf.map (·.P)).length ≤ 2 ^ 44 := by simp; omega
    have hol : (x.taken ++ lf.map (·.P)).length ≤ 2 ^ 63 - 1 := by simp; omega
    simp only [hte, hpos, r3, r4, r5, r6, decide_false, decide_true, Bool.and_self, cond_true, cond_false]
    refine bind_loop (whole_loop (fun lost at_ i => ((lost : Int), (at_ : Int), false, (i : Int))) (.inr ((x.dropped.length : Int), (((x.taken ++ lf.map (·.P)).length : Nat) : Int), false, (((l0.map (·.P) ++ x.came).length : Nat) : Int)))
      (l0.map (·.P) ++ x.came) (x.taken ++ lf.map (·.P)) x.dropped (.inl false) (l0.map (·.P)) x.came a rfl hacc ?_ ?_ hm hdis) ?_
    · intro lost at_ i p hp
      have hi : i < (l0.map (·.P) ++ x.came).length := (List.getElem?_eq_some_iff.1 hp).1
      have e1 : ((i : Int) < (((l0.map (·.P) ++ x.came).length : Nat) : Int)) := by omega
      have hpl : (l0.map (·.P)).length = l0.length := by simp
      generalize hO : x.taken ++ lf.map (·.P) = out at *
      have okO : (bif decide ((at_ : Int) < (out.length : Int)) then bif decide (0 ≤ (at_ : Int)) then bif decide ((at_ : Int).toNat < out.length) then (out[0 + (at_ : Int).toNat]?).bind fun z => bif decide (z = p) then some (Sum.inl ((lost : Int), IntKind.i64.wrap ((at_ : Int) + 1), false, IntKind.i64.wrap ((i : Int) + 1))) else some (Sum.inr (Sum.inl false)) else none else none else some (Sum.inr (Sum.inl false))) =
          some (if out[at_]? = some p then Sum.inl ((lost : Int), ((at_ + 1 : Nat) : Int), false, ((i + 1 : Nat) : Int)) else (Sum.inr (Sum.inl false) : (Int × Int × Bool × Int) ⊕ (Bool ⊕ (Int × Int × Bool × Int)))) := by
        cases ho : out[at_]? with
        | none =>
          have : ¬ ((at_ : Int) < (out.length : Int)) := by have := List.getElem?_eq_none_iff.1 ho; omega
          simp [this]
        | some z =>
          have hlt : at_ < out.length := (List.getElem?_eq_some_iff.1 ho).1
          have : ((at_ : Int) < (out.length : Int)) := by omega
          by_cases hz : z = p
          · subst hz; simp only [this, hlt, decide_true, cond_true, Int.natCast_nonneg, Int.toNat_natCast, Nat.zero_add, ho, Option.bind_some, wrap_succ hlt hol, wrap_succ hi small, if_true]
          · have hz2 : ¬ some z = some p := fun e => hz (Option.some.inj e); simp only [this, hlt, decide_true, cond_true, Int.natCast_nonneg, Int.toNat_natCast, Nat.zero_add, ho, Option.bind_some, hz, hz2, decide_false, cond_false, if_false]
      simp only [e1, hi, decide_true, cond_true, Int.natCast_nonneg, Int.toNat_natCast, Nat.zero_add, hp, Option.bind_some, peq, hpl] at okO ⊢
      by_cases c1 : (l0.length : Int) ≤ (i : Int)
      · have c1' : l0.length ≤ i := by omega
        cases hd : x.dropped[lost]? with
        | none =>
          have : ¬ ((lost : Int) < (x.dropped.length : Int)) := by have := List.getElem?_eq_none_iff.1 hd; omega
          simp only [c1, c1', this, decide_true, decide_false, cond_true, cond_false, okO, true_and, reduceCtorEq, if_false]
        | some z =>
          have hlt : lost < x.dropped.length := (List.getElem?_eq_some_iff.1 hd).1
          have : ((lost : Int) < (x.dropped.length : Int)) := by omega
          by_cases hz : z = p
          · simp [c1, c1', this, hz, wrap_succ hlt hdl, wrap_succ hi small]
          · have hz' : ¬ some z = some p := fun e => hz (Option.some.inj e)
            simp only [c1, c1', this, hz, hz', decide_true, decide_false, cond_true, cond_false, okO, Option.bind_some, true_and, if_false]
      · have c1' : ¬ l0.length ≤ i := by omega
        simp only [c1, c1', decide_false, cond_false, okO, false_and, if_false]
    · have e1 : ¬ ((((l0.map (·.P) ++ x.came).length : Nat) : Int) < (((l0.map (·.P) ++ x.came).length : Nat) : Int)) := by omega
      simp only [e1, decide_false, cond_false]
    · have w1 : IntKind.i64.wrap ((((x.taken ++ lf.map (·.P)).length : Nat) : Int) + (x.dropped.length : Int)) = (((l0.map (·.P) ++ x.came).length : Nat) : Int) := by
        rw [IntWalk.i64_in _ (by simp; omega)]; simp; omega
      simp only [Sum.elim_inr, w1, beq_self_eq_true, cond_true]

end Go.Proofs.Ytnbagejbdkhooaa
end

section
set_option linter.unusedVariables false
/- The law TailConserves: its row. -/
namespace Go.Proofs.Ytnbagejbdkhooaa.tailConserves
open Go.PI Go.ChangeShapes Go.WideShapes Go.ChangeAt Go.RowKit
theorem own : ownKnob Try.prog.godebug = none := by kernel_rfl
theorem laidOut : laidOutB Try.prog = true := by kernel_rfl
theorem okWide_struct {P : Program} {w : World} {r : Reach} {base : Nat} {t : TypeId} {v : Value} {fs : Array Field} (ht : P.underlying t = some (.struct fs)) (h : Value.okWide P w r base t v) : ∃ cs, v = .agg cs := by
  unfold Value.okWide at h
  rw [ht] at h
  obtain ⟨cs, h, _⟩ := h
  exact ⟨cs, h⟩
theorem rep_agg {E : Env} {l : List AV} {cs : Array Value} (h : RepL E false l (Value.agg cs).cells.toList) : Rep E false (.agg l) (.agg cs) := by
  simp only [Rep]
  exact ⟨cs.toList, by simp, by simpa [Value.cells] using h⟩
theorem rep_slice {E : Env} {l : List AV} {a : Option Addr} {len cap : Nat} (h : RepL E false l (Value.slice a len cap).cells.toList) {x : AV} (hl : l = [x]) : Rep E false x (.slice a len cap) := by
  subst hl
  have h2 : Rep E false x (Value.slice a len cap) ∧ leafV (Value.slice a len cap) = true := by simpa [Value.cells, RepL] using h
  exact h2.1
theorem walk (W : World) (cs0 : Array Value) (ad1 : Option Addr) (len1 cap1 : Nat) {l0 : List AV} {l1 : List AV} (e0 : RepL (Env.all W) false l0 (Value.agg cs0 : Value).cells.toList) (e1 : RepL (Env.all W) false l1 (Value.slice ad1 len1 cap1 : Value).cells.toList) {n0 : Nat} (s0 : Shape Try.prog n0 28 l0) {n1 : Nat} (s1 : Shape Try.prog n1 42 l1) : Calls Try.prog 4 #[.agg cs0, .slice ad1 len1 cap1] W fun e w' => e = .returned (.bool true) ∧ Below W.heap.size W w' := by
  obtain ⟨x0, w0, r0⟩ := sh27 (shape_same (show Try.prog.underlying 28 = Try.prog.underlying 27 by kernel_rfl) s0)
  obtain ⟨x1, w1, b1, hl1, r1⟩ := sh42 s1
  have hs : SumOk C T 4 ⟨[28, 42], [4], fun x => Go.Models.law18_TailConserves x.1 x.2⟩ := mkS_sum s35 rfl
  refine law_true Cok hs rfl (x := (x0, x1)) (y := true) (conserves_eq x0 x1 (bnd_wf w0) (fun s hm => u16_bnd (w1.2 s hm).1)) ?_ («as» := [.agg l0, b1]) ⟨r0, r1, trivial⟩ (show GlobOk (Env.all W) from fun b c h => by cases h) (vs := [.agg cs0, .slice ad1 len1 cap1]) ?_
  · intro l hl
    match l, hl with
    | [a], hl => have : a = .lit (.bool true) := hl.1; rw [this]
    | [], hl => exact False.elim hl
    | _ :: _ :: _, hl => exact False.elim hl.2
  · simp only [RepT]
    exact ⟨rep_agg e0, rep_slice e1 hl1, trivial⟩
set_option maxRecDepth 100000 in
theorem lifted (os : Os) (started : os.Started) (H : Type) (enc : TypeId × Value → H) :
    ReturnsInHanded {} Try.checked os 4 .any (Rows.tailConservesSpec.pre6 enc Try.prog Try.f4 Rows.tailConservesRow.domain false) (Rows.tailConservesSpec.post enc Try.prog Try.f4 false true false false) := by
  refine returnsInHanded_of_change_sized (C := Try.checked) own started (by kernel_rfl) Try.func4
    (ChangeSpec.witness6 (enc := enc) (C := Try.checked) false ⟨#[], #[.agg #[.int .i64 0, .int .i64 0, .int .i64 0, .int .i64 0, .int .i64 0, .slice none 0 0, .int .i64 0, .int .i64 0, .int .i64 0, .int .i64 0, .int .i64 0, .int .i64 0, .int .i64 0, .int .i64 0, .int .u64 0], .slice none 0 0], []⟩ 8 (by kernel_rfl) (by kernel_rfl) (by kernel_rfl) (by kernel_rfl)) ?_
  intro W base args ds gs before hval0 hW hcnd hsz0 _
  have hval : ∀ (j : Nat) t v, Try.f4.params[j]? = some t → args[j]? = some v → Value.okWide Try.prog W .any base t v := hval0
  have hW' := hW
  obtain ⟨p, q, hA0, hV, rfl, hfz, hnd⟩ := hW
  have hA : DataW.TrodAll enc Try.prog W 0 (fun _ => true) true Try.f4.params.toList args.toList ds p := hA0
  rw [Try.params4] at hA hval
  obtain ⟨v0, vs0, d0, ds0, p0, q0, hargs, rfl, rfl, h0, r0⟩ := trodAll_cons hA
  obtain ⟨v1, vs1, d1, ds1, p1, q1, rfl, rfl, rfl, h1, r1⟩ := trodAll_cons r0
  obtain ⟨rfl, rfl, rfl⟩ := trodAll_nil r1
  obtain rfl : args = #[v0, v1] := by cases args; simp_all
  obtain ⟨rfl, rfl⟩ := trodVars_none hV
  obtain ⟨cs0, rfl⟩ := okWide_struct Try.underlying28 (hval 0 28 v0 rfl rfl)
  obtain ⟨ad1, len1, cap1, rfl⟩ := Go.WideShapes.okWide_slice Try.underlying42 (hval 1 42 v1 rfl rfl)
  have k0 := h0
  have lt0 : ∀ x ∈ p0, x.block < W.heap.size := by obtain ⟨m, hm⟩ := k0; exact DataW.trod_lt m _ _ _ hm
  have k1 := h1
  have lt1 : ∀ x ∈ p1, x.block < W.heap.size := by obtain ⟨m, hm⟩ := k1; exact DataW.trod_lt m _ _ _ hm
  obtain ⟨f0, hf0⟩ := h0
  obtain ⟨l0, e0, s0⟩ := read_ok f0 10 28 _ _ (by kernel_rfl) hf0
  obtain ⟨f1, hf1⟩ := h1
  obtain ⟨l1, e1, s1⟩ := read_ok f1 10 42 _ _ (by kernel_rfl) hf1
  clear hA0 hval0 hsz0
  refine (walk W cs0 ad1 len1 cap1 e0 e1 s0 s1 ).mono fun e W' ⟨he, bel⟩ => ?_
  subst he
  exact ⟨_, rfl, _, _, _, [], _, [], hW', trodAll_mk1 (shut_bool Try.underlying4 _), (trodAll_cons_mk (Below.trod laidOut (by kernel_rfl) (of_decide_eq_true (by kernel_rfl)) k0 bel lt0) (trodAll_cons_mk (Below.trod laidOut (by kernel_rfl) (of_decide_eq_true (by kernel_rfl)) k1 bel lt1) trodAll_mk0)), rfl, bel.frame _, fun h => by cases h⟩
theorem over : Rows.tailConservesRow.holds Try.pinned (OpenSpec.ofChange Rows.tailConservesSpec) :=
  OpenClaim.holds_of_wide 4 Try.f4 rfl rfl rfl rfl rfl rfl rfl ⟨rfl, rfl, rfl, rfl, rfl⟩ rfl rfl rfl rfl rfl (by kernel_rfl) Try.func4 (by kernel_rfl)
    (of_decide_eq_true (by kernel_rfl)) (by unfold Func.isWrapper; first | (rw [if_pos (by decide +kernel)]; kernel_rfl) | (rw [if_neg (by decide +kernel)]; exact ⟨rfl, rfl⟩))
    (fun os started H enc _ => lifted os started H enc)
theorem proved : Rows.TailConservesSaid := over
end Go.Proofs.Ytnbagejbdkhooaa.tailConserves
namespace Go.Proofs.Ytnbagejbdkhooaa
/-- The row, under a short name, for the claim. -/
theorem tailConserves_holds : Rows.TailConservesSaid := tailConserves.proved
end Go.Proofs.Ytnbagejbdkhooaa
end
