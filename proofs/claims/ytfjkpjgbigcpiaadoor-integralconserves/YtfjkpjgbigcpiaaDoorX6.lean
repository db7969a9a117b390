/- Part 6 of the proof: texts of this session laid one behind the other. -/
import Derived.Test.YtfjkpjgbigcpiaaDoorProg
import Derived.KernelRfl
import Derived.IntWalk
import Derived.OpenShut
import Derived.Test.YtfjkpjgbigcpiaaDoorRows
import Derived.WalkKit
import Derived.ProofKit
import Derived.ShutString
import Derived.ChangeOld
import Derived.ChangeSame
import Derived.Below
import Derived.SizedLaws
import Derived.LaidMore
import Derived.MakeChecks
import Derived.Lay
import Derived.LaidOnce
import Derived.SevenTiedAt
import Derived.Test.YtfjkpjgbigcpiaaDoorX5
section
set_option linter.unusedVariables false
/- The types of this seat: what must hold of them (printed by gen_tys.py out of the dump). -/
set_option linter.unusedSimpArgs false
namespace Go.Proofs.YtfjkpjgbigcpiaaDoor
open Go.PI

theorem rlc {H : SHeap den} {v : V} {vs : List V} {l : List AV} : RL T H (v :: vs) l ↔ ∃ c cs, l = c :: cs ∧ R T H v c ∧ RL T H vs cs := RL_cons_iff (T := T)
theorem rln {H : SHeap den} {l : List AV} : RL T H [] l ↔ l = [] := RL_nil_iff (T := T)
theorem dI_ok {H : SHeap den} {k : IntKind} {v : V} {x : Int} {a : AV} (h : dI k v = some x) (hr : R T H v a) : a = .lit (.int k x) := by
  unfold dI at h
  split at h
  · split at h
    · rename_i e
      simp only [Option.some.injEq] at h
      subst h; subst e
      simpa only [R] using hr
    · simp at h
  · simp at h
theorem dB_ok {H : SHeap den} {v : V} {x : Bool} {a : AV} (h : dB v = some x) (hr : R T H v a) : a = .lit (.bool x) := by
  unfold dB at h
  split at h
  · simp only [Option.some.injEq] at h
    subst h
    simpa only [R] using hr
  · simp at h
theorem dS_ok {H : SHeap den} {v : V} {x : ByteArray} {a : AV} (h : dS v = some x) (hr : R T H v a) : a = .lit (.string x) := by
  unfold dS at h
  split at h
  · simp only [Option.some.injEq] at h
    subst h
    simpa only [R] using hr
  · simp at h
theorem uk2 (x : Int) (a : AV) (H : SHeap den) (h : rp2 x a) : R T H (up2 x) a := by
  unfold up2; simp only [R]; exact h
theorem dk2 (v : V) (x : Int) (a : AV) (H : SHeap den) (h : dn2 v = some x) (hr : R T H v a) : rp2 x a := dI_ok h hr
theorem ek2 (x : Int) (a : AV) (h : rp2 x a) : okElem false 1 a = true ∧ closed a = true ∧ isLeaf a = true := by
  unfold rp2 at h; subst h; exact ⟨rfl, rfl, rfl⟩
theorem uk3 (x : Int) (a : AV) (H : SHeap den) (h : rp3 x a) : R T H (up3 x) a := by
  unfold up3; simp only [R]; exact h
theorem dk3 (v : V) (x : Int) (a : AV) (H : SHeap den) (h : dn3 v = some x) (hr : R T H v a) : rp3 x a := dI_ok h hr
theorem ek3 (x : Int) (a : AV) (h : rp3 x a) : okElem false 1 a = true ∧ closed a = true ∧ isLeaf a = true := by
  unfold rp3 at h; subst h; exact ⟨rfl, rfl, rfl⟩
theorem uk4 (x : Bool) (a : AV) (H : SHeap den) (h : rp4 x a) : R T H (up4 x) a := by
  unfold up4; simp only [R]; exact h
theorem dk4 (v : V) (x : Bool) (a : AV) (H : SHeap den) (h : dn4 v = some x) (hr : R T H v a) : rp4 x a := dB_ok h hr
theorem ek4 (x : Bool) (a : AV) (h : rp4 x a) : okElem false 1 a = true ∧ closed a = true ∧ isLeaf a = true := by
  unfold rp4 at h; subst h; exact ⟨rfl, rfl, rfl⟩
theorem uk5 (x : Int) (a : AV) (H : SHeap den) (h : rp5 x a) : R T H (up5 x) a := by
  unfold up5; simp only [R]; exact h
theorem dk5 (v : V) (x : Int) (a : AV) (H : SHeap den) (h : dn5 v = some x) (hr : R T H v a) : rp5 x a := dI_ok h hr
theorem ek5 (x : Int) (a : AV) (h : rp5 x a) : okElem false 1 a = true ∧ closed a = true ∧ isLeaf a = true := by
  unfold rp5 at h; subst h; exact ⟨rfl, rfl, rfl⟩
theorem uk9 (x : ByteArray) (a : AV) (H : SHeap den) (h : rp9 x a) : R T H (up9 x) a := by
  unfold up9; simp only [R]; exact h
theorem dk9 (v : V) (x : ByteArray) (a : AV) (H : SHeap den) (h : dn9 v = some x) (hr : R T H v a) : rp9 x a := dS_ok h hr
theorem ek9 (x : ByteArray) (a : AV) (h : rp9 x a) : okElem false 1 a = true ∧ closed a = true ∧ isLeaf a = true := by
  unfold rp9 at h; subst h; exact ⟨rfl, rfl, rfl⟩
theorem uk22 (x : Policy) (a : AV) (H : SHeap den) (h : rp22 x a) : R T H (up22 x) a := by
  unfold rp22 at h; subst h
  unfold up22
  simp only [R]
  refine ⟨_, rfl, ?_⟩
  simp only [RL, R, and_true, true_and]
theorem dk22 (v : V) (x : Policy) (a : AV) (H : SHeap den) (h : dn22 v = some x) (hr : R T H v a) : rp22 x a := by
  unfold dn22 at h
  split at h
  · simp only [Option.bind_eq_some_iff, Option.some.injEq] at h
    obtain ⟨b0, g0, b1, g1, b2, g2, b3, g3, rfl⟩ := h
    simp only [R] at hr
    obtain ⟨_, rfl, hl⟩ := hr
    obtain ⟨c0, _, rfl, r0, hl⟩ := rlc.1 hl
    obtain ⟨c1, _, rfl, r1, hl⟩ := rlc.1 hl
    obtain ⟨c2, _, rfl, r2, hl⟩ := rlc.1 hl
    obtain ⟨c3, _, rfl, r3, hl⟩ := rlc.1 hl
    have hl0 := rln.1 hl
    subst hl0
    have e0 := dk3 _ _ _ H g0 r0
    have e1 := dk3 _ _ _ H g1 r1
    have e2 := dk3 _ _ _ H g2 r2
    have e3 := dk3 _ _ _ H g3 r3
    unfold rp3 at e0; subst e0
    unfold rp3 at e1; subst e1
    unfold rp3 at e2; subst e2
    unfold rp3 at e3; subst e3
    exact rfl
  · simp at h
theorem ek22 (x : Policy) (a : AV) (h : rp22 x a) : okElem true 4 a = true ∧ closed a = true := by
  unfold rp22 at h; subst h
  exact ⟨by simp [okElem, leaf_int, leaf_bool, leaf_str], by simp [closed, closedL]⟩
theorem uk29 (x : Packet) (a : AV) (H : SHeap den) (h : rp29 x a) : R T H (up29 x) a := by
  unfold rp29 at h; subst h
  unfold up29
  simp only [R]
  refine ⟨_, rfl, ?_⟩
  simp only [RL, R, and_true, true_and]
theorem dk29 (v : V) (x : Packet) (a : AV) (H : SHeap den) (h : dn29 v = some x) (hr : R T H v a) : rp29 x a := by
  unfold dn29 at h
  split at h
  · simp only [Option.bind_eq_some_iff, Option.some.injEq] at h
    obtain ⟨b0, g0, b1, g1, b2, g2, b3, g3, b4, g4, b5, g5, b6, g6, b7, g7, rfl⟩ := h
    simp only [R] at hr
    obtain ⟨_, rfl, hl⟩ := hr
    obtain ⟨c0, _, rfl, r0, hl⟩ := rlc.1 hl
    obtain ⟨c1, _, rfl, r1, hl⟩ := rlc.1 hl
    obtain ⟨c2, _, rfl, r2, hl⟩ := rlc.1 hl
    obtain ⟨c3, _, rfl, r3, hl⟩ := rlc.1 hl
    obtain ⟨c4, _, rfl, r4, hl⟩ := rlc.1 hl
    obtain ⟨c5, _, rfl, r5, hl⟩ := rlc.1 hl
    obtain ⟨c6, _, rfl, r6, hl⟩ := rlc.1 hl
    obtain ⟨c7, _, rfl, r7, hl⟩ := rlc.1 hl
    have hl0 := rln.1 hl
    subst hl0
    have e0 := dk3 _ _ _ H g0 r0
    have e1 := dk3 _ _ _ H g1 r1
    have e2 := dk3 _ _ _ H g2 r2
    have e3 := dk3 _ _ _ H g3 r3
    have e4 := dk3 _ _ _ H g4 r4
    have e5 := dk3 _ _ _ H g5 r5
    have e6 := dk4 _ _ _ H g6 r6
    have e7 := dk4 _ _ _ H g7 r7
    unfold rp3 at e0; subst e0
    unfold rp3 at e1; subst e1
    unfold rp3 at e2; subst e2
    unfold rp3 at e3; subst e3
    unfold rp3 at e4; subst e4
    unfold rp3 at e5; subst e5
    unfold rp4 at e6; subst e6
    unfold rp4 at e7; subst e7
    exact rfl
  · simp at h
theorem ek29 (x : Packet) (a : AV) (h : rp29 x a) : okElem true 8 a = true ∧ closed a = true := by
  unfold rp29 at h; subst h
  exact ⟨by simp [okElem, leaf_int, leaf_bool, leaf_str], by simp [closed, closedL]⟩
theorem uk44 (x : Queued) (a : AV) (H : SHeap den) (h : rp44 x a) : R T H (up44 x) a := by
  unfold rp44 at h; subst h
  unfold up44
  simp only [R]
  refine ⟨_, rfl, ?_⟩
  simp only [RL, R, and_true, true_and]
theorem dk44 (v : V) (x : Queued) (a : AV) (H : SHeap den) (h : dn44 v = some x) (hr : R T H v a) : rp44 x a := by
  unfold dn44 at h
  split at h
  · simp only [Option.bind_eq_some_iff, Option.some.injEq] at h
    obtain ⟨b0, g0, b1, g1, b2, g2, b3, g3, b4, g4, b5, g5, b6, g6, b7, g7, b8, g8, rfl⟩ := h
    simp only [R] at hr
    obtain ⟨_, rfl, hl⟩ := hr
    obtain ⟨c0, _, rfl, r0, hl⟩ := rlc.1 hl
    obtain ⟨c1, _, rfl, r1, hl⟩ := rlc.1 hl
    obtain ⟨c2, _, rfl, r2, hl⟩ := rlc.1 hl
    obtain ⟨c3, _, rfl, r3, hl⟩ := rlc.1 hl
    obtain ⟨c4, _, rfl, r4, hl⟩ := rlc.1 hl
    obtain ⟨c5, _, rfl, r5, hl⟩ := rlc.1 hl
    obtain ⟨c6, _, rfl, r6, hl⟩ := rlc.1 hl
    obtain ⟨c7, _, rfl, r7, hl⟩ := rlc.1 hl
    obtain ⟨c8, _, rfl, r8, hl⟩ := rlc.1 hl
    have hl0 := rln.1 hl
    subst hl0
    have e0 := dk3 _ _ _ H g0 r0
    have e1 := dk3 _ _ _ H g1 r1
    have e2 := dk3 _ _ _ H g2 r2
    have e3 := dk3 _ _ _ H g3 r3
    have e4 := dk3 _ _ _ H g4 r4
    have e5 := dk3 _ _ _ H g5 r5
    have e6 := dk4 _ _ _ H g6 r6
    have e7 := dk4 _ _ _ H g7 r7
    have e8 := dk3 _ _ _ H g8 r8
    unfold rp3 at e0; subst e0
    unfold rp3 at e1; subst e1
    unfold rp3 at e2; subst e2
    unfold rp3 at e3; subst e3
    unfold rp3 at e4; subst e4
    unfold rp3 at e5; subst e5
    unfold rp4 at e6; subst e6
    unfold rp4 at e7; subst e7
    unfold rp3 at e8; subst e8
    exact rfl
  · simp at h
theorem ek44 (x : Queued) (a : AV) (h : rp44 x a) : okElem true 9 a = true ∧ closed a = true := by
  unfold rp44 at h; subst h
  exact ⟨by simp [okElem, leaf_int, leaf_bool, leaf_str], by simp [closed, closedL]⟩
theorem uk43 (x : List Queued) (a : AV) (H : SHeap den) (h : rp43 x a) : R T H (up43 x) a := by
  unfold up43; simp only [R]; exact h
theorem lk43 {H : SHeap den} : ∀ (vs : List V) (l : List Queued) (m : List AV), dl43 vs = some l → RL T H vs m → All2 rp44 l m
  | [], l, [], h, _ => by simp [dl43] at h; subst h; trivial
  | v :: vs, l, a :: m, h, hr => by
    simp only [RL] at hr
    simp only [dl43, Option.bind_eq_some_iff, Option.map_eq_some_iff] at h
    obtain ⟨x, h1, ys, h2, rfl⟩ := h
    exact ⟨dk44 _ _ _ H h1 hr.1, lk43 vs ys m h2 hr.2⟩
  | [], _, _ :: _, _, h => by simp [RL] at h
  | _ :: _, _, [], _, h => by simp [RL] at h
theorem dk43 (v : V) (x : List Queued) (a : AV) (H : SHeap den) (h : dn43 v = some x) (hr : R T H v a) : rp43 x a := by
  unfold dn43 at h
  split at h
  · rename_i t l
    split at h
    · rename_i e
      subst e
      have e2 : l = x := Option.some.inj h
      subst e2
      simp only [R] at hr
      exact hr
    · simp at h
  · simp only [R] at hr
    obtain ⟨m, rfl, hm, _⟩ := hr
    exact .inl ⟨m, rfl, lk43 _ _ _ h hm⟩
  · simp only [Option.some.injEq] at h
    subst h
    simp only [R] at hr
    exact .inr ⟨rfl, hr⟩
  · simp at h
theorem ek43 (x : List Queued) (a : AV) (h : rp43 x a) : okElem false 1 a = true ∧ closed a = true ∧ isLeaf a = true := by
  rcases h with ⟨l, rfl, _⟩ | ⟨_, rfl⟩ <;> exact ⟨rfl, rfl, rfl⟩
theorem uk24 (x : List (List Queued)) (a : AV) (H : SHeap den) (h : rp24 x a) : R T H (up24 x) a := by
  unfold up24; simp only [R]; exact h
theorem lk24 {H : SHeap den} : ∀ (vs : List V) (l : List (List Queued)) (m : List AV), dl24 vs = some l → RL T H vs m → All2 rp43 l m
  | [], l, [], h, _ => by simp [dl24] at h; subst h; trivial
  | v :: vs, l, a :: m, h, hr => by
    simp only [RL] at hr
    simp only [dl24, Option.bind_eq_some_iff, Option.map_eq_some_iff] at h
    obtain ⟨x, h1, ys, h2, rfl⟩ := h
    exact ⟨dk43 _ _ _ H h1 hr.1, lk24 vs ys m h2 hr.2⟩
  | [], _, _ :: _, _, h => by simp [RL] at h
  | _ :: _, _, [], _, h => by simp [RL] at h
theorem dk24 (v : V) (x : List (List Queued)) (a : AV) (H : SHeap den) (h : dn24 v = some x) (hr : R T H v a) : rp24 x a := by
  unfold dn24 at h
  split at h
  · rename_i t l
    split at h
    · rename_i e
      subst e
      have e2 : l = x := Option.some.inj h
      subst e2
      simp only [R] at hr
      exact hr
    · simp at h
  · simp only [R] at hr
    obtain ⟨m, rfl, hm, _⟩ := hr
    exact .inl ⟨m, rfl, lk24 _ _ _ h hm⟩
  · simp only [Option.some.injEq] at h
    subst h
    simp only [R] at hr
    exact .inr ⟨rfl, hr⟩
  · simp at h
theorem ek24 (x : List (List Queued)) (a : AV) (h : rp24 x a) : okElem false 1 a = true ∧ closed a = true ∧ isLeaf a = true := by
  rcases h with ⟨l, rfl, _⟩ | ⟨_, rfl⟩ <;> exact ⟨rfl, rfl, rfl⟩
theorem uk25 (x : A8 Int) (a : AV) (H : SHeap den) (h : rp25 x a) : R T H (up25 x) a := by
  unfold rp25 at h; subst h
  unfold up25
  simp only [R]
  refine ⟨_, rfl, ?_⟩
  simp only [RL, R, and_true, true_and]
theorem dk25 (v : V) (x : A8 Int) (a : AV) (H : SHeap den) (h : dn25 v = some x) (hr : R T H v a) : rp25 x a := by
  unfold dn25 at h
  split at h
  · simp only [Option.bind_eq_some_iff, Option.some.injEq] at h
    obtain ⟨b0, g0, b1, g1, b2, g2, b3, g3, b4, g4, b5, g5, b6, g6, b7, g7, rfl⟩ := h
    simp only [R] at hr
    obtain ⟨_, rfl, hl⟩ := hr
    obtain ⟨c0, _, rfl, r0, hl⟩ := rlc.1 hl
    obtain ⟨c1, _, rfl, r1, hl⟩ := rlc.1 hl
    obtain ⟨c2, _, rfl, r2, hl⟩ := rlc.1 hl
    obtain ⟨c3, _, rfl, r3, hl⟩ := rlc.1 hl
    obtain ⟨c4, _, rfl, r4, hl⟩ := rlc.1 hl
    obtain ⟨c5, _, rfl, r5, hl⟩ := rlc.1 hl
    obtain ⟨c6, _, rfl, r6, hl⟩ := rlc.1 hl
    obtain ⟨c7, _, rfl, r7, hl⟩ := rlc.1 hl
    have hl0 := rln.1 hl
    subst hl0
    have e0 := dk3 _ _ _ H g0 r0
    have e1 := dk3 _ _ _ H g1 r1
    have e2 := dk3 _ _ _ H g2 r2
    have e3 := dk3 _ _ _ H g3 r3
    have e4 := dk3 _ _ _ H g4 r4
    have e5 := dk3 _ _ _ H g5 r5
    have e6 := dk3 _ _ _ H g6 r6
    have e7 := dk3 _ _ _ H g7 r7
    unfold rp3 at e0; subst e0
    unfold rp3 at e1; subst e1
    unfold rp3 at e2; subst e2
    unfold rp3 at e3; subst e3
    unfold rp3 at e4; subst e4
    unfold rp3 at e5; subst e5
    unfold rp3 at e6; subst e6
    unfold rp3 at e7; subst e7
    exact rfl
  · simp at h
theorem ek25 (x : A8 Int) (a : AV) (h : rp25 x a) : okElem true 8 a = true ∧ closed a = true := by
  unfold rp25 at h; subst h
  exact ⟨by simp [okElem, leaf_int, leaf_bool, leaf_str], by simp [closed, closedL]⟩
theorem uk26 (x : Int) (a : AV) (H : SHeap den) (h : rp26 x a) : R T H (up26 x) a := by
  unfold up26; simp only [R]; exact h
theorem dk26 (v : V) (x : Int) (a : AV) (H : SHeap den) (h : dn26 v = some x) (hr : R T H v a) : rp26 x a := dI_ok h hr
theorem ek26 (x : Int) (a : AV) (h : rp26 x a) : okElem false 1 a = true ∧ closed a = true ∧ isLeaf a = true := by
  unfold rp26 at h; subst h; exact ⟨rfl, rfl, rfl⟩
theorem uk27 (x : Queue) (a : AV) (H : SHeap den) (h : rp27 x a) : R T H (up27 x) a := by
  obtain ⟨a5, h5, rfl⟩ := h
  unfold up27
  simp only [R]
  refine ⟨_, rfl, ?_⟩
  simp only [RL, R, and_true, true_and]
  exact h5
theorem dk27 (v : V) (x : Queue) (a : AV) (H : SHeap den) (h : dn27 v = some x) (hr : R T H v a) : rp27 x a := by
  unfold dn27 at h
  split at h
  · simp only [Option.bind_eq_some_iff, Option.some.injEq] at h
    obtain ⟨b0, g0, b1, g1, b2, g2, b3, g3, b4, g4, b5, g5, b6, g6, b7, g7, b8, g8, b9, g9, b10, g10, b11, g11, b12, g12, b13, g13, b14, g14, rfl⟩ := h
    simp only [R] at hr
    obtain ⟨_, rfl, hl⟩ := hr
    obtain ⟨c0, _, rfl, r0, hl⟩ := rlc.1 hl
    obtain ⟨c1, _, rfl, r1, hl⟩ := rlc.1 hl
    obtain ⟨c2, _, rfl, r2, hl⟩ := rlc.1 hl
    obtain ⟨c3, _, rfl, r3, hl⟩ := rlc.1 hl
    obtain ⟨c4, _, rfl, r4, hl⟩ := rlc.1 hl
    obtain ⟨c5, _, rfl, r5, hl⟩ := rlc.1 hl
    obtain ⟨c6, _, rfl, r6, hl⟩ := rlc.1 hl
    obtain ⟨c7, _, rfl, r7, hl⟩ := rlc.1 hl
    obtain ⟨c8, _, rfl, r8, hl⟩ := rlc.1 hl
    obtain ⟨c9, _, rfl, r9, hl⟩ := rlc.1 hl
    obtain ⟨c10, _, rfl, r10, hl⟩ := rlc.1 hl
    obtain ⟨c11, _, rfl, r11, hl⟩ := rlc.1 hl
    obtain ⟨c12, _, rfl, r12, hl⟩ := rlc.1 hl
    obtain ⟨c13, _, rfl, r13, hl⟩ := rlc.1 hl
    obtain ⟨c14, _, rfl, r14, hl⟩ := rlc.1 hl
    have hl0 := rln.1 hl
    subst hl0
    have e0 := dk3 _ _ _ H g0 r0
    have e1 := dk3 _ _ _ H g1 r1
    have e2 := dk3 _ _ _ H g2 r2
    have e3 := dk3 _ _ _ H g3 r3
    have e4 := dk3 _ _ _ H g4 r4
    have e5 := dk24 _ _ _ H g5 r5
    have e6 := dk3 _ _ _ H g6 r6
    have e7 := dk3 _ _ _ H g7 r7
    have e8 := dk3 _ _ _ H g8 r8
    have e9 := dk3 _ _ _ H g9 r9
    have e10 := dk3 _ _ _ H g10 r10
    have e11 := dk3 _ _ _ H g11 r11
    have e12 := dk3 _ _ _ H g12 r12
    have e13 := dk3 _ _ _ H g13 r13
    have e14 := dk26 _ _ _ H g14 r14
    unfold rp3 at e0; subst e0
    unfold rp3 at e1; subst e1
    unfold rp3 at e2; subst e2
    unfold rp3 at e3; subst e3
    unfold rp3 at e4; subst e4
    unfold rp3 at e6; subst e6
    unfold rp3 at e7; subst e7
    unfold rp3 at e8; subst e8
    unfold rp3 at e9; subst e9
    unfold rp3 at e10; subst e10
    unfold rp3 at e11; subst e11
    unfold rp3 at e12; subst e12
    unfold rp3 at e13; subst e13
    unfold rp26 at e14; subst e14
    exact ⟨_, e5, rfl⟩
  · simp at h
theorem ek27 (x : Queue) (a : AV) (h : rp27 x a) : okElem true 15 a = true ∧ closed a = true := by
  obtain ⟨a5, h5, rfl⟩ := h
  have k5 := ek24 _ _ h5
  exact ⟨by simp [okElem, leaf_int, leaf_bool, leaf_str, k5.2.2], by simp [closed, closedL, k5.2.1]⟩
theorem uk33 (x : List Packet) (a : AV) (H : SHeap den) (h : rp33 x a) : R T H (up33 x) a := by
  unfold up33; simp only [R]; exact h
theorem lk33 {H : SHeap den} : ∀ (vs : List V) (l : List Packet) (m : List AV), dl33 vs = some l → RL T H vs m → All2 rp29 l m
  | [], l, [], h, _ => by simp [dl33] at h; subst h; trivial
  | v :: vs, l, a :: m, h, hr => by
    simp only [RL] at hr
    simp only [dl33, Option.bind_eq_some_iff, Option.map_eq_some_iff] at h
    obtain ⟨x, h1, ys, h2, rfl⟩ := h
    exact ⟨dk29 _ _ _ H h1 hr.1, lk33 vs ys m h2 hr.2⟩
  | [], _, _ :: _, _, h => by simp [RL] at h
  | _ :: _, _, [], _, h => by simp [RL] at h
theorem dk33 (v : V) (x : List Packet) (a : AV) (H : SHeap den) (h : dn33 v = some x) (hr : R T H v a) : rp33 x a := by
  unfold dn33 at h
  split at h
  · rename_i t l
    split at h
    · rename_i e
      subst e
      have e2 : l = x := Option.some.inj h
      subst e2
      simp only [R] at hr
      exact hr
    · simp at h
  · simp only [R] at hr
    obtain ⟨m, rfl, hm, _⟩ := hr
    exact .inl ⟨m, rfl, lk33 _ _ _ h hm⟩
  · simp only [Option.some.injEq] at h
    subst h
    simp only [R] at hr
    exact .inr ⟨rfl, hr⟩
  · simp at h
theorem ek33 (x : List Packet) (a : AV) (h : rp33 x a) : okElem false 1 a = true ∧ closed a = true ∧ isLeaf a = true := by
  rcases h with ⟨l, rfl, _⟩ | ⟨_, rfl⟩ <;> exact ⟨rfl, rfl, rfl⟩
theorem uk46 (x : Int) (a : AV) (H : SHeap den) (h : rp46 x a) : R T H (up46 x) a := by
  unfold up46; simp only [R]; exact h
theorem dk46 (v : V) (x : Int) (a : AV) (H : SHeap den) (h : dn46 v = some x) (hr : R T H v a) : rp46 x a := dI_ok h hr
theorem ek46 (x : Int) (a : AV) (h : rp46 x a) : okElem false 1 a = true ∧ closed a = true ∧ isLeaf a = true := by
  unfold rp46 at h; subst h; exact ⟨rfl, rfl, rfl⟩
theorem uk47 (x : Step) (a : AV) (H : SHeap den) (h : rp47 x a) : R T H (up47 x) a := by
  unfold rp47 at h; subst h
  unfold up47
  simp only [R]
  refine ⟨_, rfl, ?_⟩
  simp only [RL, R, and_true, true_and]
theorem dk47 (v : V) (x : Step) (a : AV) (H : SHeap den) (h : dn47 v = some x) (hr : R T H v a) : rp47 x a := by
  unfold dn47 at h
  split at h
  · simp only [Option.bind_eq_some_iff, Option.some.injEq] at h
    obtain ⟨b0, g0, b1, g1, b2, g2, b3, g3, b4, g4, b5, g5, b6, g6, b7, g7, b8, g8, b9, g9, rfl⟩ := h
    simp only [R] at hr
    obtain ⟨_, rfl, hl⟩ := hr
    obtain ⟨c0, _, rfl, r0, hl⟩ := rlc.1 hl
    obtain ⟨c1, _, rfl, r1, hl⟩ := rlc.1 hl
    obtain ⟨c2, _, rfl, r2, hl⟩ := rlc.1 hl
    obtain ⟨c3, _, rfl, r3, hl⟩ := rlc.1 hl
    obtain ⟨c4, _, rfl, r4, hl⟩ := rlc.1 hl
    obtain ⟨c5, _, rfl, r5, hl⟩ := rlc.1 hl
    obtain ⟨c6, _, rfl, r6, hl⟩ := rlc.1 hl
    obtain ⟨c7, _, rfl, r7, hl⟩ := rlc.1 hl
    obtain ⟨c8, _, rfl, r8, hl⟩ := rlc.1 hl
    obtain ⟨c9, _, rfl, r9, hl⟩ := rlc.1 hl
    have hl0 := rln.1 hl
    subst hl0
    have e0 := dk46 _ _ _ H g0 r0
    have e1 := dk4 _ _ _ H g1 r1
    have e2 := dk3 _ _ _ H g2 r2
    have e3 := dk3 _ _ _ H g3 r3
    have e4 := dk3 _ _ _ H g4 r4
    have e5 := dk3 _ _ _ H g5 r5
    have e6 := dk3 _ _ _ H g6 r6
    have e7 := dk3 _ _ _ H g7 r7
    have e8 := dk4 _ _ _ H g8 r8
    have e9 := dk4 _ _ _ H g9 r9
    unfold rp46 at e0; subst e0
    unfold rp4 at e1; subst e1
    unfold rp3 at e2; subst e2
    unfold rp3 at e3; subst e3
    unfold rp3 at e4; subst e4
    unfold rp3 at e5; subst e5
    unfold rp3 at e6; subst e6
    unfold rp3 at e7; subst e7
    unfold rp4 at e8; subst e8
    unfold rp4 at e9; subst e9
    exact rfl
  · simp at h
theorem ek47 (x : Step) (a : AV) (h : rp47 x a) : okElem true 10 a = true ∧ closed a = true := by
  unfold rp47 at h; subst h
  exact ⟨by simp [okElem, leaf_int, leaf_bool, leaf_str], by simp [closed, closedL]⟩
theorem uk42 (x : List Step) (a : AV) (H : SHeap den) (h : rp42 x a) : R T H (up42 x) a := by
  unfold up42; simp only [R]; exact h
theorem lk42 {H : SHeap den} : ∀ (vs : List V) (l : List Step) (m : List AV), dl42 vs = some l → RL T H vs m → All2 rp47 l m
  | [], l, [], h, _ => by simp [dl42] at h; subst h; trivial
  | v :: vs, l, a :: m, h, hr => by
    simp only [RL] at hr
    simp only [dl42, Option.bind_eq_some_iff, Option.map_eq_some_iff] at h
    obtain ⟨x, h1, ys, h2, rfl⟩ := h
    exact ⟨dk47 _ _ _ H h1 hr.1, lk42 vs ys m h2 hr.2⟩
  | [], _, _ :: _, _, h => by simp [RL] at h
  | _ :: _, _, [], _, h => by simp [RL] at h
theorem dk42 (v : V) (x : List Step) (a : AV) (H : SHeap den) (h : dn42 v = some x) (hr : R T H v a) : rp42 x a := by
  unfold dn42 at h
  split at h
  · rename_i t l
    split at h
    · rename_i e
      subst e
      have e2 : l = x := Option.some.inj h
      subst e2
      simp only [R] at hr
      exact hr
    · simp at h
  · simp only [R] at hr
    obtain ⟨m, rfl, hm, _⟩ := hr
    exact .inl ⟨m, rfl, lk42 _ _ _ h hm⟩
  · simp only [Option.some.injEq] at h
    subst h
    simp only [R] at hr
    exact .inr ⟨rfl, hr⟩
  · simp at h
theorem ek42 (x : List Step) (a : AV) (h : rp42 x a) : okElem false 1 a = true ∧ closed a = true ∧ isLeaf a = true := by
  rcases h with ⟨l, rfl, _⟩ | ⟨_, rfl⟩ <;> exact ⟨rfl, rfl, rfl⟩
theorem uk59 (x : Queue) (a : AV) (H : SHeap den) (h : rp59 x a) : R T H (up59 x) a := by
  obtain ⟨a5, h5, rfl⟩ := h
  unfold up59
  simp only [R]
  refine ⟨_, rfl, ?_⟩
  simp only [RL, R, and_true, true_and]
  exact h5
theorem dk59 (v : V) (x : Queue) (a : AV) (H : SHeap den) (h : dn59 v = some x) (hr : R T H v a) : rp59 x a := by
  unfold dn59 at h
  split at h
  · simp only [Option.bind_eq_some_iff, Option.some.injEq] at h
    obtain ⟨b0, g0, b1, g1, b2, g2, b3, g3, b4, g4, b5, g5, b6, g6, b7, g7, b8, g8, b9, g9, b10, g10, b11, g11, b12, g12, b13, g13, b14, g14, rfl⟩ := h
    simp only [R] at hr
    obtain ⟨_, rfl, hl⟩ := hr
    obtain ⟨c0, _, rfl, r0, hl⟩ := rlc.1 hl
    obtain ⟨c1, _, rfl, r1, hl⟩ := rlc.1 hl
    obtain ⟨c2, _, rfl, r2, hl⟩ := rlc.1 hl
    obtain ⟨c3, _, rfl, r3, hl⟩ := rlc.1 hl
    obtain ⟨c4, _, rfl, r4, hl⟩ := rlc.1 hl
    obtain ⟨c5, _, rfl, r5, hl⟩ := rlc.1 hl
    obtain ⟨c6, _, rfl, r6, hl⟩ := rlc.1 hl
    obtain ⟨c7, _, rfl, r7, hl⟩ := rlc.1 hl
    obtain ⟨c8, _, rfl, r8, hl⟩ := rlc.1 hl
    obtain ⟨c9, _, rfl, r9, hl⟩ := rlc.1 hl
    obtain ⟨c10, _, rfl, r10, hl⟩ := rlc.1 hl
    obtain ⟨c11, _, rfl, r11, hl⟩ := rlc.1 hl
    obtain ⟨c12, _, rfl, r12, hl⟩ := rlc.1 hl
    obtain ⟨c13, _, rfl, r13, hl⟩ := rlc.1 hl
    obtain ⟨c14, _, rfl, r14, hl⟩ := rlc.1 hl
    have hl0 := rln.1 hl
    subst hl0
    have e0 := dk3 _ _ _ H g0 r0
    have e1 := dk3 _ _ _ H g1 r1
    have e2 := dk3 _ _ _ H g2 r2
    have e3 := dk3 _ _ _ H g3 r3
    have e4 := dk3 _ _ _ H g4 r4
    have e5 := dk24 _ _ _ H g5 r5
    have e6 := dk3 _ _ _ H g6 r6
    have e7 := dk3 _ _ _ H g7 r7
    have e8 := dk3 _ _ _ H g8 r8
    have e9 := dk3 _ _ _ H g9 r9
    have e10 := dk3 _ _ _ H g10 r10
    have e11 := dk3 _ _ _ H g11 r11
    have e12 := dk3 _ _ _ H g12 r12
    have e13 := dk3 _ _ _ H g13 r13
    have e14 := dk26 _ _ _ H g14 r14
    unfold rp3 at e0; subst e0
    unfold rp3 at e1; subst e1
    unfold rp3 at e2; subst e2
    unfold rp3 at e3; subst e3
    unfold rp3 at e4; subst e4
    unfold rp3 at e6; subst e6
    unfold rp3 at e7; subst e7
    unfold rp3 at e8; subst e8
    unfold rp3 at e9; subst e9
    unfold rp3 at e10; subst e10
    unfold rp3 at e11; subst e11
    unfold rp3 at e12; subst e12
    unfold rp3 at e13; subst e13
    unfold rp26 at e14; subst e14
    exact ⟨_, e5, rfl⟩
  · simp at h
theorem ek59 (x : Queue) (a : AV) (h : rp59 x a) : okElem true 15 a = true ∧ closed a = true := by
  obtain ⟨a5, h5, rfl⟩ := h
  have k5 := ek24 _ _ h5
  exact ⟨by simp [okElem, leaf_int, leaf_bool, leaf_str, k5.2.2], by simp [closed, closedL, k5.2.1]⟩
theorem uk56 (x : Queue) (a : AV) (H : SHeap den) (h : rp56 x a) : R T H (up56 x) a := by
  obtain ⟨b, rfl, hb⟩ := h
  unfold up56
  simp only [R]
  exact ⟨b, rfl, uk59 _ _ H hb, by unfold up59; rfl⟩
theorem dk56 (v : V) (x : Queue) (a : AV) (H : SHeap den) (h : dn56 v = some x) (hr : R T H v a) : rp56 x a := by
  unfold dn56 at h
  split at h
  · simp only [R] at hr
    obtain ⟨e, rfl, hr, _⟩ := hr
    exact ⟨e, rfl, dk59 _ _ _ H h hr⟩
  · simp at h
theorem ek56 (x : Queue) (a : AV) (h : rp56 x a) : okElem false 1 a = true ∧ closed a = true ∧ isLeaf a = true := by
  obtain ⟨b, rfl, _⟩ := h
  exact ⟨rfl, rfl, rfl⟩
theorem uk1003 (x : Int) (a : AV) (H : SHeap den) (h : rp1003 x a) : R T H (up1003 x) a := by
  obtain ⟨b, rfl, hb⟩ := h
  unfold up1003
  simp only [R]
  exact ⟨b, rfl, uk3 _ _ H hb, by unfold up3; rfl⟩
theorem dk1003 (v : V) (x : Int) (a : AV) (H : SHeap den) (h : dn1003 v = some x) (hr : R T H v a) : rp1003 x a := by
  unfold dn1003 at h
  split at h
  · simp only [R] at hr
    obtain ⟨e, rfl, hr, _⟩ := hr
    exact ⟨e, rfl, dk3 _ _ _ H h hr⟩
  · simp at h
theorem ek1003 (x : Int) (a : AV) (h : rp1003 x a) : okElem false 1 a = true ∧ closed a = true ∧ isLeaf a = true := by
  obtain ⟨b, rfl, _⟩ := h
  exact ⟨rfl, rfl, rfl⟩
theorem uk1056 (x : Queue) (a : AV) (H : SHeap den) (h : rp1056 x a) : R T H (up1056 x) a := by
  obtain ⟨b, rfl, hb⟩ := h
  unfold up1056
  simp only [R]
  exact ⟨b, rfl, uk56 _ _ H hb, by unfold up56; rfl⟩
theorem dk1056 (v : V) (x : Queue) (a : AV) (H : SHeap den) (h : dn1056 v = some x) (hr : R T H v a) : rp1056 x a := by
  unfold dn1056 at h
  split at h
  · simp only [R] at hr
    obtain ⟨e, rfl, hr, _⟩ := hr
    exact ⟨e, rfl, dk56 _ _ _ H h hr⟩
  · simp at h
theorem ek1056 (x : Queue) (a : AV) (h : rp1056 x a) : okElem false 1 a = true ∧ closed a = true ∧ isLeaf a = true := by
  obtain ⟨b, rfl, _⟩ := h
  exact ⟨rfl, rfl, rfl⟩
theorem T_up (t : Nat) (x : den t) (a : AV) (H : SHeap den) (h : rp t x a) : R T H (up t x) a := by
  unfold rp at h
  split at h
  · exact uk2 _ _ H h
  · exact uk3 _ _ H h
  · exact uk4 _ _ H h
  · exact uk5 _ _ H h
  · exact uk9 _ _ H h
  · exact uk22 _ _ H h
  · exact uk22 _ _ H h
  · exact uk24 _ _ H h
  · exact uk25 _ _ H h
  · exact uk26 _ _ H h
  · exact uk27 _ _ H h
  · exact uk27 _ _ H h
  · exact uk29 _ _ H h
  · exact uk29 _ _ H h
  · exact uk33 _ _ H h
  · exact uk3 _ _ H h
  · exact uk42 _ _ H h
  · exact uk43 _ _ H h
  · exact uk44 _ _ H h
  · exact uk44 _ _ H h
  · exact uk46 _ _ H h
  · exact uk47 _ _ H h
  · exact uk47 _ _ H h
  · exact uk59 _ _ H h
  · exact uk59 _ _ H h
  · exact uk56 _ _ H h
  · exact uk1003 _ _ H h
  · exact uk1056 _ _ H h
  · exact h.elim
theorem T_dn (t : Nat) (v : V) (x : den t) (a : AV) (H : SHeap den) (h : dn t v = some x) (hr : R T H v a) : rp t x a := by
  revert x h hr
  refine dn.fun_cases_unfolding (motive := fun t v r => ∀ (x : den t), r = some x → R T H v a → rp t x a) ?_ ?_ ?_ ?_ ?_ ?_ ?_ ?_ ?_ ?_ ?_ ?_ ?_ ?_ ?_ ?_ ?_ ?_ ?_ ?_ ?_ ?_ ?_ ?_ ?_ ?_ ?_ ?_ ?_ t v
  · intro v x h hr; exact dk2 _ _ _ H h hr
  · intro v x h hr; exact dk3 _ _ _ H h hr
  · intro v x h hr; exact dk4 _ _ _ H h hr
  · intro v x h hr; exact dk5 _ _ _ H h hr
  · intro v x h hr; exact dk9 _ _ _ H h hr
  · intro v x h hr; exact dk22 _ _ _ H h hr
  · intro v x h hr; exact dk22 _ _ _ H h hr
  · intro v x h hr; exact dk24 _ _ _ H h hr
  · intro v x h hr; exact dk25 _ _ _ H h hr
  · intro v x h hr; exact dk26 _ _ _ H h hr
  · intro v x h hr; exact dk27 _ _ _ H h hr
  · intro v x h hr; exact dk27 _ _ _ H h hr
  · intro v x h hr; exact dk29 _ _ _ H h hr
  · intro v x h hr; exact dk29 _ _ _ H h hr
  · intro v x h hr; exact dk33 _ _ _ H h hr
  · intro v x h hr; exact dk3 _ _ _ H h hr
  · intro v x h hr; exact dk42 _ _ _ H h hr
  · intro v x h hr; exact dk43 _ _ _ H h hr
  · intro v x h hr; exact dk44 _ _ _ H h hr
  · intro v x h hr; exact dk44 _ _ _ H h hr
  · intro v x h hr; exact dk46 _ _ _ H h hr
  · intro v x h hr; exact dk47 _ _ _ H h hr
  · intro v x h hr; exact dk47 _ _ _ H h hr
  · intro v x h hr; exact dk59 _ _ _ H h hr
  · intro v x h hr; exact dk59 _ _ _ H h hr
  · intro v x h hr; exact dk56 _ _ _ H h hr
  · intro v x h hr; exact dk1003 _ _ _ H h hr
  · intro v x h hr; exact dk1056 _ _ _ H h hr
  · intros; rename_i h _; cases h
theorem T_ok (t : Nat) (x : den t) (a : AV) (h : rp t x a) : okElem (aggT t) (sizeT t) a = true ∧ closed a = true := by
  unfold rp at h
  split at h
  · exact ⟨(ek2 _ _ h).1, (ek2 _ _ h).2.1⟩
  · exact ⟨(ek3 _ _ h).1, (ek3 _ _ h).2.1⟩
  · exact ⟨(ek4 _ _ h).1, (ek4 _ _ h).2.1⟩
  · exact ⟨(ek5 _ _ h).1, (ek5 _ _ h).2.1⟩
  · exact ⟨(ek9 _ _ h).1, (ek9 _ _ h).2.1⟩
  · exact ek22 _ _ h
  · exact ek22 _ _ h
  · exact ⟨(ek24 _ _ h).1, (ek24 _ _ h).2.1⟩
  · exact ek25 _ _ h
  · exact ⟨(ek26 _ _ h).1, (ek26 _ _ h).2.1⟩
  · exact ek27 _ _ h
  · exact ek27 _ _ h
  · exact ek29 _ _ h
  · exact ek29 _ _ h
  · exact ⟨(ek33 _ _ h).1, (ek33 _ _ h).2.1⟩
  · exact ⟨(ek3 _ _ h).1, (ek3 _ _ h).2.1⟩
  · exact ⟨(ek42 _ _ h).1, (ek42 _ _ h).2.1⟩
  · exact ⟨(ek43 _ _ h).1, (ek43 _ _ h).2.1⟩
  · exact ek44 _ _ h
  · exact ek44 _ _ h
  · exact ⟨(ek46 _ _ h).1, (ek46 _ _ h).2.1⟩
  · exact ek47 _ _ h
  · exact ek47 _ _ h
  · exact ek59 _ _ h
  · exact ek59 _ _ h
  · exact ⟨(ek56 _ _ h).1, (ek56 _ _ h).2.1⟩
  · exact ⟨(ek1003 _ _ h).1, (ek1003 _ _ h).2.1⟩
  · exact ⟨(ek1056 _ _ h).1, (ek1056 _ _ h).2.1⟩
  · exact h.elim
theorem TOk : T.Ok := ⟨fun t x a H h => T_up t x a H h, fun t v x a H h hr => T_dn t v x a H h hr, fun t x a h => (T_ok t x a h).1, fun t x a h => (T_ok t x a h).2⟩
theorem QOk : Prg.Ok ⟨Tryd.prog, memo⟩ := Prg.Ok.of (by kernel_rfl) (by kernel_rfl) (by kernel_rfl) (by kernel_rfl)
def ZP (q : Nat × MTy) : Prop := ∀ z za, zeroT q.1 = some z → q.2.zero = some za → rp q.1 z za
theorem z2 : ∀ z za, zeroT 2 = some z → (some (.lit (.int .i64 0)) : Option AV) = some za → rp 2 z za := by
  intro z za h1 h2
  have e1 := Option.some.inj h1
  have e2 := Option.some.inj h2
  subst e1; subst e2
  show rp2 _ _
  unfold rp2
  rfl
theorem z3 : ∀ z za, zeroT 3 = some z → (some (.lit (.int .i64 0)) : Option AV) = some za → rp 3 z za := by
  intro z za h1 h2
  have e1 := Option.some.inj h1
  have e2 := Option.some.inj h2
  subst e1; subst e2
  show rp3 _ _
  unfold rp3
  rfl
theorem z4 : ∀ z za, zeroT 4 = some z → (some (.lit (.bool false)) : Option AV) = some za → rp 4 z za := by
  intro z za h1 h2
  have e1 := Option.some.inj h1
  have e2 := Option.some.inj h2
  subst e1; subst e2
  show rp4 _ _
  unfold rp4
  rfl
theorem z5 : ∀ z za, zeroT 5 = some z → (some (.lit (.int .u8 0)) : Option AV) = some za → rp 5 z za := by
  intro z za h1 h2
  have e1 := Option.some.inj h1
  have e2 := Option.some.inj h2
  subst e1; subst e2
  show rp5 _ _
  unfold rp5
  rfl
theorem z9 : ∀ z za, zeroT 9 = some z → (some (.lit (.string ByteArray.empty)) : Option AV) = some za → rp 9 z za := by
  intro z za h1 h2
  have e1 := Option.some.inj h1
  have e2 := Option.some.inj h2
  subst e1; subst e2
  show rp9 _ _
  unfold rp9
  rfl
theorem z22 : ∀ z za, zeroT 22 = some z → (some (.agg [.lit (.int .i64 0), .lit (.int .i64 0), .lit (.int .i64 0), .lit (.int .i64 0)]) : Option AV) = some za → rp 22 z za := by
  intro z za h1 h2
  have e1 := Option.some.inj h1
  have e2 := Option.some.inj h2
  subst e1; subst e2
  show rp22 _ _
  unfold rp22
  rfl
theorem z23 : ∀ z za, zeroT 23 = some z → (some (.agg [.lit (.int .i64 0), .lit (.int .i64 0), .lit (.int .i64 0), .lit (.int .i64 0)]) : Option AV) = some za → rp 23 z za := by
  intro z za h1 h2
  have e1 := Option.some.inj h1
  have e2 := Option.some.inj h2
  subst e1; subst e2
  show rp22 _ _
  unfold rp22
  rfl
theorem z24 : ∀ z za, zeroT 24 = some z → (some (.lit (.slice none 0 0)) : Option AV) = some za → rp 24 z za := by
  intro z za h1 h2
  have e1 := Option.some.inj h1
  have e2 := Option.some.inj h2
  subst e1; subst e2
  show rp24 _ _
  exact .inr ⟨rfl, rfl⟩
theorem z25 : ∀ z za, zeroT 25 = some z → (some (.agg [.lit (.int .i64 0), .lit (.int .i64 0), .lit (.int .i64 0), .lit (.int .i64 0), .lit (.int .i64 0), .lit (.int .i64 0), .lit (.int .i64 0), .lit (.int .i64 0)]) : Option AV) = some za → rp 25 z za := by
  intro z za h1 h2
  have e1 := Option.some.inj h1
  have e2 := Option.some.inj h2
  subst e1; subst e2
  show rp25 _ _
  unfold rp25
  rfl
theorem z26 : ∀ z za, zeroT 26 = some z → (some (.lit (.int .u64 0)) : Option AV) = some za → rp 26 z za := by
  intro z za h1 h2
  have e1 := Option.some.inj h1
  have e2 := Option.some.inj h2
  subst e1; subst e2
  show rp26 _ _
  unfold rp26
  rfl
theorem z27 : ∀ z za, zeroT 27 = some z → (some (.agg [.lit (.int .i64 0), .lit (.int .i64 0), .lit (.int .i64 0), .lit (.int .i64 0), .lit (.int .i64 0), .lit (.slice none 0 0), .lit (.int .i64 0), .lit (.int .i64 0), .lit (.int .i64 0), .lit (.int .i64 0), .lit (.int .i64 0), .lit (.int .i64 0), .lit (.int .i64 0), .lit (.int .i64 0), .lit (.int .u64 0)]) : Option AV) = some za → rp 27 z za := by
  intro z za h1 h2
  have e1 := Option.some.inj h1
  have e2 := Option.some.inj h2
  subst e1; subst e2
  show rp27 _ _
  exact ⟨_, .inr ⟨rfl, rfl⟩, rfl⟩
theorem z28 : ∀ z za, zeroT 28 = some z → (some (.agg [.lit (.int .i64 0), .lit (.int .i64 0), .lit (.int .i64 0), .lit (.int .i64 0), .lit (.int .i64 0), .lit (.slice none 0 0), .lit (.int .i64 0), .lit (.int .i64 0), .lit (.int .i64 0), .lit (.int .i64 0), .lit (.int .i64 0), .lit (.int .i64 0), .lit (.int .i64 0), .lit (.int .i64 0), .lit (.int .u64 0)]) : Option AV) = some za → rp 28 z za := by
  intro z za h1 h2
  have e1 := Option.some.inj h1
  have e2 := Option.some.inj h2
  subst e1; subst e2
  show rp27 _ _
  exact ⟨_, .inr ⟨rfl, rfl⟩, rfl⟩
theorem z29 : ∀ z za, zeroT 29 = some z → (some (.agg [.lit (.int .i64 0), .lit (.int .i64 0), .lit (.int .i64 0), .lit (.int .i64 0), .lit (.int .i64 0), .lit (.int .i64 0), .lit (.bool false), .lit (.bool false)]) : Option AV) = some za → rp 29 z za := by
  intro z za h1 h2
  have e1 := Option.some.inj h1
  have e2 := Option.some.inj h2
  subst e1; subst e2
  show rp29 _ _
  unfold rp29
  rfl
theorem z30 : ∀ z za, zeroT 30 = some z → (some (.agg [.lit (.int .i64 0), .lit (.int .i64 0), .lit (.int .i64 0), .lit (.int .i64 0), .lit (.int .i64 0), .lit (.int .i64 0), .lit (.bool false), .lit (.bool false)]) : Option AV) = some za → rp 30 z za := by
  intro z za h1 h2
  have e1 := Option.some.inj h1
  have e2 := Option.some.inj h2
  subst e1; subst e2
  show rp29 _ _
  unfold rp29
  rfl
theorem z33 : ∀ z za, zeroT 33 = some z → (some (.lit (.slice none 0 0)) : Option AV) = some za → rp 33 z za := by
  intro z za h1 h2
  have e1 := Option.some.inj h1
  have e2 := Option.some.inj h2
  subst e1; subst e2
  show rp33 _ _
  exact .inr ⟨rfl, rfl⟩
theorem z34 : ∀ z za, zeroT 34 = some z → (some (.lit (.int .i64 0)) : Option AV) = some za → rp 34 z za := by
  intro z za h1 h2
  have e1 := Option.some.inj h1
  have e2 := Option.some.inj h2
  subst e1; subst e2
  show rp3 _ _
  unfold rp3
  rfl
theorem z42 : ∀ z za, zeroT 42 = some z → (some (.lit (.slice none 0 0)) : Option AV) = some za → rp 42 z za := by
  intro z za h1 h2
  have e1 := Option.some.inj h1
  have e2 := Option.some.inj h2
  subst e1; subst e2
  show rp42 _ _
  exact .inr ⟨rfl, rfl⟩
theorem z43 : ∀ z za, zeroT 43 = some z → (some (.lit (.slice none 0 0)) : Option AV) = some za → rp 43 z za := by
  intro z za h1 h2
  have e1 := Option.some.inj h1
  have e2 := Option.some.inj h2
  subst e1; subst e2
  show rp43 _ _
  exact .inr ⟨rfl, rfl⟩
theorem z44 : ∀ z za, zeroT 44 = some z → (some (.agg [.lit (.int .i64 0), .lit (.int .i64 0), .lit (.int .i64 0), .lit (.int .i64 0), .lit (.int .i64 0), .lit (.int .i64 0), .lit (.bool false), .lit (.bool false), .lit (.int .i64 0)]) : Option AV) = some za → rp 44 z za := by
  intro z za h1 h2
  have e1 := Option.some.inj h1
  have e2 := Option.some.inj h2
  subst e1; subst e2
  show rp44 _ _
  unfold rp44
  rfl
theorem z45 : ∀ z za, zeroT 45 = some z → (some (.agg [.lit (.int .i64 0), .lit (.int .i64 0), .lit (.int .i64 0), .lit (.int .i64 0), .lit (.int .i64 0), .lit (.int .i64 0), .lit (.bool false), .lit (.bool false), .lit (.int .i64 0)]) : Option AV) = some za → rp 45 z za := by
  intro z za h1 h2
  have e1 := Option.some.inj h1
  have e2 := Option.some.inj h2
  subst e1; subst e2
  show rp44 _ _
  unfold rp44
  rfl
theorem z46 : ∀ z za, zeroT 46 = some z → (some (.lit (.int .u16 0)) : Option AV) = some za → rp 46 z za := by
  intro z za h1 h2
  have e1 := Option.some.inj h1
  have e2 := Option.some.inj h2
  subst e1; subst e2
  show rp46 _ _
  unfold rp46
  rfl
theorem z47 : ∀ z za, zeroT 47 = some z → (some (.agg [.lit (.int .u16 0), .lit (.bool false), .lit (.int .i64 0), .lit (.int .i64 0), .lit (.int .i64 0), .lit (.int .i64 0), .lit (.int .i64 0), .lit (.int .i64 0), .lit (.bool false), .lit (.bool false)]) : Option AV) = some za → rp 47 z za := by
  intro z za h1 h2
  have e1 := Option.some.inj h1
  have e2 := Option.some.inj h2
  subst e1; subst e2
  show rp47 _ _
  unfold rp47
  rfl
theorem z48 : ∀ z za, zeroT 48 = some z → (some (.agg [.lit (.int .u16 0), .lit (.bool false), .lit (.int .i64 0), .lit (.int .i64 0), .lit (.int .i64 0), .lit (.int .i64 0), .lit (.int .i64 0), .lit (.int .i64 0), .lit (.bool false), .lit (.bool false)]) : Option AV) = some za → rp 48 z za := by
  intro z za h1 h2
  have e1 := Option.some.inj h1
  have e2 := Option.some.inj h2
  subst e1; subst e2
  show rp47 _ _
  unfold rp47
  rfl
theorem z59 : ∀ z za, zeroT 59 = some z → (some (.agg [.lit (.int .i64 0), .lit (.int .i64 0), .lit (.int .i64 0), .lit (.int .i64 0), .lit (.int .i64 0), .lit (.slice none 0 0), .lit (.int .i64 0), .lit (.int .i64 0), .lit (.int .i64 0), .lit (.int .i64 0), .lit (.int .i64 0), .lit (.int .i64 0), .lit (.int .i64 0), .lit (.int .i64 0), .lit (.int .u64 0)]) : Option AV) = some za → rp 59 z za := by
  intro z za h1 h2
  have e1 := Option.some.inj h1
  have e2 := Option.some.inj h2
  subst e1; subst e2
  show rp59 _ _
  exact ⟨_, .inr ⟨rfl, rfl⟩, rfl⟩
theorem z60 : ∀ z za, zeroT 60 = some z → (some (.agg [.lit (.int .i64 0), .lit (.int .i64 0), .lit (.int .i64 0), .lit (.int .i64 0), .lit (.int .i64 0), .lit (.slice none 0 0), .lit (.int .i64 0), .lit (.int .i64 0), .lit (.int .i64 0), .lit (.int .i64 0), .lit (.int .i64 0), .lit (.int .i64 0), .lit (.int .i64 0), .lit (.int .i64 0), .lit (.int .u64 0)]) : Option AV) = some za → rp 60 z za := by
  intro z za h1 h2
  have e1 := Option.some.inj h1
  have e2 := Option.some.inj h2
  subst e1; subst e2
  show rp59 _ _
  exact ⟨_, .inr ⟨rfl, rfl⟩, rfl⟩
theorem ZOk : T.Zeros ⟨Tryd.prog, memo⟩ := by
  intro t m z za h1 h2 h3
  have hm := lookS_mem h1
  have all : ∀ q, q ∈ memo → ZP q := by
    unfold memo
    intro q hq
    simp only [List.mem_cons, List.not_mem_nil, or_false] at hq
    rcases hq with rfl | rfl | rfl | rfl | rfl | rfl | rfl | rfl | rfl | rfl | rfl | rfl | rfl | rfl | rfl | rfl | rfl | rfl | rfl | rfl | rfl | rfl | rfl | rfl | rfl | rfl | rfl | rfl | rfl | rfl | rfl | rfl | rfl | rfl | rfl | rfl | rfl | rfl | rfl | rfl | rfl | rfl | rfl | rfl | rfl | rfl | rfl | rfl | rfl | rfl | rfl | rfl | rfl | rfl | rfl | rfl | rfl | rfl | rfl | rfl | rfl | rfl | rfl | rfl | rfl | rfl | rfl | rfl | rfl | rfl | rfl | rfl | rfl | rfl | rfl | rfl | rfl | rfl | rfl | rfl | rfl | rfl | rfl | rfl | rfl | rfl | rfl | rfl | rfl | rfl | rfl | rfl
    · exact fun z za h1 _ => by cases h1
    · exact z2
    · exact z3
    · exact z4
    · exact z5
    · exact fun z za h1 _ => by cases h1
    · exact fun z za h1 _ => by cases h1
    · exact fun z za h1 _ => by cases h1
    · exact z9
    · exact fun z za h1 _ => by cases h1
    · exact fun z za h1 _ => by cases h1
    · exact fun z za h1 _ => by cases h1
    · exact fun z za h1 _ => by cases h1
    · exact fun z za h1 _ => by cases h1
    · exact fun z za h1 _ => by cases h1
    · exact fun z za h1 _ => by cases h1
    · exact fun z za h1 _ => by cases h1
    · exact fun z za h1 _ => by cases h1
    · exact fun z za h1 _ => by cases h1
    · exact fun z za h1 _ => by cases h1
    · exact fun z za h1 _ => by cases h1
    · exact z22
    · exact z23
    · exact z24
    · exact z25
    · exact z26
    · exact z27
    · exact z28
    · exact z29
    · exact z30
    · exact fun z za h1 _ => by cases h1
    · exact fun z za h1 _ => by cases h1
    · exact z33
    · exact z34
    · exact fun z za h1 _ => by cases h1
    · exact fun z za h1 _ => by cases h1
    · exact fun z za h1 _ => by cases h1
    · exact fun z za h1 _ => by cases h1
    · exact fun z za h1 _ => by cases h1
    · exact z42
    · exact z43
    · exact z44
    · exact z45
    · exact z46
    · exact z47
    · exact z48
    · exact fun z za h1 _ => by cases h1
    · exact fun z za h1 _ => by cases h1
    · exact fun z za h1 _ => by cases h1
    · exact fun z za h1 _ => by cases h1
    · exact fun z za h1 _ => by cases h1
    · exact fun z za h1 _ => by cases h1
    · exact fun z za h1 _ => by cases h1
    · exact fun z za h1 _ => by cases h1
    · exact fun z za h1 _ => by cases h1
    · exact z59
    · exact z60
    · exact fun z za h1 _ => by cases h1
    · exact fun z za h1 _ => by cases h1
    · exact fun z za h1 _ => by cases h1
    · exact fun z za h1 _ => by cases h1
    · exact fun z za h1 _ => by cases h1
    · exact fun z za h1 _ => by cases h1
    · exact fun z za h1 _ => by cases h1
    · exact fun z za h1 _ => by cases h1
    · exact fun z za h1 _ => by cases h1
    · exact fun z za h1 _ => by cases h1
    · exact fun z za h1 _ => by cases h1
    · exact fun z za h1 _ => by cases h1
    · exact fun z za h1 _ => by cases h1
    · exact fun z za h1 _ => by cases h1
    · exact fun z za h1 _ => by cases h1
    · exact fun z za h1 _ => by cases h1
    · exact fun z za h1 _ => by cases h1
    · exact fun z za h1 _ => by cases h1
    · exact fun z za h1 _ => by cases h1
    · exact fun z za h1 _ => by cases h1
    · exact fun z za h1 _ => by cases h1
    · exact fun z za h1 _ => by cases h1
    · exact fun z za h1 _ => by cases h1
    · exact fun z za h1 _ => by cases h1
    · exact fun z za h1 _ => by cases h1
    · exact fun z za h1 _ => by cases h1
    · exact fun z za h1 _ => by cases h1
    · exact fun z za h1 _ => by cases h1
    · exact fun z za h1 _ => by cases h1
    · exact fun z za h1 _ => by cases h1
    · exact fun z za h1 _ => by cases h1
    · exact fun z za h1 _ => by cases h1
    · exact fun z za h1 _ => by cases h1
    · exact fun z za h1 _ => by cases h1
    · exact fun z za h1 _ => by cases h1
  exact all _ hm z za h3 h2
theorem un2 : Tryd.prog.underlying 2 = some (.int .i64) := by kernel_rfl
def wf2 (x : Int) : Prop := IntKind.min .i64 ≤ x ∧ x ≤ IntKind.max .i64
theorem sh2 {n : Nat} {l : List AV} (h : Shape Tryd.prog n 2 l) : ∃ x, wf2 x ∧ ∃ a, l = [a] ∧ rp2 x a := by
  obtain ⟨m, rfl, h1⟩ := shape_int un2 h
  exact ⟨m, h1, _, rfl, rfl⟩
theorem un3 : Tryd.prog.underlying 3 = some (.int .i64) := by kernel_rfl
def wf3 (x : Int) : Prop := IntKind.min .i64 ≤ x ∧ x ≤ IntKind.max .i64
theorem sh3 {n : Nat} {l : List AV} (h : Shape Tryd.prog n 3 l) : ∃ x, wf3 x ∧ ∃ a, l = [a] ∧ rp3 x a := by
  obtain ⟨m, rfl, h1⟩ := shape_int un3 h
  exact ⟨m, h1, _, rfl, rfl⟩
theorem un4 : Tryd.prog.underlying 4 = some .bool := by kernel_rfl
def wf4 (_ : Bool) : Prop := True
theorem sh4 {n : Nat} {l : List AV} (h : Shape Tryd.prog n 4 l) : ∃ x, wf4 x ∧ ∃ a, l = [a] ∧ rp4 x a := by
  obtain ⟨m, rfl⟩ := shape_bool un4 h
  exact ⟨m, trivial, _, rfl, rfl⟩
theorem un5 : Tryd.prog.underlying 5 = some (.int .u8) := by kernel_rfl
def wf5 (x : Int) : Prop := IntKind.min .u8 ≤ x ∧ x ≤ IntKind.max .u8
theorem sh5 {n : Nat} {l : List AV} (h : Shape Tryd.prog n 5 l) : ∃ x, wf5 x ∧ ∃ a, l = [a] ∧ rp5 x a := by
  obtain ⟨m, rfl, h1⟩ := shape_int un5 h
  exact ⟨m, h1, _, rfl, rfl⟩
theorem un9 : Tryd.prog.underlying 9 = some .string := by kernel_rfl
def wf9 (x : ByteArray) : Prop := x.size ≤ maxLen
theorem sh9 {n : Nat} {l : List AV} (h : Shape Tryd.prog n 9 l) : ∃ x, wf9 x ∧ ∃ a, l = [a] ∧ rp9 x a := by
  obtain ⟨m, rfl, h1⟩ := shape_str un9 h
  exact ⟨m, h1, _, rfl, rfl⟩
def wf22 (x : Policy) : Prop := wf3 x.Kind ∧ wf3 x.A ∧ wf3 x.B ∧ wf3 x.C
theorem uq22_0 : Tryd.prog.underlying 3 = Tryd.prog.underlying 3 := by kernel_rfl
theorem uq22_1 : Tryd.prog.underlying 3 = Tryd.prog.underlying 3 := by kernel_rfl
theorem uq22_2 : Tryd.prog.underlying 3 = Tryd.prog.underlying 3 := by kernel_rfl
theorem uq22_3 : Tryd.prog.underlying 3 = Tryd.prog.underlying 3 := by kernel_rfl
theorem sh22 {n : Nat} {l : List AV} (h : Shape Tryd.prog n 22 l) : ∃ x, wf22 x ∧ rp22 x (.agg l) := by
  obtain ⟨hl, k, hf⟩ := shape_fields QOk (t := 22) rfl rfl h
  rw [cellsOf_ty QOk (t := 22) rfl] at hl
  have h0 := hf (0, 3) (by simp)
  rw [cellsOf_ty QOk (t := 3) rfl] at h0
  replace h0 := shape_same (uq22_0) h0
  have h1 := hf (1, 3) (by simp)
  rw [cellsOf_ty QOk (t := 3) rfl] at h1
  replace h1 := shape_same (uq22_1) h1
  have h2 := hf (2, 3) (by simp)
  rw [cellsOf_ty QOk (t := 3) rfl] at h2
  replace h2 := shape_same (uq22_2) h2
  have h3 := hf (3, 3) (by simp)
  rw [cellsOf_ty QOk (t := 3) rfl] at h3
  replace h3 := shape_same (uq22_3) h3
  match l, hl with
  | [a0, a1, a2, a3], _ =>
    replace h0 : Shape Tryd.prog k 3 [a0] := h0
    obtain ⟨x0, w0, b0, e0, r0⟩ := sh3 h0
    simp only [List.cons.injEq, and_true] at e0
    subst e0
    unfold rp3 at r0; subst r0
    replace h1 : Shape Tryd.prog k 3 [a1] := h1
    obtain ⟨x1, w1, b1, e1, r1⟩ := sh3 h1
    simp only [List.cons.injEq, and_true] at e1
    subst e1
    unfold rp3 at r1; subst r1
    replace h2 : Shape Tryd.prog k 3 [a2] := h2
    obtain ⟨x2, w2, b2, e2, r2⟩ := sh3 h2
    simp only [List.cons.injEq, and_true] at e2
    subst e2
    unfold rp3 at r2; subst r2
    replace h3 : Shape Tryd.prog k 3 [a3] := h3
    obtain ⟨x3, w3, b3, e3, r3⟩ := sh3 h3
    simp only [List.cons.injEq, and_true] at e3
    subst e3
    unfold rp3 at r3; subst r3
    exact ⟨⟨x0, x1, x2, x3⟩, ⟨w0, w1, w2, w3⟩, rfl⟩
def wf29 (x : Packet) : Prop := wf3 x.Flow ∧ wf3 x.Sub ∧ wf3 x.Number ∧ wf3 x.Data ∧ wf3 x.Size ∧ wf3 x.Sent ∧ wf4 x.Able ∧ wf4 x.Marked
theorem uq29_0 : Tryd.prog.underlying 3 = Tryd.prog.underlying 3 := by kernel_rfl
theorem uq29_1 : Tryd.prog.underlying 3 = Tryd.prog.underlying 3 := by kernel_rfl
theorem uq29_2 : Tryd.prog.underlying 3 = Tryd.prog.underlying 3 := by kernel_rfl
theorem uq29_3 : Tryd.prog.underlying 3 = Tryd.prog.underlying 3 := by kernel_rfl
theorem uq29_4 : Tryd.prog.underlying 3 = Tryd.prog.underlying 3 := by kernel_rfl
theorem uq29_5 : Tryd.prog.underlying 3 = Tryd.prog.underlying 3 := by kernel_rfl
theorem uq29_6 : Tryd.prog.underlying 4 = Tryd.prog.underlying 4 := by kernel_rfl
theorem uq29_7 : Tryd.prog.underlying 4 = Tryd.prog.underlying 4 := by kernel_rfl
theorem sh29 {n : Nat} {l : List AV} (h : Shape Tryd.prog n 29 l) : ∃ x, wf29 x ∧ rp29 x (.agg l) := by
  obtain ⟨hl, k, hf⟩ := shape_fields QOk (t := 29) rfl rfl h
  rw [cellsOf_ty QOk (t := 29) rfl] at hl
  have h0 := hf (0, 3) (by simp)
  rw [cellsOf_ty QOk (t := 3) rfl] at h0
  replace h0 := shape_same (uq29_0) h0
  have h1 := hf (1, 3) (by simp)
  rw [cellsOf_ty QOk (t := 3) rfl] at h1
  replace h1 := shape_same (uq29_1) h1
  have h2 := hf (2, 3) (by simp)
  rw [cellsOf_ty QOk (t := 3) rfl] at h2
  replace h2 := shape_same (uq29_2) h2
  have h3 := hf (3, 3) (by simp)
  rw [cellsOf_ty QOk (t := 3) rfl] at h3
  replace h3 := shape_same (uq29_3) h3
  have h4 := hf (4, 3) (by simp)
  rw [cellsOf_ty QOk (t := 3) rfl] at h4
  replace h4 := shape_same (uq29_4) h4
  have h5 := hf (5, 3) (by simp)
  rw [cellsOf_ty QOk (t := 3) rfl] at h5
  replace h5 := shape_same (uq29_5) h5
  have h6 := hf (6, 4) (by simp)
  rw [cellsOf_ty QOk (t := 4) rfl] at h6
  replace h6 := shape_same (uq29_6) h6
  have h7 := hf (7, 4) (by simp)
  rw [cellsOf_ty QOk (t := 4) rfl] at h7
  replace h7 := shape_same (uq29_7) h7
  match l, hl with
  | [a0, a1, a2, a3, a4, a5, a6, a7], _ =>
    replace h0 : Shape Tryd.prog k 3 [a0] := h0
    obtain ⟨x0, w0, b0, e0, r0⟩ := sh3 h0
    simp only [List.cons.injEq, and_true] at e0
    subst e0
    unfold rp3 at r0; subst r0
    replace h1 : Shape Tryd.prog k 3 [a1] := h1
    obtain ⟨x1, w1, b1, e1, r1⟩ := sh3 h1
    simp only [List.cons.injEq, and_true] at e1
    subst e1
    unfold rp3 at r1; subst r1
    replace h2 : Shape Tryd.prog k 3 [a2] := h2
    obtain ⟨x2, w2, b2, e2, r2⟩ := sh3 h2
    simp only [List.cons.injEq, and_true] at e2
    subst e2
    unfold rp3 at r2; subst r2
    replace h3 : Shape Tryd.prog k 3 [a3] := h3
    obtain ⟨x3, w3, b3, e3, r3⟩ := sh3 h3
    simp only [List.cons.injEq, and_true] at e3
    subst e3
    unfold rp3 at r3; subst r3
    replace h4 : Shape Tryd.prog k 3 [a4] := h4
    obtain ⟨x4, w4, b4, e4, r4⟩ := sh3 h4
    simp only [List.cons.injEq, and_true] at e4
    subst e4
    unfold rp3 at r4; subst r4
    replace h5 : Shape Tryd.prog k 3 [a5] := h5
    obtain ⟨x5, w5, b5, e5, r5⟩ := sh3 h5
    simp only [List.cons.injEq, and_true] at e5
    subst e5
    unfold rp3 at r5; subst r5
    replace h6 : Shape Tryd.prog k 4 [a6] := h6
    obtain ⟨x6, w6, b6, e6, r6⟩ := sh4 h6
    simp only [List.cons.injEq, and_true] at e6
    subst e6
    unfold rp4 at r6; subst r6
    replace h7 : Shape Tryd.prog k 4 [a7] := h7
    obtain ⟨x7, w7, b7, e7, r7⟩ := sh4 h7
    simp only [List.cons.injEq, and_true] at e7
    subst e7
    unfold rp4 at r7; subst r7
    exact ⟨⟨x0, x1, x2, x3, x4, x5, x6, x7⟩, ⟨w0, w1, w2, w3, w4, w5, w6, w7⟩, rfl⟩
def wf44 (x : Queued) : Prop := wf29 x.P ∧ wf3 x.At
theorem uq44_0 : Tryd.prog.underlying 30 = Tryd.prog.underlying 29 := by kernel_rfl
theorem uq44_1 : Tryd.prog.underlying 3 = Tryd.prog.underlying 3 := by kernel_rfl
theorem sh44 {n : Nat} {l : List AV} (h : Shape Tryd.prog n 44 l) : ∃ x, wf44 x ∧ rp44 x (.agg l) := by
  obtain ⟨hl, k, hf⟩ := shape_fields QOk (t := 44) rfl rfl h
  rw [cellsOf_ty QOk (t := 44) rfl] at hl
  have h0 := hf (0, 30) (by simp)
  rw [cellsOf_ty QOk (t := 30) rfl] at h0
  replace h0 := shape_same (uq44_0) h0
  have h1 := hf (8, 3) (by simp)
  rw [cellsOf_ty QOk (t := 3) rfl] at h1
  replace h1 := shape_same (uq44_1) h1
  match l, hl with
  | [a0, a1, a2, a3, a4, a5, a6, a7, a8], _ =>
    replace h0 : Shape Tryd.prog k 29 [a0, a1, a2, a3, a4, a5, a6, a7] := h0
    obtain ⟨x0, w0, r0⟩ := sh29 h0
    have e0 : _ = _ := r0
    simp only [AV.agg.injEq, List.cons.injEq, and_true] at e0
    obtain ⟨rfl, rfl, rfl, rfl, rfl, rfl, rfl, rfl⟩ := e0
    replace h1 : Shape Tryd.prog k 3 [a8] := h1
    obtain ⟨x1, w1, b1, e1, r1⟩ := sh3 h1
    simp only [List.cons.injEq, and_true] at e1
    subst e1
    unfold rp3 at r1; subst r1
    exact ⟨⟨x0, x1⟩, ⟨w0, w1⟩, rfl⟩
theorem un43 : Tryd.prog.underlying 43 = some (.slice 45) := by kernel_rfl
theorem ue43 : (Tryd.prog.underlying 45).isSome = true := by kernel_rfl
theorem ua43 : (Tryd.prog.underlying 45).map isAggD = some true := by kernel_rfl
theorem uu43 : Tryd.prog.underlying 45 = Tryd.prog.underlying 44 := by kernel_rfl
def wf43 (x : List Queued) : Prop := x.length ≤ maxLen ∧ ∀ y, y ∈ x → wf44 y
theorem sh43 {n : Nat} {l : List AV} (h : Shape Tryd.prog n 43 l) : ∃ x, wf43 x ∧ ∃ a, l = [a] ∧ rp43 x a := by
  obtain ⟨d, hd⟩ := Option.isSome_iff_exists.1 ue43
  have hag : isAggD d = true := by have := ua43; rw [hd] at this; simpa using this
  obtain ⟨ys, xs, rfl, h1, h2⟩ := shape_slice (Q := fun y x => wf44 y ∧ rp44 y x) un43 hd h (by
    rintro k x ⟨cl, h1, h2⟩
    rw [hag] at h1
    simp only [if_true] at h1
    replace h2 := shape_same uu43 h2
    subst h1
    obtain ⟨y, hy, r⟩ := sh44 h2
    exact ⟨y, hy, r⟩)
  refine ⟨ys, ⟨h2, ?_⟩, _, rfl, .inl ⟨xs, rfl, h1.mono fun _ _ h => h.2⟩⟩
  intro y hy
  obtain ⟨i, hi⟩ := List.getElem?_of_mem hy
  obtain ⟨_, _, h3⟩ := h1.get hi
  exact h3.1
theorem un24 : Tryd.prog.underlying 24 = some (.slice 43) := by kernel_rfl
theorem ue24 : (Tryd.prog.underlying 43).isSome = true := by kernel_rfl
theorem ua24 : (Tryd.prog.underlying 43).map isAggD = some false := by kernel_rfl
theorem uu24 : Tryd.prog.underlying 43 = Tryd.prog.underlying 43 := by kernel_rfl
def wf24 (x : List (List Queued)) : Prop := x.length ≤ maxLen ∧ ∀ y, y ∈ x → wf43 y
theorem sh24 {n : Nat} {l : List AV} (h : Shape Tryd.prog n 24 l) : ∃ x, wf24 x ∧ ∃ a, l = [a] ∧ rp24 x a := by
  obtain ⟨d, hd⟩ := Option.isSome_iff_exists.1 ue24
  have hag : isAggD d = false := by have := ua24; rw [hd] at this; simpa using this
  obtain ⟨ys, xs, rfl, h1, h2⟩ := shape_slice (Q := fun y x => wf43 y ∧ rp43 y x) un24 hd h (by
    rintro k x ⟨cl, h1, h2⟩
    rw [hag] at h1
    simp only [Bool.false_eq_true, if_false] at h1
    replace h2 := shape_same uu24 h2
    subst h1
    obtain ⟨y, hy, a, ha, r⟩ := sh43 h2
    simp only [List.cons.injEq, and_true] at ha
    subst ha
    exact ⟨y, hy, r⟩)
  refine ⟨ys, ⟨h2, ?_⟩, _, rfl, .inl ⟨xs, rfl, h1.mono fun _ _ h => h.2⟩⟩
  intro y hy
  obtain ⟨i, hi⟩ := List.getElem?_of_mem hy
  obtain ⟨_, _, h3⟩ := h1.get hi
  exact h3.1
def wf25 (x : A8 Int) : Prop := wf3 x.e0 ∧ wf3 x.e1 ∧ wf3 x.e2 ∧ wf3 x.e3 ∧ wf3 x.e4 ∧ wf3 x.e5 ∧ wf3 x.e6 ∧ wf3 x.e7
theorem uq25_0 : Tryd.prog.underlying 3 = Tryd.prog.underlying 3 := by kernel_rfl
theorem uq25_1 : Tryd.prog.underlying 3 = Tryd.prog.underlying 3 := by kernel_rfl
theorem uq25_2 : Tryd.prog.underlying 3 = Tryd.prog.underlying 3 := by kernel_rfl
theorem uq25_3 : Tryd.prog.underlying 3 = Tryd.prog.underlying 3 := by kernel_rfl
theorem uq25_4 : Tryd.prog.underlying 3 = Tryd.prog.underlying 3 := by kernel_rfl
theorem uq25_5 : Tryd.prog.underlying 3 = Tryd.prog.underlying 3 := by kernel_rfl
theorem uq25_6 : Tryd.prog.underlying 3 = Tryd.prog.underlying 3 := by kernel_rfl
theorem uq25_7 : Tryd.prog.underlying 3 = Tryd.prog.underlying 3 := by kernel_rfl
theorem sh25 {n : Nat} {l : List AV} (h : Shape Tryd.prog n 25 l) : ∃ x, wf25 x ∧ rp25 x (.agg l) := by
  obtain ⟨hl, k, hf⟩ := shape_array QOk (t := 25) rfl rfl h
  rw [cellsOf_ty QOk (t := 25) rfl] at hl
  have h0 := hf 0 (by omega)
  rw [cellsOf_ty QOk (t := 3) rfl] at h0
  replace h0 := shape_same (uq25_0) h0
  have h1 := hf 1 (by omega)
  rw [cellsOf_ty QOk (t := 3) rfl] at h1
  replace h1 := shape_same (uq25_1) h1
  have h2 := hf 2 (by omega)
  rw [cellsOf_ty QOk (t := 3) rfl] at h2
  replace h2 := shape_same (uq25_2) h2
  have h3 := hf 3 (by omega)
  rw [cellsOf_ty QOk (t := 3) rfl] at h3
  replace h3 := shape_same (uq25_3) h3
  have h4 := hf 4 (by omega)
  rw [cellsOf_ty QOk (t := 3) rfl] at h4
  replace h4 := shape_same (uq25_4) h4
  have h5 := hf 5 (by omega)
  rw [cellsOf_ty QOk (t := 3) rfl] at h5
  replace h5 := shape_same (uq25_5) h5
  have h6 := hf 6 (by omega)
  rw [cellsOf_ty QOk (t := 3) rfl] at h6
  replace h6 := shape_same (uq25_6) h6
  have h7 := hf 7 (by omega)
  rw [cellsOf_ty QOk (t := 3) rfl] at h7
  replace h7 := shape_same (uq25_7) h7
  match l, hl with
  | [a0, a1, a2, a3, a4, a5, a6, a7], _ =>
    replace h0 : Shape Tryd.prog k 3 [a0] := h0
    obtain ⟨x0, w0, b0, e0, r0⟩ := sh3 h0
    simp only [List.cons.injEq, and_true] at e0
    subst e0
    unfold rp3 at r0; subst r0
    replace h1 : Shape Tryd.prog k 3 [a1] := h1
    obtain ⟨x1, w1, b1, e1, r1⟩ := sh3 h1
    simp only [List.cons.injEq, and_true] at e1
    subst e1
    unfold rp3 at r1; subst r1
    replace h2 : Shape Tryd.prog k 3 [a2] := h2
    obtain ⟨x2, w2, b2, e2, r2⟩ := sh3 h2
    simp only [List.cons.injEq, and_true] at e2
    subst e2
    unfold rp3 at r2; subst r2
    replace h3 : Shape Tryd.prog k 3 [a3] := h3
    obtain ⟨x3, w3, b3, e3, r3⟩ := sh3 h3
    simp only [List.cons.injEq, and_true] at e3
    subst e3
    unfold rp3 at r3; subst r3
    replace h4 : Shape Tryd.prog k 3 [a4] := h4
    obtain ⟨x4, w4, b4, e4, r4⟩ := sh3 h4
    simp only [List.cons.injEq, and_true] at e4
    subst e4
    unfold rp3 at r4; subst r4
    replace h5 : Shape Tryd.prog k 3 [a5] := h5
    obtain ⟨x5, w5, b5, e5, r5⟩ := sh3 h5
    simp only [List.cons.injEq, and_true] at e5
    subst e5
    unfold rp3 at r5; subst r5
    replace h6 : Shape Tryd.prog k 3 [a6] := h6
    obtain ⟨x6, w6, b6, e6, r6⟩ := sh3 h6
    simp only [List.cons.injEq, and_true] at e6
    subst e6
    unfold rp3 at r6; subst r6
    replace h7 : Shape Tryd.prog k 3 [a7] := h7
    obtain ⟨x7, w7, b7, e7, r7⟩ := sh3 h7
    simp only [List.cons.injEq, and_true] at e7
    subst e7
    unfold rp3 at r7; subst r7
    exact ⟨⟨x0, x1, x2, x3, x4, x5, x6, x7⟩, ⟨w0, w1, w2, w3, w4, w5, w6, w7⟩, rfl⟩
theorem un26 : Tryd.prog.underlying 26 = some (.int .u64) := by kernel_rfl
def wf26 (x : Int) : Prop := IntKind.min .u64 ≤ x ∧ x ≤ IntKind.max .u64
theorem sh26 {n : Nat} {l : List AV} (h : Shape Tryd.prog n 26 l) : ∃ x, wf26 x ∧ ∃ a, l = [a] ∧ rp26 x a := by
  obtain ⟨m, rfl, h1⟩ := shape_int un26 h
  exact ⟨m, h1, _, rfl, rfl⟩
def wf27 (x : Queue) : Prop := wf22 x.Policy ∧ wf3 x.Room ∧ wf24 x.Lists ∧ wf25 x.Vars ∧ wf26 x.Seed
theorem uq27_0 : Tryd.prog.underlying 23 = Tryd.prog.underlying 22 := by kernel_rfl
theorem uq27_1 : Tryd.prog.underlying 3 = Tryd.prog.underlying 3 := by kernel_rfl
theorem uq27_2 : Tryd.prog.underlying 24 = Tryd.prog.underlying 24 := by kernel_rfl
theorem uq27_3 : Tryd.prog.underlying 25 = Tryd.prog.underlying 25 := by kernel_rfl
theorem uq27_4 : Tryd.prog.underlying 26 = Tryd.prog.underlying 26 := by kernel_rfl
theorem sh27 {n : Nat} {l : List AV} (h : Shape Tryd.prog n 27 l) : ∃ x, wf27 x ∧ rp27 x (.agg l) := by
  obtain ⟨hl, k, hf⟩ := shape_fields QOk (t := 27) rfl rfl h
  rw [cellsOf_ty QOk (t := 27) rfl] at hl
  have h0 := hf (0, 23) (by simp)
  rw [cellsOf_ty QOk (t := 23) rfl] at h0
  replace h0 := shape_same (uq27_0) h0
  have h1 := hf (4, 3) (by simp)
  rw [cellsOf_ty QOk (t := 3) rfl] at h1
  replace h1 := shape_same (uq27_1) h1
  have h2 := hf (5, 24) (by simp)
  rw [cellsOf_ty QOk (t := 24) rfl] at h2
  replace h2 := shape_same (uq27_2) h2
  have h3 := hf (6, 25) (by simp)
  rw [cellsOf_ty QOk (t := 25) rfl] at h3
  replace h3 := shape_same (uq27_3) h3
  have h4 := hf (14, 26) (by simp)
  rw [cellsOf_ty QOk (t := 26) rfl] at h4
  replace h4 := shape_same (uq27_4) h4
  match l, hl with
  | [a0, a1, a2, a3, a4, a5, a6, a7, a8, a9, a10, a11, a12, a13, a14], _ =>
    replace h0 : Shape Tryd.prog k 22 [a0, a1, a2, a3] := h0
    obtain ⟨x0, w0, r0⟩ := sh22 h0
    have e0 : _ = _ := r0
    simp only [AV.agg.injEq, List.cons.injEq, and_true] at e0
    obtain ⟨rfl, rfl, rfl, rfl⟩ := e0
    replace h1 : Shape Tryd.prog k 3 [a4] := h1
    obtain ⟨x1, w1, b1, e1, r1⟩ := sh3 h1
    simp only [List.cons.injEq, and_true] at e1
    subst e1
    unfold rp3 at r1; subst r1
    replace h2 : Shape Tryd.prog k 24 [a5] := h2
    obtain ⟨x2, w2, b2, e2, r2⟩ := sh24 h2
    simp only [List.cons.injEq, and_true] at e2
    subst e2
    have s5 := r2
    replace h3 : Shape Tryd.prog k 25 [a6, a7, a8, a9, a10, a11, a12, a13] := h3
    obtain ⟨x3, w3, r3⟩ := sh25 h3
    have e3 : _ = _ := r3
    simp only [AV.agg.injEq, List.cons.injEq, and_true] at e3
    obtain ⟨rfl, rfl, rfl, rfl, rfl, rfl, rfl, rfl⟩ := e3
    replace h4 : Shape Tryd.prog k 26 [a14] := h4
    obtain ⟨x4, w4, b4, e4, r4⟩ := sh26 h4
    simp only [List.cons.injEq, and_true] at e4
    subst e4
    unfold rp26 at r4; subst r4
    exact ⟨⟨x0, x1, x2, x3, x4⟩, ⟨w0, w1, w2, w3, w4⟩, ⟨_, s5, rfl⟩⟩
theorem un33 : Tryd.prog.underlying 33 = some (.slice 30) := by kernel_rfl
theorem ue33 : (Tryd.prog.underlying 30).isSome = true := by kernel_rfl
theorem ua33 : (Tryd.prog.underlying 30).map isAggD = some true := by kernel_rfl
theorem uu33 : Tryd.prog.underlying 30 = Tryd.prog.underlying 29 := by kernel_rfl
def wf33 (x : List Packet) : Prop := x.length ≤ maxLen ∧ ∀ y, y ∈ x → wf29 y
theorem sh33 {n : Nat} {l : List AV} (h : Shape Tryd.prog n 33 l) : ∃ x, wf33 x ∧ ∃ a, l = [a] ∧ rp33 x a := by
  obtain ⟨d, hd⟩ := Option.isSome_iff_exists.1 ue33
  have hag : isAggD d = true := by have := ua33; rw [hd] at this; simpa using this
  obtain ⟨ys, xs, rfl, h1, h2⟩ := shape_slice (Q := fun y x => wf29 y ∧ rp29 y x) un33 hd h (by
    rintro k x ⟨cl, h1, h2⟩
    rw [hag] at h1
    simp only [if_true] at h1
    replace h2 := shape_same uu33 h2
    subst h1
    obtain ⟨y, hy, r⟩ := sh29 h2
    exact ⟨y, hy, r⟩)
  refine ⟨ys, ⟨h2, ?_⟩, _, rfl, .inl ⟨xs, rfl, h1.mono fun _ _ h => h.2⟩⟩
  intro y hy
  obtain ⟨i, hi⟩ := List.getElem?_of_mem hy
  obtain ⟨_, _, h3⟩ := h1.get hi
  exact h3.1
theorem un46 : Tryd.prog.underlying 46 = some (.int .u16) := by kernel_rfl
def wf46 (x : Int) : Prop := IntKind.min .u16 ≤ x ∧ x ≤ IntKind.max .u16
theorem sh46 {n : Nat} {l : List AV} (h : Shape Tryd.prog n 46 l) : ∃ x, wf46 x ∧ ∃ a, l = [a] ∧ rp46 x a := by
  obtain ⟨m, rfl, h1⟩ := shape_int un46 h
  exact ⟨m, h1, _, rfl, rfl⟩
def wf47 (x : Step) : Prop := wf46 x.Wait ∧ wf4 x.Take ∧ wf29 x.P
theorem uq47_0 : Tryd.prog.underlying 46 = Tryd.prog.underlying 46 := by kernel_rfl
theorem uq47_1 : Tryd.prog.underlying 4 = Tryd.prog.underlying 4 := by kernel_rfl
theorem uq47_2 : Tryd.prog.underlying 30 = Tryd.prog.underlying 29 := by kernel_rfl
theorem sh47 {n : Nat} {l : List AV} (h : Shape Tryd.prog n 47 l) : ∃ x, wf47 x ∧ rp47 x (.agg l) := by
  obtain ⟨hl, k, hf⟩ := shape_fields QOk (t := 47) rfl rfl h
  rw [cellsOf_ty QOk (t := 47) rfl] at hl
  have h0 := hf (0, 46) (by simp)
  rw [cellsOf_ty QOk (t := 46) rfl] at h0
  replace h0 := shape_same (uq47_0) h0
  have h1 := hf (1, 4) (by simp)
  rw [cellsOf_ty QOk (t := 4) rfl] at h1
  replace h1 := shape_same (uq47_1) h1
  have h2 := hf (2, 30) (by simp)
  rw [cellsOf_ty QOk (t := 30) rfl] at h2
  replace h2 := shape_same (uq47_2) h2
  match l, hl with
  | [a0, a1, a2, a3, a4, a5, a6, a7, a8, a9], _ =>
    replace h0 : Shape Tryd.prog k 46 [a0] := h0
    obtain ⟨x0, w0, b0, e0, r0⟩ := sh46 h0
    simp only [List.cons.injEq, and_true] at e0
    subst e0
    unfold rp46 at r0; subst r0
    replace h1 : Shape Tryd.prog k 4 [a1] := h1
    obtain ⟨x1, w1, b1, e1, r1⟩ := sh4 h1
    simp only [List.cons.injEq, and_true] at e1
    subst e1
    unfold rp4 at r1; subst r1
    replace h2 : Shape Tryd.prog k 29 [a2, a3, a4, a5, a6, a7, a8, a9] := h2
    obtain ⟨x2, w2, r2⟩ := sh29 h2
    have e2 : _ = _ := r2
    simp only [AV.agg.injEq, List.cons.injEq, and_true] at e2
    obtain ⟨rfl, rfl, rfl, rfl, rfl, rfl, rfl, rfl⟩ := e2
    exact ⟨⟨x0, x1, x2⟩, ⟨w0, w1, w2⟩, rfl⟩
theorem un42 : Tryd.prog.underlying 42 = some (.slice 48) := by kernel_rfl
theorem ue42 : (Tryd.prog.underlying 48).isSome = true := by kernel_rfl
theorem ua42 : (Tryd.prog.underlying 48).map isAggD = some true := by kernel_rfl
theorem uu42 : Tryd.prog.underlying 48 = Tryd.prog.underlying 47 := by kernel_rfl
def wf42 (x : List Step) : Prop := x.length ≤ maxLen ∧ ∀ y, y ∈ x → wf47 y
theorem sh42 {n : Nat} {l : List AV} (h : Shape Tryd.prog n 42 l) : ∃ x, wf42 x ∧ ∃ a, l = [a] ∧ rp42 x a := by
  obtain ⟨d, hd⟩ := Option.isSome_iff_exists.1 ue42
  have hag : isAggD d = true := by have := ua42; rw [hd] at this; simpa using this
  obtain ⟨ys, xs, rfl, h1, h2⟩ := shape_slice (Q := fun y x => wf47 y ∧ rp47 y x) un42 hd h (by
    rintro k x ⟨cl, h1, h2⟩
    rw [hag] at h1
    simp only [if_true] at h1
    replace h2 := shape_same uu42 h2
    subst h1
    obtain ⟨y, hy, r⟩ := sh47 h2
    exact ⟨y, hy, r⟩)
  refine ⟨ys, ⟨h2, ?_⟩, _, rfl, .inl ⟨xs, rfl, h1.mono fun _ _ h => h.2⟩⟩
  intro y hy
  obtain ⟨i, hi⟩ := List.getElem?_of_mem hy
  obtain ⟨_, _, h3⟩ := h1.get hi
  exact h3.1
def wf59 (x : Queue) : Prop := wf27 x
theorem uq59_0 : Tryd.prog.underlying 28 = Tryd.prog.underlying 27 := by kernel_rfl
theorem sh59 {n : Nat} {l : List AV} (h : Shape Tryd.prog n 59 l) : ∃ x, wf59 x ∧ rp59 x (.agg l) := by
  obtain ⟨hl, k, hf⟩ := shape_fields QOk (t := 59) rfl rfl h
  rw [cellsOf_ty QOk (t := 59) rfl] at hl
  have h0 := hf (0, 28) (by simp)
  rw [cellsOf_ty QOk (t := 28) rfl] at h0
  replace h0 := shape_same (uq59_0) h0
  match l, hl with
  | [a0, a1, a2, a3, a4, a5, a6, a7, a8, a9, a10, a11, a12, a13, a14], _ =>
    replace h0 : Shape Tryd.prog k 27 [a0, a1, a2, a3, a4, a5, a6, a7, a8, a9, a10, a11, a12, a13, a14] := h0
    obtain ⟨x0, w0, r0⟩ := sh27 h0
    obtain ⟨q0_5, s5, e0⟩ := r0
    simp only [AV.agg.injEq, List.cons.injEq, and_true] at e0
    obtain ⟨rfl, rfl, rfl, rfl, rfl, rfl, rfl, rfl, rfl, rfl, rfl, rfl, rfl, rfl, rfl⟩ := e0
    exact ⟨x0, w0, ⟨_, s5, rfl⟩⟩
end Go.Proofs.YtfjkpjgbigcpiaaDoor
end

section
set_option linter.unusedVariables false
namespace Go.Proofs.YtfjkpjgbigcpiaaDoor.Lib
open Go.PI

noncomputable def C0 : Ctx where
  P := Tryd.prog
  kind := fun f => if f = 38 then .imp else .pure
  intr := fun _ => none
  acc := fun _ _ => false

theorem fn37 : C0.P.funcs[37]? = some Tryd.f37 := by kernel_rfl
noncomputable def R (t : Nat) : TyRow := (tyOf Tryd.prog t).getD ⟨.bool, 0, 0, none, false⟩
theorem se43 : sliceElem C0.P 43 = some (R 45) := by kernel_rfl
theorem st43 : isSliceTy C0.P 43 = true := by kernel_rfl
theorem ze45 : (elemZero (R 45)).isSome = true := by kernel_rfl
theorem sz45 : (R 45).size = 9 := by kernel_rfl
theorem ag45 : (R 45).isAgg = true := by kernel_rfl
theorem by45 : (R 45).bytes = 64 := by kernel_rfl
theorem nil_eq (xs : List AV) (c : Nat) (x y : Operand) : binA C0.P .eql 43 x y (.slx xs c) (.lit (.slice none 0 0)) = some (bol false) := by
  unfold binA
  have h : eqAggA C0.P .eql 43 (.slx xs c) (.lit (.slice none 0 0)) = none := by kernel_rfl
  rw [h]
  show nilEqA C0.P .eql 43 (.slx xs c) (.slice none 0 0) = _
  kernel_rfl
theorem clone_nil : runF C0 37 [.lit nilSl] [] = some (.val (.lit nilSl), []) :=
  (lim_some (growF C0 37 [.lit nilSl] [])).2 ⟨100, by kernel_rfl⟩
theorem clone_empty (cap : Nat) : ∃ n cl hpf, runF C0 37 [.slx [] cap] [] = some (.val (.osl (R 45).size n 0 0 0 (some 0)), hpf) ∧ hpf[n]? = some (some (.arr false cl false [])) :=
  ⟨0, true, [some (.arr false true false [])], (lim_some (growF C0 37 [.slx [] cap] [])).2 ⟨100, by kernel_rfl⟩, rfl⟩
theorem clone_slx (xs : List AV) (cap : Nat) (hx : xs ≠ []) (hall : xs.all (okElem (R 45).isAgg (R 45).size) = true) (h1 : xs.length * (R 45).bytes ≤ 2 ^ 44) (h2 : xs.length ≤ 2 ^ 44) : ∃ n cl hpf, runF C0 37 [.slx xs cap] [] = some (.val (.osl (R 45).size n xs.length 0 xs.length none), hpf) ∧ hpf[n]? = some (some (.arr true cl false xs)) := by
  rw [runF_eq (fn := Tryd.f37) fn37 rfl]
  have hacc : ∀ f d, C0.acc f d = false := fun _ _ => rfl
  have hr : 0 < (R 45).size := by rw [sz45]; decide
  simp (decide := true) only [Tryd.f37, ro_asNil, hacc, op_build0 se43 ze45 hr, op_app, nil_eq, bol, runC_seq, runC_ops, preps, guardG, List.map_cons, List.map_nil, runG_always, runG_nil, ro_move, ro_buildSlice, ro_binOp, ro_builtin, ro_asTmp, op_move, op_assign, op_bin, evalA, constA, ofVal, doneE, putA, thenG_norm, ifA_ff, app_nil, app_cons, andThen_norm, runC_ret, endF_ret, res_nil, res_tmp, tup_one, List.getElem?_toArray, List.replicate_succ, List.replicate_zero, Nat.reduceSub, Option.bind_some, Option.map_some, setObj_new, List.length_nil, List.length_cons, List.nil_append, List.cons_append, Nat.zero_add, fg0, fg2, fs2, fg3, fs3, fg4, fs4, fg5, fs5, fg6, fs6, fg7, fs7, runC_cond, Option.bind_assoc, runC_skip]
  rw [app_first se43 st43 ze45 hr hall hx rfl h1 h2]
  simp (decide := true) only [app_nil, app_cons, Option.bind_some, setObj_new, List.length_nil, List.length_cons, List.nil_append, List.cons_append, Nat.zero_add]
  exact ⟨_, _, _, rfl, rfl⟩
end Go.Proofs.YtfjkpjgbigcpiaaDoor.Lib
end

section
set_option linter.unusedVariables false
set_option maxRecDepth 100000
set_option maxHeartbeats 0
namespace Go.Proofs.YtfjkpjgbigcpiaaDoor
open Go.PI
def row45 : TyRow := ⟨.struct #[], 9, 64, none, false⟩
noncomputable def C : Ctx where
  P := Tryd.prog
  kind := fun f => match Go.PI.lookS [(25, ()), (37, ()), (38, ()), (43, ()), (44, ()), (46, ()), (49, ()), (62, ()), (63, ()), (64, ()), (66, ()), (67, ()), (68, ()), (69, ()), (70, ())] f with | some _ => .imp | none => .pure
  intr := fun _ => none
  acc := fun _ _ => true
  intrO := fun g => Go.PI.lookS [(37, cloneO row45)] g
theorem libOk : Lib.C0.Ok where
  name := by
    have h : (Tryd.prog.funcs.toList.all fun fn => !(fn.name == "runtime.NumGoroutine") || !fn.body.isSome) = true := by kernel_rfl
    intro f fn hf hb
    have hm : fn ∈ Tryd.prog.funcs.toList := by
      have := Array.mem_of_getElem? hf
      exact Array.mem_toList_iff.2 this
    have := List.all_eq_true.1 h fn hm
    rw [hb] at this
    simpa using this
  intr := fun g h al r hg => by cases hg
  intrO := fun g h al r hpf hg => by cases hg
  intrOFn := fun g h hg => by cases hg
  intrFn := fun g h hg => by cases hg
theorem only37 {g : FuncId} {h : List AV → Option (AV × AHeap)} (hg : C.intrO g = some h) : g = 37 ∧ h = cloneO row45 := by
  have := lookS_mem (show Go.PI.lookS [(37, cloneO row45)] g = some h from hg)
  simp only [List.mem_singleton, Prod.mk.injEq] at this
  exact this
theorem Cok : C.Ok where
  name := libOk.name
  intr := fun g h al r hg => by cases hg
  intrFn := fun g h hg => by cases hg
  intrO := by
    intro g h al r hpf hg hr Ec w vs hI ha
    obtain ⟨rfl, rfl⟩ := only37 hg
    exact cloneO_ok (r := row45) libOk Lib.clone_nil (fun cap => Lib.clone_empty cap) (fun xs cap h0 h1 h2 h3 => Lib.clone_slx xs cap h0 (by rw [Lib.ag45, Lib.sz45]; exact h1) (by rw [Lib.by45]; exact h2) h3) hr Ec w vs hI ha
  intrOFn := by
    intro g h hg
    obtain ⟨rfl, rfl⟩ := only37 hg
    exact ⟨_, Lib.fn37, rfl⟩
theorem ok45 (x : Queued) (a : AV) (h : rp44 x a) : okElem row45.isAgg row45.size a = true := (ek44 x a h).1
theorem flat45 (x : Queued) (a : AV) (h : rp44 x a) : flat a = true := by
  unfold rp44 at h
  subst h
  rfl
def _root_.Go.Models.slices_Clone (s : List Queued) : Option (List Queued) := cloneM 64 s
def _root_.Go.Models.law21_head : Option Bool := some true
theorem own37 : OwnOk C T 37 ⟨[43], 45, 9, fun x => Go.Models.slices_Clone x⟩ :=
  ownOk_hand (C := C) (T := T) (g := 37) (t := 43) (el := 45) (esz := 9) (I := cloneO row45) (F := Go.Models.slices_Clone) rfl flat45 fun x a y h hy =>
    cloneO_ans (r := row45) (rpe := rp44) (x := x) (y := y) ok45 h hy
noncomputable def owns : List (Nat × OSumm T) := [(37, ⟨[43], 45, 9, fun x => Go.Models.slices_Clone x⟩)]
theorem ownsOk : ∀ (g : FuncId) (σ : OSumm T), lookS owns g = some σ → OwnOk C T g σ := by
  intro g σ h
  have := lookS_mem h
  simp only [owns, List.mem_singleton, Prod.mk.injEq] at this
  obtain ⟨rfl, rfl⟩ := this
  exact own37
noncomputable def headV : Option (Res × AHeap) → Option Bool
  | some (.val (.lit (.bool b)), _) => some b
  | _ => none
theorem head_ev : headV (evF C 300 10 [] []) = some true := by kernel_rfl
theorem head_run : ∃ hpf, runF C 10 [] [] = some (.val (.lit (.bool true)), hpf) := by
  have h := head_ev
  unfold headV at h
  split at h
  · rename_i b hpf hq
    simp only [Option.some.injEq] at h
    subst h
    exact ⟨hpf, (lim_some (growF C 10 [] [])).2 ⟨300, hq⟩⟩
  · simp at h
theorem hand10 : SumOk C T 10 ⟨[], [4], fun x => Go.Models.law21_head⟩ where
  kind := rfl
  ans := by
    intro x al y hx hy
    match al, hx with
    | _ :: _, hx => exact False.elim hx
    | [], _ =>
      obtain ⟨hpf, h⟩ := head_run
      have hy' : some true = some (y : Bool) := hy
      have hy2 : (y : Bool) = true := (Option.some.inj hy').symm
      subst hy2
      refine ⟨.lit (.bool true), hpf, [.lit (.bool true)], ?_, rfl, rfl, ?_⟩
      · have hi : C.intr 10 = none := rfl
        simp only [ansC, hi, h]
      · exact ⟨rfl, trivial⟩
end Go.Proofs.YtfjkpjgbigcpiaaDoor
end

section
set_option linter.unusedVariables false
/- Models of the functions of this seat, and that they hold (printed by chain.py). -/
set_option maxRecDepth 100000
set_option maxHeartbeats 0
namespace Go.Proofs.YtfjkpjgbigcpiaaDoor
open Go.PI

end Go.Proofs.YtfjkpjgbigcpiaaDoor
open Go Go.PI Go.Proofs Go.Proofs.YtfjkpjgbigcpiaaDoor
noncomputable def Go.Models.law21_queue (b : Int) (c : Int) (l : List Queued) : Option Queue :=
  some (Queue.mk (Policy.mk 4 1000 b c) 9 [l] (A8.mk 0 0 0 0 0 0 0 0) 0)
noncomputable def Go.Models.integral_inside (n : Int) (low : Int) (high : Int) : Option Bool :=
  bif decide (low ≤ n) then
    some (decide (n ≤ high))
  else
    some false
noncomputable def Go.Models.integral_packet (p : Packet) : Option Bool :=
  (Models.integral_inside p.Flow 0 7).bind fun b1 =>
  bif b1 then
    (Models.integral_inside p.Sub 0 3).bind fun b2 =>
    bif b2 then
      (Models.integral_inside p.Number 0 1000000000).bind fun b3 =>
      bif b3 then
        (Models.integral_inside p.Data 0 1000000000).bind fun b4 =>
        bif b4 then
          (Models.integral_inside p.Size 1 10000).bind fun b5 =>
          bif b5 then
            (Models.integral_inside p.Sent 0 10000000).bind fun b6 =>
            some b6
          else
            some false
        else
          some false
      else
        some false
    else
      some false
  else
    some false
noncomputable def Go.Models.integral_state_valid (s : Queue) : Option Bool :=
  bif !s.Policy.Kind == 4 then
    some false
  else
    (Models.integral_inside s.Policy.A 1 1000000).bind fun b1 =>
    bif !b1 then
      some false
    else
      (Models.integral_inside s.Policy.B 0 1000).bind fun b2 =>
      bif !b2 then
        some false
      else
        (Models.integral_inside s.Policy.C 0 1000).bind fun b3 =>
        bif !b3 then
          some false
        else
          (Models.integral_inside s.Room 1 500).bind fun b4 =>
          bif !b4 then
            some false
          else
            bif !(↑s.Lists.length : Int) == 1 then
              some false
            else
              (s.Lists[Int.toNat 0]?).bind fun l5 =>
              bif decide (s.Room < (↑l5.length : Int)) then
                some false
              else
                (Models.integral_inside s.Vars.e7 0 10000000).bind fun b6 =>
                bif !b6 then
                  some false
                else
                  (Models.integral_inside s.Vars.e0 0 1000000).bind fun b7 =>
                  bif !b7 then
                    some false
                  else
                    (Models.integral_inside s.Vars.e1 0 s.Vars.e7).bind fun b8 =>
                    bif !b8 then
                      some false
                    else
                      (Models.integral_inside s.Vars.e2 0 10000000).bind fun b9 =>
                      bif !b9 then
                        some false
                      else
                        bif !(s.Vars.e3 == 0 && (s.Vars.e4 == 0 && (s.Vars.e5 == 0 && s.Vars.e6 == 0))) then
                          some false
                        else
                          (s.Lists[Int.toNat 0]?).bind fun l10 =>
                          (loopM (fun ((i11, i12, i13) : Int × Int × Int) =>
                              bif decide (i12 < (↑l10.length : Int)) then
                                bif decide (0 ≤ i12) then
                                  (l10[i12.toNat]?).bind fun q14 =>
                                  (Models.integral_inside q14.At i13 s.Vars.e7).bind fun b15 =>
                                  bif b15 then
                                    (Models.integral_packet q14.P).bind fun b16 =>
                                    bif !b16 then
                                      some (Sum.inr (Sum.inl (i12, q14.At)))
                                    else
                                      some (Sum.inl (i11, IntKind.i64.wrap (i12 + 1), q14.At))
                                  else
                                    some (Sum.inr (Sum.inl (i12, q14.At)))
                                else
                                  none
                              else
                                some (Sum.inr (Sum.inr (i11, i12, i13)))) (0, 0, 0)).bind fun w17 =>
                          Sum.elim (fun (i18, i19) =>
                            some (!decide (0 ≤ i18))) (fun (i20, i21, i22) =>
                            some true) w17
noncomputable def Go.Models.integral_state_delay (s : Queue) (now : Int) : Option Int :=
  (s.Lists[Int.toNat 0]?).bind fun l1 =>
  bif decide (0 < (↑l1.length : Int)) then
    (l1[Int.toNat 0]?).bind fun q2 =>
    some (IntKind.i64.wrap (now - q2.At))
  else
    some 0
noncomputable def Go.Models.integral_thousandth (n : Int) : Option Int :=
  bif decide (n.tmod 1000 < 0) then
    some (IntKind.i64.wrap (IntKind.i64.wrap (n.tdiv 1000) - 1))
  else
    some (IntKind.i64.wrap (n.tdiv 1000))
noncomputable def Go.Models.integral_state_update_1 (old : Int) (s : Queue) (d : Int) (o : Int) : Option Int :=
  (Models.integral_thousandth (IntKind.i64.wrap (s.Policy.B * IntKind.i64.wrap (d - s.Policy.A)))).bind fun i1 =>
  (Models.integral_thousandth (IntKind.i64.wrap (s.Policy.C * IntKind.i64.wrap (d - o)))).bind fun i2 =>
  some (IntKind.i64.wrap (IntKind.i64.wrap (old + i1) + i2))
noncomputable def Go.Models.random_Next (seed : Int) : Option (Int × Int) :=
  (loopM (fun ((i1, i2) : Int × Int) =>
      bif decide (i2 < 3) then
        bif decide (0 ≤ i2) then
          bif decide (i2.toNat = 0) then
            bif decide (0 ≤ i2) then
              bif decide (i2.toNat = 0) then
                some (Sum.inl (IntKind.u64.wrap (IntKind.u64.wrap (↑(BitVec.ofInt 64 i1 ^^^ BitVec.ofInt 64 (i1.fdiv (2 ^ min (Int.toNat 30) 64))).toNat : Int) * 13787848793156543929), IntKind.i64.wrap (i2 + 1)))
              else
                bif decide (i2.toNat = 0 + 1) then
                  some (Sum.inl (IntKind.u64.wrap (IntKind.u64.wrap (↑(BitVec.ofInt 64 i1 ^^^ BitVec.ofInt 64 (i1.fdiv (2 ^ min (Int.toNat 30) 64))).toNat : Int) * 10723151780598845931), IntKind.i64.wrap (i2 + 1)))
                else
                  bif decide (i2.toNat = 0 + 1 + 1) then
                    some (Sum.inl (IntKind.u64.wrap (IntKind.u64.wrap (↑(BitVec.ofInt 64 i1 ^^^ BitVec.ofInt 64 (i1.fdiv (2 ^ min (Int.toNat 30) 64))).toNat : Int) * 1), IntKind.i64.wrap (i2 + 1)))
                  else
                    none
            else
              none
          else
            bif decide (i2.toNat = 0 + 1) then
              bif decide (0 ≤ i2) then
                bif decide (i2.toNat = 0) then
                  some (Sum.inl (IntKind.u64.wrap (IntKind.u64.wrap (↑(BitVec.ofInt 64 i1 ^^^ BitVec.ofInt 64 (i1.fdiv (2 ^ min (Int.toNat 27) 64))).toNat : Int) * 13787848793156543929), IntKind.i64.wrap (i2 + 1)))
                else
                  bif decide (i2.toNat = 0 + 1) then
                    some (Sum.inl (IntKind.u64.wrap (IntKind.u64.wrap (↑(BitVec.ofInt 64 i1 ^^^ BitVec.ofInt 64 (i1.fdiv (2 ^ min (Int.toNat 27) 64))).toNat : Int) * 10723151780598845931), IntKind.i64.wrap (i2 + 1)))
                  else
                    bif decide (i2.toNat = 0 + 1 + 1) then
                      some (Sum.inl (IntKind.u64.wrap (IntKind.u64.wrap (↑(BitVec.ofInt 64 i1 ^^^ BitVec.ofInt 64 (i1.fdiv (2 ^ min (Int.toNat 27) 64))).toNat : Int) * 1), IntKind.i64.wrap (i2 + 1)))
                    else
                      none
              else
                none
            else
              bif decide (i2.toNat = 0 + 1 + 1) then
                bif decide (0 ≤ i2) then
                  bif decide (i2.toNat = 0) then
                    some (Sum.inl (IntKind.u64.wrap (IntKind.u64.wrap (↑(BitVec.ofInt 64 i1 ^^^ BitVec.ofInt 64 (i1.fdiv (2 ^ min (Int.toNat 31) 64))).toNat : Int) * 13787848793156543929), IntKind.i64.wrap (i2 + 1)))
                  else
                    bif decide (i2.toNat = 0 + 1) then
                      some (Sum.inl (IntKind.u64.wrap (IntKind.u64.wrap (↑(BitVec.ofInt 64 i1 ^^^ BitVec.ofInt 64 (i1.fdiv (2 ^ min (Int.toNat 31) 64))).toNat : Int) * 10723151780598845931), IntKind.i64.wrap (i2 + 1)))
                    else
                      bif decide (i2.toNat = 0 + 1 + 1) then
                        some (Sum.inl (IntKind.u64.wrap (IntKind.u64.wrap (↑(BitVec.ofInt 64 i1 ^^^ BitVec.ofInt 64 (i1.fdiv (2 ^ min (Int.toNat 31) 64))).toNat : Int) * 1), IntKind.i64.wrap (i2 + 1)))
                      else
                        none
                else
                  none
              else
                none
        else
          none
      else
        some (Sum.inr (i1, i2))) (IntKind.u64.wrap (seed + 11400714819323198485), 0)).bind fun (i3, i4) =>
  some (i3, IntKind.u64.wrap (seed + 11400714819323198485))
noncomputable def Go.Models.random_Below (seed : Int) (n : Int) : Option (Int × Int × Int) :=
  bif decide (n < 1) then
    some (0, 0, 1)
  else
    bif decide (1000000000 < n) then
      some (0, 0, 1)
    else
      (Models.random_Next seed).bind fun (i1, i2) =>
      bif decide (n = 0) then
        none
      else
        some ((IntKind.i64.wrap (i1.fdiv (2 ^ min (Int.toNat 32) 64))).tmod n, i2, 0)
noncomputable def Go.Models.integral_Put (q : Queue) (p : Packet) (now : Int) : Option (Queue × (List Packet) × Int) :=
  (Models.integral_packet p).bind fun b1 =>
  bif !b1 then
    some (Queue.mk (Policy.mk 0 0 0 0) 0 [] (A8.mk 0 0 0 0 0 0 0 0) 0, [], 1)
  else
    (Models.integral_state_valid q).bind fun b2 =>
    bif !b2 then
      some (Queue.mk (Policy.mk 0 0 0 0) 0 [] (A8.mk 0 0 0 0 0 0 0 0) 0, [], 1)
    else
      (Models.integral_inside now 0 10000000).bind fun b3 =>
      bif !b3 then
        some (Queue.mk (Policy.mk 0 0 0 0) 0 [] (A8.mk 0 0 0 0 0 0 0 0) 0, [], 1)
      else
        bif decide (now < q.Vars.e7) then
          some (Queue.mk (Policy.mk 0 0 0 0) 0 [] (A8.mk 0 0 0 0 0 0 0 0) 0, [], 18)
        else
          (q.Lists[Int.toNat 0]?).bind fun l4 =>
          (Models.slices_Clone l4).bind fun l5 =>
          bif decide (IntKind.i64.wrap (now - q.Vars.e1) < 16000) then
            bif (↑l5.length : Int) == q.Room then
              some (Queue.mk q.Policy q.Room [l5] (A8.mk q.Vars.e0 q.Vars.e1 q.Vars.e2 q.Vars.e3 q.Vars.e4 q.Vars.e5 q.Vars.e6 now) q.Seed, [p], 0)
            else
              (Models.random_Below q.Seed 1000000).bind fun (i6, i7, i8) =>
              bif decide (i6 < q.Vars.e0) then
                bif !p.Able then
                  some (Queue.mk q.Policy q.Room [l5] (A8.mk q.Vars.e0 q.Vars.e1 q.Vars.e2 q.Vars.e3 q.Vars.e4 q.Vars.e5 q.Vars.e6 now) i7, [p], 0)
                else
                  bif p.Marked then
                    bif decide ((l5.length + 1) * 64 ≤ 2 ^ 44) && decide (l5.length + 1 ≤ 2 ^ 44) then
                      some (Queue.mk q.Policy q.Room [l5 ++ [Queued.mk (Packet.mk p.Flow p.Sub p.Number p.Data p.Size p.Sent p.Able true) now]] (A8.mk q.Vars.e0 q.Vars.e1 q.Vars.e2 q.Vars.e3 q.Vars.e4 q.Vars.e5 q.Vars.e6 now) i7, [], 0)
                    else
                      none
                  else
                    bif decide ((l5.length + 1) * 64 ≤ 2 ^ 44) && decide (l5.length + 1 ≤ 2 ^ 44) then
                      some (Queue.mk q.Policy q.Room [l5 ++ [Queued.mk (Packet.mk p.Flow p.Sub p.Number p.Data p.Size p.Sent p.Able (decide (i6 < q.Vars.e0))) now]] (A8.mk q.Vars.e0 q.Vars.e1 q.Vars.e2 q.Vars.e3 q.Vars.e4 q.Vars.e5 q.Vars.e6 now) i7, [], 0)
                    else
                      none
              else
                bif p.Marked then
                  bif decide ((l5.length + 1) * 64 ≤ 2 ^ 44) && decide (l5.length + 1 ≤ 2 ^ 44) then
                    some (Queue.mk q.Policy q.Room [l5 ++ [Queued.mk (Packet.mk p.Flow p.Sub p.Number p.Data p.Size p.Sent p.Able true) now]] (A8.mk q.Vars.e0 q.Vars.e1 q.Vars.e2 q.Vars.e3 q.Vars.e4 q.Vars.e5 q.Vars.e6 now) i7, [], 0)
                  else
                    none
                else
                  bif decide ((l5.length + 1) * 64 ≤ 2 ^ 44) && decide (l5.length + 1 ≤ 2 ^ 44) then
                    some (Queue.mk q.Policy q.Room [l5 ++ [Queued.mk (Packet.mk p.Flow p.Sub p.Number p.Data p.Size p.Sent p.Able (decide (i6 < q.Vars.e0))) now]] (A8.mk q.Vars.e0 q.Vars.e1 q.Vars.e2 q.Vars.e3 q.Vars.e4 q.Vars.e5 q.Vars.e6 now) i7, [], 0)
                  else
                    none
          else
            (Models.integral_state_delay (Queue.mk q.Policy q.Room [l5] q.Vars q.Seed) now).bind fun i9 =>
            (Models.integral_state_update_1 q.Vars.e0 (Queue.mk q.Policy q.Room [l5] q.Vars q.Seed) i9 q.Vars.e2).bind fun i10 =>
            bif (↑l5.length : Int) == q.Room then
              some (Queue.mk q.Policy q.Room [l5] (A8.mk (if (if 0 < i10 then i10 else 0) < 1000000 then if 0 < i10 then i10 else 0 else 1000000) now i9 q.Vars.e3 q.Vars.e4 q.Vars.e5 q.Vars.e6 now) q.Seed, [p], 0)
            else
              (Models.random_Below q.Seed 1000000).bind fun (i11, i12, i13) =>
              bif decide (i11 < if (if 0 < i10 then i10 else 0) < 1000000 then if 0 < i10 then i10 else 0 else 1000000) then
                bif !p.Able then
                  some (Queue.mk q.Policy q.Room [l5] (A8.mk (if (if 0 < i10 then i10 else 0) < 1000000 then if 0 < i10 then i10 else 0 else 1000000) now i9 q.Vars.e3 q.Vars.e4 q.Vars.e5 q.Vars.e6 now) i12, [p], 0)
                else
                  bif p.Marked then
                    bif decide ((l5.length + 1) * 64 ≤ 2 ^ 44) && decide (l5.length + 1 ≤ 2 ^ 44) then
                      some (Queue.mk q.Policy q.Room [l5 ++ [Queued.mk (Packet.mk p.Flow p.Sub p.Number p.Data p.Size p.Sent p.Able true) now]] (A8.mk (if (if 0 < i10 then i10 else 0) < 1000000 then if 0 < i10 then i10 else 0 else 1000000) now i9 q.Vars.e3 q.Vars.e4 q.Vars.e5 q.Vars.e6 now) i12, [], 0)
                    else
                      none
                  else
                    bif decide ((l5.length + 1) * 64 ≤ 2 ^ 44) && decide (l5.length + 1 ≤ 2 ^ 44) then
                      some (Queue.mk q.Policy q.Room [l5 ++ [Queued.mk (Packet.mk p.Flow p.Sub p.Number p.Data p.Size p.Sent p.Able (decide (i11 < if (if 0 < i10 then i10 else 0) < 1000000 then if 0 < i10 then i10 else 0 else 1000000))) now]] (A8.mk (if (if 0 < i10 then i10 else 0) < 1000000 then if 0 < i10 then i10 else 0 else 1000000) now i9 q.Vars.e3 q.Vars.e4 q.Vars.e5 q.Vars.e6 now) i12, [], 0)
                    else
                      none
              else
                bif p.Marked then
                  bif decide ((l5.length + 1) * 64 ≤ 2 ^ 44) && decide (l5.length + 1 ≤ 2 ^ 44) then
                    some (Queue.mk q.Policy q.Room [l5 ++ [Queued.mk (Packet.mk p.Flow p.Sub p.Number p.Data p.Size p.Sent p.Able true) now]] (A8.mk (if (if 0 < i10 then i10 else 0) < 1000000 then if 0 < i10 then i10 else 0 else 1000000) now i9 q.Vars.e3 q.Vars.e4 q.Vars.e5 q.Vars.e6 now) i12, [], 0)
                  else
                    none
                else
                  bif decide ((l5.length + 1) * 64 ≤ 2 ^ 44) && decide (l5.length + 1 ≤ 2 ^ 44) then
                    some (Queue.mk q.Policy q.Room [l5 ++ [Queued.mk (Packet.mk p.Flow p.Sub p.Number p.Data p.Size p.Sent p.Able (decide (i11 < if (if 0 < i10 then i10 else 0) < 1000000 then if 0 < i10 then i10 else 0 else 1000000))) now]] (A8.mk (if (if 0 < i10 then i10 else 0) < 1000000 then if 0 < i10 then i10 else 0 else 1000000) now i9 q.Vars.e3 q.Vars.e4 q.Vars.e5 q.Vars.e6 now) i12, [], 0)
                  else
                    none
noncomputable def Go.Models.integral_Take (q : Queue) (now : Int) : Option (Queue × Packet × Bool × (List Packet) × Int) :=
  (Models.integral_state_valid q).bind fun b1 =>
  bif !b1 then
    some (Queue.mk (Policy.mk 0 0 0 0) 0 [] (A8.mk 0 0 0 0 0 0 0 0) 0, Packet.mk 0 0 0 0 0 0 false false, false, [], 1)
  else
    (Models.integral_inside now 0 10000000).bind fun b2 =>
    bif !b2 then
      some (Queue.mk (Policy.mk 0 0 0 0) 0 [] (A8.mk 0 0 0 0 0 0 0 0) 0, Packet.mk 0 0 0 0 0 0 false false, false, [], 1)
    else
      bif decide (now < q.Vars.e7) then
        some (Queue.mk (Policy.mk 0 0 0 0) 0 [] (A8.mk 0 0 0 0 0 0 0 0) 0, Packet.mk 0 0 0 0 0 0 false false, false, [], 18)
      else
        (q.Lists[Int.toNat 0]?).bind fun l3 =>
        (Models.slices_Clone l3).bind fun l4 =>
        bif decide (IntKind.i64.wrap (now - q.Vars.e1) < 16000) then
          bif (↑l4.length : Int) == 0 then
            some (Queue.mk q.Policy q.Room [l4] (A8.mk q.Vars.e0 q.Vars.e1 q.Vars.e2 q.Vars.e3 q.Vars.e4 q.Vars.e5 q.Vars.e6 now) q.Seed, Packet.mk 0 0 0 0 0 0 false false, false, [], 0)
          else
            bif decide (Int.toNat 0 < l4.length) then
              (l4[0 + Int.toNat 0]?).bind fun q5 =>
              bif decide (Int.toNat 1 ≤ l4.length) && decide (l4.length ≤ l4.length - 0) && decide (0 < l4.length) then
                bif decide (0 + Int.toNat 1 + (l4.length - Int.toNat 1) ≤ l4.length) then
                  some (Queue.mk q.Policy q.Room [List.take (l4.length - Int.toNat 1) (List.drop (0 + Int.toNat 1) l4)] (A8.mk q.Vars.e0 q.Vars.e1 q.Vars.e2 q.Vars.e3 q.Vars.e4 q.Vars.e5 q.Vars.e6 now) q.Seed, q5.P, true, [], 0)
                else
                  none
              else
                none
            else
              none
        else
          (Models.integral_state_delay (Queue.mk q.Policy q.Room [l4] q.Vars q.Seed) now).bind fun i6 =>
          (Models.integral_state_update_1 q.Vars.e0 (Queue.mk q.Policy q.Room [l4] q.Vars q.Seed) i6 q.Vars.e2).bind fun i7 =>
          bif (↑l4.length : Int) == 0 then
            some (Queue.mk q.Policy q.Room [l4] (A8.mk (if (if 0 < i7 then i7 else 0) < 1000000 then if 0 < i7 then i7 else 0 else 1000000) now i6 q.Vars.e3 q.Vars.e4 q.Vars.e5 q.Vars.e6 now) q.Seed, Packet.mk 0 0 0 0 0 0 false false, false, [], 0)
          else
            bif decide (Int.toNat 0 < l4.length) then
              (l4[0 + Int.toNat 0]?).bind fun q8 =>
              bif decide (Int.toNat 1 ≤ l4.length) && decide (l4.length ≤ l4.length - 0) && decide (0 < l4.length) then
                bif decide (0 + Int.toNat 1 + (l4.length - Int.toNat 1) ≤ l4.length) then
                  some (Queue.mk q.Policy q.Room [List.take (l4.length - Int.toNat 1) (List.drop (0 + Int.toNat 1) l4)] (A8.mk (if (if 0 < i7 then i7 else 0) < 1000000 then if 0 < i7 then i7 else 0 else 1000000) now i6 q.Vars.e3 q.Vars.e4 q.Vars.e5 q.Vars.e6 now) q.Seed, q8.P, true, [], 0)
                else
                  none
              else
                none
            else
              none
noncomputable def Go.Models.ref18_Packets (a : List Packet) (b : List Packet) : Option Bool :=
  bif !(↑a.length : Int) == (↑b.length : Int) then
    some false
  else
    (loopM (fun ((b1, i2) : Bool × Int) =>
        bif decide (i2 < (↑a.length : Int)) then
          bif decide (0 ≤ i2) then
            (a[i2.toNat]?).bind fun q3 =>
            bif decide (0 ≤ i2) then
              (b[i2.toNat]?).bind fun q4 =>
              bif !(q3.Flow == q4.Flow && (q3.Sub == q4.Sub && (q3.Number == q4.Number && (q3.Data == q4.Data && (q3.Size == q4.Size && (q3.Sent == q4.Sent && (q3.Able == q4.Able && q3.Marked == q4.Marked))))))) then
                some (Sum.inr (Sum.inl false))
              else
                some (Sum.inl (b1, IntKind.i64.wrap (i2 + 1)))
            else
              none
          else
            none
        else
          some (Sum.inr (Sum.inr (b1, i2)))) (false, 0)).bind fun w5 =>
    Sum.elim (fun b6 =>
      some b6) (fun (b7, i8) =>
      some true) w5
noncomputable def Go.Models.integral_Valid (q : Queue) : Option Bool :=
  (Models.integral_state_valid q).bind fun b1 =>
  some b1
noncomputable def Go.Models.ref18_Few (q : Queue) : Option Bool :=
  (loopM (fun ((b1, i2) : Bool × Int) =>
      bif decide (i2 < (↑q.Lists.length : Int)) then
        bif decide (0 ≤ i2) then
          (q.Lists[i2.toNat]?).bind fun l3 =>
          bif decide (600 < (↑l3.length : Int)) then
            some (Sum.inr (Sum.inl false))
          else
            some (Sum.inl (b1, IntKind.i64.wrap (i2 + 1)))
        else
          none
      else
        some (Sum.inr (Sum.inr (b1, i2)))) (false, 0)).bind fun w4 =>
  Sum.elim (fun b5 =>
    some b5) (fun (b6, i7) =>
    some (decide ((↑q.Lists.length : Int) ≤ 20))) w4
noncomputable def Go.Models.ref18_number (n : Int) : Option Bool :=
  bif decide (0 ≤ n) then
    some (decide (n ≤ 1000000000))
  else
    some false
noncomputable def Go.Models.ref18_Time (n : Int) : Option Bool :=
  bif decide (0 ≤ n) then
    some (decide (n ≤ 10000000))
  else
    some false
noncomputable def Go.Models.ref18_Packet (p : Packet) : Option Bool :=
  bif decide (0 ≤ p.Flow) then
    bif decide (p.Flow < 8) then
      bif decide (0 ≤ p.Sub) then
        bif decide (p.Sub < 4) then
          (Models.ref18_number p.Number).bind fun b1 =>
          bif b1 then
            (Models.ref18_number p.Data).bind fun b2 =>
            bif b2 then
              bif decide (1 ≤ p.Size) then
                bif decide (p.Size ≤ 10000) then
                  (Models.ref18_Time p.Sent).bind fun b3 =>
                  some b3
                else
                  some false
              else
                some false
            else
              some false
          else
            some false
        else
          some false
      else
        some false
    else
      some false
  else
    some false
noncomputable def Go.Models.ref21_policy (p : Policy) : Option Bool :=
  bif p.Kind == 4 then
    bif decide (1 ≤ p.A) then
      bif decide (p.A ≤ 1000000) then
        bif decide (0 ≤ p.B) then
          bif decide (p.B ≤ 1000) then
            bif decide (0 ≤ p.C) then
              some (decide (p.C ≤ 1000))
            else
              some false
          else
            some false
        else
          some false
      else
        some false
    else
      some false
  else
    some false
noncomputable def Go.Models.ref18_List (l : List Queued) (last : Int) : Option Bool :=
  (loopM (fun ((b1, i2) : Bool × Int) =>
      bif decide (i2 < (↑l.length : Int)) then
        bif decide (0 ≤ i2) then
          (l[i2.toNat]?).bind fun q3 =>
          (Models.ref18_Packet q3.P).bind fun b4 =>
          bif !b4 then
            some (Sum.inr (Sum.inl false))
          else
            bif decide (0 ≤ i2) then
              (l[i2.toNat]?).bind fun q5 =>
              (Models.ref18_Time q5.At).bind fun b6 =>
              bif !b6 then
                some (Sum.inr (Sum.inl false))
              else
                bif decide (0 ≤ i2) then
                  (l[i2.toNat]?).bind fun q7 =>
                  bif decide (last < q7.At) then
                    some (Sum.inr (Sum.inl false))
                  else
                    bif decide (0 < i2) then
                      bif decide (0 ≤ i2) then
                        (l[i2.toNat]?).bind fun q8 =>
                        bif decide (0 ≤ IntKind.i64.wrap (i2 - 1)) then
                          (l[(IntKind.i64.wrap (i2 - 1)).toNat]?).bind fun q9 =>
                          bif decide (q8.At < q9.At) then
                            some (Sum.inr (Sum.inl false))
                          else
                            some (Sum.inl (b1, IntKind.i64.wrap (i2 + 1)))
                        else
                          none
                      else
                        none
                    else
                      some (Sum.inl (b1, IntKind.i64.wrap (i2 + 1)))
                else
                  none
            else
              none
        else
          none
      else
        some (Sum.inr (Sum.inr (b1, i2)))) (false, 0)).bind fun w10 =>
  Sum.elim (fun b11 =>
    some b11) (fun (b12, i13) =>
    some true) w10
noncomputable def Go.Models.ref21_Valid (q : Queue) : Option Bool :=
  (Models.ref21_policy q.Policy).bind fun b1 =>
  bif !b1 then
    some false
  else
    bif decide (q.Room < 1) then
      some false
    else
      bif decide (500 < q.Room) then
        some false
      else
        bif !(↑q.Lists.length : Int) == 1 then
          some false
        else
          (Models.ref18_Time q.Vars.e7).bind fun b2 =>
          bif !b2 then
            some false
          else
            bif decide (q.Vars.e0 < 0) then
              some false
            else
              bif decide (1000000 < q.Vars.e0) then
                some false
              else
                (Models.ref18_Time q.Vars.e1).bind fun b3 =>
                bif !b3 then
                  some false
                else
                  bif decide (q.Vars.e7 < q.Vars.e1) then
                    some false
                  else
                    (Models.ref18_Time q.Vars.e2).bind fun b4 =>
                    bif !b4 then
                      some false
                    else
                      (loopM (fun ((b5, i6) : Bool × Int) =>
                          bif decide (i6 < 7) then
                            bif decide (0 ≤ i6) then
                              bif decide (i6.toNat = 0) then
                                bif !q.Vars.e0 == 0 then
                                  some (Sum.inr (Sum.inl false))
                                else
                                  some (Sum.inl (b5, IntKind.i64.wrap (i6 + 1)))
                              else
                                bif decide (i6.toNat = 0 + 1) then
                                  bif !q.Vars.e1 == 0 then
                                    some (Sum.inr (Sum.inl false))
                                  else
                                    some (Sum.inl (b5, IntKind.i64.wrap (i6 + 1)))
                                else
                                  bif decide (i6.toNat = 0 + 1 + 1) then
                                    bif !q.Vars.e2 == 0 then
                                      some (Sum.inr (Sum.inl false))
                                    else
                                      some (Sum.inl (b5, IntKind.i64.wrap (i6 + 1)))
                                  else
                                    bif decide (i6.toNat = 0 + 1 + 1 + 1) then
                                      bif !q.Vars.e3 == 0 then
                                        some (Sum.inr (Sum.inl false))
                                      else
                                        some (Sum.inl (b5, IntKind.i64.wrap (i6 + 1)))
                                    else
                                      bif decide (i6.toNat = 0 + 1 + 1 + 1 + 1) then
                                        bif !q.Vars.e4 == 0 then
                                          some (Sum.inr (Sum.inl false))
                                        else
                                          some (Sum.inl (b5, IntKind.i64.wrap (i6 + 1)))
                                      else
                                        bif decide (i6.toNat = 0 + 1 + 1 + 1 + 1 + 1) then
                                          bif !q.Vars.e5 == 0 then
                                            some (Sum.inr (Sum.inl false))
                                          else
                                            some (Sum.inl (b5, IntKind.i64.wrap (i6 + 1)))
                                        else
                                          bif decide (i6.toNat = 0 + 1 + 1 + 1 + 1 + 1 + 1) then
                                            bif !q.Vars.e6 == 0 then
                                              some (Sum.inr (Sum.inl false))
                                            else
                                              some (Sum.inl (b5, IntKind.i64.wrap (i6 + 1)))
                                          else
                                            bif decide (i6.toNat = 0 + 1 + 1 + 1 + 1 + 1 + 1 + 1) then
                                              bif !q.Vars.e7 == 0 then
                                                some (Sum.inr (Sum.inl false))
                                              else
                                                some (Sum.inl (b5, IntKind.i64.wrap (i6 + 1)))
                                            else
                                              none
                            else
                              none
                          else
                            some (Sum.inr (Sum.inr (b5, i6)))) (false, 3)).bind fun w7 =>
                      Sum.elim (fun b8 =>
                        some b8) (fun (b9, i10) =>
                        (q.Lists[Int.toNat 0]?).bind fun l11 =>
                        bif decide ((↑l11.length : Int) ≤ q.Room) then
                          (q.Lists[Int.toNat 0]?).bind fun l12 =>
                          (Models.ref18_List l12 q.Vars.e7).bind fun b13 =>
                          some b13
                        else
                          some false) w7
noncomputable def Go.Models.ref21_refused (q : Queue) (now : Int) : Option Int :=
  (Models.ref21_Valid q).bind fun b1 =>
  bif !b1 then
    some 1
  else
    (Models.ref18_Time now).bind fun b2 =>
    bif !b2 then
      some 1
    else
      bif decide (now < q.Vars.e7) then
        some 18
      else
        some 0
noncomputable def Go.Models.ref21_Delay (q : Queue) (now : Int) : Option Int :=
  (q.Lists[Int.toNat 0]?).bind fun l1 =>
  bif (↑l1.length : Int) == 0 then
    some 0
  else
    (q.Lists[Int.toNat 0]?).bind fun l2 =>
    (l2[Int.toNat 0]?).bind fun q3 =>
    some (IntKind.i64.wrap (now - q3.At))
noncomputable def Go.Models.ref21_down (n : Int) : Option Int :=
  bif decide (n < 0) then
    some (IntKind.i64.wrap (0 - IntKind.i64.wrap ((IntKind.i64.wrap (999 - n)).tdiv 1000)))
  else
    some (IntKind.i64.wrap (n.tdiv 1000))
noncomputable def Go.Models.ref21_Updated (q : Queue) (now : Int) : Option Queue :=
  bif decide (IntKind.i64.wrap (now - q.Vars.e1) < 16000) then
    some q
  else
    (Models.ref21_Delay q now).bind fun i1 =>
    (Models.ref21_down (IntKind.i64.wrap (q.Policy.B * IntKind.i64.wrap (i1 - q.Policy.A)))).bind fun i2 =>
    (Models.ref21_down (IntKind.i64.wrap (q.Policy.C * IntKind.i64.wrap (i1 - q.Vars.e2)))).bind fun i3 =>
    some (Queue.mk q.Policy q.Room q.Lists (A8.mk (if (if 0 < IntKind.i64.wrap (IntKind.i64.wrap (q.Vars.e0 + i2) + i3) then IntKind.i64.wrap (IntKind.i64.wrap (q.Vars.e0 + i2) + i3) else 0) < 1000000 then if 0 < IntKind.i64.wrap (IntKind.i64.wrap (q.Vars.e0 + i2) + i3) then IntKind.i64.wrap (IntKind.i64.wrap (q.Vars.e0 + i2) + i3) else 0 else 1000000) now i1 q.Vars.e3 q.Vars.e4 q.Vars.e5 q.Vars.e6 q.Vars.e7) q.Seed)
noncomputable def Go.Models.ref18_With (q : Queue) (lists : List (List Queued)) (now : Int) : Option Queue :=
  some (Queue.mk q.Policy q.Room lists (A8.mk q.Vars.e0 q.Vars.e1 q.Vars.e2 q.Vars.e3 q.Vars.e4 q.Vars.e5 q.Vars.e6 now) q.Seed)
noncomputable def Go.Models.ref17_Next (seed : Int) : Option (Int × Int) :=
  some (IntKind.u64.wrap (↑(BitVec.ofInt 64 (IntKind.u64.wrap (IntKind.u64.wrap (↑(BitVec.ofInt 64 (IntKind.u64.wrap (IntKind.u64.wrap (↑(BitVec.ofInt 64 (IntKind.u64.wrap (seed + 11400714819323198485)) ^^^ BitVec.ofInt 64 (IntKind.u64.wrap ((IntKind.u64.wrap (seed + 11400714819323198485)).tdiv 1073741824))).toNat : Int) * 13787848793156543929)) ^^^ BitVec.ofInt 64 (IntKind.u64.wrap ((IntKind.u64.wrap (IntKind.u64.wrap (↑(BitVec.ofInt 64 (IntKind.u64.wrap (seed + 11400714819323198485)) ^^^ BitVec.ofInt 64 (IntKind.u64.wrap ((IntKind.u64.wrap (seed + 11400714819323198485)).tdiv 1073741824))).toNat : Int) * 13787848793156543929)).tdiv 134217728))).toNat : Int) * 10723151780598845931)) ^^^ BitVec.ofInt 64 (IntKind.u64.wrap ((IntKind.u64.wrap (IntKind.u64.wrap (↑(BitVec.ofInt 64 (IntKind.u64.wrap (IntKind.u64.wrap (↑(BitVec.ofInt 64 (IntKind.u64.wrap (seed + 11400714819323198485)) ^^^ BitVec.ofInt 64 (IntKind.u64.wrap ((IntKind.u64.wrap (seed + 11400714819323198485)).tdiv 1073741824))).toNat : Int) * 13787848793156543929)) ^^^ BitVec.ofInt 64 (IntKind.u64.wrap ((IntKind.u64.wrap (IntKind.u64.wrap (↑(BitVec.ofInt 64 (IntKind.u64.wrap (seed + 11400714819323198485)) ^^^ BitVec.ofInt 64 (IntKind.u64.wrap ((IntKind.u64.wrap (seed + 11400714819323198485)).tdiv 1073741824))).toNat : Int) * 13787848793156543929)).tdiv 134217728))).toNat : Int) * 10723151780598845931)).tdiv 2147483648))).toNat : Int), IntKind.u64.wrap (seed + 11400714819323198485))
noncomputable def Go.Models.ref17_Below (seed : Int) (n : Int) : Option (Int × Int × Int) :=
  bif decide (n < 1) then
    some (0, 0, 1)
  else
    bif decide (1000000000 < n) then
      some (0, 0, 1)
    else
      (Models.ref17_Next seed).bind fun (i1, i2) =>
      bif decide (n = 0) then
        none
      else
        some ((IntKind.i64.wrap (IntKind.u64.wrap (i1.tdiv 4294967296))).tmod n, i2, 0)
noncomputable def Go.Models.ref21_Put (q : Queue) (p : Packet) (now : Int) : Option (Queue × (List Packet) × Int) :=
  (Models.ref18_Packet p).bind fun b1 =>
  bif !b1 then
    some (Queue.mk (Policy.mk 0 0 0 0) 0 [] (A8.mk 0 0 0 0 0 0 0 0) 0, [], 1)
  else
    (Models.ref21_refused q now).bind fun i2 =>
    bif !i2 == 0 then
      some (Queue.mk (Policy.mk 0 0 0 0) 0 [] (A8.mk 0 0 0 0 0 0 0 0) 0, [], i2)
    else
      (Models.ref21_Updated q now).bind fun q3 =>
      (q3.Lists[Int.toNat 0]?).bind fun l4 =>
      bif decide ((0 + l4.length) * 64 ≤ 2 ^ 44) && decide (0 + l4.length ≤ 2 ^ 44) then
        bif (↑l4.length : Int) == q3.Room then
          (Models.ref18_With q3 [l4] now).bind fun q5 =>
          some (q5, [p], 0)
        else
          (Models.ref17_Below q3.Seed 1000000).bind fun (i6, i7, i8) =>
          bif decide (i6 < q3.Vars.e0) then
            bif !p.Able then
              (Models.ref18_With (Queue.mk q3.Policy q3.Room q3.Lists q3.Vars i7) [l4] now).bind fun q9 =>
              some (q9, [p], 0)
            else
              bif decide ((l4.length + 1) * 64 ≤ 2 ^ 44) && decide (l4.length + 1 ≤ 2 ^ 44) then
                (Models.ref18_With (Queue.mk q3.Policy q3.Room q3.Lists q3.Vars i7) [l4 ++ [Queued.mk (Packet.mk p.Flow p.Sub p.Number p.Data p.Size p.Sent p.Able true) now]] now).bind fun q10 =>
                some (q10, [], 0)
              else
                none
          else
            bif decide ((l4.length + 1) * 64 ≤ 2 ^ 44) && decide (l4.length + 1 ≤ 2 ^ 44) then
              (Models.ref18_With (Queue.mk q3.Policy q3.Room q3.Lists q3.Vars i7) [l4 ++ [Queued.mk p now]] now).bind fun q11 =>
              some (q11, [], 0)
            else
              none
      else
        none
noncomputable def Go.Models.ref21_Take (q : Queue) (now : Int) : Option (Queue × Packet × Bool × (List Packet) × Int) :=
  (Models.ref21_refused q now).bind fun i1 =>
  bif !i1 == 0 then
    some (Queue.mk (Policy.mk 0 0 0 0) 0 [] (A8.mk 0 0 0 0 0 0 0 0) 0, Packet.mk 0 0 0 0 0 0 false false, false, [], i1)
  else
    (Models.ref21_Updated q now).bind fun q2 =>
    (q2.Lists[Int.toNat 0]?).bind fun l3 =>
    bif (↑l3.length : Int) == 0 then
      (Models.ref18_With q2 [[]] now).bind fun q4 =>
      some (q4, Packet.mk 0 0 0 0 0 0 false false, false, [], 0)
    else
      (q2.Lists[Int.toNat 0]?).bind fun l5 =>
      bif decide (Int.toNat 1 ≤ l5.length) then
        bif decide ((0 + (List.drop (Int.toNat 1) l5).length) * 64 ≤ 2 ^ 44) && decide (0 + (List.drop (Int.toNat 1) l5).length ≤ 2 ^ 44) then
          (Models.ref18_With q2 [List.drop (Int.toNat 1) l5] now).bind fun q6 =>
          (q2.Lists[Int.toNat 0]?).bind fun l7 =>
          (l7[Int.toNat 0]?).bind fun q8 =>
          some (q6, q8.P, true, [], 0)
        else
          none
      else
        none
noncomputable def Go.Models.ref18_SameList (a : List Queued) (b : List Queued) : Option Bool :=
  bif !(↑a.length : Int) == (↑b.length : Int) then
    some false
  else
    (loopM (fun ((b1, i2) : Bool × Int) =>
        bif decide (i2 < (↑a.length : Int)) then
          bif decide (0 ≤ i2) then
            (a[i2.toNat]?).bind fun q3 =>
            bif decide (0 ≤ i2) then
              (b[i2.toNat]?).bind fun q4 =>
              bif !(q3.P.Flow == q4.P.Flow && (q3.P.Sub == q4.P.Sub && (q3.P.Number == q4.P.Number && (q3.P.Data == q4.P.Data && (q3.P.Size == q4.P.Size && (q3.P.Sent == q4.P.Sent && (q3.P.Able == q4.P.Able && (q3.P.Marked == q4.P.Marked && q3.At == q4.At)))))))) then
                some (Sum.inr (Sum.inl false))
              else
                some (Sum.inl (b1, IntKind.i64.wrap (i2 + 1)))
            else
              none
          else
            none
        else
          some (Sum.inr (Sum.inr (b1, i2)))) (false, 0)).bind fun w5 =>
    Sum.elim (fun b6 =>
      some b6) (fun (b7, i8) =>
      some true) w5
noncomputable def Go.Models.ref18_Same (a : Queue) (b : Queue) : Option Bool :=
  bif !(a.Policy.Kind == b.Policy.Kind && (a.Policy.A == b.Policy.A && (a.Policy.B == b.Policy.B && a.Policy.C == b.Policy.C))) then
    some false
  else
    bif !a.Room == b.Room then
      some false
    else
      bif !(a.Vars.e0 == b.Vars.e0 && (a.Vars.e1 == b.Vars.e1 && (a.Vars.e2 == b.Vars.e2 && (a.Vars.e3 == b.Vars.e3 && (a.Vars.e4 == b.Vars.e4 && (a.Vars.e5 == b.Vars.e5 && (a.Vars.e6 == b.Vars.e6 && a.Vars.e7 == b.Vars.e7))))))) then
        some false
      else
        bif !a.Seed == b.Seed then
          some false
        else
          bif !(↑a.Lists.length : Int) == (↑b.Lists.length : Int) then
            some false
          else
            (loopM (fun ((b1, i2) : Bool × Int) =>
                bif decide (i2 < (↑a.Lists.length : Int)) then
                  bif decide (0 ≤ i2) then
                    (a.Lists[i2.toNat]?).bind fun l3 =>
                    bif decide (0 ≤ i2) then
                      (b.Lists[i2.toNat]?).bind fun l4 =>
                      (Models.ref18_SameList l3 l4).bind fun b5 =>
                      bif !b5 then
                        some (Sum.inr (Sum.inl false))
                      else
                        some (Sum.inl (b1, IntKind.i64.wrap (i2 + 1)))
                    else
                      none
                  else
                    none
                else
                  some (Sum.inr (Sum.inr (b1, i2)))) (false, 0)).bind fun w6 =>
            Sum.elim (fun b7 =>
              some b7) (fun (b8, i9) =>
              some true) w6
noncomputable def Go.Models.law21_IntegralMatchesReference (q : Queue) (p : Packet) (now : Int) : Option Bool :=
  (Models.law21_head).bind fun b1 =>
  (Models.ref18_Few q).bind fun b2 =>
  bif !b2 then
    some b1
  else
    (Models.integral_Put q p now).bind fun (q3, l4, i5) =>
    (Models.ref21_Put q p now).bind fun (q6, l7, i8) =>
    (Models.integral_Take q now).bind fun (q9, q10, b11, l12, i13) =>
    (Models.ref21_Take q now).bind fun (q14, q15, b16, l17, i18) =>
    bif b1 then
      (Models.integral_Valid q).bind fun b19 =>
      (Models.ref21_Valid q).bind fun b20 =>
      bif b19 == b20 then
        (Models.ref18_Same q3 q6).bind fun b21 =>
        bif b21 then
          (Models.ref18_Packets l4 l7).bind fun b22 =>
          bif b22 then
            bif i5 == i8 then
              (Models.ref18_Same q9 q14).bind fun b23 =>
              bif b23 then
                bif q10.Flow == q15.Flow && (q10.Sub == q15.Sub && (q10.Number == q15.Number && (q10.Data == q15.Data && (q10.Size == q15.Size && (q10.Sent == q15.Sent && (q10.Able == q15.Able && q10.Marked == q15.Marked)))))) then
                  bif b11 == b16 then
                    (Models.ref18_Packets l12 l17).bind fun b24 =>
                    bif b24 then
                      some (i13 == i18)
                    else
                      some false
                  else
                    some false
                else
                  some false
              else
                some false
            else
              some false
          else
            some false
        else
          some false
      else
        some false
    else
      some false
noncomputable def Go.Models.law21_IntegralCalm (q : Queue) (p : Packet) (now : Int) : Option Bool :=
  (Models.law21_head).bind fun b1 =>
  (Models.ref18_Few q).bind fun b2 =>
  bif !b2 then
    some b1
  else
    (Models.integral_Put q p now).bind fun (q3, l4, i5) =>
    bif !i5 == 0 then
      some b1
    else
      bif !q3.Vars.e0 == 0 then
        some b1
      else
        bif !(↑q.Lists.length : Int) == 1 then
          some false
        else
          bif !(↑q3.Lists.length : Int) == 1 then
            some false
          else
            (q.Lists[Int.toNat 0]?).bind fun l6 =>
            bif (↑l6.length : Int) == q.Room then
              bif b1 then
                (Models.ref18_Packets l4 [p]).bind fun b7 =>
                bif b7 then
                  (q3.Lists[Int.toNat 0]?).bind fun l8 =>
                  (q.Lists[Int.toNat 0]?).bind fun l9 =>
                  (Models.ref18_SameList l8 l9).bind fun b10 =>
                  some b10
                else
                  some false
              else
                some false
            else
              bif b1 then
                bif (↑l4.length : Int) == 0 then
                  (q3.Lists[Int.toNat 0]?).bind fun l11 =>
                  bif (↑l11.length : Int) == IntKind.i64.wrap ((↑l6.length : Int) + 1) then
                    (q3.Lists[Int.toNat 0]?).bind fun l12 =>
                    (l12[(↑l6.length : Int).toNat]?).bind fun q13 =>
                    some (q13.P.Flow == p.Flow && (q13.P.Sub == p.Sub && (q13.P.Number == p.Number && (q13.P.Data == p.Data && (q13.P.Size == p.Size && (q13.P.Sent == p.Sent && (q13.P.Able == p.Able && (q13.P.Marked == p.Marked && q13.At == now))))))))
                  else
                    some false
                else
                  some false
              else
                some false
noncomputable def Go.Models.law21_IntegralCertain (q : Queue) (p : Packet) (now : Int) : Option Bool :=
  (Models.law21_head).bind fun b1 =>
  (Models.ref18_Few q).bind fun b2 =>
  bif !b2 then
    some b1
  else
    (Models.integral_Put q p now).bind fun (q3, l4, i5) =>
    bif !i5 == 0 then
      some b1
    else
      bif !q3.Vars.e0 == 1000000 then
        some b1
      else
        bif !(↑q.Lists.length : Int) == 1 then
          some false
        else
          bif !(↑q3.Lists.length : Int) == 1 then
            some false
          else
            (q.Lists[Int.toNat 0]?).bind fun l6 =>
            bif (↑l6.length : Int) == q.Room then
              bif b1 then
                (Models.ref18_Packets l4 [p]).bind fun b7 =>
                bif b7 then
                  (q3.Lists[Int.toNat 0]?).bind fun l8 =>
                  (q.Lists[Int.toNat 0]?).bind fun l9 =>
                  (Models.ref18_SameList l8 l9).bind fun b10 =>
                  some b10
                else
                  some false
              else
                some false
            else
              bif !p.Able then
                bif b1 then
                  (Models.ref18_Packets l4 [p]).bind fun b11 =>
                  bif b11 then
                    (q3.Lists[Int.toNat 0]?).bind fun l12 =>
                    (q.Lists[Int.toNat 0]?).bind fun l13 =>
                    (Models.ref18_SameList l12 l13).bind fun b14 =>
                    some b14
                  else
                    some false
                else
                  some false
              else
                bif b1 then
                  bif (↑l4.length : Int) == 0 then
                    (q3.Lists[Int.toNat 0]?).bind fun l15 =>
                    bif (↑l15.length : Int) == IntKind.i64.wrap ((↑l6.length : Int) + 1) then
                      (q3.Lists[Int.toNat 0]?).bind fun l16 =>
                      (l16[(↑l6.length : Int).toNat]?).bind fun q17 =>
                      some (q17.P.Flow == p.Flow && (q17.P.Sub == p.Sub && (q17.P.Number == p.Number && (q17.P.Data == p.Data && (q17.P.Size == p.Size && (q17.P.Sent == p.Sent && (q17.P.Able == p.Able && (q17.P.Marked == true && q17.At == now))))))))
                    else
                      some false
                  else
                    some false
                else
                  some false
noncomputable def Go.Models.law21_IntegralDirection (q : Queue) (now : Int) : Option Bool :=
  (Models.law21_head).bind fun b1 =>
  (Models.ref18_Few q).bind fun b2 =>
  bif !b2 then
    some b1
  else
    (Models.integral_Take q now).bind fun (q3, q4, b5, l6, i7) =>
    bif !i7 == 0 then
      some b1
    else
      bif !(↑q.Lists.length : Int) == 1 then
        some false
      else
        (q.Lists[Int.toNat 0]?).bind fun l8 =>
        bif decide (0 < (↑l8.length : Int)) then
          (q.Lists[Int.toNat 0]?).bind fun l9 =>
          (l9[Int.toNat 0]?).bind fun q10 =>
          bif b1 then
            bif decide (0 ≤ q3.Vars.e0) then
              bif decide (q3.Vars.e0 ≤ 1000000) then
                bif decide (IntKind.i64.wrap (now - q10.At) < q.Policy.A) then
                  bif decide (q.Policy.A < IntKind.i64.wrap (now - q10.At)) then
                    some true
                  else
                    bif decide (q.Vars.e2 < IntKind.i64.wrap (now - q10.At)) then
                      some true
                    else
                      some (decide (q3.Vars.e0 ≤ q.Vars.e0))
                else
                  bif decide (IntKind.i64.wrap (now - q10.At) < q.Vars.e2) then
                    bif decide (q.Policy.A < IntKind.i64.wrap (now - q10.At)) then
                      some true
                    else
                      bif decide (q.Vars.e2 < IntKind.i64.wrap (now - q10.At)) then
                        some true
                      else
                        some (decide (q3.Vars.e0 ≤ q.Vars.e0))
                  else
                    bif decide (q.Vars.e0 ≤ q3.Vars.e0) then
                      bif decide (q.Policy.A < IntKind.i64.wrap (now - q10.At)) then
                        some true
                      else
                        bif decide (q.Vars.e2 < IntKind.i64.wrap (now - q10.At)) then
                          some true
                        else
                          some (decide (q3.Vars.e0 ≤ q.Vars.e0))
                    else
                      some false
              else
                some false
            else
              some false
          else
            some false
        else
          bif b1 then
            bif decide (0 ≤ q3.Vars.e0) then
              bif decide (q3.Vars.e0 ≤ 1000000) then
                bif decide (0 < q.Policy.A) then
                  bif decide (q.Policy.A < 0) then
                    some true
                  else
                    bif decide (q.Vars.e2 < 0) then
                      some true
                    else
                      some (decide (q3.Vars.e0 ≤ q.Vars.e0))
                else
                  bif decide (0 < q.Vars.e2) then
                    bif decide (q.Policy.A < 0) then
                      some true
                    else
                      bif decide (q.Vars.e2 < 0) then
                        some true
                      else
                        some (decide (q3.Vars.e0 ≤ q.Vars.e0))
                  else
                    bif decide (q.Vars.e0 ≤ q3.Vars.e0) then
                      bif decide (q.Policy.A < 0) then
                        some true
                      else
                        bif decide (q.Vars.e2 < 0) then
                          some true
                        else
                          some (decide (q3.Vars.e0 ≤ q.Vars.e0))
                    else
                      some false
              else
                some false
            else
              some false
          else
            some false
noncomputable def Go.Models.law21_IntegralPeriod (q : Queue) (p : Packet) (now : Int) : Option Bool :=
  (Models.law21_head).bind fun b1 =>
  (Models.ref18_Few q).bind fun b2 =>
  bif !b2 then
    some b1
  else
    (Models.integral_Put q p now).bind fun (q3, l4, i5) =>
    (Models.integral_Take q now).bind fun (q6, q7, b8, l9, i10) =>
    bif decide (IntKind.i64.wrap (now - q.Vars.e1) < 16000) then
      bif i5 == 0 then
        bif b1 then
          bif q3.Vars.e0 == q.Vars.e0 then
            bif q3.Vars.e1 == q.Vars.e1 then
              bif decide (IntKind.i64.wrap (now - q.Vars.e1) < 16000) then
                bif i10 == 0 then
                  bif q3.Vars.e2 == q.Vars.e2 then
                    bif q6.Vars.e0 == q.Vars.e0 then
                      bif q6.Vars.e1 == q.Vars.e1 then
                        bif decide (16000 ≤ IntKind.i64.wrap (now - q.Vars.e1)) then
                          bif i10 == 0 then
                            bif q6.Vars.e2 == q.Vars.e2 then
                              bif q6.Vars.e1 == now then
                                bif !i5 == 0 then
                                  bif !i5 == 0 then
                                    bif !i10 == 0 then
                                      some true
                                    else
                                      some (q6.Vars.e7 == now)
                                  else
                                    bif q3.Vars.e7 == now then
                                      bif !i10 == 0 then
                                        some true
                                      else
                                        some (q6.Vars.e7 == now)
                                    else
                                      some false
                                else
                                  bif q3.Vars.e1 == now then
                                    bif q3.Vars.e0 == q6.Vars.e0 then
                                      bif q3.Vars.e2 == q6.Vars.e2 then
                                        bif !i5 == 0 then
                                          bif !i10 == 0 then
                                            some true
                                          else
                                            some (q6.Vars.e7 == now)
                                        else
                                          bif q3.Vars.e7 == now then
                                            bif !i10 == 0 then
                                              some true
                                            else
                                              some (q6.Vars.e7 == now)
                                          else
                                            some false
                                      else
                                        some false
                                    else
                                      some false
                                  else
                                    some false
                              else
                                some false
                            else
                              some false
                          else
                            bif q6.Vars.e2 == q.Vars.e2 then
                              bif !i5 == 0 then
                                bif !i10 == 0 then
                                  some true
                                else
                                  some (q6.Vars.e7 == now)
                              else
                                bif q3.Vars.e7 == now then
                                  bif !i10 == 0 then
                                    some true
                                  else
                                    some (q6.Vars.e7 == now)
                                else
                                  some false
                            else
                              some false
                        else
                          bif q6.Vars.e2 == q.Vars.e2 then
                            bif !i5 == 0 then
                              bif !i10 == 0 then
                                some true
                              else
                                some (q6.Vars.e7 == now)
                            else
                              bif q3.Vars.e7 == now then
                                bif !i10 == 0 then
                                  some true
                                else
                                  some (q6.Vars.e7 == now)
                              else
                                some false
                          else
                            some false
                      else
                        bif decide (16000 ≤ IntKind.i64.wrap (now - q.Vars.e1)) then
                          bif i10 == 0 then
                            some false
                          else
                            some false
                        else
                          some false
                    else
                      bif decide (16000 ≤ IntKind.i64.wrap (now - q.Vars.e1)) then
                        bif i10 == 0 then
                          some false
                        else
                          some false
                      else
                        some false
                  else
                    bif decide (16000 ≤ IntKind.i64.wrap (now - q.Vars.e1)) then
                      bif i10 == 0 then
                        some false
                      else
                        some false
                    else
                      some false
                else
                  bif decide (16000 ≤ IntKind.i64.wrap (now - q.Vars.e1)) then
                    bif i10 == 0 then
                      bif q3.Vars.e2 == q.Vars.e2 then
                        bif q6.Vars.e1 == now then
                          bif !i5 == 0 then
                            bif !i5 == 0 then
                              bif !i10 == 0 then
                                some true
                              else
                                some (q6.Vars.e7 == now)
                            else
                              bif q3.Vars.e7 == now then
                                bif !i10 == 0 then
                                  some true
                                else
                                  some (q6.Vars.e7 == now)
                              else
                                some false
                          else
                            bif q3.Vars.e1 == now then
                              bif q3.Vars.e0 == q6.Vars.e0 then
                                bif q3.Vars.e2 == q6.Vars.e2 then
                                  bif !i5 == 0 then
                                    bif !i10 == 0 then
                                      some true
                                    else
                                      some (q6.Vars.e7 == now)
                                  else
                                    bif q3.Vars.e7 == now then
                                      bif !i10 == 0 then
                                        some true
                                      else
                                        some (q6.Vars.e7 == now)
                                    else
                                      some false
                                else
                                  some false
                              else
                                some false
                            else
                              some false
                        else
                          some false
                      else
                        some false
                    else
                      bif q3.Vars.e2 == q.Vars.e2 then
                        bif !i5 == 0 then
                          bif !i10 == 0 then
                            some true
                          else
                            some (q6.Vars.e7 == now)
                        else
                          bif q3.Vars.e7 == now then
                            bif !i10 == 0 then
                              some true
                            else
                              some (q6.Vars.e7 == now)
                          else
                            some false
                      else
                        some false
                  else
                    bif q3.Vars.e2 == q.Vars.e2 then
                      bif !i5 == 0 then
                        bif !i10 == 0 then
                          some true
                        else
                          some (q6.Vars.e7 == now)
                      else
                        bif q3.Vars.e7 == now then
                          bif !i10 == 0 then
                            some true
                          else
                            some (q6.Vars.e7 == now)
                        else
                          some false
                    else
                      some false
              else
                bif decide (16000 ≤ IntKind.i64.wrap (now - q.Vars.e1)) then
                  bif i10 == 0 then
                    bif q3.Vars.e2 == q.Vars.e2 then
                      bif q6.Vars.e1 == now then
                        bif !i5 == 0 then
                          bif !i5 == 0 then
                            bif !i10 == 0 then
                              some true
                            else
                              some (q6.Vars.e7 == now)
                          else
                            bif q3.Vars.e7 == now then
                              bif !i10 == 0 then
                                some true
                              else
                                some (q6.Vars.e7 == now)
                            else
                              some false
                        else
                          bif q3.Vars.e1 == now then
                            bif q3.Vars.e0 == q6.Vars.e0 then
                              bif q3.Vars.e2 == q6.Vars.e2 then
                                bif !i5 == 0 then
                                  bif !i10 == 0 then
                                    some true
                                  else
                                    some (q6.Vars.e7 == now)
                                else
                                  bif q3.Vars.e7 == now then
                                    bif !i10 == 0 then
                                      some true
                                    else
                                      some (q6.Vars.e7 == now)
                                  else
                                    some false
                              else
                                some false
                            else
                              some false
                          else
                            some false
                      else
                        some false
                    else
                      some false
                  else
                    bif q3.Vars.e2 == q.Vars.e2 then
                      bif !i5 == 0 then
                        bif !i10 == 0 then
                          some true
                        else
                          some (q6.Vars.e7 == now)
                      else
                        bif q3.Vars.e7 == now then
                          bif !i10 == 0 then
                            some true
                          else
                            some (q6.Vars.e7 == now)
                        else
                          some false
                    else
                      some false
                else
                  bif q3.Vars.e2 == q.Vars.e2 then
                    bif !i5 == 0 then
                      bif !i10 == 0 then
                        some true
                      else
                        some (q6.Vars.e7 == now)
                    else
                      bif q3.Vars.e7 == now then
                        bif !i10 == 0 then
                          some true
                        else
                          some (q6.Vars.e7 == now)
                      else
                        some false
                  else
                    some false
            else
              bif decide (IntKind.i64.wrap (now - q.Vars.e1) < 16000) then
                bif i10 == 0 then
                  bif decide (16000 ≤ IntKind.i64.wrap (now - q.Vars.e1)) then
                    bif i10 == 0 then
                      some false
                    else
                      some false
                  else
                    some false
                else
                  bif decide (16000 ≤ IntKind.i64.wrap (now - q.Vars.e1)) then
                    bif i10 == 0 then
                      some false
                    else
                      some false
                  else
                    some false
              else
                bif decide (16000 ≤ IntKind.i64.wrap (now - q.Vars.e1)) then
                  bif i10 == 0 then
                    some false
                  else
                    some false
                else
                  some false
          else
            bif decide (IntKind.i64.wrap (now - q.Vars.e1) < 16000) then
              bif i10 == 0 then
                bif decide (16000 ≤ IntKind.i64.wrap (now - q.Vars.e1)) then
                  bif i10 == 0 then
                    some false
                  else
                    some false
                else
                  some false
              else
                bif decide (16000 ≤ IntKind.i64.wrap (now - q.Vars.e1)) then
                  bif i10 == 0 then
                    some false
                  else
                    some false
                else
                  some false
            else
              bif decide (16000 ≤ IntKind.i64.wrap (now - q.Vars.e1)) then
                bif i10 == 0 then
                  some false
                else
                  some false
              else
                some false
        else
          bif decide (IntKind.i64.wrap (now - q.Vars.e1) < 16000) then
            bif i10 == 0 then
              bif decide (16000 ≤ IntKind.i64.wrap (now - q.Vars.e1)) then
                bif i10 == 0 then
                  some false
                else
                  some false
              else
                some false
            else
              bif decide (16000 ≤ IntKind.i64.wrap (now - q.Vars.e1)) then
                bif i10 == 0 then
                  some false
                else
                  some false
              else
                some false
          else
            bif decide (16000 ≤ IntKind.i64.wrap (now - q.Vars.e1)) then
              bif i10 == 0 then
                some false
              else
                some false
            else
              some false
      else
        bif decide (IntKind.i64.wrap (now - q.Vars.e1) < 16000) then
          bif i10 == 0 then
            bif b1 then
              bif q6.Vars.e0 == q.Vars.e0 then
                bif q6.Vars.e1 == q.Vars.e1 then
                  bif decide (16000 ≤ IntKind.i64.wrap (now - q.Vars.e1)) then
                    bif i10 == 0 then
                      bif q6.Vars.e2 == q.Vars.e2 then
                        bif q6.Vars.e1 == now then
                          bif !i5 == 0 then
                            bif !i5 == 0 then
                              bif !i10 == 0 then
                                some true
                              else
                                some (q6.Vars.e7 == now)
                            else
                              bif q3.Vars.e7 == now then
                                bif !i10 == 0 then
                                  some true
                                else
                                  some (q6.Vars.e7 == now)
                              else
                                some false
                          else
                            bif q3.Vars.e1 == now then
                              bif q3.Vars.e0 == q6.Vars.e0 then
                                bif q3.Vars.e2 == q6.Vars.e2 then
                                  bif !i5 == 0 then
                                    bif !i10 == 0 then
                                      some true
                                    else
                                      some (q6.Vars.e7 == now)
                                  else
                                    bif q3.Vars.e7 == now then
                                      bif !i10 == 0 then
                                        some true
                                      else
                                        some (q6.Vars.e7 == now)
                                    else
                                      some false
                                else
                                  some false
                              else
                                some false
                            else
                              some false
                        else
                          some false
                      else
                        some false
                    else
                      bif q6.Vars.e2 == q.Vars.e2 then
                        bif !i5 == 0 then
                          bif !i10 == 0 then
                            some true
                          else
                            some (q6.Vars.e7 == now)
                        else
                          bif q3.Vars.e7 == now then
                            bif !i10 == 0 then
                              some true
                            else
                              some (q6.Vars.e7 == now)
                          else
                            some false
                      else
                        some false
                  else
                    bif q6.Vars.e2 == q.Vars.e2 then
                      bif !i5 == 0 then
                        bif !i10 == 0 then
                          some true
                        else
                          some (q6.Vars.e7 == now)
                      else
                        bif q3.Vars.e7 == now then
                          bif !i10 == 0 then
                            some true
                          else
                            some (q6.Vars.e7 == now)
                        else
                          some false
                    else
                      some false
                else
                  bif decide (16000 ≤ IntKind.i64.wrap (now - q.Vars.e1)) then
                    bif i10 == 0 then
                      some false
                    else
                      some false
                  else
                    some false
              else
                bif decide (16000 ≤ IntKind.i64.wrap (now - q.Vars.e1)) then
                  bif i10 == 0 then
                    some false
                  else
                    some false
                else
                  some false
            else
              bif decide (16000 ≤ IntKind.i64.wrap (now - q.Vars.e1)) then
                bif i10 == 0 then
                  some false
                else
                  some false
              else
                some false
          else
            bif decide (16000 ≤ IntKind.i64.wrap (now - q.Vars.e1)) then
              bif i10 == 0 then
                bif b1 then
                  bif q6.Vars.e1 == now then
                    bif !i5 == 0 then
                      bif !i5 == 0 then
                        bif !i10 == 0 then
                          some true
                        else
                          some (q6.Vars.e7 == now)
                      else
                        bif q3.Vars.e7 == now then
                          bif !i10 == 0 then
                            some true
                          else
                            some (q6.Vars.e7 == now)
                        else
                          some false
                    else
                      bif q3.Vars.e1 == now then
                        bif q3.Vars.e0 == q6.Vars.e0 then
                          bif q3.Vars.e2 == q6.Vars.e2 then
                            bif !i5 == 0 then
                              bif !i10 == 0 then
                                some true
                              else
                                some (q6.Vars.e7 == now)
                            else
                              bif q3.Vars.e7 == now then
                                bif !i10 == 0 then
                                  some true
                                else
                                  some (q6.Vars.e7 == now)
                              else
                                some false
                          else
                            some false
                        else
                          some false
                      else
                        some false
                  else
                    some false
                else
                  some false
              else
                bif b1 then
                  bif !i5 == 0 then
                    bif !i10 == 0 then
                      some true
                    else
                      some (q6.Vars.e7 == now)
                  else
                    bif q3.Vars.e7 == now then
                      bif !i10 == 0 then
                        some true
                      else
                        some (q6.Vars.e7 == now)
                    else
                      some false
                else
                  some false
            else
              bif b1 then
                bif !i5 == 0 then
                  bif !i10 == 0 then
                    some true
                  else
                    some (q6.Vars.e7 == now)
                else
                  bif q3.Vars.e7 == now then
                    bif !i10 == 0 then
                      some true
                    else
                      some (q6.Vars.e7 == now)
                  else
                    some false
              else
                some false
        else
          bif decide (16000 ≤ IntKind.i64.wrap (now - q.Vars.e1)) then
            bif i10 == 0 then
              bif b1 then
                bif q6.Vars.e1 == now then
                  bif !i5 == 0 then
                    bif !i5 == 0 then
                      bif !i10 == 0 then
                        some true
                      else
                        some (q6.Vars.e7 == now)
                    else
                      bif q3.Vars.e7 == now then
                        bif !i10 == 0 then
                          some true
                        else
                          some (q6.Vars.e7 == now)
                      else
                        some false
                  else
                    bif q3.Vars.e1 == now then
                      bif q3.Vars.e0 == q6.Vars.e0 then
                        bif q3.Vars.e2 == q6.Vars.e2 then
                          bif !i5 == 0 then
                            bif !i10 == 0 then
                              some true
                            else
                              some (q6.Vars.e7 == now)
                          else
                            bif q3.Vars.e7 == now then
                              bif !i10 == 0 then
                                some true
                              else
                                some (q6.Vars.e7 == now)
                            else
                              some false
                        else
                          some false
                      else
                        some false
                    else
                      some false
                else
                  some false
              else
                some false
            else
              bif b1 then
                bif !i5 == 0 then
                  bif !i10 == 0 then
                    some true
                  else
                    some (q6.Vars.e7 == now)
                else
                  bif q3.Vars.e7 == now then
                    bif !i10 == 0 then
                      some true
                    else
                      some (q6.Vars.e7 == now)
                  else
                    some false
              else
                some false
          else
            bif b1 then
              bif !i5 == 0 then
                bif !i10 == 0 then
                  some true
                else
                  some (q6.Vars.e7 == now)
              else
                bif q3.Vars.e7 == now then
                  bif !i10 == 0 then
                    some true
                  else
                    some (q6.Vars.e7 == now)
                else
                  some false
            else
              some false
    else
      bif decide (IntKind.i64.wrap (now - q.Vars.e1) < 16000) then
        bif i10 == 0 then
          bif b1 then
            bif q6.Vars.e0 == q.Vars.e0 then
              bif q6.Vars.e1 == q.Vars.e1 then
                bif decide (16000 ≤ IntKind.i64.wrap (now - q.Vars.e1)) then
                  bif i10 == 0 then
                    bif q6.Vars.e2 == q.Vars.e2 then
                      bif q6.Vars.e1 == now then
                        bif !i5 == 0 then
                          bif !i5 == 0 then
                            bif !i10 == 0 then
                              some true
                            else
                              some (q6.Vars.e7 == now)
                          else
                            bif q3.Vars.e7 == now then
                              bif !i10 == 0 then
                                some true
                              else
                                some (q6.Vars.e7 == now)
                            else
                              some false
                        else
                          bif q3.Vars.e1 == now then
                            bif q3.Vars.e0 == q6.Vars.e0 then
                              bif q3.Vars.e2 == q6.Vars.e2 then
                                bif !i5 == 0 then
                                  bif !i10 == 0 then
                                    some true
                                  else
                                    some (q6.Vars.e7 == now)
                                else
                                  bif q3.Vars.e7 == now then
                                    bif !i10 == 0 then
                                      some true
                                    else
                                      some (q6.Vars.e7 == now)
                                  else
                                    some false
                              else
                                some false
                            else
                              some false
                          else
                            some false
                      else
                        some false
                    else
                      some false
                  else
                    bif q6.Vars.e2 == q.Vars.e2 then
                      bif !i5 == 0 then
                        bif !i10 == 0 then
                          some true
                        else
                          some (q6.Vars.e7 == now)
                      else
                        bif q3.Vars.e7 == now then
                          bif !i10 == 0 then
                            some true
                          else
                            some (q6.Vars.e7 == now)
                        else
                          some false
                    else
                      some false
                else
                  bif q6.Vars.e2 == q.Vars.e2 then
                    bif !i5 == 0 then
                      bif !i10 == 0 then
                        some true
                      else
                        some (q6.Vars.e7 == now)
                    else
                      bif q3.Vars.e7 == now then
                        bif !i10 == 0 then
                          some true
                        else
                          some (q6.Vars.e7 == now)
                      else
                        some false
                  else
                    some false
              else
                bif decide (16000 ≤ IntKind.i64.wrap (now - q.Vars.e1)) then
                  bif i10 == 0 then
                    some false
                  else
                    some false
                else
                  some false
            else
              bif decide (16000 ≤ IntKind.i64.wrap (now - q.Vars.e1)) then
                bif i10 == 0 then
                  some false
                else
                  some false
              else
                some false
          else
            bif decide (16000 ≤ IntKind.i64.wrap (now - q.Vars.e1)) then
              bif i10 == 0 then
                some false
              else
                some false
            else
              some false
        else
          bif decide (16000 ≤ IntKind.i64.wrap (now - q.Vars.e1)) then
            bif i10 == 0 then
              bif b1 then
                bif q6.Vars.e1 == now then
                  bif !i5 == 0 then
                    bif !i5 == 0 then
                      bif !i10 == 0 then
                        some true
                      else
                        some (q6.Vars.e7 == now)
                    else
                      bif q3.Vars.e7 == now then
                        bif !i10 == 0 then
                          some true
                        else
                          some (q6.Vars.e7 == now)
                      else
                        some false
                  else
                    bif q3.Vars.e1 == now then
                      bif q3.Vars.e0 == q6.Vars.e0 then
                        bif q3.Vars.e2 == q6.Vars.e2 then
                          bif !i5 == 0 then
                            bif !i10 == 0 then
                              some true
                            else
                              some (q6.Vars.e7 == now)
                          else
                            bif q3.Vars.e7 == now then
                              bif !i10 == 0 then
                                some true
                              else
                                some (q6.Vars.e7 == now)
                            else
                              some false
                        else
                          some false
                      else
                        some false
                    else
                      some false
                else
                  some false
              else
                some false
            else
              bif b1 then
                bif !i5 == 0 then
                  bif !i10 == 0 then
                    some true
                  else
                    some (q6.Vars.e7 == now)
                else
                  bif q3.Vars.e7 == now then
                    bif !i10 == 0 then
                      some true
                    else
                      some (q6.Vars.e7 == now)
                  else
                    some false
              else
                some false
          else
            bif b1 then
              bif !i5 == 0 then
                bif !i10 == 0 then
                  some true
                else
                  some (q6.Vars.e7 == now)
              else
                bif q3.Vars.e7 == now then
                  bif !i10 == 0 then
                    some true
                  else
                    some (q6.Vars.e7 == now)
                else
                  some false
            else
              some false
      else
        bif decide (16000 ≤ IntKind.i64.wrap (now - q.Vars.e1)) then
          bif i10 == 0 then
            bif b1 then
              bif q6.Vars.e1 == now then
                bif !i5 == 0 then
                  bif !i5 == 0 then
                    bif !i10 == 0 then
                      some true
                    else
                      some (q6.Vars.e7 == now)
                  else
                    bif q3.Vars.e7 == now then
                      bif !i10 == 0 then
                        some true
                      else
                        some (q6.Vars.e7 == now)
                    else
                      some false
                else
                  bif q3.Vars.e1 == now then
                    bif q3.Vars.e0 == q6.Vars.e0 then
                      bif q3.Vars.e2 == q6.Vars.e2 then
                        bif !i5 == 0 then
                          bif !i10 == 0 then
                            some true
                          else
                            some (q6.Vars.e7 == now)
                        else
                          bif q3.Vars.e7 == now then
                            bif !i10 == 0 then
                              some true
                            else
                              some (q6.Vars.e7 == now)
                          else
                            some false
                      else
                        some false
                    else
                      some false
                  else
                    some false
              else
                some false
            else
              some false
          else
            bif b1 then
              bif !i5 == 0 then
                bif !i10 == 0 then
                  some true
                else
                  some (q6.Vars.e7 == now)
              else
                bif q3.Vars.e7 == now then
                  bif !i10 == 0 then
                    some true
                  else
                    some (q6.Vars.e7 == now)
                else
                  some false
            else
              some false
        else
          bif b1 then
            bif !i5 == 0 then
              bif !i10 == 0 then
                some true
              else
                some (q6.Vars.e7 == now)
            else
              bif q3.Vars.e7 == now then
                bif !i10 == 0 then
                  some true
                else
                  some (q6.Vars.e7 == now)
              else
                some false
          else
            some false
noncomputable def Go.Models.law21_IntegralRises (q : Queue) (p : Packet) (many : Int) : Option Bool :=
  (Models.law21_head).bind fun b1 =>
  (Models.ref18_Few q).bind fun b2 =>
  bif !b2 then
    some b1
  else
    (Models.ref21_Valid q).bind fun b3 =>
    bif !b3 then
      some b1
    else
      (Models.ref18_Packet p).bind fun b4 =>
      bif !b4 then
        some b1
      else
        (q.Lists[Int.toNat 0]?).bind fun l5 =>
        bif (↑l5.length : Int) == 0 then
          some b1
        else
          (q.Lists[Int.toNat 0]?).bind fun l6 =>
          (l6[Int.toNat 0]?).bind fun q7 =>
          bif decide (IntKind.i64.wrap (q.Vars.e7 - q7.At) < IntKind.i64.wrap (q.Policy.A + 1000)) then
            some b1
          else
            bif decide (IntKind.i64.wrap (q.Vars.e7 - q7.At) < q.Vars.e2) then
              some b1
            else
              (loopM (fun ((i8, b9, i10, i11, i12, i13, i14, i15, l16, i17, i18, i19, i20, i21, i22, i23, i24, i25) : Int × Bool × Int × Int × Int × Int × Int × Int × List (List Queued) × Int × Int × Int × Int × Int × Int × Int × Int × Int) =>
                  bif decide (i10 < (IntKind.i64.wrap many).tmod 30) then
                    bif decide (10000000 < IntKind.i64.wrap (i8 + 16000)) then
                      some (Sum.inr (Sum.inl (b1, i11, i12, i13, i14, i15, l16, i17, i18, i19, i20, i21, i22, i23, i24, i25)))
                    else
                      (Models.integral_Put (Queue.mk (Policy.mk i11 i12 i13 i14) i15 l16 (A8.mk i17 i18 i19 i20 i21 i22 i23 i24) i25) p (IntKind.i64.wrap (i8 + 16000))).bind fun (q26, l27, i28) =>
                      bif !i28 == 0 then
                        some (Sum.inr (Sum.inr (Sum.inl (false, i11, i12, i13, i14, i15, l16, i17, i18, i19, i20, i21, i22, i23, i24, i25))))
                      else
                        bif decide (q26.Vars.e0 < if IntKind.i64.wrap (i17 + i13) < 1000000 then IntKind.i64.wrap (i17 + i13) else 1000000) then
                          some (Sum.inr (Sum.inr (Sum.inl (false, i11, i12, i13, i14, i15, l16, i17, i18, i19, i20, i21, i22, i23, i24, i25))))
                        else
                          some (Sum.inl (IntKind.i64.wrap (i8 + 16000), b9, IntKind.i64.wrap (i10 + 1), q26.Policy.Kind, q26.Policy.A, q26.Policy.B, q26.Policy.C, q26.Room, q26.Lists, q26.Vars.e0, q26.Vars.e1, q26.Vars.e2, q26.Vars.e3, q26.Vars.e4, q26.Vars.e5, q26.Vars.e6, q26.Vars.e7, q26.Seed))
                  else
                    some (Sum.inr (Sum.inr (Sum.inr (i8, b9, i10, i11, i12, i13, i14, i15, l16, i17, i18, i19, i20, i21, i22, i23, i24, i25))))) (q.Vars.e7, false, 0, q.Policy.Kind, q.Policy.A, q.Policy.B, q.Policy.C, q.Room, q.Lists, q.Vars.e0, q.Vars.e1, q.Vars.e2, q.Vars.e3, q.Vars.e4, q.Vars.e5, q.Vars.e6, q.Vars.e7, q.Seed)).bind fun w29 =>
              Sum.elim (fun (b30, i31, i32, i33, i34, i35, l36, i37, i38, i39, i40, i41, i42, i43, i44, i45) =>
                some b30) (fun w46 =>
                Sum.elim (fun (b47, i48, i49, i50, i51, i52, l53, i54, i55, i56, i57, i58, i59, i60, i61, i62) =>
                  some b47) (fun (i63, b64, i65, i66, i67, i68, i69, i70, l71, i72, i73, i74, i75, i76, i77, i78, i79, i80) =>
                  some b1) w46) w29
noncomputable def Go.Models.law21_marked (a : Packet) (b : Packet) : Option Bool :=
  bif b.Marked then
    bif b.Able then
      some (a.Flow == b.Flow && (a.Sub == b.Sub && (a.Number == b.Number && (a.Data == b.Data && (a.Size == b.Size && (a.Sent == b.Sent && (a.Able == b.Able && true == b.Marked)))))))
    else
      some (a.Flow == b.Flow && (a.Sub == b.Sub && (a.Number == b.Number && (a.Data == b.Data && (a.Size == b.Size && (a.Sent == b.Sent && (a.Able == b.Able && a.Marked == b.Marked)))))))
  else
    some (a.Flow == b.Flow && (a.Sub == b.Sub && (a.Number == b.Number && (a.Data == b.Data && (a.Size == b.Size && (a.Sent == b.Sent && (a.Able == b.Able && a.Marked == b.Marked)))))))
noncomputable def Go.Models.law21_IntegralConserves (q : Queue) (steps : List YtfjkpjgbigcpiaaDoor.Step) : Option Bool :=
  (Models.law21_head).bind fun b1 =>
  bif decide (200 < (↑steps.length : Int)) then
    some b1
  else
    (Models.ref18_Few q).bind fun b2 =>
    bif !b2 then
      some b1
    else
      (Models.ref21_Valid q).bind fun b3 =>
      bif !b3 then
        some b1
      else
        (q.Lists[Int.toNat 0]?).bind fun l4 =>
        (loopM (fun ((i5, l6) : Int × List Packet) =>
            bif decide (i5 < (↑l4.length : Int)) then
              bif decide (0 ≤ i5) then
                (l4[i5.toNat]?).bind fun q7 =>
                bif decide ((l6.length + 1) * 56 ≤ 2 ^ 44) && decide (l6.length + 1 ≤ 2 ^ 44) then
                  some (Sum.inl (IntKind.i64.wrap (i5 + 1), l6 ++ [q7.P]))
                else
                  none
              else
                none
            else
              some (Sum.inr (i5, l6))) (0, [])).bind fun (i8, l9) =>
        (loopM (fun ((i10, b11, i12, l13, l14, l15, i16, i17, i18, i19, i20, l21, i22, i23, i24, i25, i26, i27, i28, i29, i30) : Int × Bool × Int × List Packet × List Packet × List Packet × Int × Int × Int × Int × Int × List (List Queued) × Int × Int × Int × Int × Int × Int × Int × Int × Int) =>
            bif decide (i12 < (↑steps.length : Int)) then
              bif decide (0 ≤ i12) then
                (steps[i12.toNat]?).bind fun q31 =>
                bif q31.Take then
                  (Models.integral_Take (Queue.mk (Policy.mk i16 i17 i18 i19) i20 l21 (A8.mk i22 i23 i24 i25 i26 i27 i28 i29) i30) (if IntKind.i64.wrap (i10 + IntKind.i64.wrap q31.Wait) < 10000000 then IntKind.i64.wrap (i10 + IntKind.i64.wrap q31.Wait) else 10000000)).bind fun (q32, q33, b34, l35, i36) =>
                  bif !i36 == 0 then
                    some (Sum.inr (Sum.inl (false, l13, l14, l15, i16, i17, i18, i19, i20, l21, i22, i23, i24, i25, i26, i27, i28, i29, i30)))
                  else
                    bif !(↑l35.length : Int) == 0 then
                      some (Sum.inr (Sum.inl (false, l13, l14, l15, i16, i17, i18, i19, i20, l21, i22, i23, i24, i25, i26, i27, i28, i29, i30)))
                    else
                      bif b34 then
                        bif decide ((l13.length + 1) * 56 ≤ 2 ^ 44) && decide (l13.length + 1 ≤ 2 ^ 44) then
                          some (Sum.inl (if IntKind.i64.wrap (i10 + IntKind.i64.wrap q31.Wait) < 10000000 then IntKind.i64.wrap (i10 + IntKind.i64.wrap q31.Wait) else 10000000, b11, IntKind.i64.wrap (i12 + 1), l13 ++ [q33], l14, l15, q32.Policy.Kind, q32.Policy.A, q32.Policy.B, q32.Policy.C, q32.Room, q32.Lists, q32.Vars.e0, q32.Vars.e1, q32.Vars.e2, q32.Vars.e3, q32.Vars.e4, q32.Vars.e5, q32.Vars.e6, q32.Vars.e7, q32.Seed))
                        else
                          none
                      else
                        some (Sum.inl (if IntKind.i64.wrap (i10 + IntKind.i64.wrap q31.Wait) < 10000000 then IntKind.i64.wrap (i10 + IntKind.i64.wrap q31.Wait) else 10000000, b11, IntKind.i64.wrap (i12 + 1), l13, l14, l15, q32.Policy.Kind, q32.Policy.A, q32.Policy.B, q32.Policy.C, q32.Room, q32.Lists, q32.Vars.e0, q32.Vars.e1, q32.Vars.e2, q32.Vars.e3, q32.Vars.e4, q32.Vars.e5, q32.Vars.e6, q32.Vars.e7, q32.Seed))
                else
                  (Models.ref18_Packet (Packet.mk q31.P.Flow q31.P.Sub (IntKind.i64.wrap (500000000 + i12)) q31.P.Data q31.P.Size q31.P.Sent q31.P.Able q31.P.Marked)).bind fun b37 =>
                  bif !b37 then
                    some (Sum.inl (if IntKind.i64.wrap (i10 + IntKind.i64.wrap q31.Wait) < 10000000 then IntKind.i64.wrap (i10 + IntKind.i64.wrap q31.Wait) else 10000000, b11, IntKind.i64.wrap (i12 + 1), l13, l14, l15, i16, i17, i18, i19, i20, l21, i22, i23, i24, i25, i26, i27, i28, i29, i30))
                  else
                    (Models.integral_Put (Queue.mk (Policy.mk i16 i17 i18 i19) i20 l21 (A8.mk i22 i23 i24 i25 i26 i27 i28 i29) i30) (Packet.mk q31.P.Flow q31.P.Sub (IntKind.i64.wrap (500000000 + i12)) q31.P.Data q31.P.Size q31.P.Sent q31.P.Able q31.P.Marked) (if IntKind.i64.wrap (i10 + IntKind.i64.wrap q31.Wait) < 10000000 then IntKind.i64.wrap (i10 + IntKind.i64.wrap q31.Wait) else 10000000)).bind fun (q38, l39, i40) =>
                    bif !i40 == 0 then
                      some (Sum.inr (Sum.inr (Sum.inl (false, l13, l14, l15, i16, i17, i18, i19, i20, l21, i22, i23, i24, i25, i26, i27, i28, i29, i30))))
                    else
                      bif decide ((l14.length + 1) * 56 ≤ 2 ^ 44) && decide (l14.length + 1 ≤ 2 ^ 44) then
                        bif decide ((l15.length + l39.length) * 56 ≤ 2 ^ 44) && decide (l15.length + l39.length ≤ 2 ^ 44) then
                          some (Sum.inl (if IntKind.i64.wrap (i10 + IntKind.i64.wrap q31.Wait) < 10000000 then IntKind.i64.wrap (i10 + IntKind.i64.wrap q31.Wait) else 10000000, b11, IntKind.i64.wrap (i12 + 1), l13, l14 ++ [Packet.mk q31.P.Flow q31.P.Sub (IntKind.i64.wrap (500000000 + i12)) q31.P.Data q31.P.Size q31.P.Sent q31.P.Able q31.P.Marked], l15 ++ l39, q38.Policy.Kind, q38.Policy.A, q38.Policy.B, q38.Policy.C, q38.Room, q38.Lists, q38.Vars.e0, q38.Vars.e1, q38.Vars.e2, q38.Vars.e3, q38.Vars.e4, q38.Vars.e5, q38.Vars.e6, q38.Vars.e7, q38.Seed))
                        else
                          none
                      else
                        none
              else
                none
            else
              some (Sum.inr (Sum.inr (Sum.inr (i10, b11, i12, l13, l14, l15, i16, i17, i18, i19, i20, l21, i22, i23, i24, i25, i26, i27, i28, i29, i30))))) (q.Vars.e7, false, 0, [], l9, [], q.Policy.Kind, q.Policy.A, q.Policy.B, q.Policy.C, q.Room, q.Lists, q.Vars.e0, q.Vars.e1, q.Vars.e2, q.Vars.e3, q.Vars.e4, q.Vars.e5, q.Vars.e6, q.Vars.e7, q.Seed)).bind fun w41 =>
        Sum.elim (fun (b42, l43, l44, l45, i46, i47, i48, i49, i50, l51, i52, i53, i54, i55, i56, i57, i58, i59, i60) =>
          some b42) (fun w61 =>
          Sum.elim (fun (b62, l63, l64, l65, i66, i67, i68, i69, i70, l71, i72, i73, i74, i75, i76, i77, i78, i79, i80) =>
            some b62) (fun (i81, b82, i83, l84, l85, l86, i87, i88, i89, i90, i91, l92, i93, i94, i95, i96, i97, i98, i99, i100, i101) =>
            bif !(↑l92.length : Int) == 1 then
              some false
            else
              (l92[Int.toNat 0]?).bind fun l102 =>
              (loopM (fun ((i103, l104) : Int × List Packet) =>
                  bif decide (i103 < (↑l102.length : Int)) then
                    bif decide (0 ≤ i103) then
                      (l102[i103.toNat]?).bind fun q105 =>
                      bif decide ((l104.length + 1) * 56 ≤ 2 ^ 44) && decide (l104.length + 1 ≤ 2 ^ 44) then
                        some (Sum.inl (IntKind.i64.wrap (i103 + 1), l104 ++ [q105.P]))
                      else
                        none
                    else
                      none
                  else
                    some (Sum.inr (i103, l104))) (0, l84)).bind fun (i106, l107) =>
              (loopM (fun ((i108, i109, b110, i111) : Int × Int × Bool × Int) =>
                  bif decide (i111 < (↑l85.length : Int)) then
                    bif decide (0 ≤ i111) then
                      bif decide (i111.toNat < l85.length) then
                        (l85[0 + i111.toNat]?).bind fun q112 =>
                        bif decide ((↑l9.length : Int) ≤ i111) then
                          bif decide (i108 < (↑l86.length : Int)) then
                            bif decide (0 ≤ i108) then
                              bif decide (i108.toNat < l86.length) then
                                (l86[0 + i108.toNat]?).bind fun q113 =>
                                bif q113.Flow == q112.Flow && (q113.Sub == q112.Sub && (q113.Number == q112.Number && (q113.Data == q112.Data && (q113.Size == q112.Size && (q113.Sent == q112.Sent && (q113.Able == q112.Able && q113.Marked == q112.Marked)))))) then
                                  some (Sum.inl (IntKind.i64.wrap (i108 + 1), i109, b110, IntKind.i64.wrap (i111 + 1)))
                                else
                                  bif decide (i109 < (↑l107.length : Int)) then
                                    bif decide (0 ≤ i109) then
                                      bif decide (i109.toNat < l107.length) then
                                        (l107[0 + i109.toNat]?).bind fun q114 =>
                                        bif q114.Flow == q112.Flow && (q114.Sub == q112.Sub && (q114.Number == q112.Number && (q114.Data == q112.Data && (q114.Size == q112.Size && (q114.Sent == q112.Sent && (q114.Able == q112.Able && q114.Marked == q112.Marked)))))) then
                                          some (Sum.inl (i108, IntKind.i64.wrap (i109 + 1), b110, IntKind.i64.wrap (i111 + 1)))
                                        else
                                          bif decide ((↑l9.length : Int) ≤ i111) then
                                            bif decide (0 ≤ i109) then
                                              bif decide (i109.toNat < l107.length) then
                                                (l107[0 + i109.toNat]?).bind fun q115 =>
                                                (Models.law21_marked q112 q115).bind fun b116 =>
                                                bif b116 then
                                                  some (Sum.inl (i108, IntKind.i64.wrap (i109 + 1), b110, IntKind.i64.wrap (i111 + 1)))
                                                else
                                                  some (Sum.inr (Sum.inl false))
                                              else
                                                none
                                            else
                                              none
                                          else
                                            some (Sum.inr (Sum.inl false))
                                      else
                                        none
                                    else
                                      none
                                  else
                                    some (Sum.inr (Sum.inl false))
                              else
                                none
                            else
                              none
                          else
                            bif decide (i109 < (↑l107.length : Int)) then
                              bif decide (0 ≤ i109) then
                                bif decide (i109.toNat < l107.length) then
                                  (l107[0 + i109.toNat]?).bind fun q117 =>
                                  bif q117.Flow == q112.Flow && (q117.Sub == q112.Sub && (q117.Number == q112.Number && (q117.Data == q112.Data && (q117.Size == q112.Size && (q117.Sent == q112.Sent && (q117.Able == q112.Able && q117.Marked == q112.Marked)))))) then
                                    some (Sum.inl (i108, IntKind.i64.wrap (i109 + 1), b110, IntKind.i64.wrap (i111 + 1)))
                                  else
                                    bif decide ((↑l9.length : Int) ≤ i111) then
                                      bif decide (0 ≤ i109) then
                                        bif decide (i109.toNat < l107.length) then
                                          (l107[0 + i109.toNat]?).bind fun q118 =>
                                          (Models.law21_marked q112 q118).bind fun b119 =>
                                          bif b119 then
                                            some (Sum.inl (i108, IntKind.i64.wrap (i109 + 1), b110, IntKind.i64.wrap (i111 + 1)))
                                          else
                                            some (Sum.inr (Sum.inl false))
                                        else
                                          none
                                      else
                                        none
                                    else
                                      some (Sum.inr (Sum.inl false))
                                else
                                  none
                              else
                                none
                            else
                              some (Sum.inr (Sum.inl false))
                        else
                          bif decide (i109 < (↑l107.length : Int)) then
                            bif decide (0 ≤ i109) then
                              bif decide (i109.toNat < l107.length) then
                                (l107[0 + i109.toNat]?).bind fun q120 =>
                                bif q120.Flow == q112.Flow && (q120.Sub == q112.Sub && (q120.Number == q112.Number && (q120.Data == q112.Data && (q120.Size == q112.Size && (q120.Sent == q112.Sent && (q120.Able == q112.Able && q120.Marked == q112.Marked)))))) then
                                  some (Sum.inl (i108, IntKind.i64.wrap (i109 + 1), b110, IntKind.i64.wrap (i111 + 1)))
                                else
                                  bif decide ((↑l9.length : Int) ≤ i111) then
                                    bif decide (0 ≤ i109) then
                                      bif decide (i109.toNat < l107.length) then
                                        (l107[0 + i109.toNat]?).bind fun q121 =>
                                        (Models.law21_marked q112 q121).bind fun b122 =>
                                        bif b122 then
                                          some (Sum.inl (i108, IntKind.i64.wrap (i109 + 1), b110, IntKind.i64.wrap (i111 + 1)))
                                        else
                                          some (Sum.inr (Sum.inl false))
                                      else
                                        none
                                    else
                                      none
                                  else
                                    some (Sum.inr (Sum.inl false))
                              else
                                none
                            else
                              none
                          else
                            some (Sum.inr (Sum.inl false))
                      else
                        none
                    else
                      none
                  else
                    some (Sum.inr (Sum.inr (i108, i109, b110, i111)))) (0, 0, b82, 0)).bind fun w123 =>
              Sum.elim (fun b124 =>
                some b124) (fun (i125, i126, b127, i128) =>
                bif b1 then
                  bif IntKind.i64.wrap (i126 + i125) == (↑l85.length : Int) then
                    bif IntKind.i64.wrap ((↑l107.length : Int) + (↑l86.length : Int)) == (↑l85.length : Int) then
                      (Models.integral_Valid (Queue.mk (Policy.mk i87 i88 i89 i90) i91 l92 (A8.mk i93 i94 i95 i96 i97 i98 i99 i100) i101)).bind fun b129 =>
                      some b129
                    else
                      some false
                  else
                    some false
                else
                  some false) w123) w61) w41
namespace Go.Proofs.YtfjkpjgbigcpiaaDoor
noncomputable def hints : List (Nat × Nat × Hint) := [(49, 2, ⟨[(4, .val 3), (8, .val 3)], [9, 10, 5, 11, 12, 13, 14, 15, 16, 17, 18], [(2, .one (.val 2))], [⟨none, [(4, .val 3)], []⟩, ⟨some 0, [(4, .val 3), (8, .val 3)], []⟩]⟩), (39, 4, ⟨[(4, .val 26), (9, .val 3)], [10, 11, 5, 12, 13, 14, 15, 16, 17, 18, 19, 20, 21, 22, 23, 24, 25], [], [⟨some 0, [(4, .val 26), (9, .val 3)], []⟩]⟩), (19, 4, ⟨[(4, .val 4), (5, .val 3)], [11, 12, 13, 14, 17, 18, 19, 20, 21, 22, 23, 24, 25, 15, 16], [], [⟨none, [(4, .val 4)], []⟩, ⟨some 0, [(4, .val 4), (5, .val 3)], []⟩]⟩), (11, 2, ⟨[(2, .val 4), (3, .val 3)], [4, 5, 6, 7, 8, 11, 12, 13, 14, 15, 16, 17, 9, 10], [], [⟨none, [(2, .val 4)], []⟩, ⟨some 0, [(2, .val 4), (3, .val 3)], []⟩]⟩), (34, 2, ⟨[(4, .val 4), (5, .val 3)], [6, 7, 8, 9, 12, 13, 14, 15, 16, 17, 18, 19, 20, 21, 22, 23, 24, 25, 26, 27, 28, 29, 30, 31, 32, 33, 34, 35, 36, 37, 38, 39, 40, 41, 42, 43, 44, 45, 46, 47, 48, 49, 50, 51, 52, 53, 54, 10, 11], [], [⟨none, [(4, .val 4)], []⟩, ⟨some 0, [(4, .val 4), (5, .val 3)], []⟩]⟩), (17, 6, ⟨[(2, .val 4), (3, .val 3)], [64, 65, 68, 69, 70, 71, 72, 66, 67], [], [⟨none, [(2, .val 4)], []⟩, ⟨some 0, [(2, .val 4), (3, .val 3)], []⟩]⟩), (22, 4, ⟨[(4, .val 4), (5, .val 3)], [11, 12, 13, 14, 17, 18, 19, 20, 21, 22, 23, 24, 25, 15, 16], [], [⟨none, [(4, .val 4)], []⟩, ⟨some 0, [(4, .val 4), (5, .val 3)], []⟩]⟩), (18, 4, ⟨[(4, .val 4), (5, .val 3)], [41, 42, 43, 44, 45, 48, 49, 50, 51, 52, 53, 54, 55, 56, 57, 58, 59, 46, 47], [], [⟨none, [(4, .val 4)], []⟩, ⟨some 0, [(4, .val 4), (5, .val 3)], []⟩]⟩), (9, 9, ⟨[(8, .val 3), (6, .val 4), (65, .val 3)], [66, 67, 68, 69, 70, 71, 73, 74, 75, 76, 72, 77, 78, 79, 10, 11, 12, 80, 81, 82, 83, 84, 85, 86, 87, 88, 89, 90, 91, 92, 93, 94, 95, 96, 97], [(0, .agg [.val 2, .val 2, .val 2, .val 2, .val 2, .val 24, .val 2, .val 2, .val 2, .val 2, .val 2, .val 2, .val 2, .val 2, .val 26])], [⟨none, [(6, .val 4)], []⟩, ⟨none, [(6, .val 4)], [.junk]⟩, ⟨some 0, [(8, .val 3), (6, .val 4), (65, .val 3)], []⟩]⟩), (4, 6, ⟨[(6, .own 8 1), (49, .val 3)], [50, 51, 52, 10, 53, 54, 55, 56, 57, 58], [(1, .list 30)], [⟨some 0, [(6, .own 8 1), (49, .val 3)], []⟩]⟩), (4, 12, ⟨[(12, .val 3), (4, .val 4), (7, .own 8 2), (6, .own 8 1), (8, .own 8 3), (66, .val 3)], [67, 68, 69, 70, 14, 13, 71, 72, 73, 74, 75, 76, 77, 78, 80, 81, 82, 79, 83, 84, 85, 86, 87, 15, 16, 17, 18, 19, 88, 89, 90, 91, 92, 93, 94, 95, 96, 97, 98, 99, 100, 101, 102, 103, 104, 105, 106, 107, 108, 110, 111, 112, 113, 114, 109, 115, 116, 117, 20, 21, 22, 118, 119, 120, 121, 122, 123, 124, 125, 126, 127, 128, 129], [(2, .list 30), (1, .list 30), (3, .list 30), (0, .agg [.val 2, .val 2, .val 2, .val 2, .val 2, .val 24, .val 2, .val 2, .val 2, .val 2, .val 2, .val 2, .val 2, .val 2, .val 26])], [⟨none, [(4, .val 4)], [.junk, .junk, .junk]⟩, ⟨none, [(4, .val 4)], [.junk, .junk]⟩, ⟨some 2, [(12, .val 3), (4, .val 4), (7, .own 8 2), (6, .own 8 1), (8, .own 8 3), (66, .val 3)], []⟩]⟩), (4, 32, ⟨[(7, .own 8 2), (139, .val 3)], [140, 141, 142, 24, 143, 144, 145, 146, 147, 148], [(2, .list 30)], [⟨some 4, [(7, .own 8 2), (139, .val 3)], []⟩]⟩), (4, 38, ⟨[(26, .val 3), (25, .val 3), (4, .val 4), (151, .val 3)], [152, 153, 154, 155, 28, 27, 157, 158, 159, 160, 161, 162, 163, 164, 165, 166, 167, 168, 169, 170, 171, 172, 173, 156, 174, 175, 177, 178, 179, 180, 181, 182, 183, 184, 185, 186, 187, 188, 189, 190, 191, 192, 193, 194, 195, 196, 197, 198, 199, 200, 201, 176, 202, 203, 204], [], [⟨none, [(4, .val 4)], [.junk]⟩, ⟨some 6, [(26, .val 3), (25, .val 3), (4, .val 4), (151, .val 3)], []⟩]⟩)]
def roll : FuncId → Nat → Bool := fun _ _ => false
noncomputable def sums : List (Nat × Summ T) := [(23, ⟨[3, 3, 43], [28], fun x => Go.Models.law21_queue x.1 x.2.1 x.2.2⟩),
  (36, ⟨[3, 3, 3], [4], fun x => Go.Models.integral_inside x.1 x.2.1 x.2.2⟩),
  (24, ⟨[30], [4], fun x => Go.Models.integral_packet x⟩),
  (31, ⟨[56], [4], fun x => Go.Models.integral_state_valid x⟩),
  (45, ⟨[56, 3], [3], fun x => Go.Models.integral_state_delay x.1 x.2⟩),
  (48, ⟨[3], [3], fun x => Go.Models.integral_thousandth x⟩),
  (47, ⟨[3, 1056, 1003, 1003], [3], fun x => Go.Models.integral_state_update_1 x.1 x.2.1 x.2.2.1 x.2.2.2⟩),
  (39, ⟨[26], [26, 26], fun x => Go.Models.random_Next x⟩),
  (26, ⟨[26, 3], [3, 26, 34], fun x => Go.Models.random_Below x.1 x.2⟩),
  (12, ⟨[28, 30, 3], [28, 33, 34], fun x => Go.Models.integral_Put x.1 x.2.1 x.2.2⟩),
  (14, ⟨[28, 3], [28, 30, 4, 33, 34], fun x => Go.Models.integral_Take x.1 x.2⟩),
  (19, ⟨[33, 33], [4], fun x => Go.Models.ref18_Packets x.1 x.2⟩),
  (16, ⟨[28], [4], fun x => Go.Models.integral_Valid x⟩),
  (10, ⟨[], [4], fun x => Go.Models.law21_head ⟩),
  (11, ⟨[28], [4], fun x => Go.Models.ref18_Few x⟩),
  (35, ⟨[3], [4], fun x => Go.Models.ref18_number x⟩),
  (33, ⟨[3], [4], fun x => Go.Models.ref18_Time x⟩),
  (20, ⟨[30], [4], fun x => Go.Models.ref18_Packet x⟩),
  (32, ⟨[23], [4], fun x => Go.Models.ref21_policy x⟩),
  (34, ⟨[43, 3], [4], fun x => Go.Models.ref18_List x.1 x.2⟩),
  (17, ⟨[28], [4], fun x => Go.Models.ref21_Valid x⟩),
  (27, ⟨[28, 3], [34], fun x => Go.Models.ref21_refused x.1 x.2⟩),
  (40, ⟨[28, 3], [3], fun x => Go.Models.ref21_Delay x.1 x.2⟩),
  (41, ⟨[3], [3], fun x => Go.Models.ref21_down x⟩),
  (28, ⟨[28, 3], [28], fun x => Go.Models.ref21_Updated x.1 x.2⟩),
  (29, ⟨[28, 24, 3], [28], fun x => Go.Models.ref18_With x.1 x.2.1 x.2.2⟩),
  (42, ⟨[26], [26, 26], fun x => Go.Models.ref17_Next x⟩),
  (30, ⟨[26, 3], [3, 26, 34], fun x => Go.Models.ref17_Below x.1 x.2⟩),
  (13, ⟨[28, 30, 3], [28, 33, 34], fun x => Go.Models.ref21_Put x.1 x.2.1 x.2.2⟩),
  (15, ⟨[28, 3], [28, 30, 4, 33, 34], fun x => Go.Models.ref21_Take x.1 x.2⟩),
  (22, ⟨[43, 43], [4], fun x => Go.Models.ref18_SameList x.1 x.2⟩),
  (18, ⟨[28, 28], [4], fun x => Go.Models.ref18_Same x.1 x.2⟩),
  (3, ⟨[28, 30, 3], [4], fun x => Go.Models.law21_IntegralMatchesReference x.1 x.2.1 x.2.2⟩),
  (5, ⟨[28, 30, 3], [4], fun x => Go.Models.law21_IntegralCalm x.1 x.2.1 x.2.2⟩),
  (6, ⟨[28, 30, 3], [4], fun x => Go.Models.law21_IntegralCertain x.1 x.2.1 x.2.2⟩),
  (7, ⟨[28, 3], [4], fun x => Go.Models.law21_IntegralDirection x.1 x.2⟩),
  (8, ⟨[28, 30, 3], [4], fun x => Go.Models.law21_IntegralPeriod x.1 x.2.1 x.2.2⟩),
  (9, ⟨[28, 30, 5], [4], fun x => Go.Models.law21_IntegralRises x.1 x.2.1 x.2.2⟩),
  (21, ⟨[30, 30], [4], fun x => Go.Models.law21_marked x.1 x.2⟩),
  (4, ⟨[28, 42], [4], fun x => Go.Models.law21_IntegralConserves x.1 x.2⟩)]
noncomputable abbrev S (n : Nat) : SCtx := mkS C T memo (Go.PI.look2 hints) roll sums n owns
theorem s0 : (S 0).Ok := mkS_zero TOk QOk ZOk ownsOk
theorem s1 : (S 1).Ok := mkS_next s0 (f := 23) rfl rfl rfl 400 (fun x => by kernel_rfl)
theorem s2 : (S 2).Ok := mkS_next s1 (f := 36) rfl rfl rfl 400 (fun x => by kernel_rfl)
theorem s3 : (S 3).Ok := mkS_next s2 (f := 24) rfl rfl rfl 400 (fun x => by kernel_rfl)
theorem s4 : (S 4).Ok := mkS_next s3 (f := 31) rfl rfl rfl 400 (fun x => by kernel_rfl)
theorem s5 : (S 5).Ok := mkS_next s4 (f := 45) rfl rfl rfl 400 (fun x => by kernel_rfl)
theorem s6 : (S 6).Ok := mkS_next s5 (f := 48) rfl rfl rfl 400 (fun x => by kernel_rfl)
theorem s7 : (S 7).Ok := mkS_next s6 (f := 47) rfl rfl rfl 400 (fun x => by kernel_rfl)
theorem s8 : (S 8).Ok := mkS_next s7 (f := 39) rfl rfl rfl 400 (fun x => by kernel_rfl)
theorem s9 : (S 9).Ok := mkS_next s8 (f := 26) rfl rfl rfl 400 (fun x => by kernel_rfl)
theorem s10 : (S 10).Ok := mkS_next s9 (f := 12) rfl rfl rfl 400 (fun x => by kernel_rfl)
theorem s11 : (S 11).Ok := mkS_next s10 (f := 14) rfl rfl rfl 400 (fun x => by kernel_rfl)
theorem s12 : (S 12).Ok := mkS_next s11 (f := 19) rfl rfl rfl 400 (fun x => by kernel_rfl)
theorem s13 : (S 13).Ok := mkS_next s12 (f := 16) rfl rfl rfl 400 (fun x => by kernel_rfl)
theorem s14 : (S 14).Ok := mkS_step s13 (f := 10) rfl hand10
theorem s15 : (S 15).Ok := mkS_next s14 (f := 11) rfl rfl rfl 400 (fun x => by kernel_rfl)
theorem s16 : (S 16).Ok := mkS_next s15 (f := 35) rfl rfl rfl 400 (fun x => by kernel_rfl)
theorem s17 : (S 17).Ok := mkS_next s16 (f := 33) rfl rfl rfl 400 (fun x => by kernel_rfl)
theorem s18 : (S 18).Ok := mkS_next s17 (f := 20) rfl rfl rfl 400 (fun x => by kernel_rfl)
theorem s19 : (S 19).Ok := mkS_next s18 (f := 32) rfl rfl rfl 400 (fun x => by kernel_rfl)
theorem s20 : (S 20).Ok := mkS_next s19 (f := 34) rfl rfl rfl 400 (fun x => by kernel_rfl)
theorem s21 : (S 21).Ok := mkS_next s20 (f := 17) rfl rfl rfl 400 (fun x => by kernel_rfl)
theorem s22 : (S 22).Ok := mkS_next s21 (f := 27) rfl rfl rfl 400 (fun x => by kernel_rfl)
theorem s23 : (S 23).Ok := mkS_next s22 (f := 40) rfl rfl rfl 400 (fun x => by kernel_rfl)
theorem s24 : (S 24).Ok := mkS_next s23 (f := 41) rfl rfl rfl 400 (fun x => by kernel_rfl)
theorem s25 : (S 25).Ok := mkS_next s24 (f := 28) rfl rfl rfl 400 (fun x => by kernel_rfl)
theorem s26 : (S 26).Ok := mkS_next s25 (f := 29) rfl rfl rfl 400 (fun x => by kernel_rfl)
theorem s27 : (S 27).Ok := mkS_next s26 (f := 42) rfl rfl rfl 400 (fun x => by kernel_rfl)
theorem s28 : (S 28).Ok := mkS_next s27 (f := 30) rfl rfl rfl 400 (fun x => by kernel_rfl)
theorem s29 : (S 29).Ok := mkS_next s28 (f := 13) rfl rfl rfl 400 (fun x => by kernel_rfl)
theorem s30 : (S 30).Ok := mkS_next s29 (f := 15) rfl rfl rfl 400 (fun x => by kernel_rfl)
theorem s31 : (S 31).Ok := mkS_next s30 (f := 22) rfl rfl rfl 400 (fun x => by kernel_rfl)
theorem s32 : (S 32).Ok := mkS_next s31 (f := 18) rfl rfl rfl 400 (fun x => by kernel_rfl)
theorem s33 : (S 33).Ok := mkS_next s32 (f := 3) rfl rfl rfl 400 (fun x => by kernel_rfl)
theorem s34 : (S 34).Ok := mkS_next s33 (f := 5) rfl rfl rfl 400 (fun x => by kernel_rfl)
theorem s35 : (S 35).Ok := mkS_next s34 (f := 6) rfl rfl rfl 400 (fun x => by kernel_rfl)
theorem s36 : (S 36).Ok := mkS_next s35 (f := 7) rfl rfl rfl 400 (fun x => by kernel_rfl)
theorem s37 : (S 37).Ok := mkS_next s36 (f := 8) rfl rfl rfl 400 (fun x => by kernel_rfl)
theorem s38 : (S 38).Ok := mkS_next s37 (f := 9) rfl rfl rfl 400 (fun x => by kernel_rfl)
theorem s39 : (S 39).Ok := mkS_next s38 (f := 21) rfl rfl rfl 400 (fun x => by kernel_rfl)
theorem s40 : (S 40).Ok := mkS_next s39 (f := 4) rfl rfl rfl 400 (fun x => by kernel_rfl)
end Go.Proofs.YtfjkpjgbigcpiaaDoor
end

section
set_option linter.unusedVariables false
set_option maxRecDepth 100000
namespace Go.Proofs.YtfjkpjgbigcpiaaDoor
open Go.PI Go.Pl

theorem few_eq (q : Queue) (hq : q.Lists.length ≤ 2 ^ 63 - 1) : Models.ref18_Few q = some (bif q.Lists.all (fun l => decide (l.length ≤ 600)) then decide ((q.Lists.length : Int) ≤ 20) else false) := by
  unfold Models.ref18_Few
  rw [loop_list q.Lists (fun i => ((false, (i : Int)) : Bool × Int)) (fun l => decide (l.length ≤ 600)) (.inl false) (.inr (false, (q.Lists.length : Int)))]
  · cases q.Lists.all (fun l => decide (l.length ≤ 600)) <;> rfl
  · intro i hi
    have h1 : ((i : Int) < (q.Lists.length : Int)) := by omega
    simp only [h1, decide_true, cond_true, Int.natCast_nonneg, Int.toNat_natCast, List.getElem?_eq_getElem hi, Option.bind_some, wrap_succ hi hq]
    by_cases h6 : (q.Lists[i]).length ≤ 600
    · have : ¬ ((600 : Int) < ((q.Lists[i]).length : Int)) := by omega
      simp only [this, h6, decide_true, decide_false, cond_true, cond_false]
    · have : ((600 : Int) < ((q.Lists[i]).length : Int)) := by omega
      simp only [this, h6, decide_true, decide_false, cond_true, cond_false]
  · simp
  · rfl

theorem bif_and {a b : Bool} : (bif a then some b else some false) = some (a && b) := by cases a <;> rfl
theorem bif_nand {a b : Bool} : (bif a then some false else some b) = some (!a && b) := by cases a <;> rfl

theorem inside_eq (n lo hi : Int) : Models.integral_inside n lo hi = some (decide (lo ≤ n) && decide (n ≤ hi)) := bif_and
theorem number_eq (n : Int) : Models.ref18_number n = some (decide (0 ≤ n) && decide (n ≤ 1000000000)) := bif_and
theorem time_eq (n : Int) : Models.ref18_Time n = some (decide (0 ≤ n) && decide (n ≤ 10000000)) := bif_and

def okT (n : Int) : Bool := decide (0 ≤ n) && decide (n ≤ 10000000)
def okP (p : Packet) : Bool := (decide (0 ≤ p.Flow) && decide (p.Flow ≤ 7)) && ((decide (0 ≤ p.Sub) && decide (p.Sub ≤ 3)) && ((decide (0 ≤ p.Number) && decide (p.Number ≤ 1000000000)) &&
  ((decide (0 ≤ p.Data) && decide (p.Data ≤ 1000000000)) && ((decide (1 ≤ p.Size) && decide (p.Size ≤ 10000)) && okT p.Sent))))

theorem tpacket_eq (p : Packet) : Models.integral_packet p = some (okP p) := by
  unfold Models.integral_packet
  simp only [inside_eq, Option.bind_some, bif_and]
  rfl
theorem rpacket_eq (p : Packet) : Models.ref18_Packet p = some (okP p) := by
  unfold Models.ref18_Packet
  simp only [number_eq, time_eq, Option.bind_some, bif_and, Option.some.injEq]
  unfold okP okT
  have h1 : decide (p.Flow < 8) = decide (p.Flow ≤ 7) := decide_eq_decide.2 (by omega)
  have h2 : decide (p.Sub < 4) = decide (p.Sub ≤ 3) := decide_eq_decide.2 (by omega)
  rw [h1, h2]
  simp only [Bool.and_assoc]

/-- Two lists place by place. -/
theorem all_zip {α β : Type} (q : α × β → Bool) (a : List α) (b : List β) : ∀ i (h : i < (a.zip b).length), (a.zip b)[i] = (a[i]'(by simp at h; omega), b[i]'(by simp at h; omega)) := by
  intro i h; simp

instance : DecidableEq Packet := fun a b =>
  decidable_of_iff (a.Flow = b.Flow ∧ a.Sub = b.Sub ∧ a.Number = b.Number ∧ a.Data = b.Data ∧ a.Size = b.Size ∧ a.Sent = b.Sent ∧ a.Able = b.Able ∧ a.Marked = b.Marked) (by cases a; cases b; simp)

theorem packets_self (a : List Packet) (ha : a.length ≤ 2 ^ 63 - 1) : Models.ref18_Packets a a = some true := by
  unfold Models.ref18_Packets
  rw [loop_list a (fun i => ((false, (i : Int)) : Bool × Int)) (fun _ => true) (.inl false) (.inr (false, (a.length : Int)))]
  · have : a.all (fun _ => true) = true := by simp
    simp [this]
  · intro i hi
    have h1 : ((i : Int) < (a.length : Int)) := by omega
    simp [h1, Int.natCast_nonneg, List.getElem?_eq_getElem hi, wrap_succ hi ha]
  · simp
  · rfl

theorem samelist_self (a : List Queued) (ha : a.length ≤ 2 ^ 63 - 1) : Models.ref18_SameList a a = some true := by
  unfold Models.ref18_SameList
  rw [loop_list a (fun i => ((false, (i : Int)) : Bool × Int)) (fun _ => true) (.inl false) (.inr (false, (a.length : Int)))]
  · have : a.all (fun _ => true) = true := by simp
    simp [this]
  · intro i hi
    have h1 : ((i : Int) < (a.length : Int)) := by omega
    simp [h1, Int.natCast_nonneg, List.getElem?_eq_getElem hi, wrap_succ hi ha]
  · simp
  · rfl

theorem same_self (a : Queue) (ha : a.Lists.length ≤ 2 ^ 63 - 1) (hl : ∀ l ∈ a.Lists, l.length ≤ 2 ^ 63 - 1) : Models.ref18_Same a a = some true := by
  unfold Models.ref18_Same
  rw [loop_list a.Lists (fun i => ((false, (i : Int)) : Bool × Int)) (fun _ => true) (.inl false) (.inr (false, (a.Lists.length : Int)))]
  · have : a.Lists.all (fun _ => true) = true := by simp
    simp [this]
  · intro i hi
    have h1 : ((i : Int) < (a.Lists.length : Int)) := by omega
    simp [h1, Int.natCast_nonneg, List.getElem?_eq_getElem hi, wrap_succ hi ha, samelist_self _ (hl _ (List.getElem_mem hi))]
  · simp
  · rfl

/-- What waits is in order. -/
def ordFrom (e7 : Int) : Int → List Queued → Bool
  | _, [] => true
  | t, x :: xs => !decide (x.At < t) && (!decide (e7 < x.At) && (okP x.P && ordFrom e7 x.At xs))

def ordP (e7 : Int) (l : List Queued) (i : Nat) : Bool :=
  match l[i]? with
  | none => true
  | some x => !decide (x.At < (if i = 0 then 0 else (l[i - 1]?.map (·.At)).getD 0)) && (!decide (e7 < x.At) && okP x.P)

def refP (last : Int) (l : List Queued) (i : Nat) : Bool :=
  match l[i]? with
  | none => true
  | some x => okP x.P && (okT x.At && (!decide (last < x.At) && !(decide (0 < i) && decide (x.At < (l[i - 1]?.map (·.At)).getD 0))))

theorem rlist_eq (l : List Queued) (last : Int) (hl : l.length ≤ 2 ^ 63 - 1) : Models.ref18_List l last = some ((List.range l.length).all (refP last l)) := by
  have key : ∀ f : Bool × Int → Option (Bool × Int ⊕ (Bool ⊕ Bool × Int)), (∀ i, i < l.length → f (false, (i : Int)) = some (bif refP last l i then .inl (false, ((i + 1 : Nat) : Int)) else .inr (.inl false))) →
      f (false, (l.length : Int)) = some (.inr (.inr (false, (l.length : Int)))) →
      ((loopM f (false, 0)).bind fun w10 => Sum.elim (fun b11 => some b11) (fun ((b12, i13) : Bool × Int) => some true) w10) = some ((List.range l.length).all (refP last l)) := by
    intro f h he
    have := loop_all (f := f) (fun i => ((false, (i : Int)) : Bool × Int)) (refP last l) (fun _ => .inl false) l.length (.inr (false, (l.length : Int))) h he
    rcases this with ⟨h1, h2⟩ | ⟨h1, i, hi, _, h2⟩
    · rw [h1]
      have h2' : loopM f (false, 0) = some (.inr (false, (l.length : Int))) := h2
      rw [h2']; rfl
    · rw [h1]
      have h2' : loopM f (false, 0) = some (.inl false) := h2
      rw [h2']; rfl
  unfold Models.ref18_List
  apply key
  · intro i hi
    have h1 : ((i : Int) < (l.length : Int)) := by omega
    by_cases h0 : i = 0
    · subst h0
      have hz : ¬ ((0 : Int) < ((0 : Nat) : Int)) := by simp
      simp only [h1, decide_true, cond_true, Int.natCast_nonneg, Int.toNat_natCast, List.getElem?_eq_getElem hi, Option.bind_some, wrap_succ hi hl, rpacket_eq, time_eq, refP, hz, decide_false, cond_false, Nat.lt_irrefl, Bool.false_and, Bool.not_false, Bool.and_true]
      show _ = some (bif okP l[0].P && (okT l[0].At && !decide (last < l[0].At)) then _ else _)
      unfold okT
      cases okP l[0].P <;> cases (decide (0 ≤ l[0].At) && decide (l[0].At ≤ 10000000)) <;> cases decide (last < l[0].At) <;> rfl
    · have hz : ((0 : Int) < (i : Int)) := by omega
      have hz2 : 0 < i := by omega
      have hw : IntKind.i64.wrap ((i : Int) - 1) = ((i - 1 : Nat) : Int) := by
        rw [IntWalk.i64_in _ (by omega)]; omega
      have hi2 : i - 1 < l.length := by omega
      simp only [h1, decide_true, cond_true, Int.natCast_nonneg, Int.toNat_natCast, List.getElem?_eq_getElem hi, List.getElem?_eq_getElem hi2, Option.bind_some, wrap_succ hi hl, rpacket_eq, time_eq, refP, hz, hz2, hw, decide_true, Bool.true_and, Option.map_some, Option.getD_some]
      unfold okT
      cases okP l[i].P <;> cases (decide (0 ≤ l[i].At) && decide (l[i].At ≤ 10000000)) <;> cases decide (last < l[i].At) <;> cases decide (l[i].At < l[i - 1].At) <;> rfl
  · simp

theorem ord_ref (e7 : Int) (l : List Queued) (h : okT e7 = true) : (List.range l.length).all (ordP e7 l) = (List.range l.length).all (refP e7 l) := by
  simp only [okT, Bool.and_eq_true, decide_eq_true_eq] at h
  rw [Bool.eq_iff_iff, List.all_eq_true, List.all_eq_true]
  constructor
  · intro hp
    have hge : ∀ i (hi : i < l.length), 0 ≤ l[i].At := by
      intro i
      induction i with
      | zero =>
        intro hi
        have := hp 0 (List.mem_range.2 hi)
        simp only [ordP, List.getElem?_eq_getElem hi, if_true, Bool.and_eq_true, Bool.not_eq_true', decide_eq_false_iff_not] at this
        omega
      | succ i ih =>
        intro hi
        have := hp (i + 1) (List.mem_range.2 hi)
        have hi2 : i < l.length := by omega
        have := ih hi2
        simp only [ordP, List.getElem?_eq_getElem hi, List.getElem?_eq_getElem hi2, Nat.add_sub_cancel, Nat.succ_ne_zero, if_false, Option.map_some, Option.getD_some, Bool.and_eq_true, Bool.not_eq_true', decide_eq_false_iff_not] at *
        omega
    intro i hi
    have hi' := List.mem_range.1 hi
    have h0 := hge i hi'
    have := hp i hi
    by_cases hz : i = 0
    · subst hz
      simp only [ordP, refP, okT, List.getElem?_eq_getElem hi', if_true, Bool.and_eq_true, Bool.not_eq_true', decide_eq_false_iff_not, decide_eq_true_eq, Nat.lt_irrefl, decide_false, Bool.false_and] at *
      exact ⟨this.2.2, ⟨h0, by omega⟩, this.2.1, trivial⟩
    · have hi2 : i - 1 < l.length := by omega
      simp only [ordP, refP, okT, List.getElem?_eq_getElem hi', List.getElem?_eq_getElem hi2, hz, if_false, Option.map_some, Option.getD_some, Bool.and_eq_true, Bool.not_eq_true', decide_eq_false_iff_not, decide_eq_true_eq, Bool.and_eq_false_iff] at *
      exact ⟨this.2.2, ⟨h0, by omega⟩, this.2.1, .inr this.1⟩
  · intro hp i hi
    have hi' := List.mem_range.1 hi
    have := hp i hi
    by_cases hz : i = 0
    · subst hz
      simp only [ordP, refP, okT, List.getElem?_eq_getElem hi', if_true, Bool.and_eq_true, Bool.not_eq_true', decide_eq_false_iff_not, decide_eq_true_eq] at *
      exact ⟨by omega, this.2.2.1, this.1⟩
    · have hi2 : i - 1 < l.length := by omega
      have hz2 : 0 < i := by omega
      simp only [ordP, refP, okT, List.getElem?_eq_getElem hi', List.getElem?_eq_getElem hi2, hz, hz2, if_false, Option.map_some, Option.getD_some, Bool.and_eq_true, Bool.not_eq_true', decide_eq_false_iff_not, decide_eq_true_eq, Bool.and_eq_false_iff, decide_true] at *
      refine ⟨?_, this.2.2.1, this.1⟩
      rcases this.2.2.2 with h | h
      · simp at h
      · omega


def ordB (q : Queue) (l : List Queued) : Bool := (List.range l.length).all (ordP q.Vars.e7 l)

def vB (q : Queue) : Bool :=
  (q.Policy.Kind == 4) && ((decide (1 ≤ q.Policy.A) && decide (q.Policy.A ≤ 1000000)) && ((decide (0 ≤ q.Policy.B) && decide (q.Policy.B ≤ 1000)) && ((decide (0 ≤ q.Policy.C) && decide (q.Policy.C ≤ 1000)) &&
    ((decide (1 ≤ q.Room) && decide (q.Room ≤ 500)) && (match q.Lists with
      | [l] => decide ((l.length : Int) ≤ q.Room) && (okT q.Vars.e7 && ((decide (0 ≤ q.Vars.e0) && decide (q.Vars.e0 ≤ 1000000)) && ((decide (0 ≤ q.Vars.e1) && decide (q.Vars.e1 ≤ q.Vars.e7)) &&
          (okT q.Vars.e2 && ((q.Vars.e3 == 0 && (q.Vars.e4 == 0 && (q.Vars.e5 == 0 && q.Vars.e6 == 0))) && ordB q l)))))
      | _ => false)))))

theorem dec_not {a b : Int} : decide (b < a) = !decide (a ≤ b) := by
  by_cases h : a ≤ b
  · have : ¬ b < a := by omega
    simp [h, this]
  · have : b < a := by omega
    simp [h, this]

/-- The program's walk over what waits. -/
theorem walk_eq (e7 : Int) (l : List Queued) (hl : l.length ≤ 2 ^ 63 - 1) (f : Int × Int × Int → Option ((Int × Int × Int) ⊕ ((Int × Int) ⊕ (Int × Int × Int))))
    (hf : ∀ (i : Nat) (hi : i < l.length) (t : Int), f (0, (i : Int), t) = some (bif decide (t ≤ l[i].At) && decide (l[i].At ≤ e7) then (bif !okP l[i].P then .inr (.inl ((i : Int), l[i].At)) else .inl (0, ((i + 1 : Nat) : Int), l[i].At)) else .inr (.inl ((i : Int), l[i].At))))
    (he : ∀ t, f (0, (l.length : Int), t) = some (.inr (.inr (0, (l.length : Int), t)))) :
    ((loopM f (0, 0, 0)).bind fun w => Sum.elim (fun (x : Int × Int) => some (!decide (0 ≤ x.1))) (fun (_ : Int × Int × Int) => some true) w) = some ((List.range l.length).all (ordP e7 l)) := by
  have := loop_all (f := f) (fun i => ((0, (i : Int), if i = 0 then 0 else (l[i - 1]?.map (·.At)).getD 0) : Int × Int × Int)) (ordP e7 l)
      (fun i => .inl ((i : Int), (l[i]?.map (·.At)).getD 0)) l.length (.inr (0, (l.length : Int), if l.length = 0 then 0 else (l[l.length - 1]?.map (·.At)).getD 0)) ?_ (he _)
  · rcases this with ⟨h1, h2⟩ | ⟨h1, i, hi, _, h2⟩
    · rw [h1]
      have h2' : loopM f (0, 0, 0) = _ := h2
      rw [h2']
      rfl
    · rw [h1]
      have h2' : loopM f (0, 0, 0) = _ := h2
      rw [h2']
      simp
  · intro i hi
    have hne : i + 1 ≠ 0 := by omega
    simp only [hf i hi, ordP, hne, if_false, Nat.add_sub_cancel, List.getElem?_eq_getElem hi, Option.map_some, Option.getD_some, dec_not, Bool.not_not]
    cases decide ((if i = 0 then 0 else (Option.map (fun x => x.At) l[i - 1]?).getD 0) ≤ l[i].At) <;> cases decide (l[i].At ≤ e7) <;> cases okP l[i].P <;> rfl

theorem tv_eq (q : Queue) (hl : ∀ l ∈ q.Lists, l.length ≤ 2 ^ 63 - 1) : Models.integral_state_valid q = some (vB q) := by
  unfold Models.integral_state_valid vB
  have ht : ∀ n, (decide (0 ≤ n) && decide (n ≤ 10000000)) = okT n := fun _ => rfl
  simp only [inside_eq, Option.bind_some, ht]
  match hq : q.Lists with
  | [] =>
    have : ((([] : List (List Queued)).length : Int) == 1) = false := by simp
    rw [this]
    cases (q.Policy.Kind == 4) <;> cases (decide (1 ≤ q.Policy.A) && decide (q.Policy.A ≤ 1000000)) <;> cases (decide (0 ≤ q.Policy.B) && decide (q.Policy.B ≤ 1000)) <;> cases (decide (0 ≤ q.Policy.C) && decide (q.Policy.C ≤ 1000)) <;> cases (decide (1 ≤ q.Room) && decide (q.Room ≤ 500)) <;> rfl
  | a :: b :: r =>
    have : (((a :: b :: r).length : Int) == 1) = false := by simp; omega
    rw [this]
    cases (q.Policy.Kind == 4) <;> cases (decide (1 ≤ q.Policy.A) && decide (q.Policy.A ≤ 1000000)) <;> cases (decide (0 ≤ q.Policy.B) && decide (q.Policy.B ≤ 1000)) <;> cases (decide (0 ≤ q.Policy.C) && decide (q.Policy.C ≤ 1000)) <;> cases (decide (1 ≤ q.Room) && decide (q.Room ≤ 500)) <;> rfl
  | [l] =>
    have : ((([l] : List (List Queued)).length : Int) == 1) = true := by simp
    have hg : [l][Int.toNat 0]? = some l := rfl
    have hl' : l.length ≤ 2 ^ 63 - 1 := hl l (by rw [hq]; simp)
    simp only [this, hg, Option.bind_some]
    rw [walk_eq q.Vars.e7 l hl']
    · rw [dec_not]
      show _ = some ((q.Policy.Kind == 4) && ((decide (1 ≤ q.Policy.A) && decide (q.Policy.A ≤ 1000000)) && ((decide (0 ≤ q.Policy.B) && decide (q.Policy.B ≤ 1000)) && ((decide (0 ≤ q.Policy.C) && decide (q.Policy.C ≤ 1000)) && ((decide (1 ≤ q.Room) && decide (q.Room ≤ 500)) && (decide ((l.length : Int) ≤ q.Room) && (okT q.Vars.e7 && ((decide (0 ≤ q.Vars.e0) && decide (q.Vars.e0 ≤ 1000000)) && ((decide (0 ≤ q.Vars.e1) && decide (q.Vars.e1 ≤ q.Vars.e7)) && (okT q.Vars.e2 && ((q.Vars.e3 == 0 && (q.Vars.e4 == 0 && (q.Vars.e5 == 0 && q.Vars.e6 == 0))) && (List.range l.length).all (ordP q.Vars.e7 l))))))))))))
      cases (q.Policy.Kind == 4) <;> cases (decide (1 ≤ q.Policy.A) && decide (q.Policy.A ≤ 1000000)) <;> cases (decide (0 ≤ q.Policy.B) && decide (q.Policy.B ≤ 1000)) <;> cases (decide (0 ≤ q.Policy.C) && decide (q.Policy.C ≤ 1000)) <;> cases (decide (1 ≤ q.Room) && decide (q.Room ≤ 500)) <;> try rfl
      cases decide ((l.length : Int) ≤ q.Room) <;> cases okT q.Vars.e7 <;> cases (decide (0 ≤ q.Vars.e0) && decide (q.Vars.e0 ≤ 1000000)) <;> cases (decide (0 ≤ q.Vars.e1) && decide (q.Vars.e1 ≤ q.Vars.e7)) <;> try rfl
      cases okT q.Vars.e2 <;> cases (q.Vars.e3 == 0 && (q.Vars.e4 == 0 && (q.Vars.e5 == 0 && q.Vars.e6 == 0))) <;> rfl
    · intro i hi t
      have h1 : ((i : Int) < (l.length : Int)) := by omega
      simp only [h1, decide_true, cond_true, Int.natCast_nonneg, Int.toNat_natCast, List.getElem?_eq_getElem hi, Option.bind_some, tpacket_eq, wrap_succ hi hl']
      cases (decide (t ≤ l[i].At) && decide (l[i].At ≤ q.Vars.e7)) <;> cases okP l[i].P <;> rfl
    · intro t
      have h1 : ¬ ((l.length : Int) < (l.length : Int)) := by omega
      simp only [h1, decide_false, cond_false]

end Go.Proofs.YtfjkpjgbigcpiaaDoor
end

section
set_option linter.unusedVariables false
set_option maxRecDepth 100000
namespace Go.Proofs.YtfjkpjgbigcpiaaDoor
open Go.PI Go.Pl

theorem policy_eq (p : Policy) : Models.ref21_policy p = some ((p.Kind == 4) && ((decide (1 ≤ p.A) && decide (p.A ≤ 1000000)) && ((decide (0 ≤ p.B) && decide (p.B ≤ 1000)) && (decide (0 ≤ p.C) && decide (p.C ≤ 1000))))) := by
  unfold Models.ref21_policy
  cases (p.Kind == 4) <;> cases decide (1 ≤ p.A) <;> cases decide (p.A ≤ 1000000) <;> cases decide (0 ≤ p.B) <;> cases decide (p.B ≤ 1000) <;> cases decide (0 ≤ p.C) <;> rfl

theorem rvars_eq (q : Queue) {K : Bool × Int → Option Bool} {f : Bool × Int → Option (Bool × Int ⊕ (Bool ⊕ Bool × Int))}
    (h : ∀ (i : Nat) (hi : i < 4), f (false, ((i + 3 : Nat) : Int)) = some (bif ([q.Vars.e3, q.Vars.e4, q.Vars.e5, q.Vars.e6][i]'(by simpa using hi)) == 0 then .inl (false, ((i + 3 + 1 : Nat) : Int)) else .inr (.inl false)))
    (he : f (false, 7) = some (.inr (.inr (false, 7)))) :
    ((loopM f (false, 3)).bind fun w4 => Sum.elim (fun b5 => some b5) K w4) = bif (q.Vars.e3 == 0 && (q.Vars.e4 == 0 && (q.Vars.e5 == 0 && q.Vars.e6 == 0))) then K (false, 7) else some false := by
  rw [loop_list [q.Vars.e3, q.Vars.e4, q.Vars.e5, q.Vars.e6] (fun i => ((false, ((i + 3 : Nat) : Int)) : Bool × Int)) (· == 0) (.inl false) (.inr (false, 7))]
  · have : [q.Vars.e3, q.Vars.e4, q.Vars.e5, q.Vars.e6].all (· == 0) = (q.Vars.e3 == 0 && (q.Vars.e4 == 0 && (q.Vars.e5 == 0 && q.Vars.e6 == 0))) := by simp [List.all_cons]
    rw [this]
    cases (q.Vars.e3 == 0 && (q.Vars.e4 == 0 && (q.Vars.e5 == 0 && q.Vars.e6 == 0))) <;> rfl
  · intro i hi
    have := h i (by simpa using hi)
    rw [this]
  · exact he
  · rfl

def rB (q : Queue) : Bool :=
  ((q.Policy.Kind == 4) && ((decide (1 ≤ q.Policy.A) && decide (q.Policy.A ≤ 1000000)) && ((decide (0 ≤ q.Policy.B) && decide (q.Policy.B ≤ 1000)) && (decide (0 ≤ q.Policy.C) && decide (q.Policy.C ≤ 1000))))) &&
    (decide (1 ≤ q.Room) && (decide (q.Room ≤ 500) && (match q.Lists with
      | [l] => okT q.Vars.e7 && (decide (0 ≤ q.Vars.e0) && (decide (q.Vars.e0 ≤ 1000000) && (okT q.Vars.e1 && (decide (q.Vars.e1 ≤ q.Vars.e7) && (okT q.Vars.e2 &&
        ((q.Vars.e3 == 0 && (q.Vars.e4 == 0 && (q.Vars.e5 == 0 && q.Vars.e6 == 0))) && (decide ((l.length : Int) ≤ q.Room) && (List.range l.length).all (refP q.Vars.e7 l))))))))
      | _ => false)))

theorem rv_eq0 (q : Queue) (hl : ∀ l ∈ q.Lists, l.length ≤ 2 ^ 63 - 1) : Models.ref21_Valid q = some (rB q) := by
  unfold Models.ref21_Valid rB
  have ht : ∀ n, (decide (0 ≤ n) && decide (n ≤ 10000000)) = okT n := fun _ => rfl
  simp only [policy_eq, time_eq, Option.bind_some, ht, dec_not]
  generalize ((q.Policy.Kind == 4) && ((decide (1 ≤ q.Policy.A) && decide (q.Policy.A ≤ 1000000)) && ((decide (0 ≤ q.Policy.B) && decide (q.Policy.B ≤ 1000)) && (decide (0 ≤ q.Policy.C) && decide (q.Policy.C ≤ 1000))))) = pb
  rw [rvars_eq q]
  · match hq : q.Lists with
    | [] =>
      have : ((([] : List (List Queued)).length : Int) == 1) = false := by simp
      rw [this]
      cases pb <;> cases decide (1 ≤ q.Room) <;> cases decide (q.Room ≤ 500) <;> rfl
    | a :: b :: r =>
      have : (((a :: b :: r).length : Int) == 1) = false := by simp; omega
      rw [this]
      cases pb <;> cases decide (1 ≤ q.Room) <;> cases decide (q.Room ≤ 500) <;> rfl
    | [l] =>
      have : ((([l] : List (List Queued)).length : Int) == 1) = true := by simp
      have hg : [l][Int.toNat 0]? = some l := rfl
      simp only [this, hg, Option.bind_some, rlist_eq l _ (hl l (by rw [hq]; simp))]
      cases pb <;> cases decide (1 ≤ q.Room) <;> cases decide (q.Room ≤ 500) <;> try rfl
      cases okT q.Vars.e7 <;> cases decide (0 ≤ q.Vars.e0) <;> cases decide (q.Vars.e0 ≤ 1000000) <;> cases okT q.Vars.e1 <;> try rfl
      cases decide (q.Vars.e1 ≤ q.Vars.e7) <;> cases okT q.Vars.e2 <;> cases (q.Vars.e3 == 0 && (q.Vars.e4 == 0 && (q.Vars.e5 == 0 && q.Vars.e6 == 0))) <;> cases decide ((l.length : Int) ≤ q.Room) <;> rfl
  · intro i hi
    match i, hi with
    | 0, _ => simp; cases (q.Vars.e3 == 0) <;> rfl
    | 1, _ => simp; cases (q.Vars.e4 == 0) <;> rfl
    | 2, _ => simp; cases (q.Vars.e5 == 0) <;> rfl
    | 3, _ => simp; cases (q.Vars.e6 == 0) <;> rfl
  · simp

theorem rB_eq (q : Queue) : rB q = vB q := by
  unfold rB vB
  match hq : q.Lists with
  | [] => simp
  | a :: b :: r => simp
  | [l] =>
    dsimp only
    cases h7 : okT q.Vars.e7
    · simp
    have hord := ord_ref q.Vars.e7 l h7
    unfold ordB
    rw [hord]
    have h1 : (okT q.Vars.e1 && decide (q.Vars.e1 ≤ q.Vars.e7)) = (decide (0 ≤ q.Vars.e1) && decide (q.Vars.e1 ≤ q.Vars.e7)) := by
      simp only [okT, Bool.and_eq_true, decide_eq_true_eq] at h7
      rw [Bool.eq_iff_iff]
      simp only [okT, Bool.and_eq_true, decide_eq_true_eq]
      omega
    rw [← h1]
    rw [Bool.eq_iff_iff]
    simp only [Bool.and_eq_true]
    constructor
    · rintro ⟨⟨k, a, b, c⟩, r1, r2, _, e0a, e0b, t1, e17, t2, z, ln, od⟩
      exact ⟨k, a, b, c, ⟨r1, r2⟩, ln, trivial, ⟨e0a, e0b⟩, ⟨t1, e17⟩, t2, z, od⟩
    · rintro ⟨k, a, b, c, ⟨r1, r2⟩, ln, _, ⟨e0a, e0b⟩, ⟨t1, e17⟩, t2, z, od⟩
      exact ⟨⟨k, a, b, c⟩, r1, r2, trivial, e0a, e0b, t1, e17, t2, z, ln, od⟩

theorem rv_eq (q : Queue) (hl : ∀ l ∈ q.Lists, l.length ≤ 2 ^ 63 - 1) : Models.ref21_Valid q = some (vB q) := by rw [rv_eq0 q hl, rB_eq]

/-- What a valid queue is. -/
structure Good (q : Queue) (l : List Queued) : Prop where
  lists : q.Lists = [l]
  a : 1 ≤ q.Policy.A ∧ q.Policy.A ≤ 1000000
  b : 0 ≤ q.Policy.B ∧ q.Policy.B ≤ 1000
  c : 0 ≤ q.Policy.C ∧ q.Policy.C ≤ 1000
  room : 1 ≤ q.Room ∧ q.Room ≤ 500
  len : (l.length : Int) ≤ q.Room
  e7 : 0 ≤ q.Vars.e7 ∧ q.Vars.e7 ≤ 10000000
  e0 : 0 ≤ q.Vars.e0 ∧ q.Vars.e0 ≤ 1000000
  e1 : 0 ≤ q.Vars.e1 ∧ q.Vars.e1 ≤ q.Vars.e7
  e2 : 0 ≤ q.Vars.e2 ∧ q.Vars.e2 ≤ 10000000
  ord : ordB q l = true

theorem good_of {q : Queue} (h : vB q = true) : ∃ l, Good q l := by
  unfold vB at h
  simp only [Bool.and_eq_true, decide_eq_true_eq] at h
  obtain ⟨_, ha, hb, hc, hr, hm⟩ := h
  split at hm
  · rename_i l hl
    simp only [Bool.and_eq_true, decide_eq_true_eq, okT] at hm
    obtain ⟨h1, h2, h3, h4, h5, _, h7⟩ := hm
    exact ⟨l, hl, ha, hb, hc, hr, h1, h2, h3, h4, h5, h7⟩
  · simp at hm

theorem first_at {q : Queue} {x : Queued} {xs : List Queued} (h : Good q (x :: xs)) : 0 ≤ x.At ∧ x.At ≤ q.Vars.e7 := by
  have h1 := List.all_eq_true.1 h.ord 0 (List.mem_range.2 (by simp))
  simp only [ordP, List.getElem?_cons_zero, if_true, Bool.and_eq_true, Bool.not_eq_true', decide_eq_false_iff_not] at h1
  omega

def errB (q : Queue) (now : Int) : Int := bif !vB q then 1 else bif !okT now then 1 else bif decide (now < q.Vars.e7) then 18 else 0

theorem refused_eq (q : Queue) (now : Int) (hl : ∀ l ∈ q.Lists, l.length ≤ 2 ^ 63 - 1) : Models.ref21_refused q now = some (errB q now) := by
  unfold Models.ref21_refused
  rw [rv_eq q hl, time_eq]
  simp only [Option.bind_some, errB]
  show _ = some (bif !vB q then 1 else bif !(decide (0 ≤ now) && decide (now ≤ 10000000)) then 1 else bif decide (now < q.Vars.e7) then 18 else 0)
  cases vB q <;> cases (decide (0 ≤ now) && decide (now ≤ 10000000)) <;> cases decide (now < q.Vars.e7) <;> rfl

theorem err_zero {q : Queue} {now : Int} (h : errB q now = 0) : vB q = true ∧ okT now = true ∧ q.Vars.e7 ≤ now := by
  unfold errB at h
  cases hv : vB q
  · rw [hv] at h; simp at h
  cases ht : okT now
  · rw [hv, ht] at h; simp at h
  cases hd : decide (now < q.Vars.e7)
  · simp only [decide_eq_false_iff_not] at hd
    exact ⟨rfl, rfl, by omega⟩
  · rw [hv, ht, hd] at h; simp at h

theorem thou_eq (n : Int) (h : -1000000000000 ≤ n ∧ n ≤ 1000000000000) : Models.integral_thousandth n = some (n / 1000) := by
  unfold Models.integral_thousandth
  by_cases hn : 0 ≤ n
  · have h1 : n.tmod 1000 = n % 1000 := Int.tmod_eq_emod_of_nonneg hn
    have h2 : n.tdiv 1000 = n / 1000 := Int.tdiv_eq_ediv_of_nonneg hn
    have h3 : ¬ n % 1000 < 0 := by omega
    have h4 : IntKind.i64.wrap (n / 1000) = n / 1000 := IntWalk.i64_in _ (by omega)
    simp only [h1, h2, h3, h4, decide_false, cond_false]
  · obtain ⟨m, rfl⟩ : ∃ m, n = -m := ⟨-n, by omega⟩
    have h1 : (-m).tmod 1000 = -(m % 1000) := by rw [Int.neg_tmod, Int.tmod_eq_emod_of_nonneg (by omega)]
    have h2 : (-m).tdiv 1000 = -(m / 1000) := by rw [Int.neg_tdiv, Int.tdiv_eq_ediv_of_nonneg (by omega)]
    have h4 : IntKind.i64.wrap (-(m / 1000)) = -(m / 1000) := IntWalk.i64_in _ (by omega)
    have h5 : IntKind.i64.wrap (-(m / 1000) - 1) = -(m / 1000) - 1 := IntWalk.i64_in _ (by omega)
    simp only [h1, h2, h4, h5]
    by_cases hm : m % 1000 = 0
    · have h3 : ¬ -(m % 1000) < 0 := by omega
      simp only [h3, decide_false, cond_false, Option.some.injEq]
      omega
    · have h3 : -(m % 1000) < 0 := by omega
      simp only [h3, decide_true, cond_true, Option.some.injEq]
      omega

theorem down_eq (n : Int) (h : -1000000000000 ≤ n ∧ n ≤ 1000000000000) : Models.ref21_down n = some (n / 1000) := by
  unfold Models.ref21_down
  by_cases hn : n < 0
  · have h1 : IntKind.i64.wrap (999 - n) = 999 - n := IntWalk.i64_in _ (by omega)
    have h2 : (999 - n).tdiv 1000 = (999 - n) / 1000 := Int.tdiv_eq_ediv_of_nonneg (by omega)
    have h3 : IntKind.i64.wrap ((999 - n) / 1000) = (999 - n) / 1000 := IntWalk.i64_in _ (by omega)
    have h4 : IntKind.i64.wrap (0 - (999 - n) / 1000) = 0 - (999 - n) / 1000 := IntWalk.i64_in _ (by omega)
    simp only [hn, h1, h2, h3, h4, decide_true, cond_true, Option.some.injEq]
    omega
  · have h2 : n.tdiv 1000 = n / 1000 := Int.tdiv_eq_ediv_of_nonneg (by omega)
    have h3 : IntKind.i64.wrap (n / 1000) = n / 1000 := IntWalk.i64_in _ (by omega)
    simp only [hn, h2, h3, decide_false, cond_false]

end Go.Proofs.YtfjkpjgbigcpiaaDoor
end

section
set_option linter.unusedVariables false
set_option maxRecDepth 100000
namespace Go.Proofs.YtfjkpjgbigcpiaaDoor
open Go.PI Go.Pl

theorem loop3 {τ ω : Type} {f : τ → Option (τ ⊕ ω)} {x y z u : τ} {w : ω} (h1 : f x = some (.inl y)) (h2 : f y = some (.inl z)) (h3 : f z = some (.inl u)) (h4 : f u = some (.inr w)) : loopM f x = some w := by
  rw [Go.Pl.next h1, Go.Pl.next h2, Go.Pl.next h3, Go.Pl.out h4]

def mx (x k m : Int) : Int := IntKind.u64.wrap (IntKind.u64.wrap (((BitVec.ofInt 64 x ^^^ BitVec.ofInt 64 (x.fdiv k)).toNat : Nat) : Int) * m)
def sd1 (seed : Int) : Int := IntKind.u64.wrap (seed + 11400714819323198485)
def rx1 (seed : Int) : Int := mx (sd1 seed) (2 ^ min (Int.toNat 30) 64) 13787848793156543929
def rx2 (seed : Int) : Int := mx (rx1 seed) (2 ^ min (Int.toNat 27) 64) 10723151780598845931
def rx3 (seed : Int) : Int := mx (rx2 seed) (2 ^ min (Int.toNat 31) 64) 1

theorem next_eq (seed : Int) : Models.random_Next seed = some (rx3 seed, sd1 seed) := by
  unfold Models.random_Next
  rw [loop3 (y := (rx1 seed, 1)) (z := (rx2 seed, 2)) (u := (rx3 seed, 3)) (w := (rx3 seed, 3)) ?_ ?_ ?_ ?_]
  · rfl
  · rfl
  · rfl
  · rfl
  · rfl

theorem u64_range (n : Int) : 0 ≤ IntKind.u64.wrap n ∧ IntKind.u64.wrap n ≤ 18446744073709551615 := Go.bounds_u64 (Go.wf_wrap _ _)

def rn (seed : Int) : Int := (IntKind.i64.wrap ((rx3 seed).fdiv (2 ^ min (Int.toNat 32) 64))).tmod 1000000

theorem below_eq (seed : Int) : Models.random_Below seed 1000000 = some (rn seed, sd1 seed, 0) := by
  unfold Models.random_Below
  rw [next_eq]
  rfl

theorem rn_range (seed : Int) : 0 ≤ rn seed ∧ rn seed < 1000000 := by
  have hx3 : 0 ≤ rx3 seed ∧ rx3 seed ≤ 18446744073709551615 :=
    u64_range (IntKind.u64.wrap (((BitVec.ofInt 64 (rx2 seed) ^^^ BitVec.ofInt 64 ((rx2 seed).fdiv (2 ^ min (Int.toNat 31) 64))).toNat : Nat) : Int) * 1)
  have hp : ((2 : Int) ^ min (Int.toNat 32) 64) = 4294967296 := rfl
  unfold rn
  rw [hp, Int.fdiv_eq_ediv_of_nonneg _ (by decide), IntWalk.i64_in _ (by omega), Int.tmod_eq_emod_of_nonneg (by omega)]
  omega

/-- How long the first packet has waited. -/
def delayI (q : Queue) (now : Int) : Int := match q.Lists with
  | [x :: _] => now - x.At
  | _ => 0
def clampP (x : Int) : Int := if (if 0 < x then x else 0) < 1000000 then if 0 < x then x else 0 else 1000000
def newP (q : Queue) (now : Int) : Int := clampP (q.Vars.e0 + q.Policy.B * (delayI q now - q.Policy.A) / 1000 + q.Policy.C * (delayI q now - q.Vars.e2) / 1000)

theorem clamp_range (x : Int) : 0 ≤ clampP x ∧ clampP x ≤ 1000000 := by
  unfold clampP
  split <;> split <;> omega

/-- The variables after the update of a call. -/
def u0 (q : Queue) (now : Int) : Int := if now - q.Vars.e1 < 16000 then q.Vars.e0 else newP q now
def u1 (q : Queue) (now : Int) : Int := if now - q.Vars.e1 < 16000 then q.Vars.e1 else now
def u2 (q : Queue) (now : Int) : Int := if now - q.Vars.e1 < 16000 then q.Vars.e2 else delayI q now

def withU (q : Queue) (ls : List (List Queued)) (now seed : Int) : Queue := Queue.mk q.Policy q.Room ls (A8.mk (u0 q now) (u1 q now) (u2 q now) q.Vars.e3 q.Vars.e4 q.Vars.e5 q.Vars.e6 now) seed
def zeroQ : Queue := Queue.mk (Policy.mk 0 0 0 0) 0 [] (A8.mk 0 0 0 0 0 0 0 0) 0
def zeroP : Packet := Packet.mk 0 0 0 0 0 0 false false

theorem delay_range {q : Queue} {l : List Queued} (h : Good q l) {now : Int} (hn : okT now = true) (hle : q.Vars.e7 ≤ now) : 0 ≤ delayI q now ∧ delayI q now ≤ 10000000 := by
  simp only [okT, Bool.and_eq_true, decide_eq_true_eq] at hn
  unfold delayI
  rw [h.lists]
  match l, h with
  | [], _ => simp
  | x :: xs, h =>
    have := first_at h
    show 0 ≤ now - x.At ∧ now - x.At ≤ 10000000
    omega

theorem mul_range {b d : Int} (hb : 0 ≤ b ∧ b ≤ 1000) (hd : -20000000 ≤ d ∧ d ≤ 20000000) : -20000000000 ≤ b * d ∧ b * d ≤ 20000000000 := by
  constructor
  · have h1 : b * (-20000000) ≤ b * d := Int.mul_le_mul_of_nonneg_left hd.1 hb.1
    omega
  · have h1 : b * d ≤ b * 20000000 := Int.mul_le_mul_of_nonneg_left hd.2 hb.1
    omega

theorem tdelay_eq {q : Queue} {l : List Queued} (h : Good q l) {now : Int} (hn : okT now = true) (hle : q.Vars.e7 ≤ now) (sd : Int) : Models.integral_state_delay (Queue.mk q.Policy q.Room [l] q.Vars sd) now = some (delayI q now) := by
  have hr := delay_range h hn hle
  unfold Models.integral_state_delay delayI at *
  rw [h.lists] at hr ⊢
  match l, h with
  | [], _ => rfl
  | x :: xs, h =>
    have hpos : (0 : Int) < ((x :: xs).length : Int) := by simp
    have hg : [x :: xs][Int.toNat 0]? = some (x :: xs) := rfl
    have hg2 : (x :: xs)[Int.toNat 0]? = some x := rfl
    have hw : IntKind.i64.wrap (now - x.At) = now - x.At := IntWalk.i64_in _ (by
      have : 0 ≤ now - x.At ∧ now - x.At ≤ 10000000 := hr
      omega)
    simp only [hg, Option.bind_some, hpos, decide_true, cond_true, hg2, hw]

theorem tupd_eq {q : Queue} {l : List Queued} (h : Good q l) {now : Int} (hn : okT now = true) (hle : q.Vars.e7 ≤ now) (sd : Int) :
    Models.integral_state_update_1 q.Vars.e0 (Queue.mk q.Policy q.Room [l] q.Vars sd) (delayI q now) q.Vars.e2 = some (q.Vars.e0 + q.Policy.B * (delayI q now - q.Policy.A) / 1000 + q.Policy.C * (delayI q now - q.Vars.e2) / 1000) := by
  have hr := delay_range h hn hle
  have ha := h.a
  have h2 := h.e2
  have h0 := h.e0
  unfold Models.integral_state_update_1
  have w1 : IntKind.i64.wrap (delayI q now - q.Policy.A) = delayI q now - q.Policy.A := IntWalk.i64_in _ (by omega)
  have w2 : IntKind.i64.wrap (delayI q now - q.Vars.e2) = delayI q now - q.Vars.e2 := IntWalk.i64_in _ (by omega)
  have m1 := mul_range h.b (d := delayI q now - q.Policy.A) (by omega)
  have m2 := mul_range h.c (d := delayI q now - q.Vars.e2) (by omega)
  show (Models.integral_thousandth (IntKind.i64.wrap (q.Policy.B * IntKind.i64.wrap (delayI q now - q.Policy.A)))).bind (fun i1 => (Models.integral_thousandth (IntKind.i64.wrap (q.Policy.C * IntKind.i64.wrap (delayI q now - q.Vars.e2)))).bind fun i2 => some (IntKind.i64.wrap (IntKind.i64.wrap (q.Vars.e0 + i1) + i2))) = _
  rw [w1, w2]
  generalize q.Policy.B * (delayI q now - q.Policy.A) = y1 at *
  generalize q.Policy.C * (delayI q now - q.Vars.e2) = y2 at *
  have w3 : IntKind.i64.wrap y1 = y1 := IntWalk.i64_in _ (by omega)
  have w4 : IntKind.i64.wrap y2 = y2 := IntWalk.i64_in _ (by omega)
  have w5 : IntKind.i64.wrap (q.Vars.e0 + y1 / 1000) = q.Vars.e0 + y1 / 1000 := IntWalk.i64_in _ (by omega)
  have w6 : IntKind.i64.wrap (q.Vars.e0 + y1 / 1000 + y2 / 1000) = q.Vars.e0 + y1 / 1000 + y2 / 1000 := IntWalk.i64_in _ (by omega)
  rw [w3, w4, thou_eq y1 (by omega), thou_eq y2 (by omega)]
  simp only [Option.bind_some, w5, w6]

end Go.Proofs.YtfjkpjgbigcpiaaDoor
end

section
set_option linter.unusedVariables false
set_option maxRecDepth 100000
namespace Go.Proofs.YtfjkpjgbigcpiaaDoor
open Go.PI Go.Pl

def markP (p : Packet) : Packet := Packet.mk p.Flow p.Sub p.Number p.Data p.Size p.Sent p.Able true

def putR (q : Queue) (p : Packet) (now : Int) : Queue × List Packet × Int :=
  bif !okP p then (zeroQ, [], 1) else bif !errB q now == 0 then (zeroQ, [], errB q now) else
    match q.Lists with
    | [l] => bif (l.length : Int) == q.Room then (withU q [l] now q.Seed, [p], 0) else
        bif decide (rn q.Seed < u0 q now) then (bif !p.Able then (withU q [l] now (sd1 q.Seed), [p], 0) else (withU q [l ++ [Queued.mk (markP p) now]] now (sd1 q.Seed), [], 0))
        else (withU q [l ++ [Queued.mk p now]] now (sd1 q.Seed), [], 0)
    | _ => (zeroQ, [], 0)

theorem clone_eq (l : List Queued) (h : l.length ≤ 1000) : Models.slices_Clone l = some l := by
  unfold Models.slices_Clone cloneM roomM
  have h1 : l.length * 64 ≤ 2 ^ 44 := by omega
  have h2 : l.length ≤ 2 ^ 44 := by omega
  simp only [h1, h2, decide_true, Bool.and_self, cond_true]

theorem tput_eq (q : Queue) (p : Packet) (now : Int) (hl : ∀ l ∈ q.Lists, l.length ≤ 2 ^ 63 - 1) : Models.integral_Put q p now = some (putR q p now) := by
  unfold Models.integral_Put putR
  rw [tpacket_eq, tv_eq q hl, inside_eq]
  have hok : (decide (0 ≤ now) && decide (now ≤ 10000000)) = okT now := rfl
  simp only [Option.bind_some, hok]
  cases hp : okP p
  · rfl
  cases hv : vB q
  · have : errB q now = 1 := by unfold errB; rw [hv]; rfl
    rw [this]; rfl
  cases ht : okT now
  · have : errB q now = 1 := by unfold errB; rw [hv, ht]; rfl
    rw [this]; rfl
  cases hd : decide (now < q.Vars.e7)
  case true =>
    have : errB q now = 18 := by unfold errB; rw [hv, ht, hd]; rfl
    rw [this]; rfl
  have he : errB q now = 0 := by unfold errB; rw [hv, ht, hd]; rfl
  obtain ⟨l, hg⟩ := good_of hv
  have hle : q.Vars.e7 ≤ now := by simp only [decide_eq_false_iff_not] at hd; omega
  have hgl : [l][Int.toNat 0]? = some l := rfl
  have h1 := hg.len
  have h2 := hg.room
  have h3 := hg.e1
  have hnow : 0 ≤ now ∧ now ≤ 10000000 := by simp only [okT, Bool.and_eq_true, decide_eq_true_eq] at ht; exact ht
  have hcl := clone_eq l (by omega)
  have hw : IntKind.i64.wrap (now - q.Vars.e1) = now - q.Vars.e1 := IntWalk.i64_in _ (by omega)
  have r1 : (l.length + 1) * 64 ≤ 2 ^ 44 := by omega
  have r2 : l.length + 1 ≤ 2 ^ 44 := by omega
  rw [he, hg.lists]
  simp only [hgl, Option.bind_some, hcl, hw, below_eq, tdelay_eq hg ht hle, tupd_eq hg ht hle, r1, r2, decide_true, Bool.and_self, Bool.not_true, cond_true, cond_false]
  have hz : (!(0 : Int) == 0) = false := rfl
  rw [hz]
  simp only [cond_false]
  obtain ⟨pf, ps, pn, pd, pz, pt, pa, pm⟩ := p
  by_cases c : now - q.Vars.e1 < 16000
  · simp only [withU, u0, u1, u2, c, if_true, decide_true, cond_true, markP]
    cases ((l.length : Int) == q.Room)
    · cases hc : decide (rn q.Seed < q.Vars.e0) <;> cases pa <;> cases pm <;> rfl
    · rfl
  · simp only [withU, u0, u1, u2, c, if_false, decide_false, cond_false, markP, newP, clampP]
    generalize q.Vars.e0 + q.Policy.B * (delayI q now - q.Policy.A) / 1000 + q.Policy.C * (delayI q now - q.Vars.e2) / 1000 = y
    cases ((l.length : Int) == q.Room)
    · cases hc : decide (rn q.Seed < if (if 0 < y then y else 0) < 1000000 then if 0 < y then y else 0 else 1000000) <;> cases pa <;> cases pm <;> rfl
    · rfl

def takeR (q : Queue) (now : Int) : Queue × Packet × Bool × List Packet × Int :=
  bif !errB q now == 0 then (zeroQ, zeroP, false, [], errB q now) else
    match q.Lists with
    | [[]] => (withU q [[]] now q.Seed, zeroP, false, [], 0)
    | [x :: xs] => (withU q [xs] now q.Seed, x.P, true, [], 0)
    | _ => (zeroQ, zeroP, false, [], 0)

theorem ttake_eq (q : Queue) (now : Int) (hl : ∀ l ∈ q.Lists, l.length ≤ 2 ^ 63 - 1) : Models.integral_Take q now = some (takeR q now) := by
  unfold Models.integral_Take takeR
  rw [tv_eq q hl, inside_eq]
  have hok : (decide (0 ≤ now) && decide (now ≤ 10000000)) = okT now := rfl
  simp only [Option.bind_some, hok]
  cases hv : vB q
  · have : errB q now = 1 := by unfold errB; rw [hv]; rfl
    rw [this]; rfl
  cases ht : okT now
  · have : errB q now = 1 := by unfold errB; rw [hv, ht]; rfl
    rw [this]; rfl
  cases hd : decide (now < q.Vars.e7)
  case true =>
    have : errB q now = 18 := by unfold errB; rw [hv, ht, hd]; rfl
    rw [this]; rfl
  have he : errB q now = 0 := by unfold errB; rw [hv, ht, hd]; rfl
  obtain ⟨l, hg⟩ := good_of hv
  have hle : q.Vars.e7 ≤ now := by simp only [decide_eq_false_iff_not] at hd; omega
  have hgl : [l][Int.toNat 0]? = some l := rfl
  have h1 := hg.len
  have h2 := hg.room
  have h3 := hg.e1
  have hnow : 0 ≤ now ∧ now ≤ 10000000 := by simp only [okT, Bool.and_eq_true, decide_eq_true_eq] at ht; exact ht
  have hcl := clone_eq l (by omega)
  have hw : IntKind.i64.wrap (now - q.Vars.e1) = now - q.Vars.e1 := IntWalk.i64_in _ (by omega)
  rw [he, hg.lists]
  simp only [hgl, Option.bind_some, hcl, hw, tdelay_eq hg ht hle, tupd_eq hg ht hle]
  have hz : (!(0 : Int) == 0) = false := rfl
  rw [hz]
  simp only [cond_false, Bool.not_true]
  match l, h1 with
  | [], _ =>
    by_cases c : now - q.Vars.e1 < 16000
    · simp only [withU, u0, u1, u2, c, if_true, decide_true, cond_true]
      rfl
    · simp only [withU, u0, u1, u2, c, if_false, decide_false, cond_false, newP, clampP]
      rfl
  | x :: xs, _ =>
    have hb : (((x :: xs).length : Int) == 0) = false := by simp; omega
    have ha : Int.toNat 0 < (x :: xs).length := by simp
    have hc1 : Int.toNat 1 ≤ (x :: xs).length := by simp
    have hc2 : (x :: xs).length ≤ (x :: xs).length - 0 := by simp
    have hc3 : 0 < (x :: xs).length := by simp
    have hc4 : 0 + Int.toNat 1 + ((x :: xs).length - Int.toNat 1) ≤ (x :: xs).length := by simp; omega
    have hgx : (x :: xs)[0 + Int.toNat 0]? = some x := rfl
    have htk : List.take ((x :: xs).length - Int.toNat 1) (List.drop (0 + Int.toNat 1) (x :: xs)) = xs := by
      show List.take (xs.length + 1 - 1) xs = xs
      simp
    by_cases c : now - q.Vars.e1 < 16000
    · simp only [withU, u0, u1, u2, c, if_true, decide_true, cond_true, hb, ha, hc1, hc2, hc3, hc4, hgx, htk, cond_false, Bool.and_self, Option.bind_some]
    · simp only [withU, u0, u1, u2, c, if_false, decide_false, decide_true, cond_false, cond_true, newP, clampP, hb, ha, hc1, hc2, hc3, hc4, hgx, htk, Bool.and_self, Option.bind_some]

end Go.Proofs.YtfjkpjgbigcpiaaDoor
end

section
set_option linter.unusedVariables false
set_option maxRecDepth 100000
namespace Go.Proofs.YtfjkpjgbigcpiaaDoor
open Go.PI Go.Pl

def bnd (q : Queue) : Prop := q.Lists.length ≤ 2 ^ 63 - 1 ∧ ∀ l ∈ q.Lists, l.length ≤ 2 ^ 63 - 1

theorem bnd_wf {q : Queue} (h : wf27 q) : bnd q := by
  obtain ⟨_, _, h, _, _⟩ := h
  exact ⟨Nat.le_trans h.1 (by decide), fun l hl => Nat.le_trans (h.2 l hl).1 (by decide)⟩

theorem u0_dir {q : Queue} {l : List Queued} (hg : Good q l) {now : Int} (hn : okT now = true) (hle : q.Vars.e7 ≤ now) :
    (0 ≤ u0 q now ∧ u0 q now ≤ 1000000) ∧ (delayI q now < q.Policy.A ∨ delayI q now < q.Vars.e2 ∨ q.Vars.e0 ≤ u0 q now) ∧ (q.Policy.A < delayI q now ∨ q.Vars.e2 < delayI q now ∨ u0 q now ≤ q.Vars.e0) := by
  have h0 := hg.e0
  have hb := hg.b
  have hc := hg.c
  unfold u0
  split
  · exact ⟨h0, .inr (.inr (Int.le_refl _)), .inr (.inr (Int.le_refl _))⟩
  · refine ⟨clamp_range _, ?_, ?_⟩
    · by_cases a1 : delayI q now < q.Policy.A
      · exact .inl a1
      by_cases a2 : delayI q now < q.Vars.e2
      · exact .inr (.inl a2)
      right; right
      have m1 : 0 ≤ q.Policy.B * (delayI q now - q.Policy.A) := Int.mul_nonneg hb.1 (by omega)
      have m2 : 0 ≤ q.Policy.C * (delayI q now - q.Vars.e2) := Int.mul_nonneg hc.1 (by omega)
      unfold newP clampP
      generalize q.Policy.B * (delayI q now - q.Policy.A) = y1 at *
      generalize q.Policy.C * (delayI q now - q.Vars.e2) = y2 at *
      split <;> split <;> omega
    · by_cases a1 : q.Policy.A < delayI q now
      · exact .inl a1
      by_cases a2 : q.Vars.e2 < delayI q now
      · exact .inr (.inl a2)
      right; right
      have m1 : 0 ≤ q.Policy.B * (q.Policy.A - delayI q now) := Int.mul_nonneg hb.1 (by omega)
      have m2 : 0 ≤ q.Policy.C * (q.Vars.e2 - delayI q now) := Int.mul_nonneg hc.1 (by omega)
      have e1 : q.Policy.B * (delayI q now - q.Policy.A) = -(q.Policy.B * (q.Policy.A - delayI q now)) := by rw [← Int.mul_neg]; congr 1; omega
      have e2 : q.Policy.C * (delayI q now - q.Vars.e2) = -(q.Policy.C * (q.Vars.e2 - delayI q now)) := by rw [← Int.mul_neg]; congr 1; omega
      unfold newP clampP
      rw [e1, e2]
      generalize q.Policy.B * (q.Policy.A - delayI q now) = y1 at *
      generalize q.Policy.C * (q.Vars.e2 - delayI q now) = y2 at *
      split <;> split <;> omega

theorem few_some {q : Queue} (hb : bnd q) : Models.ref18_Few q = some (bif q.Lists.all (fun l => decide (l.length ≤ 600)) then decide ((q.Lists.length : Int) ≤ 20) else false) := few_eq q (by have := hb.1; omega)

theorem direction_eq (q : Queue) (now : Int) (hb : bnd q) : Models.law21_IntegralDirection q now = some true := by
  have hl : ∀ l ∈ q.Lists, l.length ≤ 2 ^ 63 - 1 := hb.2
  unfold Models.law21_IntegralDirection
  rw [few_some hb, ttake_eq q now hl]
  simp only [Models.law21_head, Option.bind_some]
  cases (bif q.Lists.all (fun l => decide (l.length ≤ 600)) then decide ((q.Lists.length : Int) ≤ 20) else false)
  · rfl
  simp only [Bool.not_true, cond_false, cond_true]
  unfold takeR
  cases he : (errB q now == 0)
  · simp only [Bool.not_false, cond_true, he]
  obtain ⟨hv, ht, hle⟩ := err_zero (by simpa using he)
  obtain ⟨l, hg⟩ := good_of hv
  obtain ⟨⟨f1, f2⟩, f3, f4⟩ := u0_dir hg ht hle
  have hd := delay_range hg ht hle
  have hone : (!(([l].length : Nat) : Int) == 1) = false := rfl
  have hgl : [l][Int.toNat 0]? = some l := rfl
  have hz : (!(0 : Int) == 0) = false := rfl
  rw [hg.lists]
  match l, hg, hone, hgl with
  | [], hg, hone, hgl =>
    have hdl : delayI q now = 0 := by unfold delayI; rw [hg.lists]
    have hp : ¬ (0 : Int) < (([] : List Queued).length : Int) := by simp
    rw [hdl] at f3 f4
    simp only [Bool.not_true, cond_false, hz, hone, hgl, Option.bind_some, hp, decide_false, withU]
    by_cases a1 : 0 < q.Policy.A <;> by_cases a2 : q.Policy.A < 0 <;> by_cases a3 : 0 < q.Vars.e2 <;> by_cases a4 : q.Vars.e2 < 0 <;> by_cases a5 : q.Vars.e0 ≤ u0 q now <;> by_cases a6 : u0 q now ≤ q.Vars.e0 <;>
      simp only [f1, f2, a1, a2, a3, a4, a5, a6, decide_true, decide_false, cond_true, cond_false] <;> omega
  | x :: xs, hg, hone, hgl =>
    have hdl : delayI q now = now - x.At := by unfold delayI; rw [hg.lists]
    have hp : (0 : Int) < ((x :: xs).length : Int) := by simp
    have hgx : (x :: xs)[Int.toNat 0]? = some x := rfl
    have hw : IntKind.i64.wrap (now - x.At) = now - x.At := IntWalk.i64_in _ (by omega)
    rw [hdl] at f3 f4
    simp only [Bool.not_true, cond_false, cond_true, hz, hone, hgl, Option.bind_some, hp, decide_true, withU, hgx, hw]
    by_cases a1 : now - x.At < q.Policy.A <;> by_cases a2 : q.Policy.A < now - x.At <;> by_cases a3 : now - x.At < q.Vars.e2 <;> by_cases a4 : q.Vars.e2 < now - x.At <;> by_cases a5 : q.Vars.e0 ≤ u0 q now <;> by_cases a6 : u0 q now ≤ q.Vars.e0 <;>
      simp only [f1, f2, a1, a2, a3, a4, a5, a6, decide_true, decide_false, cond_true, cond_false] <;> omega

theorem same_pkt (p : Packet) : (p.Flow == p.Flow && (p.Sub == p.Sub && (p.Number == p.Number && (p.Data == p.Data && (p.Size == p.Size && (p.Sent == p.Sent && (p.Able == p.Able && (p.Marked == p.Marked)))))))) = true := by simp

theorem calm_eq (q : Queue) (p : Packet) (now : Int) (hb : bnd q) : Models.law21_IntegralCalm q p now = some true := by
  have hl : ∀ l ∈ q.Lists, l.length ≤ 2 ^ 63 - 1 := hb.2
  unfold Models.law21_IntegralCalm
  rw [few_some hb, tput_eq q p now hl]
  simp only [Models.law21_head, Option.bind_some]
  cases (bif q.Lists.all (fun l => decide (l.length ≤ 600)) then decide ((q.Lists.length : Int) ≤ 20) else false)
  · rfl
  simp only [Bool.not_true, cond_false, cond_true]
  unfold putR
  cases hp : okP p
  · rfl
  cases he : (errB q now == 0)
  · simp only [Bool.not_true, Bool.not_false, cond_false, cond_true, he]
  obtain ⟨hv, ht, hle⟩ := err_zero (by simpa using he)
  obtain ⟨l, hg⟩ := good_of hv
  have h1 := hg.len
  have h2 := hg.room
  have hone : (!(([l].length : Nat) : Int) == 1) = false := rfl
  have hgl : [l][Int.toNat 0]? = some l := rfl
  have hz : (!(0 : Int) == 0) = false := rfl
  have hz2 : ((0 : Int) == 0) = true := rfl
  have hrn := rn_range q.Seed
  rw [hg.lists]
  simp only [Bool.not_true, cond_false]
  cases hr : ((l.length : Int) == q.Room)
  · cases hu : (u0 q now == 0)
    · cases hc : decide (rn q.Seed < u0 q now) <;> cases ha : p.Able <;> simp only [cond_true, cond_false, Bool.not_true, Bool.not_false, hz, withU, hu]
    · have hu' : u0 q now = 0 := by simpa using hu
      have hc : decide (rn q.Seed < u0 q now) = false := by rw [hu']; simp; omega
      have hone2 : (!(([l ++ [Queued.mk p now]].length : Nat) : Int) == 1) = false := rfl
      have hgl2 : [l ++ [Queued.mk p now]][Int.toNat 0]? = some (l ++ [Queued.mk p now]) := rfl
      have hlen : ((([] : List Packet).length : Nat) : Int) == 0 := rfl
      have hw : IntKind.i64.wrap ((l.length : Int) + 1) = (l.length : Int) + 1 := IntWalk.i64_in _ (by omega)
      have hla : (((l ++ [Queued.mk p now]).length : Nat) : Int) = (l.length : Int) + 1 := by simp
      have hgn : (l ++ [Queued.mk p now])[((l.length : Nat) : Int).toNat]? = some (Queued.mk p now) := by simp
      simp only [hc, cond_false, cond_true, withU, hu, Bool.not_true, hone, hone2, hgl, hgl2, hr, hlen, hw, hla, hgn, Option.bind_some, beq_self_eq_true, Bool.and_self]
  · cases hu : (u0 q now == 0)
    · simp only [cond_true, hz, withU, hu, cond_false, Bool.not_false]
    · simp only [cond_true, hz, withU, hu, cond_false, Bool.not_true, hone, hgl, hr, Option.bind_some, packets_self [p] (by simp), samelist_self l (by omega)]

theorem certain_eq (q : Queue) (p : Packet) (now : Int) (hb : bnd q) : Models.law21_IntegralCertain q p now = some true := by
  have hl : ∀ l ∈ q.Lists, l.length ≤ 2 ^ 63 - 1 := hb.2
  unfold Models.law21_IntegralCertain
  rw [few_some hb, tput_eq q p now hl]
  simp only [Models.law21_head, Option.bind_some]
  cases (bif q.Lists.all (fun l => decide (l.length ≤ 600)) then decide ((q.Lists.length : Int) ≤ 20) else false)
  · rfl
  simp only [Bool.not_true, cond_false, cond_true]
  unfold putR
  cases hp : okP p
  · rfl
  cases he : (errB q now == 0)
  · simp only [Bool.not_true, Bool.not_false, cond_false, cond_true, he]
  obtain ⟨hv, ht, hle⟩ := err_zero (by simpa using he)
  obtain ⟨l, hg⟩ := good_of hv
  have h1 := hg.len
  have h2 := hg.room
  have hone : (!(([l].length : Nat) : Int) == 1) = false := rfl
  have hgl : [l][Int.toNat 0]? = some l := rfl
  have hz : (!(0 : Int) == 0) = false := rfl
  have hrn := rn_range q.Seed
  rw [hg.lists]
  simp only [Bool.not_true, cond_false]
  cases hr : ((l.length : Int) == q.Room)
  · cases hu : (u0 q now == 1000000)
    · cases hc : decide (rn q.Seed < u0 q now) <;> cases ha : p.Able <;> simp only [cond_true, cond_false, Bool.not_true, Bool.not_false, hz, withU, hu]
    · have hu' : u0 q now = 1000000 := by simpa using hu
      have hc : decide (rn q.Seed < u0 q now) = true := by rw [hu']; simp; omega
      have hone2 : (!(([l ++ [Queued.mk (markP p) now]].length : Nat) : Int) == 1) = false := rfl
      have hgl2 : [l ++ [Queued.mk (markP p) now]][Int.toNat 0]? = some (l ++ [Queued.mk (markP p) now]) := rfl
      have hlen : ((([] : List Packet).length : Nat) : Int) == 0 := rfl
      have hw : IntKind.i64.wrap ((l.length : Int) + 1) = (l.length : Int) + 1 := IntWalk.i64_in _ (by omega)
      have hla : (((l ++ [Queued.mk (markP p) now]).length : Nat) : Int) = (l.length : Int) + 1 := by simp
      have hgn : (l ++ [Queued.mk (markP p) now])[((l.length : Nat) : Int).toNat]? = some (Queued.mk (markP p) now) := by simp
      cases ha : p.Able
      · simp only [hc, cond_false, cond_true, hz, withU, hu, Bool.not_true, Bool.not_false, hone, hgl, hr, Option.bind_some, packets_self [p] (by simp), samelist_self l (by omega)]
      · simp only [hc, cond_false, cond_true, withU, hu, Bool.not_true, hone, hgl, hr, hlen, hw, Option.bind_some, beq_self_eq_true, markP]
        simp [ha]
  · cases hu : (u0 q now == 1000000)
    · simp only [cond_true, hz, withU, hu, cond_false, Bool.not_false]
    · simp only [cond_true, hz, withU, hu, cond_false, Bool.not_true, hone, hgl, hr, Option.bind_some, packets_self [p] (by simp), samelist_self l (by omega)]

end Go.Proofs.YtfjkpjgbigcpiaaDoor
end

section
set_option linter.unusedVariables false
set_option maxRecDepth 100000
namespace Go.Proofs.YtfjkpjgbigcpiaaDoor
open Go.PI Go.ChangeShapes Go.WideShapes Go.ChangeAt Go.RowKit

theorem mixing {W : World} (h : laidMetH Tryd.prog [("queuelab/random.mixing", Rows.laid_queuelab_random_mixing)] W) :
    W.var? Tryd.prog "queuelab/random.mixing" = some #[.int .u64 30, .int .u64 13787848793156543929, .int .u64 27, .int .u64 10723151780598845931, .int .u64 31, .int .u64 1] := by
  rw [MakeChecks.laidMetH_plain _ _ _ (by kernel_rfl)] at h
  obtain ⟨ps, ⟨g, t, cs, fuel, p, q, hg, ht, hv, hd, _, _⟩, _, _⟩ := h
  obtain rfl := Option.some.inj ((show Tryd.prog.globalNamed "queuelab/random.mixing" = some 0 by kernel_rfl).symm.trans hg)
  obtain rfl := Option.some.inj ((show (Tryd.prog.globals[0]?).map (·.type) = some 83 by kernel_rfl).symm.trans ht)
  have c82 : Tryd.prog.cellsOf 82 = 2 := by kernel_rfl
  have c83 : Tryd.prog.cellsOf 83 = 6 := by kernel_rfl
  have c74 : Tryd.prog.cellsOf 74 = 1 := by kernel_rfl
  have c26 : Tryd.prog.cellsOf 26 = 1 := by kernel_rfl
  obtain ⟨xs, m, _, ex, hlen, hl, hel⟩ := DataW.trod_array Tryd.underlying83 hd
  rw [c83] at hlen
  obtain ⟨l⟩ := cs
  match l, hlen with
  | [a0, a1, a2, a3, a4, a5], _ =>
    match xs, hl with
    | [x0, x1, x2], _ =>
      have e3 := (DataW.agg.inj (Prod.mk.inj ex).1)
      simp only [List.map_cons, List.map_nil, List.cons.injEq, and_true] at e3
      have k0 := hel 0 (by omega); have k1 := hel 1 (by omega); have k2 := hel 2 (by omega)
      rw [c82] at k0 k1 k2
      obtain ⟨y0, z0, _, ex0, _, p0, q0⟩ := trod_struct2 Tryd.underlying82 k0
      obtain ⟨y1, z1, _, ex1, _, p1, q1⟩ := trod_struct2 Tryd.underlying82 k1
      obtain ⟨y2, z2, _, ex2, _, p2, q2⟩ := trod_struct2 Tryd.underlying82 k2
      simp only [c74, c26] at p0 q0 p1 q1 p2 q2
      obtain ⟨m0, b0, d0, _⟩ := DataW.trod_int Tryd.underlying74 p0
      obtain ⟨n0, g0, h0, _⟩ := DataW.trod_int Tryd.underlying26 q0
      obtain ⟨m1, b1, d1, _⟩ := DataW.trod_int Tryd.underlying74 p1
      obtain ⟨n1, g1, h1, _⟩ := DataW.trod_int Tryd.underlying26 q1
      obtain ⟨m2, b2, d2, _⟩ := DataW.trod_int Tryd.underlying74 p2
      obtain ⟨n2, g2, h2, _⟩ := DataW.trod_int Tryd.underlying26 q2
      rw [hv]
      simp at b0 g0 b1 g1 b2 g2
      subst d0 h0 d1 h1 d2 h2 ex0 ex1 ex2 b0 g0 b1 g1 b2 g2
      simp at e3
      obtain ⟨⟨f0, f1⟩, ⟨f2, f3⟩, f4, f5⟩ := e3
      subst f0 f1 f2 f3 f4 f5
      rfl

theorem globOk {W : World} (h : laidMetH Tryd.prog [("queuelab/random.mixing", Rows.laid_queuelab_random_mixing)] W) : GlobOk (Env.all W) := by
  have hv := mixing h
  intro b c hb
  have hb' : b = 0 ∧ c = #[.int .u64 30, .int .u64 13787848793156543929, .int .u64 27, .int .u64 10723151780598845931, .int .u64 31, .int .u64 1] := by
    cases b with
    | zero => exact ⟨rfl, (Option.some.inj hb).symm⟩
    | succ n => cases hb
  obtain ⟨rfl, rfl⟩ := hb'
  unfold World.var? at hv
  rw [show Tryd.prog.globalNamed "queuelab/random.mixing" = some 0 by kernel_rfl] at hv
  simp only [Option.bind_some] at hv
  constructor
  · show (match W.heap[0]? with | some (.cells c _ _) => some c | _ => none) = _
    split at hv
    · rename_i cs T fz hw
      rw [hw]
      exact hv
    · cases hv
  · intro x hx
    simp only [List.mem_cons, List.not_mem_nil, or_false] at hx
    rcases hx with rfl | rfl | rfl | rfl | rfl | rfl <;> rfl

end Go.Proofs.YtfjkpjgbigcpiaaDoor
end
