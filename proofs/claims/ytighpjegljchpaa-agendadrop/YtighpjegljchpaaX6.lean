/- Part 6 of the proof: texts of this session laid one behind the other. -/
import Derived.Test.YtighpjegljchpaaProg
import Derived.KernelRfl
import Derived.Test.YtighpjegljchpaaX5
section
set_option linter.unusedVariables false
/- The types of this seat: what must hold of them (printed by gen_tys.py out of the dump). -/
set_option linter.unusedSimpArgs false
namespace Go.Proofs.Ytighpjegljchpaa
open Go.PI

theorem rlc {H : SHeap den} {v : V} {vs : List V} {l : List AV} : RL T H (v :: vs) l ↔ ∃ c cs, l = c :: cs ∧ R T H v c ∧ RL T H vs cs := RL_cons_iff (T := T)
theorem rln {H : SHeap den} {l : List AV} : RL T H [] l ↔ l = [] := RL_nil_iff (T := T)
theorem dI_ok {H : SHeap den} {k : IntKind} {v : V} {x : Int} {a : AV} (h : dI k v = some x) (hr : R T H v a) : a = .lit (.int k x) := by
  unfold dI at h
  split at h
  · split at h
    · rename_i e
      simp only [Option.some.injEq] at h
      subst h; subst e
      simpa only [R] using hr
    · simp at h
  · simp at h
theorem dB_ok {H : SHeap den} {v : V} {x : Bool} {a : AV} (h : dB v = some x) (hr : R T H v a) : a = .lit (.bool x) := by
  unfold dB at h
  split at h
  · simp only [Option.some.injEq] at h
    subst h
    simpa only [R] using hr
  · simp at h
theorem dS_ok {H : SHeap den} {v : V} {x : ByteArray} {a : AV} (h : dS v = some x) (hr : R T H v a) : a = .lit (.string x) := by
  unfold dS at h
  split at h
  · simp only [Option.some.injEq] at h
    subst h
    simpa only [R] using hr
  · simp at h
theorem uk2 (x : Int) (a : AV) (H : SHeap den) (h : rp2 x a) : R T H (up2 x) a := by
  unfold up2; simp only [R]; exact h
theorem dk2 (v : V) (x : Int) (a : AV) (H : SHeap den) (h : dn2 v = some x) (hr : R T H v a) : rp2 x a := dI_ok h hr
theorem ek2 (x : Int) (a : AV) (h : rp2 x a) : okElem false 1 a = true ∧ closed a = true ∧ isLeaf a = true := by
  unfold rp2 at h; subst h; exact ⟨rfl, rfl, rfl⟩
theorem uk3 (x : Int) (a : AV) (H : SHeap den) (h : rp3 x a) : R T H (up3 x) a := by
  unfold up3; simp only [R]; exact h
theorem dk3 (v : V) (x : Int) (a : AV) (H : SHeap den) (h : dn3 v = some x) (hr : R T H v a) : rp3 x a := dI_ok h hr
theorem ek3 (x : Int) (a : AV) (h : rp3 x a) : okElem false 1 a = true ∧ closed a = true ∧ isLeaf a = true := by
  unfold rp3 at h; subst h; exact ⟨rfl, rfl, rfl⟩
theorem uk4 (x : Bool) (a : AV) (H : SHeap den) (h : rp4 x a) : R T H (up4 x) a := by
  unfold up4; simp only [R]; exact h
theorem dk4 (v : V) (x : Bool) (a : AV) (H : SHeap den) (h : dn4 v = some x) (hr : R T H v a) : rp4 x a := dB_ok h hr
theorem ek4 (x : Bool) (a : AV) (h : rp4 x a) : okElem false 1 a = true ∧ closed a = true ∧ isLeaf a = true := by
  unfold rp4 at h; subst h; exact ⟨rfl, rfl, rfl⟩
theorem uk9 (x : ByteArray) (a : AV) (H : SHeap den) (h : rp9 x a) : R T H (up9 x) a := by
  unfold up9; simp only [R]; exact h
theorem dk9 (v : V) (x : ByteArray) (a : AV) (H : SHeap den) (h : dn9 v = some x) (hr : R T H v a) : rp9 x a := dS_ok h hr
theorem ek9 (x : ByteArray) (a : AV) (h : rp9 x a) : okElem false 1 a = true ∧ closed a = true ∧ isLeaf a = true := by
  unfold rp9 at h; subst h; exact ⟨rfl, rfl, rfl⟩
theorem uk25 (x : Packet) (a : AV) (H : SHeap den) (h : rp25 x a) : R T H (up25 x) a := by
  unfold rp25 at h; subst h
  unfold up25
  simp only [R]
  refine ⟨_, rfl, ?_⟩
  simp only [RL, R, and_true, true_and]
theorem dk25 (v : V) (x : Packet) (a : AV) (H : SHeap den) (h : dn25 v = some x) (hr : R T H v a) : rp25 x a := by
  unfold dn25 at h
  split at h
  · simp only [Option.bind_eq_some_iff, Option.some.injEq] at h
    obtain ⟨b0, g0, b1, g1, b2, g2, b3, g3, b4, g4, b5, g5, b6, g6, b7, g7, rfl⟩ := h
    simp only [R] at hr
    obtain ⟨_, rfl, hl⟩ := hr
    obtain ⟨c0, _, rfl, r0, hl⟩ := rlc.1 hl
    obtain ⟨c1, _, rfl, r1, hl⟩ := rlc.1 hl
    obtain ⟨c2, _, rfl, r2, hl⟩ := rlc.1 hl
    obtain ⟨c3, _, rfl, r3, hl⟩ := rlc.1 hl
    obtain ⟨c4, _, rfl, r4, hl⟩ := rlc.1 hl
    obtain ⟨c5, _, rfl, r5, hl⟩ := rlc.1 hl
    obtain ⟨c6, _, rfl, r6, hl⟩ := rlc.1 hl
    obtain ⟨c7, _, rfl, r7, hl⟩ := rlc.1 hl
    have hl0 := rln.1 hl
    subst hl0
    have e0 := dk3 _ _ _ H g0 r0
    have e1 := dk3 _ _ _ H g1 r1
    have e2 := dk3 _ _ _ H g2 r2
    have e3 := dk3 _ _ _ H g3 r3
    have e4 := dk3 _ _ _ H g4 r4
    have e5 := dk3 _ _ _ H g5 r5
    have e6 := dk4 _ _ _ H g6 r6
    have e7 := dk4 _ _ _ H g7 r7
    unfold rp3 at e0; subst e0
    unfold rp3 at e1; subst e1
    unfold rp3 at e2; subst e2
    unfold rp3 at e3; subst e3
    unfold rp3 at e4; subst e4
    unfold rp3 at e5; subst e5
    unfold rp4 at e6; subst e6
    unfold rp4 at e7; subst e7
    exact rfl
  · simp at h
theorem ek25 (x : Packet) (a : AV) (h : rp25 x a) : okElem true 8 a = true ∧ closed a = true := by
  unfold rp25 at h; subst h
  exact ⟨by simp [okElem, leaf_int, leaf_bool, leaf_str], by simp [closed, closedL]⟩
theorem uk27 (x : Ack) (a : AV) (H : SHeap den) (h : rp27 x a) : R T H (up27 x) a := by
  unfold rp27 at h; subst h
  unfold up27
  simp only [R]
  refine ⟨_, rfl, ?_⟩
  simp only [RL, R, and_true, true_and]
theorem dk27 (v : V) (x : Ack) (a : AV) (H : SHeap den) (h : dn27 v = some x) (hr : R T H v a) : rp27 x a := by
  unfold dn27 at h
  split at h
  · simp only [Option.bind_eq_some_iff, Option.some.injEq] at h
    obtain ⟨b0, g0, b1, g1, b2, g2, b3, g3, b4, g4, rfl⟩ := h
    simp only [R] at hr
    obtain ⟨_, rfl, hl⟩ := hr
    obtain ⟨c0, _, rfl, r0, hl⟩ := rlc.1 hl
    obtain ⟨c1, _, rfl, r1, hl⟩ := rlc.1 hl
    obtain ⟨c2, _, rfl, r2, hl⟩ := rlc.1 hl
    obtain ⟨c3, _, rfl, r3, hl⟩ := rlc.1 hl
    obtain ⟨c4, _, rfl, r4, hl⟩ := rlc.1 hl
    have hl0 := rln.1 hl
    subst hl0
    have e0 := dk3 _ _ _ H g0 r0
    have e1 := dk3 _ _ _ H g1 r1
    have e2 := dk3 _ _ _ H g2 r2
    have e3 := dk3 _ _ _ H g3 r3
    have e4 := dk4 _ _ _ H g4 r4
    unfold rp3 at e0; subst e0
    unfold rp3 at e1; subst e1
    unfold rp3 at e2; subst e2
    unfold rp3 at e3; subst e3
    unfold rp4 at e4; subst e4
    exact rfl
  · simp at h
theorem ek27 (x : Ack) (a : AV) (h : rp27 x a) : okElem true 5 a = true ∧ closed a = true := by
  unfold rp27 at h; subst h
  exact ⟨by simp [okElem, leaf_int, leaf_bool, leaf_str], by simp [closed, closedL]⟩
theorem uk29 (x : Change) (a : AV) (H : SHeap den) (h : rp29 x a) : R T H (up29 x) a := by
  unfold rp29 at h; subst h
  unfold up29
  simp only [R]
  refine ⟨_, rfl, ?_⟩
  simp only [RL, R, and_true, true_and]
theorem dk29 (v : V) (x : Change) (a : AV) (H : SHeap den) (h : dn29 v = some x) (hr : R T H v a) : rp29 x a := by
  unfold dn29 at h
  split at h
  · simp only [Option.bind_eq_some_iff, Option.some.injEq] at h
    obtain ⟨b0, g0, b1, g1, b2, g2, rfl⟩ := h
    simp only [R] at hr
    obtain ⟨_, rfl, hl⟩ := hr
    obtain ⟨c0, _, rfl, r0, hl⟩ := rlc.1 hl
    obtain ⟨c1, _, rfl, r1, hl⟩ := rlc.1 hl
    obtain ⟨c2, _, rfl, r2, hl⟩ := rlc.1 hl
    have hl0 := rln.1 hl
    subst hl0
    have e0 := dk3 _ _ _ H g0 r0
    have e1 := dk3 _ _ _ H g1 r1
    have e2 := dk3 _ _ _ H g2 r2
    unfold rp3 at e0; subst e0
    unfold rp3 at e1; subst e1
    unfold rp3 at e2; subst e2
    exact rfl
  · simp at h
theorem ek29 (x : Change) (a : AV) (h : rp29 x a) : okElem true 3 a = true ∧ closed a = true := by
  unfold rp29 at h; subst h
  exact ⟨by simp [okElem, leaf_int, leaf_bool, leaf_str], by simp [closed, closedL]⟩
theorem uk31 (x : Itemx) (a : AV) (H : SHeap den) (h : rp31 x a) : R T H (up31 x) a := by
  unfold rp31 at h; subst h
  unfold up31
  simp only [R]
  refine ⟨_, rfl, ?_⟩
  simp only [RL, R, and_true, true_and]
theorem dk31 (v : V) (x : Itemx) (a : AV) (H : SHeap den) (h : dn31 v = some x) (hr : R T H v a) : rp31 x a := by
  unfold dn31 at h
  split at h
  · simp only [Option.bind_eq_some_iff, Option.some.injEq] at h
    obtain ⟨b0, g0, b1, g1, b2, g2, b3, g3, b4, g4, b5, g5, b6, g6, b7, g7, b8, g8, b9, g9, b10, g10, b11, g11, b12, g12, b13, g13, b14, g14, b15, g15, b16, g16, b17, g17, b18, g18, b19, g19, b20, g20, rfl⟩ := h
    simp only [R] at hr
    obtain ⟨_, rfl, hl⟩ := hr
    obtain ⟨c0, _, rfl, r0, hl⟩ := rlc.1 hl
    obtain ⟨c1, _, rfl, r1, hl⟩ := rlc.1 hl
    obtain ⟨c2, _, rfl, r2, hl⟩ := rlc.1 hl
    obtain ⟨c3, _, rfl, r3, hl⟩ := rlc.1 hl
    obtain ⟨c4, _, rfl, r4, hl⟩ := rlc.1 hl
    obtain ⟨c5, _, rfl, r5, hl⟩ := rlc.1 hl
    obtain ⟨c6, _, rfl, r6, hl⟩ := rlc.1 hl
    obtain ⟨c7, _, rfl, r7, hl⟩ := rlc.1 hl
    obtain ⟨c8, _, rfl, r8, hl⟩ := rlc.1 hl
    obtain ⟨c9, _, rfl, r9, hl⟩ := rlc.1 hl
    obtain ⟨c10, _, rfl, r10, hl⟩ := rlc.1 hl
    obtain ⟨c11, _, rfl, r11, hl⟩ := rlc.1 hl
    obtain ⟨c12, _, rfl, r12, hl⟩ := rlc.1 hl
    obtain ⟨c13, _, rfl, r13, hl⟩ := rlc.1 hl
    obtain ⟨c14, _, rfl, r14, hl⟩ := rlc.1 hl
    obtain ⟨c15, _, rfl, r15, hl⟩ := rlc.1 hl
    obtain ⟨c16, _, rfl, r16, hl⟩ := rlc.1 hl
    obtain ⟨c17, _, rfl, r17, hl⟩ := rlc.1 hl
    obtain ⟨c18, _, rfl, r18, hl⟩ := rlc.1 hl
    obtain ⟨c19, _, rfl, r19, hl⟩ := rlc.1 hl
    obtain ⟨c20, _, rfl, r20, hl⟩ := rlc.1 hl
    have hl0 := rln.1 hl
    subst hl0
    have e0 := dk3 _ _ _ H g0 r0
    have e1 := dk3 _ _ _ H g1 r1
    have e2 := dk3 _ _ _ H g2 r2
    have e3 := dk3 _ _ _ H g3 r3
    have e4 := dk3 _ _ _ H g4 r4
    have e5 := dk3 _ _ _ H g5 r5
    have e6 := dk3 _ _ _ H g6 r6
    have e7 := dk3 _ _ _ H g7 r7
    have e8 := dk3 _ _ _ H g8 r8
    have e9 := dk3 _ _ _ H g9 r9
    have e10 := dk3 _ _ _ H g10 r10
    have e11 := dk4 _ _ _ H g11 r11
    have e12 := dk4 _ _ _ H g12 r12
    have e13 := dk3 _ _ _ H g13 r13
    have e14 := dk3 _ _ _ H g14 r14
    have e15 := dk3 _ _ _ H g15 r15
    have e16 := dk3 _ _ _ H g16 r16
    have e17 := dk4 _ _ _ H g17 r17
    have e18 := dk3 _ _ _ H g18 r18
    have e19 := dk3 _ _ _ H g19 r19
    have e20 := dk3 _ _ _ H g20 r20
    unfold rp3 at e0; subst e0
    unfold rp3 at e1; subst e1
    unfold rp3 at e2; subst e2
    unfold rp3 at e3; subst e3
    unfold rp3 at e4; subst e4
    unfold rp3 at e5; subst e5
    unfold rp3 at e6; subst e6
    unfold rp3 at e7; subst e7
    unfold rp3 at e8; subst e8
    unfold rp3 at e9; subst e9
    unfold rp3 at e10; subst e10
    unfold rp4 at e11; subst e11
    unfold rp4 at e12; subst e12
    unfold rp3 at e13; subst e13
    unfold rp3 at e14; subst e14
    unfold rp3 at e15; subst e15
    unfold rp3 at e16; subst e16
    unfold rp4 at e17; subst e17
    unfold rp3 at e18; subst e18
    unfold rp3 at e19; subst e19
    unfold rp3 at e20; subst e20
    exact rfl
  · simp at h
theorem ek31 (x : Itemx) (a : AV) (h : rp31 x a) : okElem true 21 a = true ∧ closed a = true := by
  unfold rp31 at h; subst h
  exact ⟨by simp [okElem, leaf_int, leaf_bool, leaf_str], by simp [closed, closedL]⟩
theorem uk22 (x : List Itemx) (a : AV) (H : SHeap den) (h : rp22 x a) : R T H (up22 x) a := by
  unfold up22; simp only [R]; exact h
theorem lk22 {H : SHeap den} : ∀ (vs : List V) (l : List Itemx) (m : List AV), dl22 vs = some l → RL T H vs m → All2 rp31 l m
  | [], l, [], h, _ => by simp [dl22] at h; subst h; trivial
  | v :: vs, l, a :: m, h, hr => by
    simp only [RL] at hr
    simp only [dl22, Option.bind_eq_some_iff, Option.map_eq_some_iff] at h
    obtain ⟨x, h1, ys, h2, rfl⟩ := h
    exact ⟨dk31 _ _ _ H h1 hr.1, lk22 vs ys m h2 hr.2⟩
  | [], _, _ :: _, _, h => by simp [RL] at h
  | _ :: _, _, [], _, h => by simp [RL] at h
theorem dk22 (v : V) (x : List Itemx) (a : AV) (H : SHeap den) (h : dn22 v = some x) (hr : R T H v a) : rp22 x a := by
  unfold dn22 at h
  split at h
  · rename_i t l
    split at h
    · rename_i e
      subst e
      have e2 : l = x := Option.some.inj h
      subst e2
      simp only [R] at hr
      exact hr
    · simp at h
  · simp only [R] at hr
    obtain ⟨m, rfl, hm, _⟩ := hr
    exact .inl ⟨m, rfl, lk22 _ _ _ h hm⟩
  · simp only [Option.some.injEq] at h
    subst h
    simp only [R] at hr
    exact .inr ⟨rfl, hr⟩
  · simp at h
theorem ek22 (x : List Itemx) (a : AV) (h : rp22 x a) : okElem false 1 a = true ∧ closed a = true ∧ isLeaf a = true := by
  rcases h with ⟨l, rfl, _⟩ | ⟨_, rfl⟩ <;> exact ⟨rfl, rfl, rfl⟩
theorem uk23 (x : Agenda) (a : AV) (H : SHeap den) (h : rp23 x a) : R T H (up23 x) a := by
  obtain ⟨a0, h0, rfl⟩ := h
  unfold up23
  simp only [R]
  refine ⟨_, rfl, ?_⟩
  simp only [RL, R, and_true, true_and]
  exact h0
theorem dk23 (v : V) (x : Agenda) (a : AV) (H : SHeap den) (h : dn23 v = some x) (hr : R T H v a) : rp23 x a := by
  unfold dn23 at h
  split at h
  · simp only [Option.bind_eq_some_iff, Option.some.injEq] at h
    obtain ⟨b0, g0, b1, g1, rfl⟩ := h
    simp only [R] at hr
    obtain ⟨_, rfl, hl⟩ := hr
    obtain ⟨c0, _, rfl, r0, hl⟩ := rlc.1 hl
    obtain ⟨c1, _, rfl, r1, hl⟩ := rlc.1 hl
    have hl0 := rln.1 hl
    subst hl0
    have e0 := dk22 _ _ _ H g0 r0
    have e1 := dk3 _ _ _ H g1 r1
    unfold rp3 at e1; subst e1
    exact ⟨_, e0, rfl⟩
  · simp at h
theorem ek23 (x : Agenda) (a : AV) (h : rp23 x a) : okElem true 2 a = true ∧ closed a = true := by
  obtain ⟨a0, h0, rfl⟩ := h
  have k0 := ek22 _ _ h0
  exact ⟨by simp [okElem, leaf_int, leaf_bool, leaf_str, k0.2.2], by simp [closed, closedL, k0.2.1]⟩
theorem uk44 (x : List Bool) (a : AV) (H : SHeap den) (h : rp44 x a) : R T H (up44 x) a := by
  unfold up44; simp only [R]; exact h
theorem lk44 {H : SHeap den} : ∀ (vs : List V) (l : List Bool) (m : List AV), dl44 vs = some l → RL T H vs m → All2 rp4 l m
  | [], l, [], h, _ => by simp [dl44] at h; subst h; trivial
  | v :: vs, l, a :: m, h, hr => by
    simp only [RL] at hr
    simp only [dl44, Option.bind_eq_some_iff, Option.map_eq_some_iff] at h
    obtain ⟨x, h1, ys, h2, rfl⟩ := h
    exact ⟨dk4 _ _ _ H h1 hr.1, lk44 vs ys m h2 hr.2⟩
  | [], _, _ :: _, _, h => by simp [RL] at h
  | _ :: _, _, [], _, h => by simp [RL] at h
theorem dk44 (v : V) (x : List Bool) (a : AV) (H : SHeap den) (h : dn44 v = some x) (hr : R T H v a) : rp44 x a := by
  unfold dn44 at h
  split at h
  · rename_i t l
    split at h
    · rename_i e
      subst e
      have e2 : l = x := Option.some.inj h
      subst e2
      simp only [R] at hr
      exact hr
    · simp at h
  · simp only [R] at hr
    obtain ⟨m, rfl, hm, _⟩ := hr
    exact .inl ⟨m, rfl, lk44 _ _ _ h hm⟩
  · simp only [Option.some.injEq] at h
    subst h
    simp only [R] at hr
    exact .inr ⟨rfl, hr⟩
  · simp at h
theorem ek44 (x : List Bool) (a : AV) (h : rp44 x a) : okElem false 1 a = true ∧ closed a = true ∧ isLeaf a = true := by
  rcases h with ⟨l, rfl, _⟩ | ⟨_, rfl⟩ <;> exact ⟨rfl, rfl, rfl⟩
theorem uk47 (x : List Int) (a : AV) (H : SHeap den) (h : rp47 x a) : R T H (up47 x) a := by
  unfold up47; simp only [R]; exact h
theorem lk47 {H : SHeap den} : ∀ (vs : List V) (l : List Int) (m : List AV), dl47 vs = some l → RL T H vs m → All2 rp3 l m
  | [], l, [], h, _ => by simp [dl47] at h; subst h; trivial
  | v :: vs, l, a :: m, h, hr => by
    simp only [RL] at hr
    simp only [dl47, Option.bind_eq_some_iff, Option.map_eq_some_iff] at h
    obtain ⟨x, h1, ys, h2, rfl⟩ := h
    exact ⟨dk3 _ _ _ H h1 hr.1, lk47 vs ys m h2 hr.2⟩
  | [], _, _ :: _, _, h => by simp [RL] at h
  | _ :: _, _, [], _, h => by simp [RL] at h
theorem dk47 (v : V) (x : List Int) (a : AV) (H : SHeap den) (h : dn47 v = some x) (hr : R T H v a) : rp47 x a := by
  unfold dn47 at h
  split at h
  · rename_i t l
    split at h
    · rename_i e
      subst e
      have e2 : l = x := Option.some.inj h
      subst e2
      simp only [R] at hr
      exact hr
    · simp at h
  · simp only [R] at hr
    obtain ⟨m, rfl, hm, _⟩ := hr
    exact .inl ⟨m, rfl, lk47 _ _ _ h hm⟩
  · simp only [Option.some.injEq] at h
    subst h
    simp only [R] at hr
    exact .inr ⟨rfl, hr⟩
  · simp at h
theorem ek47 (x : List Int) (a : AV) (h : rp47 x a) : okElem false 1 a = true ∧ closed a = true ∧ isLeaf a = true := by
  rcases h with ⟨l, rfl, _⟩ | ⟨_, rfl⟩ <;> exact ⟨rfl, rfl, rfl⟩
theorem uk62 (x : List (List Itemx)) (a : AV) (H : SHeap den) (h : rp62 x a) : R T H (up62 x) a := by
  unfold up62; simp only [R]; exact h
theorem lk62 {H : SHeap den} : ∀ (vs : List V) (l : List (List Itemx)) (m : List AV), dl62 vs = some l → RL T H vs m → All2 rp22 l m
  | [], l, [], h, _ => by simp [dl62] at h; subst h; trivial
  | v :: vs, l, a :: m, h, hr => by
    simp only [RL] at hr
    simp only [dl62, Option.bind_eq_some_iff, Option.map_eq_some_iff] at h
    obtain ⟨x, h1, ys, h2, rfl⟩ := h
    exact ⟨dk22 _ _ _ H h1 hr.1, lk62 vs ys m h2 hr.2⟩
  | [], _, _ :: _, _, h => by simp [RL] at h
  | _ :: _, _, [], _, h => by simp [RL] at h
theorem dk62 (v : V) (x : List (List Itemx)) (a : AV) (H : SHeap den) (h : dn62 v = some x) (hr : R T H v a) : rp62 x a := by
  unfold dn62 at h
  split at h
  · rename_i t l
    split at h
    · rename_i e
      subst e
      have e2 : l = x := Option.some.inj h
      subst e2
      simp only [R] at hr
      exact hr
    · simp at h
  · simp only [R] at hr
    obtain ⟨m, rfl, hm, _⟩ := hr
    exact .inl ⟨m, rfl, lk62 _ _ _ h hm⟩
  · simp only [Option.some.injEq] at h
    subst h
    simp only [R] at hr
    exact .inr ⟨rfl, hr⟩
  · simp at h
theorem ek62 (x : List (List Itemx)) (a : AV) (h : rp62 x a) : okElem false 1 a = true ∧ closed a = true ∧ isLeaf a = true := by
  rcases h with ⟨l, rfl, _⟩ | ⟨_, rfl⟩ <;> exact ⟨rfl, rfl, rfl⟩
theorem uk1032 (x : Itemx) (a : AV) (H : SHeap den) (h : rp1032 x a) : R T H (up1032 x) a := by
  obtain ⟨b, rfl, hb⟩ := h
  unfold up1032
  simp only [R]
  exact ⟨b, rfl, uk31 _ _ H hb, by unfold up31; rfl⟩
theorem dk1032 (v : V) (x : Itemx) (a : AV) (H : SHeap den) (h : dn1032 v = some x) (hr : R T H v a) : rp1032 x a := by
  unfold dn1032 at h
  split at h
  · simp only [R] at hr
    obtain ⟨e, rfl, hr, _⟩ := hr
    exact ⟨e, rfl, dk31 _ _ _ H h hr⟩
  · simp at h
theorem ek1032 (x : Itemx) (a : AV) (h : rp1032 x a) : okElem false 1 a = true ∧ closed a = true ∧ isLeaf a = true := by
  obtain ⟨b, rfl, _⟩ := h
  exact ⟨rfl, rfl, rfl⟩
theorem T_up (t : Nat) (x : den t) (a : AV) (H : SHeap den) (h : rp t x a) : R T H (up t x) a := by
  unfold rp at h
  split at h
  · exact uk2 _ _ H h
  · exact uk3 _ _ H h
  · exact uk4 _ _ H h
  · exact uk9 _ _ H h
  · exact uk22 _ _ H h
  · exact uk23 _ _ H h
  · exact uk23 _ _ H h
  · exact uk25 _ _ H h
  · exact uk25 _ _ H h
  · exact uk27 _ _ H h
  · exact uk27 _ _ H h
  · exact uk29 _ _ H h
  · exact uk29 _ _ H h
  · exact uk31 _ _ H h
  · exact uk31 _ _ H h
  · exact uk3 _ _ H h
  · exact uk44 _ _ H h
  · exact uk47 _ _ H h
  · exact uk62 _ _ H h
  · exact uk1032 _ _ H h
  · exact h.elim
theorem T_dn (t : Nat) (v : V) (x : den t) (a : AV) (H : SHeap den) (h : dn t v = some x) (hr : R T H v a) : rp t x a := by
  revert x h hr
  refine dn.fun_cases_unfolding (motive := fun t v r => ∀ (x : den t), r = some x → R T H v a → rp t x a) ?_ ?_ ?_ ?_ ?_ ?_ ?_ ?_ ?_ ?_ ?_ ?_ ?_ ?_ ?_ ?_ ?_ ?_ ?_ ?_ ?_ t v
  · intro v x h hr; exact dk2 _ _ _ H h hr
  · intro v x h hr; exact dk3 _ _ _ H h hr
  · intro v x h hr; exact dk4 _ _ _ H h hr
  · intro v x h hr; exact dk9 _ _ _ H h hr
  · intro v x h hr; exact dk22 _ _ _ H h hr
  · intro v x h hr; exact dk23 _ _ _ H h hr
  · intro v x h hr; exact dk23 _ _ _ H h hr
  · intro v x h hr; exact dk25 _ _ _ H h hr
  · intro v x h hr; exact dk25 _ _ _ H h hr
  · intro v x h hr; exact dk27 _ _ _ H h hr
  · intro v x h hr; exact dk27 _ _ _ H h hr
  · intro v x h hr; exact dk29 _ _ _ H h hr
  · intro v x h hr; exact dk29 _ _ _ H h hr
  · intro v x h hr; exact dk31 _ _ _ H h hr
  · intro v x h hr; exact dk31 _ _ _ H h hr
  · intro v x h hr; exact dk3 _ _ _ H h hr
  · intro v x h hr; exact dk44 _ _ _ H h hr
  · intro v x h hr; exact dk47 _ _ _ H h hr
  · intro v x h hr; exact dk62 _ _ _ H h hr
  · intro v x h hr; exact dk1032 _ _ _ H h hr
  · intros; rename_i h _; cases h
theorem T_ok (t : Nat) (x : den t) (a : AV) (h : rp t x a) : okElem (aggT t) (sizeT t) a = true ∧ closed a = true := by
  unfold rp at h
  split at h
  · exact ⟨(ek2 _ _ h).1, (ek2 _ _ h).2.1⟩
  · exact ⟨(ek3 _ _ h).1, (ek3 _ _ h).2.1⟩
  · exact ⟨(ek4 _ _ h).1, (ek4 _ _ h).2.1⟩
  · exact ⟨(ek9 _ _ h).1, (ek9 _ _ h).2.1⟩
  · exact ⟨(ek22 _ _ h).1, (ek22 _ _ h).2.1⟩
  · exact ek23 _ _ h
  · exact ek23 _ _ h
  · exact ek25 _ _ h
  · exact ek25 _ _ h
  · exact ek27 _ _ h
  · exact ek27 _ _ h
  · exact ek29 _ _ h
  · exact ek29 _ _ h
  · exact ek31 _ _ h
  · exact ek31 _ _ h
  · exact ⟨(ek3 _ _ h).1, (ek3 _ _ h).2.1⟩
  · exact ⟨(ek44 _ _ h).1, (ek44 _ _ h).2.1⟩
  · exact ⟨(ek47 _ _ h).1, (ek47 _ _ h).2.1⟩
  · exact ⟨(ek62 _ _ h).1, (ek62 _ _ h).2.1⟩
  · exact ⟨(ek1032 _ _ h).1, (ek1032 _ _ h).2.1⟩
  · exact h.elim
theorem TOk : T.Ok := ⟨fun t x a H h => T_up t x a H h, fun t v x a H h hr => T_dn t v x a H h hr, fun t x a h => (T_ok t x a h).1, fun t x a h => (T_ok t x a h).2⟩
theorem QOk : Prg.Ok ⟨Try.prog, memo, fun _ => false⟩ := Prg.Ok.of (by kernel_rfl) (by kernel_rfl) (by kernel_rfl) (by kernel_rfl) (by kernel_rfl)
def ZP (q : Nat × MTy) : Prop := ∀ z za, zeroT q.1 = some z → q.2.zero = some za → rp q.1 z za
theorem z2 : ∀ z za, zeroT 2 = some z → (some (.lit (.int .i64 0)) : Option AV) = some za → rp 2 z za := by
  intro z za h1 h2
  have e1 := Option.some.inj h1
  have e2 := Option.some.inj h2
  subst e1; subst e2
  show rp2 _ _
  unfold rp2
  rfl
theorem z3 : ∀ z za, zeroT 3 = some z → (some (.lit (.int .i64 0)) : Option AV) = some za → rp 3 z za := by
  intro z za h1 h2
  have e1 := Option.some.inj h1
  have e2 := Option.some.inj h2
  subst e1; subst e2
  show rp3 _ _
  unfold rp3
  rfl
theorem z4 : ∀ z za, zeroT 4 = some z → (some (.lit (.bool false)) : Option AV) = some za → rp 4 z za := by
  intro z za h1 h2
  have e1 := Option.some.inj h1
  have e2 := Option.some.inj h2
  subst e1; subst e2
  show rp4 _ _
  unfold rp4
  rfl
theorem z9 : ∀ z za, zeroT 9 = some z → (some (.lit (.string ByteArray.empty)) : Option AV) = some za → rp 9 z za := by
  intro z za h1 h2
  have e1 := Option.some.inj h1
  have e2 := Option.some.inj h2
  subst e1; subst e2
  show rp9 _ _
  unfold rp9
  rfl
theorem z22 : ∀ z za, zeroT 22 = some z → (some (.lit (.slice none 0 0)) : Option AV) = some za → rp 22 z za := by
  intro z za h1 h2
  have e1 := Option.some.inj h1
  have e2 := Option.some.inj h2
  subst e1; subst e2
  show rp22 _ _
  exact .inr ⟨rfl, rfl⟩
theorem z23 : ∀ z za, zeroT 23 = some z → (some (.agg [.lit (.slice none 0 0), .lit (.int .i64 0)]) : Option AV) = some za → rp 23 z za := by
  intro z za h1 h2
  have e1 := Option.some.inj h1
  have e2 := Option.some.inj h2
  subst e1; subst e2
  show rp23 _ _
  exact ⟨_, .inr ⟨rfl, rfl⟩, rfl⟩
theorem z24 : ∀ z za, zeroT 24 = some z → (some (.agg [.lit (.slice none 0 0), .lit (.int .i64 0)]) : Option AV) = some za → rp 24 z za := by
  intro z za h1 h2
  have e1 := Option.some.inj h1
  have e2 := Option.some.inj h2
  subst e1; subst e2
  show rp23 _ _
  exact ⟨_, .inr ⟨rfl, rfl⟩, rfl⟩
theorem z25 : ∀ z za, zeroT 25 = some z → (some (.agg [.lit (.int .i64 0), .lit (.int .i64 0), .lit (.int .i64 0), .lit (.int .i64 0), .lit (.int .i64 0), .lit (.int .i64 0), .lit (.bool false), .lit (.bool false)]) : Option AV) = some za → rp 25 z za := by
  intro z za h1 h2
  have e1 := Option.some.inj h1
  have e2 := Option.some.inj h2
  subst e1; subst e2
  show rp25 _ _
  unfold rp25
  rfl
theorem z26 : ∀ z za, zeroT 26 = some z → (some (.agg [.lit (.int .i64 0), .lit (.int .i64 0), .lit (.int .i64 0), .lit (.int .i64 0), .lit (.int .i64 0), .lit (.int .i64 0), .lit (.bool false), .lit (.bool false)]) : Option AV) = some za → rp 26 z za := by
  intro z za h1 h2
  have e1 := Option.some.inj h1
  have e2 := Option.some.inj h2
  subst e1; subst e2
  show rp25 _ _
  unfold rp25
  rfl
theorem z27 : ∀ z za, zeroT 27 = some z → (some (.agg [.lit (.int .i64 0), .lit (.int .i64 0), .lit (.int .i64 0), .lit (.int .i64 0), .lit (.bool false)]) : Option AV) = some za → rp 27 z za := by
  intro z za h1 h2
  have e1 := Option.some.inj h1
  have e2 := Option.some.inj h2
  subst e1; subst e2
  show rp27 _ _
  unfold rp27
  rfl
theorem z28 : ∀ z za, zeroT 28 = some z → (some (.agg [.lit (.int .i64 0), .lit (.int .i64 0), .lit (.int .i64 0), .lit (.int .i64 0), .lit (.bool false)]) : Option AV) = some za → rp 28 z za := by
  intro z za h1 h2
  have e1 := Option.some.inj h1
  have e2 := Option.some.inj h2
  subst e1; subst e2
  show rp27 _ _
  unfold rp27
  rfl
theorem z29 : ∀ z za, zeroT 29 = some z → (some (.agg [.lit (.int .i64 0), .lit (.int .i64 0), .lit (.int .i64 0)]) : Option AV) = some za → rp 29 z za := by
  intro z za h1 h2
  have e1 := Option.some.inj h1
  have e2 := Option.some.inj h2
  subst e1; subst e2
  show rp29 _ _
  unfold rp29
  rfl
theorem z30 : ∀ z za, zeroT 30 = some z → (some (.agg [.lit (.int .i64 0), .lit (.int .i64 0), .lit (.int .i64 0)]) : Option AV) = some za → rp 30 z za := by
  intro z za h1 h2
  have e1 := Option.some.inj h1
  have e2 := Option.some.inj h2
  subst e1; subst e2
  show rp29 _ _
  unfold rp29
  rfl
theorem z31 : ∀ z za, zeroT 31 = some z → (some (.agg [.lit (.int .i64 0), .lit (.int .i64 0), .lit (.int .i64 0), .lit (.int .i64 0), .lit (.int .i64 0), .lit (.int .i64 0), .lit (.int .i64 0), .lit (.int .i64 0), .lit (.int .i64 0), .lit (.int .i64 0), .lit (.int .i64 0), .lit (.bool false), .lit (.bool false), .lit (.int .i64 0), .lit (.int .i64 0), .lit (.int .i64 0), .lit (.int .i64 0), .lit (.bool false), .lit (.int .i64 0), .lit (.int .i64 0), .lit (.int .i64 0)]) : Option AV) = some za → rp 31 z za := by
  intro z za h1 h2
  have e1 := Option.some.inj h1
  have e2 := Option.some.inj h2
  subst e1; subst e2
  show rp31 _ _
  unfold rp31
  rfl
theorem z32 : ∀ z za, zeroT 32 = some z → (some (.agg [.lit (.int .i64 0), .lit (.int .i64 0), .lit (.int .i64 0), .lit (.int .i64 0), .lit (.int .i64 0), .lit (.int .i64 0), .lit (.int .i64 0), .lit (.int .i64 0), .lit (.int .i64 0), .lit (.int .i64 0), .lit (.int .i64 0), .lit (.bool false), .lit (.bool false), .lit (.int .i64 0), .lit (.int .i64 0), .lit (.int .i64 0), .lit (.int .i64 0), .lit (.bool false), .lit (.int .i64 0), .lit (.int .i64 0), .lit (.int .i64 0)]) : Option AV) = some za → rp 32 z za := by
  intro z za h1 h2
  have e1 := Option.some.inj h1
  have e2 := Option.some.inj h2
  subst e1; subst e2
  show rp31 _ _
  unfold rp31
  rfl
theorem z34 : ∀ z za, zeroT 34 = some z → (some (.lit (.int .i64 0)) : Option AV) = some za → rp 34 z za := by
  intro z za h1 h2
  have e1 := Option.some.inj h1
  have e2 := Option.some.inj h2
  subst e1; subst e2
  show rp3 _ _
  unfold rp3
  rfl
theorem z44 : ∀ z za, zeroT 44 = some z → (some (.lit (.slice none 0 0)) : Option AV) = some za → rp 44 z za := by
  intro z za h1 h2
  have e1 := Option.some.inj h1
  have e2 := Option.some.inj h2
  subst e1; subst e2
  show rp44 _ _
  exact .inr ⟨rfl, rfl⟩
theorem z47 : ∀ z za, zeroT 47 = some z → (some (.lit (.slice none 0 0)) : Option AV) = some za → rp 47 z za := by
  intro z za h1 h2
  have e1 := Option.some.inj h1
  have e2 := Option.some.inj h2
  subst e1; subst e2
  show rp47 _ _
  exact .inr ⟨rfl, rfl⟩
theorem z62 : ∀ z za, zeroT 62 = some z → (some (.lit (.slice none 0 0)) : Option AV) = some za → rp 62 z za := by
  intro z za h1 h2
  have e1 := Option.some.inj h1
  have e2 := Option.some.inj h2
  subst e1; subst e2
  show rp62 _ _
  exact .inr ⟨rfl, rfl⟩
theorem ZOk : T.Zeros ⟨Try.prog, memo, fun _ => false⟩ := by
  intro t m z za h1 h2 h3
  have hm := lookS_mem h1
  have all : ∀ q, q ∈ memo → ZP q := by
    unfold memo
    intro q hq
    simp only [List.mem_cons, List.not_mem_nil, or_false] at hq
    rcases hq with rfl | rfl | rfl | rfl | rfl | rfl | rfl | rfl | rfl | rfl | rfl | rfl | rfl | rfl | rfl | rfl | rfl | rfl | rfl | rfl | rfl | rfl | rfl | rfl | rfl | rfl | rfl | rfl | rfl | rfl | rfl | rfl | rfl | rfl | rfl | rfl | rfl | rfl | rfl | rfl | rfl | rfl | rfl | rfl | rfl | rfl | rfl | rfl | rfl | rfl | rfl | rfl | rfl | rfl | rfl | rfl | rfl | rfl | rfl | rfl | rfl | rfl | rfl | rfl | rfl | rfl | rfl | rfl | rfl | rfl | rfl | rfl | rfl | rfl | rfl
    · exact fun z za h1 _ => by cases h1
    · exact z2
    · exact z3
    · exact z4
    · exact fun z za h1 _ => by cases h1
    · exact fun z za h1 _ => by cases h1
    · exact fun z za h1 _ => by cases h1
    · exact fun z za h1 _ => by cases h1
    · exact z9
    · exact fun z za h1 _ => by cases h1
    · exact fun z za h1 _ => by cases h1
    · exact fun z za h1 _ => by cases h1
    · exact fun z za h1 _ => by cases h1
    · exact fun z za h1 _ => by cases h1
    · exact fun z za h1 _ => by cases h1
    · exact fun z za h1 _ => by cases h1
    · exact fun z za h1 _ => by cases h1
    · exact fun z za h1 _ => by cases h1
    · exact fun z za h1 _ => by cases h1
    · exact fun z za h1 _ => by cases h1
    · exact fun z za h1 _ => by cases h1
    · exact z22
    · exact z23
    · exact z24
    · exact z25
    · exact z26
    · exact z27
    · exact z28
    · exact z29
    · exact z30
    · exact z31
    · exact z32
    · exact fun z za h1 _ => by cases h1
    · exact z34
    · exact fun z za h1 _ => by cases h1
    · exact fun z za h1 _ => by cases h1
    · exact fun z za h1 _ => by cases h1
    · exact fun z za h1 _ => by cases h1
    · exact fun z za h1 _ => by cases h1
    · exact fun z za h1 _ => by cases h1
    · exact fun z za h1 _ => by cases h1
    · exact z44
    · exact fun z za h1 _ => by cases h1
    · exact fun z za h1 _ => by cases h1
    · exact z47
    · exact fun z za h1 _ => by cases h1
    · exact fun z za h1 _ => by cases h1
    · exact fun z za h1 _ => by cases h1
    · exact fun z za h1 _ => by cases h1
    · exact fun z za h1 _ => by cases h1
    · exact fun z za h1 _ => by cases h1
    · exact fun z za h1 _ => by cases h1
    · exact fun z za h1 _ => by cases h1
    · exact fun z za h1 _ => by cases h1
    · exact fun z za h1 _ => by cases h1
    · exact fun z za h1 _ => by cases h1
    · exact fun z za h1 _ => by cases h1
    · exact fun z za h1 _ => by cases h1
    · exact fun z za h1 _ => by cases h1
    · exact z62
    · exact fun z za h1 _ => by cases h1
    · exact fun z za h1 _ => by cases h1
    · exact fun z za h1 _ => by cases h1
    · exact fun z za h1 _ => by cases h1
    · exact fun z za h1 _ => by cases h1
    · exact fun z za h1 _ => by cases h1
    · exact fun z za h1 _ => by cases h1
    · exact fun z za h1 _ => by cases h1
    · exact fun z za h1 _ => by cases h1
    · exact fun z za h1 _ => by cases h1
    · exact fun z za h1 _ => by cases h1
    · exact fun z za h1 _ => by cases h1
    · exact fun z za h1 _ => by cases h1
    · exact fun z za h1 _ => by cases h1
    · exact fun z za h1 _ => by cases h1
  exact all _ hm z za h3 h2
theorem un2 : Try.prog.underlying 2 = some (.int .i64) := by kernel_rfl
def wf2 (x : Int) : Prop := IntKind.min .i64 ≤ x ∧ x ≤ IntKind.max .i64
theorem sh2 {n : Nat} {l : List AV} (h : Shape Try.prog n 2 l) : ∃ x, wf2 x ∧ ∃ a, l = [a] ∧ rp2 x a := by
  obtain ⟨m, rfl, h1⟩ := shape_int un2 h
  exact ⟨m, h1, _, rfl, rfl⟩
theorem un3 : Try.prog.underlying 3 = some (.int .i64) := by kernel_rfl
def wf3 (x : Int) : Prop := IntKind.min .i64 ≤ x ∧ x ≤ IntKind.max .i64
theorem sh3 {n : Nat} {l : List AV} (h : Shape Try.prog n 3 l) : ∃ x, wf3 x ∧ ∃ a, l = [a] ∧ rp3 x a := by
  obtain ⟨m, rfl, h1⟩ := shape_int un3 h
  exact ⟨m, h1, _, rfl, rfl⟩
theorem un4 : Try.prog.underlying 4 = some .bool := by kernel_rfl
def wf4 (_ : Bool) : Prop := True
theorem sh4 {n : Nat} {l : List AV} (h : Shape Try.prog n 4 l) : ∃ x, wf4 x ∧ ∃ a, l = [a] ∧ rp4 x a := by
  obtain ⟨m, rfl⟩ := shape_bool un4 h
  exact ⟨m, trivial, _, rfl, rfl⟩
theorem un9 : Try.prog.underlying 9 = some .string := by kernel_rfl
def wf9 (x : ByteArray) : Prop := x.size ≤ maxLen
theorem sh9 {n : Nat} {l : List AV} (h : Shape Try.prog n 9 l) : ∃ x, wf9 x ∧ ∃ a, l = [a] ∧ rp9 x a := by
  obtain ⟨m, rfl, h1⟩ := shape_str un9 h
  exact ⟨m, h1, _, rfl, rfl⟩
def wf25 (x : Packet) : Prop := wf3 x.Flow ∧ wf3 x.Sub ∧ wf3 x.Number ∧ wf3 x.Data ∧ wf3 x.Size ∧ wf3 x.Sent ∧ wf4 x.Able ∧ wf4 x.Marked
theorem uq25_0 : Try.prog.underlying 3 = Try.prog.underlying 3 := by kernel_rfl
theorem uq25_1 : Try.prog.underlying 3 = Try.prog.underlying 3 := by kernel_rfl
theorem uq25_2 : Try.prog.underlying 3 = Try.prog.underlying 3 := by kernel_rfl
theorem uq25_3 : Try.prog.underlying 3 = Try.prog.underlying 3 := by kernel_rfl
theorem uq25_4 : Try.prog.underlying 3 = Try.prog.underlying 3 := by kernel_rfl
theorem uq25_5 : Try.prog.underlying 3 = Try.prog.underlying 3 := by kernel_rfl
theorem uq25_6 : Try.prog.underlying 4 = Try.prog.underlying 4 := by kernel_rfl
theorem uq25_7 : Try.prog.underlying 4 = Try.prog.underlying 4 := by kernel_rfl
theorem sh25 {n : Nat} {l : List AV} (h : Shape Try.prog n 25 l) : ∃ x, wf25 x ∧ rp25 x (.agg l) := by
  obtain ⟨hl, k, hf⟩ := shape_fields QOk (t := 25) rfl rfl h
  rw [cellsOf_ty QOk (t := 25) rfl] at hl
  have h0 := hf (0, 3) (by simp)
  rw [cellsOf_ty QOk (t := 3) rfl] at h0
  replace h0 := shape_same (uq25_0) h0
  have h1 := hf (1, 3) (by simp)
  rw [cellsOf_ty QOk (t := 3) rfl] at h1
  replace h1 := shape_same (uq25_1) h1
  have h2 := hf (2, 3) (by simp)
  rw [cellsOf_ty QOk (t := 3) rfl] at h2
  replace h2 := shape_same (uq25_2) h2
  have h3 := hf (3, 3) (by simp)
  rw [cellsOf_ty QOk (t := 3) rfl] at h3
  replace h3 := shape_same (uq25_3) h3
  have h4 := hf (4, 3) (by simp)
  rw [cellsOf_ty QOk (t := 3) rfl] at h4
  replace h4 := shape_same (uq25_4) h4
  have h5 := hf (5, 3) (by simp)
  rw [cellsOf_ty QOk (t := 3) rfl] at h5
  replace h5 := shape_same (uq25_5) h5
  have h6 := hf (6, 4) (by simp)
  rw [cellsOf_ty QOk (t := 4) rfl] at h6
  replace h6 := shape_same (uq25_6) h6
  have h7 := hf (7, 4) (by simp)
  rw [cellsOf_ty QOk (t := 4) rfl] at h7
  replace h7 := shape_same (uq25_7) h7
  match l, hl with
  | [a0, a1, a2, a3, a4, a5, a6, a7], _ =>
    replace h0 : Shape Try.prog k 3 [a0] := h0
    obtain ⟨x0, w0, b0, e0, r0⟩ := sh3 h0
    simp only [List.cons.injEq, and_true] at e0
    subst e0
    unfold rp3 at r0; subst r0
    replace h1 : Shape Try.prog k 3 [a1] := h1
    obtain ⟨x1, w1, b1, e1, r1⟩ := sh3 h1
    simp only [List.cons.injEq, and_true] at e1
    subst e1
    unfold rp3 at r1; subst r1
    replace h2 : Shape Try.prog k 3 [a2] := h2
    obtain ⟨x2, w2, b2, e2, r2⟩ := sh3 h2
    simp only [List.cons.injEq, and_true] at e2
    subst e2
    unfold rp3 at r2; subst r2
    replace h3 : Shape Try.prog k 3 [a3] := h3
    obtain ⟨x3, w3, b3, e3, r3⟩ := sh3 h3
    simp only [List.cons.injEq, and_true] at e3
    subst e3
    unfold rp3 at r3; subst r3
    replace h4 : Shape Try.prog k 3 [a4] := h4
    obtain ⟨x4, w4, b4, e4, r4⟩ := sh3 h4
    simp only [List.cons.injEq, and_true] at e4
    subst e4
    unfold rp3 at r4; subst r4
    replace h5 : Shape Try.prog k 3 [a5] := h5
    obtain ⟨x5, w5, b5, e5, r5⟩ := sh3 h5
    simp only [List.cons.injEq, and_true] at e5
    subst e5
    unfold rp3 at r5; subst r5
    replace h6 : Shape Try.prog k 4 [a6] := h6
    obtain ⟨x6, w6, b6, e6, r6⟩ := sh4 h6
    simp only [List.cons.injEq, and_true] at e6
    subst e6
    unfold rp4 at r6; subst r6
    replace h7 : Shape Try.prog k 4 [a7] := h7
    obtain ⟨x7, w7, b7, e7, r7⟩ := sh4 h7
    simp only [List.cons.injEq, and_true] at e7
    subst e7
    unfold rp4 at r7; subst r7
    exact ⟨⟨x0, x1, x2, x3, x4, x5, x6, x7⟩, ⟨w0, w1, w2, w3, w4, w5, w6, w7⟩, rfl⟩
def wf27 (x : Ack) : Prop := wf3 x.Sub ∧ wf3 x.Number ∧ wf3 x.Next ∧ wf3 x.Sent ∧ wf4 x.Marked
theorem uq27_0 : Try.prog.underlying 3 = Try.prog.underlying 3 := by kernel_rfl
theorem uq27_1 : Try.prog.underlying 3 = Try.prog.underlying 3 := by kernel_rfl
theorem uq27_2 : Try.prog.underlying 3 = Try.prog.underlying 3 := by kernel_rfl
theorem uq27_3 : Try.prog.underlying 3 = Try.prog.underlying 3 := by kernel_rfl
theorem uq27_4 : Try.prog.underlying 4 = Try.prog.underlying 4 := by kernel_rfl
theorem sh27 {n : Nat} {l : List AV} (h : Shape Try.prog n 27 l) : ∃ x, wf27 x ∧ rp27 x (.agg l) := by
  obtain ⟨hl, k, hf⟩ := shape_fields QOk (t := 27) rfl rfl h
  rw [cellsOf_ty QOk (t := 27) rfl] at hl
  have h0 := hf (0, 3) (by simp)
  rw [cellsOf_ty QOk (t := 3) rfl] at h0
  replace h0 := shape_same (uq27_0) h0
  have h1 := hf (1, 3) (by simp)
  rw [cellsOf_ty QOk (t := 3) rfl] at h1
  replace h1 := shape_same (uq27_1) h1
  have h2 := hf (2, 3) (by simp)
  rw [cellsOf_ty QOk (t := 3) rfl] at h2
  replace h2 := shape_same (uq27_2) h2
  have h3 := hf (3, 3) (by simp)
  rw [cellsOf_ty QOk (t := 3) rfl] at h3
  replace h3 := shape_same (uq27_3) h3
  have h4 := hf (4, 4) (by simp)
  rw [cellsOf_ty QOk (t := 4) rfl] at h4
  replace h4 := shape_same (uq27_4) h4
  match l, hl with
  | [a0, a1, a2, a3, a4], _ =>
    replace h0 : Shape Try.prog k 3 [a0] := h0
    obtain ⟨x0, w0, b0, e0, r0⟩ := sh3 h0
    simp only [List.cons.injEq, and_true] at e0
    subst e0
    unfold rp3 at r0; subst r0
    replace h1 : Shape Try.prog k 3 [a1] := h1
    obtain ⟨x1, w1, b1, e1, r1⟩ := sh3 h1
    simp only [List.cons.injEq, and_true] at e1
    subst e1
    unfold rp3 at r1; subst r1
    replace h2 : Shape Try.prog k 3 [a2] := h2
    obtain ⟨x2, w2, b2, e2, r2⟩ := sh3 h2
    simp only [List.cons.injEq, and_true] at e2
    subst e2
    unfold rp3 at r2; subst r2
    replace h3 : Shape Try.prog k 3 [a3] := h3
    obtain ⟨x3, w3, b3, e3, r3⟩ := sh3 h3
    simp only [List.cons.injEq, and_true] at e3
    subst e3
    unfold rp3 at r3; subst r3
    replace h4 : Shape Try.prog k 4 [a4] := h4
    obtain ⟨x4, w4, b4, e4, r4⟩ := sh4 h4
    simp only [List.cons.injEq, and_true] at e4
    subst e4
    unfold rp4 at r4; subst r4
    exact ⟨⟨x0, x1, x2, x3, x4⟩, ⟨w0, w1, w2, w3, w4⟩, rfl⟩
def wf29 (x : Change) : Prop := wf3 x.Kind ∧ wf3 x.A ∧ wf3 x.B
theorem uq29_0 : Try.prog.underlying 3 = Try.prog.underlying 3 := by kernel_rfl
theorem uq29_1 : Try.prog.underlying 3 = Try.prog.underlying 3 := by kernel_rfl
theorem uq29_2 : Try.prog.underlying 3 = Try.prog.underlying 3 := by kernel_rfl
theorem sh29 {n : Nat} {l : List AV} (h : Shape Try.prog n 29 l) : ∃ x, wf29 x ∧ rp29 x (.agg l) := by
  obtain ⟨hl, k, hf⟩ := shape_fields QOk (t := 29) rfl rfl h
  rw [cellsOf_ty QOk (t := 29) rfl] at hl
  have h0 := hf (0, 3) (by simp)
  rw [cellsOf_ty QOk (t := 3) rfl] at h0
  replace h0 := shape_same (uq29_0) h0
  have h1 := hf (1, 3) (by simp)
  rw [cellsOf_ty QOk (t := 3) rfl] at h1
  replace h1 := shape_same (uq29_1) h1
  have h2 := hf (2, 3) (by simp)
  rw [cellsOf_ty QOk (t := 3) rfl] at h2
  replace h2 := shape_same (uq29_2) h2
  match l, hl with
  | [a0, a1, a2], _ =>
    replace h0 : Shape Try.prog k 3 [a0] := h0
    obtain ⟨x0, w0, b0, e0, r0⟩ := sh3 h0
    simp only [List.cons.injEq, and_true] at e0
    subst e0
    unfold rp3 at r0; subst r0
    replace h1 : Shape Try.prog k 3 [a1] := h1
    obtain ⟨x1, w1, b1, e1, r1⟩ := sh3 h1
    simp only [List.cons.injEq, and_true] at e1
    subst e1
    unfold rp3 at r1; subst r1
    replace h2 : Shape Try.prog k 3 [a2] := h2
    obtain ⟨x2, w2, b2, e2, r2⟩ := sh3 h2
    simp only [List.cons.injEq, and_true] at e2
    subst e2
    unfold rp3 at r2; subst r2
    exact ⟨⟨x0, x1, x2⟩, ⟨w0, w1, w2⟩, rfl⟩
def wf31 (x : Itemx) : Prop := wf3 x.At ∧ wf3 x.Number ∧ wf3 x.Kind ∧ wf3 x.A ∧ wf3 x.B ∧ wf25 x.P ∧ wf27 x.K ∧ wf29 x.Change
theorem uq31_0 : Try.prog.underlying 3 = Try.prog.underlying 3 := by kernel_rfl
theorem uq31_1 : Try.prog.underlying 3 = Try.prog.underlying 3 := by kernel_rfl
theorem uq31_2 : Try.prog.underlying 3 = Try.prog.underlying 3 := by kernel_rfl
theorem uq31_3 : Try.prog.underlying 3 = Try.prog.underlying 3 := by kernel_rfl
theorem uq31_4 : Try.prog.underlying 3 = Try.prog.underlying 3 := by kernel_rfl
theorem uq31_5 : Try.prog.underlying 26 = Try.prog.underlying 25 := by kernel_rfl
theorem uq31_6 : Try.prog.underlying 28 = Try.prog.underlying 27 := by kernel_rfl
theorem uq31_7 : Try.prog.underlying 30 = Try.prog.underlying 29 := by kernel_rfl
theorem sh31 {n : Nat} {l : List AV} (h : Shape Try.prog n 31 l) : ∃ x, wf31 x ∧ rp31 x (.agg l) := by
  obtain ⟨hl, k, hf⟩ := shape_fields QOk (t := 31) rfl rfl h
  rw [cellsOf_ty QOk (t := 31) rfl] at hl
  have h0 := hf (0, 3) (by simp)
  rw [cellsOf_ty QOk (t := 3) rfl] at h0
  replace h0 := shape_same (uq31_0) h0
  have h1 := hf (1, 3) (by simp)
  rw [cellsOf_ty QOk (t := 3) rfl] at h1
  replace h1 := shape_same (uq31_1) h1
  have h2 := hf (2, 3) (by simp)
  rw [cellsOf_ty QOk (t := 3) rfl] at h2
  replace h2 := shape_same (uq31_2) h2
  have h3 := hf (3, 3) (by simp)
  rw [cellsOf_ty QOk (t := 3) rfl] at h3
  replace h3 := shape_same (uq31_3) h3
  have h4 := hf (4, 3) (by simp)
  rw [cellsOf_ty QOk (t := 3) rfl] at h4
  replace h4 := shape_same (uq31_4) h4
  have h5 := hf (5, 26) (by simp)
  rw [cellsOf_ty QOk (t := 26) rfl] at h5
  replace h5 := shape_same (uq31_5) h5
  have h6 := hf (13, 28) (by simp)
  rw [cellsOf_ty QOk (t := 28) rfl] at h6
  replace h6 := shape_same (uq31_6) h6
  have h7 := hf (18, 30) (by simp)
  rw [cellsOf_ty QOk (t := 30) rfl] at h7
  replace h7 := shape_same (uq31_7) h7
  match l, hl with
  | [a0, a1, a2, a3, a4, a5, a6, a7, a8, a9, a10, a11, a12, a13, a14, a15, a16, a17, a18, a19, a20], _ =>
    replace h0 : Shape Try.prog k 3 [a0] := h0
    obtain ⟨x0, w0, b0, e0, r0⟩ := sh3 h0
    simp only [List.cons.injEq, and_true] at e0
    subst e0
    unfold rp3 at r0; subst r0
    replace h1 : Shape Try.prog k 3 [a1] := h1
    obtain ⟨x1, w1, b1, e1, r1⟩ := sh3 h1
    simp only [List.cons.injEq, and_true] at e1
    subst e1
    unfold rp3 at r1; subst r1
    replace h2 : Shape Try.prog k 3 [a2] := h2
    obtain ⟨x2, w2, b2, e2, r2⟩ := sh3 h2
    simp only [List.cons.injEq, and_true] at e2
    subst e2
    unfold rp3 at r2; subst r2
    replace h3 : Shape Try.prog k 3 [a3] := h3
    obtain ⟨x3, w3, b3, e3, r3⟩ := sh3 h3
    simp only [List.cons.injEq, and_true] at e3
    subst e3
    unfold rp3 at r3; subst r3
    replace h4 : Shape Try.prog k 3 [a4] := h4
    obtain ⟨x4, w4, b4, e4, r4⟩ := sh3 h4
    simp only [List.cons.injEq, and_true] at e4
    subst e4
    unfold rp3 at r4; subst r4
    replace h5 : Shape Try.prog k 25 [a5, a6, a7, a8, a9, a10, a11, a12] := h5
    obtain ⟨x5, w5, r5⟩ := sh25 h5
    have e5 : _ = _ := r5
    simp only [AV.agg.injEq, List.cons.injEq, and_true] at e5
    obtain ⟨rfl, rfl, rfl, rfl, rfl, rfl, rfl, rfl⟩ := e5
    replace h6 : Shape Try.prog k 27 [a13, a14, a15, a16, a17] := h6
    obtain ⟨x6, w6, r6⟩ := sh27 h6
    have e6 : _ = _ := r6
    simp only [AV.agg.injEq, List.cons.injEq, and_true] at e6
    obtain ⟨rfl, rfl, rfl, rfl, rfl⟩ := e6
    replace h7 : Shape Try.prog k 29 [a18, a19, a20] := h7
    obtain ⟨x7, w7, r7⟩ := sh29 h7
    have e7 : _ = _ := r7
    simp only [AV.agg.injEq, List.cons.injEq, and_true] at e7
    obtain ⟨rfl, rfl, rfl⟩ := e7
    exact ⟨⟨x0, x1, x2, x3, x4, x5, x6, x7⟩, ⟨w0, w1, w2, w3, w4, w5, w6, w7⟩, rfl⟩
theorem un22 : Try.prog.underlying 22 = some (.slice 32) := by kernel_rfl
theorem ue22 : (Try.prog.underlying 32).isSome = true := by kernel_rfl
theorem ua22 : (Try.prog.underlying 32).map isAggD = some true := by kernel_rfl
theorem uu22 : Try.prog.underlying 32 = Try.prog.underlying 31 := by kernel_rfl
def wf22 (x : List Itemx) : Prop := x.length ≤ maxLen ∧ ∀ y, y ∈ x → wf31 y
theorem sh22 {n : Nat} {l : List AV} (h : Shape Try.prog n 22 l) : ∃ x, wf22 x ∧ ∃ a, l = [a] ∧ rp22 x a := by
  obtain ⟨d, hd⟩ := Option.isSome_iff_exists.1 ue22
  have hag : isAggD d = true := by have := ua22; rw [hd] at this; simpa using this
  obtain ⟨ys, xs, rfl, h1, h2⟩ := shape_slice (Q := fun y x => wf31 y ∧ rp31 y x) un22 hd h (by
    rintro k x ⟨cl, h1, h2⟩
    rw [hag] at h1
    simp only [if_true] at h1
    replace h2 := shape_same uu22 h2
    subst h1
    obtain ⟨y, hy, r⟩ := sh31 h2
    exact ⟨y, hy, r⟩)
  refine ⟨ys, ⟨h2, ?_⟩, _, rfl, .inl ⟨xs, rfl, h1.mono fun _ _ h => h.2⟩⟩
  intro y hy
  obtain ⟨i, hi⟩ := List.getElem?_of_mem hy
  obtain ⟨_, _, h3⟩ := h1.get hi
  exact h3.1
def wf23 (x : Agenda) : Prop := wf22 x.List ∧ wf3 x.Next
theorem uq23_0 : Try.prog.underlying 22 = Try.prog.underlying 22 := by kernel_rfl
theorem uq23_1 : Try.prog.underlying 3 = Try.prog.underlying 3 := by kernel_rfl
theorem sh23 {n : Nat} {l : List AV} (h : Shape Try.prog n 23 l) : ∃ x, wf23 x ∧ rp23 x (.agg l) := by
  obtain ⟨hl, k, hf⟩ := shape_fields QOk (t := 23) rfl rfl h
  rw [cellsOf_ty QOk (t := 23) rfl] at hl
  have h0 := hf (0, 22) (by simp)
  rw [cellsOf_ty QOk (t := 22) rfl] at h0
  replace h0 := shape_same (uq23_0) h0
  have h1 := hf (1, 3) (by simp)
  rw [cellsOf_ty QOk (t := 3) rfl] at h1
  replace h1 := shape_same (uq23_1) h1
  match l, hl with
  | [a0, a1], _ =>
    replace h0 : Shape Try.prog k 22 [a0] := h0
    obtain ⟨x0, w0, b0, e0, r0⟩ := sh22 h0
    simp only [List.cons.injEq, and_true] at e0
    subst e0
    have s0 := r0
    replace h1 : Shape Try.prog k 3 [a1] := h1
    obtain ⟨x1, w1, b1, e1, r1⟩ := sh3 h1
    simp only [List.cons.injEq, and_true] at e1
    subst e1
    unfold rp3 at r1; subst r1
    exact ⟨⟨x0, x1⟩, ⟨w0, w1⟩, ⟨_, s0, rfl⟩⟩
theorem un44 : Try.prog.underlying 44 = some (.slice 4) := by kernel_rfl
theorem ue44 : (Try.prog.underlying 4).isSome = true := by kernel_rfl
theorem ua44 : (Try.prog.underlying 4).map isAggD = some false := by kernel_rfl
theorem uu44 : Try.prog.underlying 4 = Try.prog.underlying 4 := by kernel_rfl
def wf44 (x : List Bool) : Prop := x.length ≤ maxLen ∧ ∀ y, y ∈ x → wf4 y
theorem sh44 {n : Nat} {l : List AV} (h : Shape Try.prog n 44 l) : ∃ x, wf44 x ∧ ∃ a, l = [a] ∧ rp44 x a := by
  obtain ⟨d, hd⟩ := Option.isSome_iff_exists.1 ue44
  have hag : isAggD d = false := by have := ua44; rw [hd] at this; simpa using this
  obtain ⟨ys, xs, rfl, h1, h2⟩ := shape_slice (Q := fun y x => wf4 y ∧ rp4 y x) un44 hd h (by
    rintro k x ⟨cl, h1, h2⟩
    rw [hag] at h1
    simp only [Bool.false_eq_true, if_false] at h1
    replace h2 := shape_same uu44 h2
    subst h1
    obtain ⟨y, hy, a, ha, r⟩ := sh4 h2
    simp only [List.cons.injEq, and_true] at ha
    subst ha
    exact ⟨y, hy, r⟩)
  refine ⟨ys, ⟨h2, ?_⟩, _, rfl, .inl ⟨xs, rfl, h1.mono fun _ _ h => h.2⟩⟩
  intro y hy
  obtain ⟨i, hi⟩ := List.getElem?_of_mem hy
  obtain ⟨_, _, h3⟩ := h1.get hi
  exact h3.1
theorem un47 : Try.prog.underlying 47 = some (.slice 3) := by kernel_rfl
theorem ue47 : (Try.prog.underlying 3).isSome = true := by kernel_rfl
theorem ua47 : (Try.prog.underlying 3).map isAggD = some false := by kernel_rfl
theorem uu47 : Try.prog.underlying 3 = Try.prog.underlying 3 := by kernel_rfl
def wf47 (x : List Int) : Prop := x.length ≤ maxLen ∧ ∀ y, y ∈ x → wf3 y
theorem sh47 {n : Nat} {l : List AV} (h : Shape Try.prog n 47 l) : ∃ x, wf47 x ∧ ∃ a, l = [a] ∧ rp47 x a := by
  obtain ⟨d, hd⟩ := Option.isSome_iff_exists.1 ue47
  have hag : isAggD d = false := by have := ua47; rw [hd] at this; simpa using this
  obtain ⟨ys, xs, rfl, h1, h2⟩ := shape_slice (Q := fun y x => wf3 y ∧ rp3 y x) un47 hd h (by
    rintro k x ⟨cl, h1, h2⟩
    rw [hag] at h1
    simp only [Bool.false_eq_true, if_false] at h1
    replace h2 := shape_same uu47 h2
    subst h1
    obtain ⟨y, hy, a, ha, r⟩ := sh3 h2
    simp only [List.cons.injEq, and_true] at ha
    subst ha
    exact ⟨y, hy, r⟩)
  refine ⟨ys, ⟨h2, ?_⟩, _, rfl, .inl ⟨xs, rfl, h1.mono fun _ _ h => h.2⟩⟩
  intro y hy
  obtain ⟨i, hi⟩ := List.getElem?_of_mem hy
  obtain ⟨_, _, h3⟩ := h1.get hi
  exact h3.1
theorem un62 : Try.prog.underlying 62 = some (.slice 22) := by kernel_rfl
theorem ue62 : (Try.prog.underlying 22).isSome = true := by kernel_rfl
theorem ua62 : (Try.prog.underlying 22).map isAggD = some false := by kernel_rfl
theorem uu62 : Try.prog.underlying 22 = Try.prog.underlying 22 := by kernel_rfl
def wf62 (x : List (List Itemx)) : Prop := x.length ≤ maxLen ∧ ∀ y, y ∈ x → wf22 y
theorem sh62 {n : Nat} {l : List AV} (h : Shape Try.prog n 62 l) : ∃ x, wf62 x ∧ ∃ a, l = [a] ∧ rp62 x a := by
  obtain ⟨d, hd⟩ := Option.isSome_iff_exists.1 ue62
  have hag : isAggD d = false := by have := ua62; rw [hd] at this; simpa using this
  obtain ⟨ys, xs, rfl, h1, h2⟩ := shape_slice (Q := fun y x => wf22 y ∧ rp22 y x) un62 hd h (by
    rintro k x ⟨cl, h1, h2⟩
    rw [hag] at h1
    simp only [Bool.false_eq_true, if_false] at h1
    replace h2 := shape_same uu62 h2
    subst h1
    obtain ⟨y, hy, a, ha, r⟩ := sh22 h2
    simp only [List.cons.injEq, and_true] at ha
    subst ha
    exact ⟨y, hy, r⟩)
  refine ⟨ys, ⟨h2, ?_⟩, _, rfl, .inl ⟨xs, rfl, h1.mono fun _ _ h => h.2⟩⟩
  intro y hy
  obtain ⟨i, hi⟩ := List.getElem?_of_mem hy
  obtain ⟨_, _, h3⟩ := h1.get hi
  exact h3.1
end Go.Proofs.Ytighpjegljchpaa
end

section
set_option linter.unusedVariables false
/- Copies of slices in this seat: what the library's functions come to (printed by gen_lib.py). -/
namespace Go.Proofs.Ytighpjegljchpaa.Lib28
open Go.PI

noncomputable def C0 : Ctx where
  P := Try.prog
  kind := fun f => if f = 32 then .imp else .pure
  intr := fun _ => none
  acc := fun _ _ => false
instance : NoNils C0 := ⟨rfl⟩

theorem fn28 : C0.P.funcs[28]? = some Try.f28 := by kernel_rfl
noncomputable def R (t : Nat) : TyRow := (tyOf Try.prog t).getD ⟨.bool, 0, 0, none, false⟩
theorem se22 : sliceElem C0.P 22 = some (R 32) := by kernel_rfl
theorem st22 : isSliceTy C0.P 22 = true := by kernel_rfl
theorem ze32 : (elemZero (R 32)).isSome = true := by kernel_rfl
theorem sz32 : (R 32).size = 21 := by kernel_rfl
theorem ag32 : (R 32).isAgg = true := by kernel_rfl
theorem by32 : (R 32).bytes = 160 := by kernel_rfl
theorem nil_eq (xs : List AV) (c : Nat) (x y : Operand) : binA C0.P .eql 22 x y (.slx xs c) (.lit (.slice none 0 0)) = some (bol false) := by
  unfold binA
  have h : eqAggA C0.P .eql 22 (.slx xs c) (.lit (.slice none 0 0)) = none := by kernel_rfl
  rw [h]
  show nilEqA C0.P .eql 22 (.slx xs c) (.slice none 0 0) = _
  kernel_rfl
theorem clone_nil : runF C0 28 [.lit nilSl] [] = some (.val (.lit nilSl), []) :=
  (lim_some (growF C0 28 [.lit nilSl] [])).2 ⟨100, by kernel_rfl⟩
theorem clone_slx (xs : List AV) (cap : Nat) (hall : xs.all (okElem (R 32).isAgg (R 32).size) = true) (h1 : xs.length * (R 32).bytes ≤ 2 ^ 44) (h2 : xs.length ≤ 2 ^ 44) : ∃ res hpf, runF C0 28 [.slx xs cap] [] = some (.val res, hpf) ∧ (sealV 1000 res).run hpf = some (.sl xs) := by
  rw [runF_eq (fn := Try.f28) fn28 rfl]
  have hacc : ∀ f d, C0.acc f d = false := fun _ _ => rfl
  have hr : 0 < (R 32).size := by rw [sz32]; decide
  by_cases hx : xs = []
  · subst hx
    simp (decide := true) only [Try.f28, ro_asNil, hacc, op_build0 se22 ze32 hr, op_app, nil_eq, bol, app_none se22 st22 ze32 hr, runC_seq, runC_ops, preps, guardG, List.map_cons, List.map_nil, runG_always, runG_nil, ro_move, ro_buildSlice, ro_binOp, ro_builtin, ro_asTmp, op_move, op_assign, op_bin, evalA, constA, ofVal, doneE, putA, thenG_norm, ifA_ff, app_nil, app_cons, andThen_norm, runC_ret, endF_ret, res_nil, res_tmp, tup_one, List.getElem?_toArray, List.replicate_succ, List.replicate_zero, Nat.reduceSub, Option.bind_some, Option.map_some, setObj_new, List.length_nil, List.length_cons, List.nil_append, List.cons_append, Nat.zero_add, fg0, fg2, fs2, fg3, fs3, fg4, fs4, fg5, fs5, fg6, fs6, fg7, fs7, runC_cond, runC_skip]
    exact ⟨_, _, rfl, rfl⟩
  · simp (decide := true) only [Try.f28, ro_asNil, hacc, op_build0 se22 ze32 hr, op_app, nil_eq, bol, runC_seq, runC_ops, preps, guardG, List.map_cons, List.map_nil, runG_always, runG_nil, ro_move, ro_buildSlice, ro_binOp, ro_builtin, ro_asTmp, op_move, op_assign, op_bin, evalA, constA, ofVal, doneE, putA, thenG_norm, ifA_ff, app_nil, app_cons, andThen_norm, runC_ret, endF_ret, res_nil, res_tmp, tup_one, List.getElem?_toArray, List.replicate_succ, List.replicate_zero, Nat.reduceSub, Option.bind_some, Option.map_some, setObj_new, List.length_nil, List.length_cons, List.nil_append, List.cons_append, Nat.zero_add, fg0, fg2, fs2, fg3, fs3, fg4, fs4, fg5, fs5, fg6, fs6, fg7, fs7, runC_cond, Option.bind_assoc, runC_skip]
    rw [app_first se22 st22 ze32 hr hall hx rfl h1 h2]
    simp (decide := true) only [app_nil, app_cons, Option.bind_some, setObj_new, List.length_nil, List.length_cons, List.nil_append, List.cons_append, Nat.zero_add]
    refine ⟨_, _, rfl, ?_⟩
    exact seal_whole (RM.run_arr_mk rfl)

theorem fn32 : C0.P.funcs[32]? = some Try.f32 := by kernel_rfl
theorem st62 : isSliceTy C0.P 62 = true := by kernel_rfl
theorem st3 : isSliceTy C0.P 3 = false := by kernel_rfl
theorem un3 : C0.P.underlying 3 = some (.int .i64) := by kernel_rfl
noncomputable def zero32 : AV := (elemZero (R 32)).getD .undef
theorem zv32 : elemZero (R 32) = some zero32 := by kernel_rfl
theorem zo32 : okElem (R 32).isAgg (R 32).size zero32 = true := by kernel_rfl
theorem grow_zero : runF C0 32 [.lit nilSl, int 0] [] = some (.val (.lit nilSl), []) :=
  (lim_some (growF C0 32 [.lit nilSl, int 0] [])).2 ⟨100, by kernel_rfl⟩
theorem grow_pos (n : Nat) (hn : 0 < n) (h1 : n * (R 32).bytes ≤ 2 ^ 44) (h2 : n ≤ 2 ^ 44) : runF C0 32 [.lit nilSl, int n] [] = some (.val (.osl (R 32).size 0 n 0 0 none), [some (.arr true true false (List.replicate n zero32))]) := by
  rw [runF_eq (fn := Try.f32) fn32 rfl]
  have hacc : ∀ f d, C0.acc f d = false := fun _ _ => rfl
  have hr : 0 < (R 32).size := by rw [sz32]; decide
  have hw : IntKind.i64.wrap ((n : Int) - 0) = (n : Int) := by rw [IntWalk.i64_in _ (by omega)]; omega
  have hw0 : IntKind.i64.wrap (0 - 0) = (0 : Int) := by decide
  have hneg : ¬ ((n : Int) < 0) := by omega
  have hpos : (0 : Int) < (n : Int) := by omega
  have hmap : Option.map (evalA [AV.lit nilSl]) none = (none : Option AV) := rfl
  simp (decide := true) only [Try.f32, ro_asNil, hacc, op_cap0 st22, op_len0 st22, nilE_nil, op_cutA, cut_nil se22, cut_own se22 hn, op_app, app_make se22 st3 un3 zv32 hr zo32 hn h1 h2, hw, hw0, hneg, hpos, bol, Option.map_none, runC_seq, runC_ops, preps, guardG, List.map_cons, List.map_nil, runG_always, runG_nil, ro_move, ro_binOp, ro_slice, ro_builtin, ro_asTmp, op_move, op_assign, op_bin, evalA, constA, ofVal, doneE, putA, thenG_norm, ifA_tt, ifA_ff, app_nil, app_cons, bin_lss, bin_gtr, bin_sub, andThen_norm, runC_ret, endF_ret, res_nil, res_tmp, tup_one, List.getElem?_toArray, List.replicate_succ, List.replicate_zero, Nat.reduceSub, Nat.reduceAdd, Option.bind_some, Option.map_some, decide_true, decide_false, setObj_new, List.length_nil, List.length_cons, List.nil_append, List.cons_append, Nat.zero_add, fg0, fs0, fg1, fs1, fg4, fs4, fg5, fs5, fg6, fs6, fg8, fs8, fg9, fs9, fg10, fs10, fg11, fs11, fg12, fs12, fg13, fs13, fg14, fs14, fg15, fs15, fg16, fs16, fg17, fs17, fg18, fs18, fg19, fs19, fg20, fs20, fg21, fs21, fg22, fs22, fg23, fs23, fg24, fs24, fg25, fs25, fg26, fs26, runC_cond, runC_skip]

theorem fn27 : C0.P.funcs[27]? = some Try.f27 := by kernel_rfl
theorem ty22 : tyOf C0.P 22 = some (R 22) := by kernel_rfl
theorem ag22 : (R 22).isAgg = false := by kernel_rfl
theorem sz22 : (R 22).size = 1 := by kernel_rfl
theorem se62 : sliceElem C0.P 62 = some (R 22) := by kernel_rfl
theorem ae62 : arrayElem C0.P 62 = none := by kernel_rfl
theorem ld22 {nm : Nat} {ev : Operand → AV} {dst : Option Tmp} {type : TypeId} {pos : String} {after : Array Edge} {guard : Option (Nat × Bool)} {hp : AHeap} {x : Operand} :
   (opEff C0.P nm ev ⟨dst, .load 22 x, type, pos, after, guard⟩).run hp = oneE (loadN false 1 hp (ev x)) := by rw [op_load ty22, loadV_N ag22 sz22]
theorem ix62 (x ix : AV) : indexAddrA C0.P 62 x ix = (asNat ix).bind fun i => sliceIxA false 1 i x := by rw [ix_slice se62 ae62, ag22, sz22]
def I1 (ls : List (List AV)) (k : Nat) (s : St) : Prop :=
  ∃ (i : Nat) (j1 j4 j5 j6 j7 j8 j12 j13 j14 j15 j16 j17 j18 j19 j20 j21 j22 j23 j24 j25 j26 j27 j28 j29 j30 j31 j32 j33 j34 j35 : AV), k = ls.length - i ∧ i ≤ ls.length ∧ s = ⟨27, [.sl (ls.map .sl), j1, .lit nilSl, int ((ls.take i).flatten.length : Nat), j4, j5, j6, j7, j8, .sl (ls.map .sl), int ls.length, int i, j12, j13, j14, j15, j16, j17, j18, j19, j20, j21, j22, j23, j24, j25, j26, j27, j28, j29, j30, j31, j32, j33, j34, j35], []⟩
def P1 (ls : List (List AV)) (o : Out) : Prop :=
  ∃ (j11 j1 j4 j5 j6 j7 j8 j12 j13 j14 j15 j16 j17 j18 j19 j20 j21 j22 j23 j24 j25 j26 j27 j28 j29 j30 j31 j32 j33 j34 j35 : AV), o = .exit 0 ⟨27, [.sl (ls.map .sl), j1, .lit nilSl, int (ls.flatten.length : Nat), j4, j5, j6, j7, j8, .sl (ls.map .sl), int ls.length, j11, j12, j13, j14, j15, j16, j17, j18, j19, j20, j21, j22, j23, j24, j25, j26, j27, j28, j29, j30, j31, j32, j33, j34, j35], []⟩
theorem flat_le {α : Type} (ls : List (List α)) (i : Nat) : (ls.take i).flatten.length ≤ ls.flatten.length := by
  have h : ls.flatten.length = (ls.take i).flatten.length + (ls.drop i).flatten.length := by
    rw [← List.length_append, ← List.flatten_append, List.take_append_drop]
  omega
theorem flat_succ {α : Type} (ls : List (List α)) (i : Nat) (h : i < ls.length) : (ls.take (i + 1)).flatten = (ls.take i).flatten ++ ls[i] := by
  rw [List.take_succ_eq_append_getElem h, List.flatten_append]; simp only [List.flatten_cons, List.flatten_nil, List.append_nil]
noncomputable def cur (ls : List (List AV)) (i : Nat) : AV := if ls.flatten.length = 0 then .lit nilSl else .osl (R 32).size 0 ls.flatten.length 0 (ls.take i).flatten.length none
noncomputable def hpc (ls : List (List AV)) (i : Nat) : AHeap := if ls.flatten.length = 0 then [] else [some (.arr true true false ((ls.take i).flatten ++ List.replicate (ls.flatten.length - (ls.take i).flatten.length) zero32))]
theorem grow_cur (ls : List (List AV)) (h1 : ls.flatten.length * (R 32).bytes ≤ 2 ^ 44) (h2 : ls.flatten.length ≤ 2 ^ 44) : runF C0 32 [.lit (.slice none 0 0), int ls.flatten.length] [] = some (.val (cur ls 0), hpc ls 0) := by
  unfold cur hpc
  by_cases h : ls.flatten.length = 0
  · rw [if_pos h, if_pos h, h]; exact grow_zero
  · rw [if_neg h, if_neg h]
    simpa using grow_pos _ (by omega) h1 h2
theorem trunc_cur (ls : List (List AV)) (i : Nat) : truncA 0 (cur ls i) (hpc ls i) = hpc ls i := by
  unfold cur hpc truncA
  by_cases h : ls.flatten.length = 0
  · rw [if_pos h, if_pos h]; simp
  · rw [if_neg h, if_neg h]; simp [below]
theorem forget_cur (ls : List (List AV)) (i : Nat) : forget (hpc ls i).length (cur ls (i + 1)) = cur ls (i + 1) := by
  apply forget_eq
  unfold cur hpc
  by_cases h : ls.flatten.length = 0
  · rw [if_pos h, if_pos h]; rfl
  · rw [if_neg h, if_neg h]; simp [below]
theorem reset_cur (ls : List (List AV)) (i : Nat) (f : Nat) (fr : List AV) : resetA (hpc ls i).length ⟨f, fr, hpc ls (i + 1)⟩ = ⟨f, fr.map (forget (hpc ls i).length), hpc ls (i + 1)⟩ := by
  have hl : (hpc ls i).length = (hpc ls (i + 1)).length := by
    unfold hpc
    by_cases h : ls.flatten.length = 0
    · rw [if_pos h, if_pos h]
    · rw [if_neg h, if_neg h]; rfl
  have ht : (hpc ls (i + 1)).take (hpc ls i).length = hpc ls (i + 1) := by rw [hl]; exact List.take_length
  rw [reset_eq]
  · simp only [ht]
  · simp only [ht]
    unfold hpc
    by_cases h : ls.flatten.length = 0
    · rw [if_pos h]; rfl
    · rw [if_neg h]; rfl
theorem putElems_end (a ys : List AV) (k : Nat) (z : AV) (h : ys.length ≤ k) : putElems (a ++ List.replicate k z) a.length ys = a ++ ys ++ List.replicate (k - ys.length) z := by
  induction ys generalizing a k with
  | nil => simp [putElems]
  | cons y ys ih =>
    obtain ⟨k, rfl⟩ : ∃ m, k = m + 1 := ⟨k - 1, by simp at h; omega⟩
    have := ih (a ++ [y]) k (by simp at h; omega)
    simp only [putElems, List.replicate_succ]
    simp only [List.length_append, List.length_cons, List.length_nil] at this
    rw [List.set_append_right _ _ (Nat.le_refl _), Nat.sub_self, List.set_cons_zero]
    simpa [List.append_assoc] using this
theorem app_cur (ls : List (List AV)) (i : Nat) (hi : i < ls.length) (hall : ls[i].all (okElem (R 32).isAgg (R 32).size) = true) :
    ∃ wr, (∀ nm, (appendA C0.P nm 22 22 (cur ls i) (.sl ls[i])).run (hpc ls i) = some ⟨cur ls (i + 1), wr⟩) ∧ applyWr (hpc ls i) wr = hpc ls (i + 1) := by
  have hr : 0 < (R 32).size := by rw [sz32]; decide
  have hf := flat_succ ls i hi
  have hle := flat_le ls (i + 1)
  have hlen : (ls.take (i + 1)).flatten.length = (ls.take i).flatten.length + ls[i].length := by rw [hf, List.length_append]
  by_cases h : ls.flatten.length = 0
  · have he : ls[i] = [] := List.length_eq_zero_iff.1 (by omega)
    refine ⟨[], fun nm => ?_, ?_⟩
    · unfold cur hpc
      rw [if_pos h, if_pos h, if_pos h, he]
      simp [appendA, se22, srcA, st22, elemsA, RM.run_bind, RM.run_pure, ze32, hr]
    · unfold hpc; rw [if_pos h, if_pos h]; rfl
  · by_cases he : ls[i] = []
    · have hl0 : ls[i].length = 0 := by rw [he]; rfl
      rw [hl0] at hlen
      have hf2 : (ls.take (i + 1)).flatten = (ls.take i).flatten := by rw [hf, he, List.append_nil]
      refine ⟨[], fun nm => ?_, ?_⟩
      · unfold cur hpc
        rw [if_neg h, if_neg h, if_neg h, he, hf2]
        simp [appendA, se22, srcA, st22, elemsA, RM.run_bind, RM.run_pure, ze32, hr]
      · unfold hpc; rw [if_neg h, if_neg h, hf2]; rfl
    · have hne : ls[i].isEmpty = false := by cases hq : ls[i] <;> simp_all
      have hes : ((ls.take i).flatten ++ List.replicate (ls.flatten.length - (ls.take i).flatten.length) zero32).length = ls.flatten.length := by
        rw [List.length_append, List.length_replicate]; omega
      refine ⟨[(0, .arr true true false ((ls.take (i + 1)).flatten ++ List.replicate (ls.flatten.length - (ls.take (i + 1)).flatten.length) zero32))], fun nm => ?_, ?_⟩
      · unfold cur hpc
        rw [if_neg h, if_neg h, if_neg h]
        have ho := RM.run_arr_mk (hp := [some (.arr true true false ((ls.take i).flatten ++ List.replicate (ls.flatten.length - (ls.take i).flatten.length) zero32))]) (n := 0) rfl
        rw [hes] at ho
        have hput := putElems_end (ls.take i).flatten ls[i] (ls.flatten.length - (ls.take i).flatten.length) zero32 (by omega)
        simp only [appendA, se22, srcA, st22, elemsA, RM.run_bind, RM.run_pure, Option.bind_some, ze32, hr, hall, decide_true, Bool.and_self, hne, ho]
        rw [if_neg (by rintro (h1 | h1 | h1); (exact absurd h1 (by decide)); (rw [hes] at h1; omega); (exact h1 rfl)), if_pos (by simp only [Option.getD_none]; omega), if_pos (by rw [hes]; omega)]
        simp only [RM.run_pure, Nat.zero_add, hput, hlen, ← hf]
        rw [Nat.sub_sub]
      · unfold hpc; rw [if_neg h, if_neg h]; rfl
def I2 (ls : List (List AV)) (k : Nat) (s : St) : Prop :=
  ∃ (i : Nat) (j1 j4 j5 j7 j8 j9 j10 j11 j12 j13 j14 j15 j16 j17 j18 j19 j20 j21 j22 j23 j24 j28 j29 j30 j31 j32 j33 j34 j35 : AV), k = ls.length - i ∧ i ≤ ls.length ∧ s = ⟨27, [.sl (ls.map .sl), j1, .lit nilSl, int (ls.flatten.length : Nat), j4, j5, cur ls i, j7, j8, j9, j10, j11, j12, j13, j14, j15, j16, j17, j18, j19, j20, j21, j22, j23, j24, .sl (ls.map .sl), int ls.length, int i, j28, j29, j30, j31, j32, j33, j34, j35], hpc ls i⟩
def P2 (ls : List (List AV)) (o : Out) : Prop :=
  ∃ (j27 j1 j4 j5 j7 j8 j9 j10 j11 j12 j13 j14 j15 j16 j17 j18 j19 j20 j21 j22 j23 j24 j28 j29 j30 j31 j32 j33 j34 j35 : AV), o = .exit 2 ⟨27, [.sl (ls.map .sl), j1, .lit nilSl, int (ls.flatten.length : Nat), j4, j5, cur ls ls.length, j7, j8, j9, j10, j11, j12, j13, j14, j15, j16, j17, j18, j19, j20, j21, j22, j23, j24, .sl (ls.map .sl), int ls.length, j27, j28, j29, j30, j31, j32, j33, j34, j35], hpc ls ls.length⟩
theorem concat_run (ls : List (List AV)) (hn : ls.length ≤ 2 ^ 44) (hall : ∀ l ∈ ls, l.all (okElem (R 32).isAgg (R 32).size) = true) (hT1 : ls.flatten.length * (R 32).bytes ≤ 2 ^ 44) (hT : ls.flatten.length ≤ 2 ^ 44) : ∃ res hpf, runF C0 27 [.sl (ls.map .sl)] [] = some (.val res, hpf) ∧ (sealV 1000 res).run hpf = some (.sl ls.flatten) := by
  have key : runF C0 27 [.sl (ls.map .sl)] [] = some (.val (cur ls ls.length), hpc ls ls.length) := by
    rw [runF_eq (fn := Try.f27) fn27 rfl]
    have hacc : ∀ f d, C0.acc f d = false := fun _ _ => rfl
    have hr : 0 < (R 32).size := by rw [sz32]; decide
    simp (decide := true) only [Try.f27, ro_asNil, hacc, op_len st62, List.length_map, runC_seq, runC_ops, preps, guardG, List.map_cons, List.map_nil, runG_always, runG_nil, ro_move, ro_builtin, ro_asInt, op_move, op_assign, evalA, constA, ofVal, doneE, putA, thenG_norm, app_nil, andThen_norm, List.getElem?_toArray, List.replicate_succ, List.replicate_zero, Nat.reduceSub, Option.bind_some, List.length_nil, List.length_cons, List.nil_append, List.cons_append, Nat.zero_add, fg0, fs2, fs3, fg9, fs9, fs10, fs11, runC_block, Option.bind_assoc, lenE_sl]
    refine loop_bind (I1 ls) (P1 ls) ls.length ?_ ?_ ?_
    · exact ⟨0, _, _, _, _, _, _, _, _, _, _, _, _, _, _, _, _, _, _, _, _, _, _, _, _, _, _, _, _, _, _, rfl, Nat.zero_le _, rfl⟩
    · rintro k s ⟨i, j1, j4, j5, j6, j7, j8, j12, j13, j14, j15, j16, j17, j18, j19, j20, j21, j22, j23, j24, j25, j26, j27, j28, j29, j30, j31, j32, j33, j34, j35, hk, hi, rfl⟩
      have hwrap : IntKind.i64.wrap ((i : Int) + 1) = ((i + 1 : Nat) : Int) := by
        rw [IntWalk.i64_in _ (by omega)]; omega
      by_cases hlt : i < ls.length
      · have hget : (ls.map AV.sl)[i]? = some (.sl ls[i]) := by simp [hlt]
        have hok : okElem false 1 (.sl ls[i]) = true := by simp [okElem, isLeaf]
        have hp0 : partA false 1 (.sl ls[i]) 0 = some (.sl ls[i]) := by simp [partA, isLeaf]
        have hlt2 : ((i : Int) < (ls.length : Int)) := by omega
        have hf := flat_succ ls i hlt
        have hle := flat_le ls (i + 1)
        have hlen : (ls.take (i + 1)).flatten.length = (ls.take i).flatten.length + ls[i].length := by rw [hf, List.length_append]
        have hsz : IntKind.i64.wrap (((ls.take i).flatten.length : Int) + (ls[i].length : Int)) = (((ls.take (i + 1)).flatten.length : Nat) : Int) := by
          rw [IntWalk.i64_in _ (by omega)]; omega
        have hneg : ¬ (((ls.take (i + 1)).flatten.length : Int) < 0) := by omega
        left
        refine ⟨_, by simp (decide := true) only [hget, hok, hlt2, hwrap, hsz, hneg, ld22, ix62, op_len st22, bol, runC_seq, runC_ops, preps, guardG, List.map_cons, List.map_nil, runG_always, runG_nil, ro_move, ro_load, ro_binOp, ro_indexAddr, ro_builtin, ro_asTmp, op_move, op_assign, op_bin, evalA, constA, ofVal, doneE, putA, thenG_norm, ifA_tt, ifA_ff, app_nil, bin_lss, bin_add, andThen_norm, List.getElem?_toArray, Option.bind_some, Option.map_some, decide_true, decide_false, List.length_nil, isLeaf, oneE, partA, if_true, fg3, fs3, fg5, fs5, fg9, fg10, fg11, fs11, fg12, fs12, fg13, fs13, fg14, fs14, fg15, fs15, fg16, fs16, fg17, fs17, fg18, fs18, fg19, fs19, fg20, fs20, fg22, fs22, runC_block, runC_cond, blockA_norm, op_indexAddr, asNat_cast, sliceIxA, loadN, runC_skip, lenE_sl]; rfl, ls.length - (i + 1), by omega, ?_⟩
        rw [reset_eq (by simp)]
        exact ⟨i + 1, _, _, _, _, _, _, _, _, _, _, _, _, _, _, _, _, _, _, _, _, _, _, _, _, _, _, _, _, _, _, rfl, by omega, rfl⟩
      · have hlt2 : ¬ ((i : Int) < (ls.length : Int)) := by omega
        have hie : i = ls.length := by omega
        right
        refine ⟨_, by simp (decide := true) only [hlt2, bol, runC_seq, runC_ops, preps, guardG, List.map_cons, List.map_nil, runG_always, runG_nil, ro_binOp, op_bin, evalA, doneE, putA, thenG_norm, ifA_ff, app_nil, bin_lss, andThen_norm, andThen_exit, List.getElem?_toArray, Option.bind_some, Option.map_some, decide_false, List.length_nil, fg10, fg11, fg12, fs12, runC_cond, runC_exit]; rfl, by simp, ?_⟩
        have : ls.take i = ls := by rw [hie]; exact List.take_length
        rw [this]
        exact ⟨_, _, _, _, _, _, _, _, _, _, _, _, _, _, _, _, _, _, _, _, _, _, _, _, _, _, _, _, _, _, _, rfl⟩
    · rintro o ⟨j11, j1, j4, j5, j6, j7, j8, j12, j13, j14, j15, j16, j17, j18, j19, j20, j21, j22, j23, j24, j25, j26, j27, j28, j29, j30, j31, j32, j33, j34, j35, rfl⟩
      simp (decide := true) only [runC_seq, runC_ops, preps, guardG, List.map_cons, List.map_nil, runG_always, ro_move, op_move, evalA, constA, ofVal, doneE, putA, thenG_norm, app_nil, andThen_norm, List.getElem?_toArray, Option.bind_some, List.length_nil, runO_call, resolve_fn, fg3, fg23, fs23, blockA_eq, Option.bind_assoc]
      have hk38 : C0.kind 32 = .imp := rfl
      have hal38 : ∀ a t, isAllocOp (Op.call ⟨.value (.func 32), a, t⟩) = false := fun _ _ => rfl
      simp only [calleeA, callA, hal38, hk38]
      rw [grow_cur ls hT1 hT]
      simp only [Option.bind_some, doneI, List.length_nil, trunc_cur]
      simp (decide := true) only [op_len st62, List.length_map, runC_seq, runC_ops, preps, guardG, List.map_cons, List.map_nil, runG_always, runG_nil, ro_move, ro_builtin, ro_asTmp, op_move, op_assign, evalA, constA, ofVal, doneE, putA, thenG_norm, app_nil, andThen_norm, List.getElem?_toArray, Option.bind_some, fg0, fs6, fg24, fs24, fg25, fs25, fs26, fs27, runC_block, Option.bind_assoc, lenE_sl]
      refine loop_bind (I2 ls) (P2 ls) ls.length ?_ ?_ ?_
      · exact ⟨0, _, _, _, _, _, _, _, _, _, _, _, _, _, _, _, _, _, _, _, _, _, _, _, _, _, _, _, _, _, rfl, Nat.zero_le _, rfl⟩
      · rintro k s ⟨i, j1, j4, j5, j7, j8, j9, j10, j11, j12, j13, j14, j15, j16, j17, j18, j19, j20, j21, j22, j23, j24, j28, j29, j30, j31, j32, j33, j34, j35, hk, hi, rfl⟩
        have hwrap : IntKind.i64.wrap ((i : Int) + 1) = ((i + 1 : Nat) : Int) := by
          rw [IntWalk.i64_in _ (by omega)]; omega
        by_cases hlt : i < ls.length
        · have hget : (ls.map AV.sl)[i]? = some (.sl ls[i]) := by simp [hlt]
          have hok : okElem false 1 (.sl ls[i]) = true := by simp [okElem, isLeaf]
          have hp0 : partA false 1 (.sl ls[i]) 0 = some (.sl ls[i]) := by simp [partA, isLeaf]
          have hlt2 : ((i : Int) < (ls.length : Int)) := by omega
          obtain ⟨wr, hap, hwr⟩ := app_cur ls i hlt (hall _ (List.getElem_mem hlt))
          left
          refine ⟨_, by simp (decide := true) only [hget, hok, hlt2, hwrap, op_app, hap, hwr, ld22, ix62, bol, runC_seq, runC_ops, preps, guardG, List.map_cons, List.map_nil, runG_always, runG_nil, ro_move, ro_load, ro_binOp, ro_indexAddr, ro_builtin, ro_asTmp, op_move, op_assign, op_bin, evalA, constA, ofVal, doneE, putA, thenG_norm, ifA_tt, app_nil, bin_lss, bin_add, andThen_norm, List.getElem?_toArray, Option.bind_some, Option.map_some, decide_true, isLeaf, oneE, partA, if_true, fg6, fs6, fg8, fs8, fg25, fg26, fg27, fs27, fg28, fs28, fg29, fs29, fg30, fs30, fg31, fs31, fg32, fs32, fg33, fs33, fg34, fs34, runC_block, runC_cond, blockA_norm, op_indexAddr, asNat_cast, sliceIxA, loadN, runC_skip]; rfl, ls.length - (i + 1), by omega, ?_⟩
          rw [reset_cur]
          simp only [List.map_cons, List.map_nil, forget_cur]
          exact ⟨i + 1, _, _, _, _, _, _, _, _, _, _, _, _, _, _, _, _, _, _, _, _, _, _, _, _, _, _, _, _, _, rfl, by omega, rfl⟩
        · have hlt2 : ¬ ((i : Int) < (ls.length : Int)) := by omega
          have hie : i = ls.length := by omega
          right
          refine ⟨_, by simp (decide := true) only [hlt2, bol, runC_seq, runC_ops, preps, guardG, List.map_cons, List.map_nil, runG_always, runG_nil, ro_binOp, op_bin, evalA, doneE, putA, thenG_norm, ifA_ff, app_nil, bin_lss, andThen_norm, andThen_exit, List.getElem?_toArray, Option.bind_some, Option.map_some, decide_false, fg26, fg27, fg28, fs28, runC_cond, runC_exit]; rfl, by simp, ?_⟩
          subst hie
          exact ⟨_, _, _, _, _, _, _, _, _, _, _, _, _, _, _, _, _, _, _, _, _, _, _, _, _, _, _, _, _, _, rfl⟩
      · rintro o ⟨j27, j1, j4, j5, j7, j8, j9, j10, j11, j12, j13, j14, j15, j16, j17, j18, j19, j20, j21, j22, j23, j24, j28, j29, j30, j31, j32, j33, j34, j35, rfl⟩
        simp (decide := true) only [runC_seq, runC_ops, preps, guardG, List.map_cons, List.map_nil, runG_always, runG_nil, ro_move, ro_asTmp, op_move, op_assign, evalA, doneE, putA, thenG_norm, app_nil, andThen_norm, runC_ret, endF_ret, res_nil, res_tmp, tup_one, List.getElem?_toArray, Option.bind_some, Option.map_some, fg2, fs2, fg6, fg35, fs35, blockA_eq]
  refine ⟨_, _, key, ?_⟩
  unfold cur hpc
  by_cases h : ls.flatten.length = 0
  · rw [if_pos h, if_pos h, List.length_eq_zero_iff.1 h]; rfl
  · rw [if_neg h, if_neg h]
    simp only [List.take_length, Nat.sub_self, List.replicate_zero, List.append_nil]
    exact seal_whole (RM.run_arr_mk rfl)

end Go.Proofs.Ytighpjegljchpaa.Lib28
end

section
set_option linter.unusedVariables false
/- The context of this seat, contracts of library functions, the example (printed by gen_pre.py). -/
set_option maxRecDepth 100000
set_option maxHeartbeats 0
namespace Go.Proofs.Ytighpjegljchpaa
open Go.PI
def row32 : TyRow := ⟨.struct #[], 21, 160, none, false⟩
def intrs : List (Nat × (List AV → Option AV)) := [(28, cloneI row32), (27, concatI row32)]
noncomputable def C : Ctx where
  P := Try.prog
  kind := fun f => match Go.PI.lookS [(24, ()), (29, ()), (30, ()), (31, ()), (33, ()), (46, ()), (47, ()), (48, ()), (50, ())] f with | some _ => .imp | none => .pure
  intr := fun g => Go.PI.lookS intrs g
  acc := fun _ _ => true
  nils := fun f d => (Go.PI.look2 [(11, 38, [(0, 21)]), (14, 18, [(0, 21)]), (15, 20, [(0, 21)])] f d).getD []
theorem nameOk : ∀ (f : FuncId) (fn : Func), Try.prog.funcs[f]? = some fn → fn.body.isSome = true → (fn.name == "runtime.NumGoroutine") = false := by
  have h : (Try.prog.funcs.toList.all fun fn => !(fn.name == "runtime.NumGoroutine") || !fn.body.isSome) = true := by kernel_rfl
  intro f fn hf hb
  have hm : fn ∈ Try.prog.funcs.toList := by
    have := Array.mem_of_getElem? hf
    exact Array.mem_toList_iff.2 this
  have := List.all_eq_true.1 h fn hm
  rw [hb] at this
  simpa using this
theorem libOk28 : Lib28.C0.Ok where
  name := nameOk
  intr := fun g h al r hg => by simp [Lib28.C0] at hg
  intrFn := fun g h hg => by simp [Lib28.C0] at hg
  intrO := fun g h al r hpf hg => by simp [Lib28.C0] at hg
  intrOFn := fun g h hg => by simp [Lib28.C0] at hg
theorem Cok : C.Ok where
  name := nameOk
  intrO := fun g h al r hpf hg => by cases hg
  intrOFn := fun g h hg => by cases hg
  intr := by
    intro g h al r hg hr Ec w vs hI ha
    have hm := lookS_mem (show Go.PI.lookS intrs g = some h from hg)
    simp only [intrs, List.mem_cons, List.not_mem_nil, or_false, Prod.mk.injEq] at hm
    rcases hm with ⟨rfl, rfl⟩ | ⟨rfl, rfl⟩
    · exact clone_ok (r := row32) libOk28 ⟨_, Lib28.clone_nil⟩ (fun xs cap h1 h2 h3 => Lib28.clone_slx xs cap (by rw [Lib28.ag32, Lib28.sz32]; exact h1) (by rw [Lib28.by32]; exact h2) h3) hr Ec w vs hI ha
    · exact concat_ok (r := row32) libOk28 (fun ls h0 h1 h2 h3 => Lib28.concat_run ls h0 (by rw [Lib28.ag32, Lib28.sz32]; exact h1) (by rw [Lib28.by32]; exact h2) h3) hr Ec w vs hI ha
  intrFn := by
    intro g h hg
    have hm := lookS_mem (show Go.PI.lookS intrs g = some h from hg)
    simp only [intrs, List.mem_cons, List.not_mem_nil, or_false, Prod.mk.injEq] at hm
    rcases hm with ⟨rfl, rfl⟩ | ⟨rfl, rfl⟩
    · exact ⟨_, Lib28.fn28, rfl⟩
    · exact ⟨_, Lib28.fn27, rfl⟩
theorem ok32 (x : Itemx) (a : AV) (h : rp31 x a) : okElem row32.isAgg row32.size a = true := (ek31 x a h).1
def _root_.Go.Models.slices_Clone (s : List Itemx) : Option (List Itemx) := cloneM 160 s
theorem hand28 : SumOk C T 28 ⟨[22], [22], fun x => Go.Models.slices_Clone x⟩ :=
  sumOk_hand (C := C) (T := T) (g := 28) (t := 22) (u := 22) (I := cloneI row32) (F := Go.Models.slices_Clone) rfl rfl fun x a y h hy => by
    obtain ⟨l, h1, h2⟩ := clone_ans (r := row32) (rpe := rp31) (x := x) (y := y) ok32 h hy
    exact ⟨l, h1, .inl ⟨l, rfl, h2⟩⟩
def _root_.Go.Models.slices_Concat (s : List (List Itemx)) : Option (List Itemx) := concatM 160 s
theorem hand27 : SumOk C T 27 ⟨[62], [22], fun x => Go.Models.slices_Concat x⟩ :=
  sumOk_hand (C := C) (T := T) (g := 27) (t := 62) (u := 22) (I := concatI row32) (F := Go.Models.slices_Concat) rfl rfl fun x a y h hy => by
    obtain ⟨l, h1, h2⟩ := concat_ans (r := row32) (rpe := rp31) (x := x) (y := y) ok32 h hy
    exact ⟨l, h1, .inl ⟨l, rfl, h2⟩⟩
def _root_.Go.Models.law25_head : Option Bool := some true
noncomputable def headV : Option (Res × AHeap) → Option Bool
  | some (.val (.lit (.bool b)), _) => some b
  | _ => none
theorem head_ev : headV (evF C 300 9 [] []) = some true := by kernel_rfl
theorem head_run : ∃ hpf, runF C 9 [] [] = some (.val (.lit (.bool true)), hpf) := by
  have h := head_ev
  unfold headV at h
  split at h
  · rename_i b hpf hq
    simp only [Option.some.injEq] at h
    subst h
    exact ⟨hpf, (lim_some (growF C 9 [] [])).2 ⟨300, hq⟩⟩
  · simp at h
theorem hand9 : SumOk C T 9 ⟨[], [4], fun x => Go.Models.law25_head⟩ where
  kind := rfl
  ans := by
    intro x al y hx hy
    match al, hx with
    | _ :: _, hx => exact False.elim hx
    | [], _ =>
      obtain ⟨hpf, h⟩ := head_run
      have hy' : some true = some (y : Bool) := hy
      have hy2 : (y : Bool) = true := (Option.some.inj hy').symm
      subst hy2
      refine ⟨.lit (.bool true), hpf, [.lit (.bool true)], ?_, rfl, rfl, ?_⟩
      · have hi : C.intr 9 = none := rfl
        simp only [ansC, hi, h]
      · exact ⟨rfl, trivial⟩
def owns : List (Nat × OSumm T) := []
theorem ownsOk : ∀ (g : FuncId) (σ : OSumm T), lookS owns g = some σ → OwnOk C T g σ := fun g σ h => by cases h
end Go.Proofs.Ytighpjegljchpaa
end

section
set_option linter.unusedVariables false
/- Models of the functions of this seat, and that they hold (printed by chain.py). -/
set_option maxRecDepth 100000
set_option maxHeartbeats 0
namespace Go.Proofs.Ytighpjegljchpaa
open Go.PI

end Go.Proofs.Ytighpjegljchpaa
open Go Go.PI Go.Proofs Go.Proofs.Ytighpjegljchpaa
noncomputable def Go.Models.agenda_fits (x : Itemx) : Option Bool :=
  bif decide (0 ≤ x.At) then
    bif decide (x.At ≤ 20000000) then
      bif decide (1 ≤ x.Kind) then
        some (decide (x.Kind ≤ 7))
      else
        some false
    else
      some false
  else
    some false
noncomputable def Go.Models.agenda_before (a : Itemx) (b : Itemx) : Option Bool :=
  bif decide (a.At < b.At) then
    some true
  else
    bif a.At == b.At then
      some (decide (a.Number < b.Number))
    else
      some false
noncomputable def Go.Models.agenda_Valid (a : Agenda) : Option Bool :=
  bif decide (a.Next < 0) then
    some false
  else
    bif decide (1000000000 < a.Next) then
      some false
    else
      bif decide (5000 < (↑a.List.length : Int)) then
        some false
      else
        (loopM (fun ((b1, i2, l3) : Bool × Int × List (Int × Bool)) =>
            bif decide (i2 < (↑a.List.length : Int)) then
              bif decide (0 ≤ i2) then
                (a.List[i2.toNat]?).bind fun q4 =>
                (Models.agenda_fits q4).bind fun b5 =>
                bif !b5 then
                  some (Sum.inr (Sum.inl (false, l3)))
                else
                  bif decide (q4.Number < 0) then
                    some (Sum.inr (Sum.inl (false, l3)))
                  else
                    bif decide (a.Next ≤ q4.Number) then
                      some (Sum.inr (Sum.inl (false, l3)))
                    else
                      bif (mapGet (KK.int IntKind.i64) l3 q4.Number).getD false then
                        some (Sum.inr (Sum.inl (false, l3)))
                      else
                        bif decide (0 < i2) then
                          bif decide (0 ≤ IntKind.i64.wrap (i2 - 1)) then
                            (a.List[(IntKind.i64.wrap (i2 - 1)).toNat]?).bind fun q6 =>
                            (Models.agenda_before q6 q4).bind fun b7 =>
                            bif !b7 then
                              some (Sum.inr (Sum.inl (false, l3)))
                            else
                              some (Sum.inl (b1, IntKind.i64.wrap (i2 + 1), mapPut (KK.int IntKind.i64) l3 q4.Number true))
                          else
                            none
                        else
                          some (Sum.inl (b1, IntKind.i64.wrap (i2 + 1), mapPut (KK.int IntKind.i64) l3 q4.Number true))
              else
                none
            else
              some (Sum.inr (Sum.inr (b1, i2, l3)))) (false, 0, [])).bind fun w8 =>
        Sum.elim (fun (b9, l10) =>
          some b9) (fun (b11, i12, l13) =>
          some true) w8
noncomputable def Go.Models.agenda_Add_1 (y : Itemx) (x : Itemx) : Option Bool :=
  (Models.agenda_before x y).bind fun b1 =>
  some b1
noncomputable def Go.Models.agenda_Add (a : Agenda) (x : Itemx) : Option (Agenda × Int) :=
  (Models.agenda_Valid a).bind fun b1 =>
  bif !b1 then
    some (Agenda.mk [] 0, 1)
  else
    (Models.agenda_fits x).bind fun b2 =>
    bif !b2 then
      some (Agenda.mk [] 0, 1)
    else
      bif (↑a.List.length : Int) == 5000 then
        some (Agenda.mk [] 0, 10)
      else
        bif a.Next == 1000000000 then
          some (Agenda.mk [] 0, 10)
        else
          (loopM (fun ((i3, i4) : Int × Int) =>
              bif decide (i3 < i4) then
                bif decide (0 ≤ IntKind.i64.wrap ((IntKind.u64.wrap (IntKind.i64.wrap (i3 + i4))).fdiv (2 ^ min (Int.toNat 1) 64))) then
                  (a.List[(IntKind.i64.wrap ((IntKind.u64.wrap (IntKind.i64.wrap (i3 + i4))).fdiv (2 ^ min (Int.toNat 1) 64))).toNat]?).bind fun q5 =>
                  (Models.agenda_Add_1 q5 (Itemx.mk x.At a.Next x.Kind x.A x.B x.P x.K x.Change)).bind fun b6 =>
                  bif !b6 then
                    some (Sum.inl (IntKind.i64.wrap (IntKind.i64.wrap ((IntKind.u64.wrap (IntKind.i64.wrap (i3 + i4))).fdiv (2 ^ min (Int.toNat 1) 64)) + 1), i4))
                  else
                    some (Sum.inl (i3, IntKind.i64.wrap ((IntKind.u64.wrap (IntKind.i64.wrap (i3 + i4))).fdiv (2 ^ min (Int.toNat 1) 64))))
                else
                  none
              else
                some (Sum.inr (i3, i4))) (0, (↑a.List.length : Int))).bind fun (i7, i8) =>
          bif decide (0 ≤ i7) then
            bif decide (0 ≤ i7) then
              bif decide (0 ≤ i7.toNat) && decide (i7.toNat ≤ i7.toNat) && decide (i7.toNat ≤ a.List.length) then
                bif decide (0 ≤ i7) then
                  bif decide (i7.toNat ≤ a.List.length) then
                    (Models.slices_Concat [List.take (i7.toNat - 0) (List.drop 0 a.List), [Itemx.mk x.At a.Next x.Kind x.A x.B x.P x.K x.Change], List.drop i7.toNat a.List]).bind fun l9 =>
                    some (Agenda.mk l9 (IntKind.i64.wrap (a.Next + 1)), 0)
                  else
                    none
                else
                  none
              else
                none
            else
              none
          else
            none
noncomputable def Go.Models.law25_filled (times : List Int) (kinds : List Int) : Option Agenda :=
  (loopM (fun ((i1, l2, i3) : Int × List Itemx × Int) =>
      bif decide (i1 < (↑times.length : Int)) then
        bif decide (0 ≤ i1) then
          (times[i1.toNat]?).bind fun i4 =>
          bif decide (0 ≤ i1) then
            (kinds[i1.toNat]?).bind fun i5 =>
            (Models.agenda_Add (Agenda.mk l2 i3) (Itemx.mk i4 0 i5 0 0 (Packet.mk 0 0 0 0 0 0 false false) (Ack.mk 0 0 0 0 false) (Change.mk 0 0 0))).bind fun (q6, i7) =>
            bif i7 == 0 then
              some (Sum.inl (IntKind.i64.wrap (i1 + 1), q6.List, q6.Next))
            else
              some (Sum.inl (IntKind.i64.wrap (i1 + 1), l2, i3))
          else
            none
        else
          none
      else
        some (Sum.inr (i1, l2, i3))) (0, [], 0)).bind fun (i8, l9, i10) =>
  some (Agenda.mk l9 i10)
noncomputable def Go.Models.agenda_Drop (a : Agenda) (kind : Int) (x : Int) (y : Int) : Option (Agenda × Int) :=
  (Models.agenda_Valid a).bind fun b1 =>
  bif !b1 then
    some (Agenda.mk [] 0, 1)
  else
    (loopM (fun ((i2, i3, l4) : Int × Int × List Itemx) =>
        bif decide (i2 < (↑a.List.length : Int)) then
          bif decide (0 ≤ i2) then
            (a.List[i2.toNat]?).bind fun q5 =>
            bif !q5.Kind == kind then
              bif decide ((l4.length + 1) * 160 ≤ 2 ^ 44) && decide (l4.length + 1 ≤ 2 ^ 44) then
                some (Sum.inl (IntKind.i64.wrap (i2 + 1), i3, l4 ++ [q5]))
              else
                none
            else
              bif !q5.A == x then
                bif decide ((l4.length + 1) * 160 ≤ 2 ^ 44) && decide (l4.length + 1 ≤ 2 ^ 44) then
                  some (Sum.inl (IntKind.i64.wrap (i2 + 1), i3, l4 ++ [q5]))
                else
                  none
              else
                bif !q5.B == y then
                  bif decide ((l4.length + 1) * 160 ≤ 2 ^ 44) && decide (l4.length + 1 ≤ 2 ^ 44) then
                    some (Sum.inl (IntKind.i64.wrap (i2 + 1), i3, l4 ++ [q5]))
                  else
                    none
                else
                  some (Sum.inl (IntKind.i64.wrap (i2 + 1), i3, l4))
          else
            none
        else
          some (Sum.inr (i2, i3, l4))) (0, a.Next, [])).bind fun (i6, i7, l8) =>
    some (Agenda.mk l8 i7, 0)
noncomputable def Go.Models.agenda_Take (a : Agenda) : Option (Agenda × Itemx × Bool) :=
  bif (↑a.List.length : Int) == 0 then
    (Models.slices_Clone a.List).bind fun l1 =>
    some (Agenda.mk l1 a.Next, Itemx.mk 0 0 0 0 0 (Packet.mk 0 0 0 0 0 0 false false) (Ack.mk 0 0 0 0 false) (Change.mk 0 0 0), false)
  else
    (Models.agenda_Valid a).bind fun b2 =>
    bif !b2 then
      (Models.slices_Clone a.List).bind fun l3 =>
      some (Agenda.mk l3 a.Next, Itemx.mk 0 0 0 0 0 (Packet.mk 0 0 0 0 0 0 false false) (Ack.mk 0 0 0 0 false) (Change.mk 0 0 0), false)
    else
      bif decide (Int.toNat 1 ≤ a.List.length) then
        (Models.slices_Clone (List.drop (Int.toNat 1) a.List)).bind fun l4 =>
        (a.List[Int.toNat 0]?).bind fun q5 =>
        some (Agenda.mk l4 a.Next, q5, true)
      else
        none
noncomputable def Go.Models.law25_taken (a : Agenda) : Option ((List Int)) :=
  (loopM (fun ((i1, l2, l3, l4, i5) : Int × List Int × List Int × List Itemx × Int) =>
      bif decide (i1 ≤ 5000) then
        (Models.agenda_Take (Agenda.mk l4 i5)).bind fun (q6, q7, b8) =>
        bif !b8 then
          some (Sum.inr (Sum.inl (l2, l3, l4, i5)))
        else
          bif decide ((l3.length + 1) * 8 ≤ 2 ^ 44) && decide (l3.length + 1 ≤ 2 ^ 44) then
            some (Sum.inl (IntKind.i64.wrap (i1 + 1), l2, l3 ++ [q7.Number], q6.List, q6.Next))
          else
            none
      else
        some (Sum.inr (Sum.inr (i1, l2, l3, l4, i5)))) (0, [], [], a.List, a.Next)).bind fun w9 =>
  Sum.elim (fun (l10, l11, l12, i13) =>
    some l11) (fun (i14, l15, l16, l17, i18) =>
    some l16) w9
noncomputable def Go.Models.law25_ints (a : List Int) (b : List Int) : Option Bool :=
  bif !(↑a.length : Int) == (↑b.length : Int) then
    some false
  else
    (loopM (fun ((b1, i2) : Bool × Int) =>
        bif decide (i2 < (↑a.length : Int)) then
          bif decide (0 ≤ i2) then
            (a[i2.toNat]?).bind fun i3 =>
            bif decide (0 ≤ i2) then
              (b[i2.toNat]?).bind fun i4 =>
              bif !i3 == i4 then
                some (Sum.inr (Sum.inl false))
              else
                some (Sum.inl (b1, IntKind.i64.wrap (i2 + 1)))
            else
              none
          else
            none
        else
          some (Sum.inr (Sum.inr (b1, i2)))) (false, 0)).bind fun w5 =>
    Sum.elim (fun b6 =>
      some b6) (fun (b7, i8) =>
      some true) w5
noncomputable def Go.Models.ref25_Fits (x : Itemx) : Option Bool :=
  bif decide (0 ≤ x.At) then
    bif decide (x.At ≤ 20000000) then
      bif decide (1 ≤ x.Kind) then
        some (decide (x.Kind ≤ 7))
      else
        some false
    else
      some false
  else
    some false
noncomputable def Go.Models.ref25_Valid (a : Agenda) : Option Bool :=
  bif decide (a.Next < 0) then
    some false
  else
    bif decide (1000000000 < a.Next) then
      some false
    else
      bif decide (5000 < (↑a.List.length : Int)) then
        some false
      else
        (loopM (fun ((b1, i2) : Bool × Int) =>
            bif decide (i2 < (↑a.List.length : Int)) then
              bif decide (0 ≤ i2) then
                (a.List[i2.toNat]?).bind fun q3 =>
                (Models.ref25_Fits q3).bind fun b4 =>
                bif !b4 then
                  some (Sum.inr (Sum.inl false))
                else
                  bif decide (q3.Number < 0) then
                    some (Sum.inr (Sum.inl false))
                  else
                    bif decide (a.Next ≤ q3.Number) then
                      some (Sum.inr (Sum.inl false))
                    else
                      bif decide (0 < i2) then
                        bif decide (0 ≤ IntKind.i64.wrap (i2 - 1)) then
                          (a.List[(IntKind.i64.wrap (i2 - 1)).toNat]?).bind fun q5 =>
                          bif decide (q3.At < q5.At) then
                            some (Sum.inr (Sum.inl false))
                          else
                            bif decide (0 ≤ IntKind.i64.wrap (i2 - 1)) then
                              (a.List[(IntKind.i64.wrap (i2 - 1)).toNat]?).bind fun q6 =>
                              bif q3.At == q6.At then
                                bif decide (0 ≤ IntKind.i64.wrap (i2 - 1)) then
                                  (a.List[(IntKind.i64.wrap (i2 - 1)).toNat]?).bind fun q7 =>
                                  bif decide (q3.Number ≤ q7.Number) then
                                    some (Sum.inr (Sum.inl false))
                                  else
                                    some (Sum.inl (b1, IntKind.i64.wrap (i2 + 1)))
                                else
                                  none
                              else
                                some (Sum.inl (b1, IntKind.i64.wrap (i2 + 1)))
                            else
                              none
                        else
                          none
                      else
                        some (Sum.inl (b1, IntKind.i64.wrap (i2 + 1)))
              else
                none
            else
              some (Sum.inr (Sum.inr (b1, i2)))) (false, 0)).bind fun w8 =>
        Sum.elim (fun b9 =>
          some b9) (fun (b10, i11) =>
          (loopM (fun ((b12, i13, l14) : Bool × Int × List (Int × Bool)) =>
              bif decide (i13 < (↑a.List.length : Int)) then
                bif decide (0 ≤ i13) then
                  (a.List[i13.toNat]?).bind fun q15 =>
                  bif (mapGet (KK.int IntKind.i64) l14 q15.Number).getD false then
                    some (Sum.inr (Sum.inl (false, l14)))
                  else
                    bif decide (0 ≤ i13) then
                      (a.List[i13.toNat]?).bind fun q16 =>
                      some (Sum.inl (b12, IntKind.i64.wrap (i13 + 1), mapPut (KK.int IntKind.i64) l14 q16.Number true))
                    else
                      none
                else
                  none
              else
                some (Sum.inr (Sum.inr (b12, i13, l14)))) (b10, 0, [])).bind fun w17 =>
          Sum.elim (fun (b18, l19) =>
            some b18) (fun (b20, i21, l22) =>
            some true) w17) w8
noncomputable def Go.Models.ref25_Add (a : Agenda) (x : Itemx) : Option (Agenda × Int) :=
  (Models.ref25_Valid a).bind fun b1 =>
  (Models.ref25_Fits x).bind fun b2 =>
  bif !b1 then
    some (Agenda.mk [] 0, 1)
  else
    bif !b2 then
      some (Agenda.mk [] 0, 1)
    else
      bif decide (5000 ≤ (↑a.List.length : Int)) then
        some (Agenda.mk [] 0, 10)
      else
        bif decide (1000000000 ≤ a.Next) then
          some (Agenda.mk [] 0, 10)
        else
          (loopM (fun ((b3, i4, i5, l6) : Bool × Int × Int × List Itemx) =>
              bif decide (i4 < (↑a.List.length : Int)) then
                bif !b3 then
                  bif decide (0 ≤ i4) then
                    (a.List[i4.toNat]?).bind fun q7 =>
                    bif decide (x.At < q7.At) then
                      bif decide ((l6.length + 1) * 160 ≤ 2 ^ 44) && decide (l6.length + 1 ≤ 2 ^ 44) then
                        bif decide (0 ≤ i4) then
                          (a.List[i4.toNat]?).bind fun q8 =>
                          bif decide (((l6 ++ [Itemx.mk x.At a.Next x.Kind x.A x.B x.P x.K x.Change]).length + 1) * 160 ≤ 2 ^ 44) && decide ((l6 ++ [Itemx.mk x.At a.Next x.Kind x.A x.B x.P x.K x.Change]).length + 1 ≤ 2 ^ 44) then
                            some (Sum.inl (true, IntKind.i64.wrap (i4 + 1), i5, l6 ++ [Itemx.mk x.At a.Next x.Kind x.A x.B x.P x.K x.Change] ++ [q8]))
                          else
                            none
                        else
                          none
                      else
                        none
                    else
                      bif decide (0 ≤ i4) then
                        (a.List[i4.toNat]?).bind fun q9 =>
                        bif decide ((l6.length + 1) * 160 ≤ 2 ^ 44) && decide (l6.length + 1 ≤ 2 ^ 44) then
                          some (Sum.inl (b3, IntKind.i64.wrap (i4 + 1), i5, l6 ++ [q9]))
                        else
                          none
                      else
                        none
                  else
                    none
                else
                  bif decide (0 ≤ i4) then
                    (a.List[i4.toNat]?).bind fun q10 =>
                    bif decide ((l6.length + 1) * 160 ≤ 2 ^ 44) && decide (l6.length + 1 ≤ 2 ^ 44) then
                      some (Sum.inl (b3, IntKind.i64.wrap (i4 + 1), i5, l6 ++ [q10]))
                    else
                      none
                  else
                    none
              else
                some (Sum.inr (b3, i4, i5, l6))) (false, 0, IntKind.i64.wrap (a.Next + 1), [])).bind fun (b11, i12, i13, l14) =>
          bif !b11 then
            bif decide ((l14.length + 1) * 160 ≤ 2 ^ 44) && decide (l14.length + 1 ≤ 2 ^ 44) then
              some (Agenda.mk (l14 ++ [Itemx.mk x.At a.Next x.Kind x.A x.B x.P x.K x.Change]) i13, 0)
            else
              none
          else
            some (Agenda.mk l14 i13, 0)
noncomputable def Go.Models.ref25_Take (a : Agenda) : Option (Agenda × Itemx × Bool) :=
  (Models.ref25_Valid a).bind fun b1 =>
  bif !b1 then
    bif a.List.isEmpty then
      some (Agenda.mk [] a.Next, Itemx.mk 0 0 0 0 0 (Packet.mk 0 0 0 0 0 0 false false) (Ack.mk 0 0 0 0 false) (Change.mk 0 0 0), false)
    else
      bif decide (a.List.length * 160 ≤ 2 ^ 44) && decide (a.List.length ≤ 2 ^ 44) then
        some (a, Itemx.mk 0 0 0 0 0 (Packet.mk 0 0 0 0 0 0 false false) (Ack.mk 0 0 0 0 false) (Change.mk 0 0 0), false)
      else
        none
  else
    bif (↑a.List.length : Int) == 0 then
      bif a.List.isEmpty then
        some (Agenda.mk [] a.Next, Itemx.mk 0 0 0 0 0 (Packet.mk 0 0 0 0 0 0 false false) (Ack.mk 0 0 0 0 false) (Change.mk 0 0 0), false)
      else
        bif decide (a.List.length * 160 ≤ 2 ^ 44) && decide (a.List.length ≤ 2 ^ 44) then
          some (a, Itemx.mk 0 0 0 0 0 (Packet.mk 0 0 0 0 0 0 false false) (Ack.mk 0 0 0 0 false) (Change.mk 0 0 0), false)
        else
          none
    else
      bif decide (Int.toNat 1 ≤ a.List.length) then
        bif (List.drop (Int.toNat 1) a.List).isEmpty then
          (a.List[Int.toNat 0]?).bind fun q2 =>
          some (Agenda.mk [] a.Next, q2, true)
        else
          bif decide ((List.drop (Int.toNat 1) a.List).length * 160 ≤ 2 ^ 44) && decide ((List.drop (Int.toNat 1) a.List).length ≤ 2 ^ 44) then
            (a.List[Int.toNat 0]?).bind fun q3 =>
            some (Agenda.mk (List.drop (Int.toNat 1) a.List) a.Next, q3, true)
          else
            none
      else
        none
noncomputable def Go.Models.ref25_Drop (a : Agenda) (kind : Int) (x : Int) (y : Int) : Option (Agenda × Int) :=
  (Models.ref25_Valid a).bind fun b1 =>
  bif !b1 then
    some (Agenda.mk [] 0, 1)
  else
    (loopM (fun ((i2, i3, l4) : Int × Int × List Itemx) =>
        bif decide (i2 < (↑a.List.length : Int)) then
          bif decide (0 ≤ i2) then
            (a.List[i2.toNat]?).bind fun q5 =>
            bif !q5.Kind == kind then
              bif decide (0 ≤ i2) then
                (a.List[i2.toNat]?).bind fun q6 =>
                bif decide ((l4.length + 1) * 160 ≤ 2 ^ 44) && decide (l4.length + 1 ≤ 2 ^ 44) then
                  some (Sum.inl (IntKind.i64.wrap (i2 + 1), i3, l4 ++ [q6]))
                else
                  none
              else
                none
            else
              bif decide (0 ≤ i2) then
                (a.List[i2.toNat]?).bind fun q7 =>
                bif !q7.A == x then
                  bif decide (0 ≤ i2) then
                    (a.List[i2.toNat]?).bind fun q8 =>
                    bif decide ((l4.length + 1) * 160 ≤ 2 ^ 44) && decide (l4.length + 1 ≤ 2 ^ 44) then
                      some (Sum.inl (IntKind.i64.wrap (i2 + 1), i3, l4 ++ [q8]))
                    else
                      none
                  else
                    none
                else
                  bif decide (0 ≤ i2) then
                    (a.List[i2.toNat]?).bind fun q9 =>
                    bif !q9.B == y then
                      bif decide (0 ≤ i2) then
                        (a.List[i2.toNat]?).bind fun q10 =>
                        bif decide ((l4.length + 1) * 160 ≤ 2 ^ 44) && decide (l4.length + 1 ≤ 2 ^ 44) then
                          some (Sum.inl (IntKind.i64.wrap (i2 + 1), i3, l4 ++ [q10]))
                        else
                          none
                      else
                        none
                    else
                      some (Sum.inl (IntKind.i64.wrap (i2 + 1), i3, l4))
                  else
                    none
              else
                none
          else
            none
        else
          some (Sum.inr (i2, i3, l4))) (0, a.Next, [])).bind fun (i11, i12, l13) =>
    some (Agenda.mk l13 i12, 0)
noncomputable def Go.Models.ref25_Same (a : Agenda) (b : Agenda) : Option Bool :=
  bif !(↑a.List.length : Int) == (↑b.List.length : Int) then
    some false
  else
    bif !a.Next == b.Next then
      some false
    else
      (loopM (fun ((b1, i2) : Bool × Int) =>
          bif decide (i2 < (↑a.List.length : Int)) then
            bif decide (0 ≤ i2) then
              (a.List[i2.toNat]?).bind fun q3 =>
              bif decide (0 ≤ i2) then
                (b.List[i2.toNat]?).bind fun q4 =>
                bif !(q3.At == q4.At && (q3.Number == q4.Number && (q3.Kind == q4.Kind && (q3.A == q4.A && (q3.B == q4.B && (q3.P.Flow == q4.P.Flow && (q3.P.Sub == q4.P.Sub && (q3.P.Number == q4.P.Number && (q3.P.Data == q4.P.Data && (q3.P.Size == q4.P.Size && (q3.P.Sent == q4.P.Sent && (q3.P.Able == q4.P.Able && (q3.P.Marked == q4.P.Marked && (q3.K.Sub == q4.K.Sub && (q3.K.Number == q4.K.Number && (q3.K.Next == q4.K.Next && (q3.K.Sent == q4.K.Sent && (q3.K.Marked == q4.K.Marked && (q3.Change.Kind == q4.Change.Kind && (q3.Change.A == q4.Change.A && q3.Change.B == q4.Change.B)))))))))))))))))))) then
                  some (Sum.inr (Sum.inl false))
                else
                  some (Sum.inl (b1, IntKind.i64.wrap (i2 + 1)))
              else
                none
            else
              none
          else
            some (Sum.inr (Sum.inr (b1, i2)))) (false, 0)).bind fun w5 =>
      Sum.elim (fun b6 =>
        some b6) (fun (b7, i8) =>
        some true) w5
noncomputable def Go.Models.law25_AgendaMatchesReference (a : Agenda) (x : Itemx) (kind : Int) (m : Int) (n : Int) : Option Bool :=
  (Models.law25_head).bind fun b1 =>
  bif decide (6000 < (↑a.List.length : Int)) then
    some b1
  else
    (Models.agenda_Add a x).bind fun (q2, i3) =>
    (Models.ref25_Add a x).bind fun (q4, i5) =>
    (Models.agenda_Take a).bind fun (q6, q7, b8) =>
    (Models.ref25_Take a).bind fun (q9, q10, b11) =>
    (Models.agenda_Drop a kind m n).bind fun (q12, i13) =>
    (Models.ref25_Drop a kind m n).bind fun (q14, i15) =>
    bif b1 then
      (Models.ref25_Same q2 q4).bind fun b16 =>
      bif b16 then
        bif i3 == i5 then
          (Models.ref25_Same q6 q9).bind fun b17 =>
          bif b17 then
            bif q7.At == q10.At && (q7.Number == q10.Number && (q7.Kind == q10.Kind && (q7.A == q10.A && (q7.B == q10.B && (q7.P.Flow == q10.P.Flow && (q7.P.Sub == q10.P.Sub && (q7.P.Number == q10.P.Number && (q7.P.Data == q10.P.Data && (q7.P.Size == q10.P.Size && (q7.P.Sent == q10.P.Sent && (q7.P.Able == q10.P.Able && (q7.P.Marked == q10.P.Marked && (q7.K.Sub == q10.K.Sub && (q7.K.Number == q10.K.Number && (q7.K.Next == q10.K.Next && (q7.K.Sent == q10.K.Sent && (q7.K.Marked == q10.K.Marked && (q7.Change.Kind == q10.Change.Kind && (q7.Change.A == q10.Change.A && q7.Change.B == q10.Change.B))))))))))))))))))) then
              bif b8 == b11 then
                (Models.ref25_Same q12 q14).bind fun b18 =>
                bif b18 then
                  bif i13 == i15 then
                    (Models.agenda_Valid a).bind fun b19 =>
                    (Models.ref25_Valid a).bind fun b20 =>
                    some (b19 == b20)
                  else
                    some false
                else
                  some false
              else
                some false
            else
              some false
          else
            some false
        else
          some false
      else
        some false
    else
      some false
noncomputable def Go.Models.law25_AgendaOrder (l : List Itemx) : Option Bool :=
  (Models.law25_head).bind fun b1 =>
  bif decide (200 < (↑l.length : Int)) then
    some b1
  else
    (loopM (fun ((b2, i3, l4, l5, i6) : Bool × Int × List Itemx × List Itemx × Int) =>
        bif decide (i3 < (↑l.length : Int)) then
          bif decide (0 ≤ i3) then
            (l[i3.toNat]?).bind fun q7 =>
            (Models.ref25_Fits q7).bind fun b8 =>
            bif decide (0 ≤ i3) then
              (l[i3.toNat]?).bind fun q9 =>
              (Models.agenda_Add (Agenda.mk l5 i6) q9).bind fun (q10, i11) =>
              bif !b8 == (i11 == 0) then
                some (Sum.inr (Sum.inl (false, l4, l5, i6)))
              else
                bif b8 then
                  bif decide (0 ≤ i3) then
                    (l[i3.toNat]?).bind fun q12 =>
                    bif decide ((l4.length + 1) * 160 ≤ 2 ^ 44) && decide (l4.length + 1 ≤ 2 ^ 44) then
                      some (Sum.inl (b2, IntKind.i64.wrap (i3 + 1), l4 ++ [Itemx.mk q12.At (↑l4.length : Int) q12.Kind q12.A q12.B q12.P q12.K q12.Change], q10.List, q10.Next))
                    else
                      none
                  else
                    none
                else
                  some (Sum.inl (b2, IntKind.i64.wrap (i3 + 1), l4, l5, i6))
            else
              none
          else
            none
        else
          some (Sum.inr (Sum.inr (b2, i3, l4, l5, i6)))) (false, 0, [], [], 0)).bind fun w13 =>
    Sum.elim (fun (b14, l15, l16, i17) =>
      some b14) (fun (b18, i19, l20, l21, i22) =>
      bif decide ((↑l20.length : Int).toNat * 1 ≤ 2 ^ 47) && decide ((↑l20.length : Int).toNat < 2 ^ 62) then
        (loopM (fun ((b23, i24, l25, i26, i27, i28, i29, i30, i31, i32, i33, i34, i35, i36, i37, b38, b39, i40, i41, i42, i43, b44, i45, i46, i47, l48) : Bool × Int × List Itemx × Int × Int × Int × Int × Int × Int × Int × Int × Int × Int × Int × Int × Bool × Bool × Int × Int × Int × Int × Bool × Int × Int × Int × List Bool) =>
            bif decide (i24 < (↑l20.length : Int)) then
              (Models.agenda_Take (Agenda.mk l25 i26)).bind fun (q49, q50, b51) =>
              bif !b51 then
                bif decide (l48.length = (List.replicate (↑l20.length : Int).toNat false).length) then
                  some (Sum.inr (Sum.inl (false, l25, i26, i27, i28, i29, i30, i31, i32, i33, i34, i35, i36, i37, b38, b39, i40, i41, i42, i43, b44, i45, i46, i47, l48)))
                else
                  none
              else
                bif decide (q50.Number < 0) then
                  bif decide (l48.length = (List.replicate (↑l20.length : Int).toNat false).length) then
                    some (Sum.inr (Sum.inl (false, l25, i26, i27, i28, i29, i30, i31, i32, i33, i34, i35, i36, i37, b38, b39, i40, i41, i42, i43, b44, i45, i46, i47, l48)))
                  else
                    none
                else
                  bif decide ((↑l20.length : Int) ≤ q50.Number) then
                    bif decide (l48.length = (List.replicate (↑l20.length : Int).toNat false).length) then
                      some (Sum.inr (Sum.inl (false, l25, i26, i27, i28, i29, i30, i31, i32, i33, i34, i35, i36, i37, b38, b39, i40, i41, i42, i43, b44, i45, i46, i47, l48)))
                    else
                      none
                  else
                    bif decide (0 ≤ q50.Number) then
                      bif decide (q50.Number.toNat < l48.length) then
                        (l48[0 + q50.Number.toNat]?).bind fun b52 =>
                        bif b52 then
                          bif decide (l48.length = (List.replicate (↑l20.length : Int).toNat false).length) then
                            some (Sum.inr (Sum.inl (false, l25, i26, i27, i28, i29, i30, i31, i32, i33, i34, i35, i36, i37, b38, b39, i40, i41, i42, i43, b44, i45, i46, i47, l48)))
                          else
                            none
                        else
                          bif decide (0 ≤ q50.Number) then
                            bif decide (q50.Number.toNat < l20.length) then
                              (l20[0 + q50.Number.toNat]?).bind fun q53 =>
                              bif !(q53.At == q50.At && (q53.Number == q50.Number && (q53.Kind == q50.Kind && (q53.A == q50.A && (q53.B == q50.B && (q53.P.Flow == q50.P.Flow && (q53.P.Sub == q50.P.Sub && (q53.P.Number == q50.P.Number && (q53.P.Data == q50.P.Data && (q53.P.Size == q50.P.Size && (q53.P.Sent == q50.P.Sent && (q53.P.Able == q50.P.Able && (q53.P.Marked == q50.P.Marked && (q53.K.Sub == q50.K.Sub && (q53.K.Number == q50.K.Number && (q53.K.Next == q50.K.Next && (q53.K.Sent == q50.K.Sent && (q53.K.Marked == q50.K.Marked && (q53.Change.Kind == q50.Change.Kind && (q53.Change.A == q50.Change.A && q53.Change.B == q50.Change.B)))))))))))))))))))) then
                                bif decide (l48.length = (List.replicate (↑l20.length : Int).toNat false).length) then
                                  some (Sum.inr (Sum.inl (false, l25, i26, i27, i28, i29, i30, i31, i32, i33, i34, i35, i36, i37, b38, b39, i40, i41, i42, i43, b44, i45, i46, i47, l48)))
                                else
                                  none
                              else
                                bif decide (q50.At < i27) then
                                  bif decide (l48.length = (List.replicate (↑l20.length : Int).toNat false).length) then
                                    some (Sum.inr (Sum.inl (false, l25, i26, i27, i28, i29, i30, i31, i32, i33, i34, i35, i36, i37, b38, b39, i40, i41, i42, i43, b44, i45, i46, i47, l48)))
                                  else
                                    none
                                else
                                  bif q50.At == i27 then
                                    bif decide (q50.Number < i28) then
                                      bif decide (l48.length = (List.replicate (↑l20.length : Int).toNat false).length) then
                                        some (Sum.inr (Sum.inl (false, l25, i26, i27, i28, i29, i30, i31, i32, i33, i34, i35, i36, i37, b38, b39, i40, i41, i42, i43, b44, i45, i46, i47, l48)))
                                      else
                                        none
                                    else
                                      bif decide (0 ≤ q50.Number) then
                                        bif decide (q50.Number.toNat < l48.length) then
                                          (l48[0 + q50.Number.toNat]?).bind fun b54 =>
                                          bif decide ((l48.set (0 + q50.Number.toNat) true).length = (List.replicate (↑l20.length : Int).toNat false).length) then
                                            some (Sum.inl (b23, IntKind.i64.wrap (i24 + 1), q49.List, q49.Next, q50.At, q50.Number, q50.Kind, q50.A, q50.B, q50.P.Flow, q50.P.Sub, q50.P.Number, q50.P.Data, q50.P.Size, q50.P.Sent, q50.P.Able, q50.P.Marked, q50.K.Sub, q50.K.Number, q50.K.Next, q50.K.Sent, q50.K.Marked, q50.Change.Kind, q50.Change.A, q50.Change.B, l48.set (0 + q50.Number.toNat) true))
                                          else
                                            none
                                        else
                                          none
                                      else
                                        none
                                  else
                                    bif decide (0 ≤ q50.Number) then
                                      bif decide (q50.Number.toNat < l48.length) then
                                        (l48[0 + q50.Number.toNat]?).bind fun b55 =>
                                        bif decide ((l48.set (0 + q50.Number.toNat) true).length = (List.replicate (↑l20.length : Int).toNat false).length) then
                                          some (Sum.inl (b23, IntKind.i64.wrap (i24 + 1), q49.List, q49.Next, q50.At, q50.Number, q50.Kind, q50.A, q50.B, q50.P.Flow, q50.P.Sub, q50.P.Number, q50.P.Data, q50.P.Size, q50.P.Sent, q50.P.Able, q50.P.Marked, q50.K.Sub, q50.K.Number, q50.K.Next, q50.K.Sent, q50.K.Marked, q50.Change.Kind, q50.Change.A, q50.Change.B, l48.set (0 + q50.Number.toNat) true))
                                        else
                                          none
                                      else
                                        none
                                    else
                                      none
                            else
                              none
                          else
                            none
                      else
                        none
                    else
                      none
            else
              bif decide (l48.length = (List.replicate (↑l20.length : Int).toNat false).length) then
                some (Sum.inr (Sum.inr (b23, i24, l25, i26, i27, i28, i29, i30, i31, i32, i33, i34, i35, i36, i37, b38, b39, i40, i41, i42, i43, b44, i45, i46, i47, l48)))
              else
                none) (b18, 0, l21, i22, -1, 0, 0, 0, 0, 0, 0, 0, 0, 0, 0, false, false, 0, 0, 0, 0, false, 0, 0, 0, List.replicate (↑l20.length : Int).toNat false)).bind fun w56 =>
        Sum.elim (fun (b57, l58, i59, i60, i61, i62, i63, i64, i65, i66, i67, i68, i69, i70, b71, b72, i73, i74, i75, i76, b77, i78, i79, i80, l81) =>
          some b57) (fun (b82, i83, l84, i85, i86, i87, i88, i89, i90, i91, i92, i93, i94, i95, i96, b97, b98, i99, i100, i101, i102, b103, i104, i105, i106, l107) =>
          (Models.agenda_Take (Agenda.mk l84 i85)).bind fun (q108, q109, b110) =>
          bif b1 then
            some !b110
          else
            some false) w56
      else
        none) w13
noncomputable def Go.Models.law25_AgendaValid (a : Agenda) (x : Itemx) (kind : Int) (m : Int) (n : Int) : Option Bool :=
  (Models.law25_head).bind fun b1 =>
  bif decide ((↑a.List.length : Int) ≤ 5000) then
    (Models.ref25_Valid a).bind fun b2 =>
    bif !b2 then
      some b1
    else
      (Models.agenda_Add a x).bind fun (q3, i4) =>
      (Models.agenda_Take a).bind fun (q5, q6, b7) =>
      (Models.agenda_Drop a kind m n).bind fun (q8, i9) =>
      (Models.ref25_Valid q3).bind fun b10 =>
      (Models.ref25_Valid q5).bind fun b11 =>
      (Models.ref25_Valid q8).bind fun b12 =>
      bif b1 then
        bif !i4 == 0 then
          bif b11 then
            bif b7 == decide (0 < (↑a.List.length : Int)) then
              bif !b7 then
                bif i9 == 0 then
                  bif b12 then
                    some (decide ((↑q8.List.length : Int) ≤ (↑a.List.length : Int)))
                  else
                    some false
                else
                  some false
              else
                bif (↑q5.List.length : Int) == IntKind.i64.wrap ((↑a.List.length : Int) - 1) then
                  bif i9 == 0 then
                    bif b12 then
                      some (decide ((↑q8.List.length : Int) ≤ (↑a.List.length : Int)))
                    else
                      some false
                  else
                    some false
                else
                  some false
            else
              some false
          else
            some false
        else
          bif b10 then
            bif (↑q3.List.length : Int) == IntKind.i64.wrap ((↑a.List.length : Int) + 1) then
              bif q3.Next == IntKind.i64.wrap (a.Next + 1) then
                bif b11 then
                  bif b7 == decide (0 < (↑a.List.length : Int)) then
                    bif !b7 then
                      bif i9 == 0 then
                        bif b12 then
                          some (decide ((↑q8.List.length : Int) ≤ (↑a.List.length : Int)))
                        else
                          some false
                      else
                        some false
                    else
                      bif (↑q5.List.length : Int) == IntKind.i64.wrap ((↑a.List.length : Int) - 1) then
                        bif i9 == 0 then
                          bif b12 then
                            some (decide ((↑q8.List.length : Int) ≤ (↑a.List.length : Int)))
                          else
                            some false
                        else
                          some false
                      else
                        some false
                  else
                    some false
                else
                  some false
              else
                some false
            else
              some false
          else
            some false
      else
        some false
  else
    some b1
noncomputable def Go.Models.law25_AgendaLater (a : Agenda) (x : Itemx) : Option Bool :=
  (Models.law25_head).bind fun b1 =>
  bif decide ((↑a.List.length : Int) < 5000) then
    (Models.ref25_Valid a).bind fun b2 =>
    bif b2 then
      (Models.ref25_Fits x).bind fun b3 =>
      bif !b3 then
        some b1
      else
        bif decide (1000000000 ≤ a.Next) then
          some b1
        else
          (Models.agenda_Add a x).bind fun (q4, i5) =>
          (Models.agenda_Take q4).bind fun (q6, q7, b8) =>
          bif !i5 == 0 then
            some false
          else
            bif !b8 then
              some false
            else
              bif (↑a.List.length : Int) == 0 then
                bif b1 then
                  bif q7.At == x.At && (q7.Number == a.Next && (q7.Kind == x.Kind && (q7.A == x.A && (q7.B == x.B && (q7.P.Flow == x.P.Flow && (q7.P.Sub == x.P.Sub && (q7.P.Number == x.P.Number && (q7.P.Data == x.P.Data && (q7.P.Size == x.P.Size && (q7.P.Sent == x.P.Sent && (q7.P.Able == x.P.Able && (q7.P.Marked == x.P.Marked && (q7.K.Sub == x.K.Sub && (q7.K.Number == x.K.Number && (q7.K.Next == x.K.Next && (q7.K.Sent == x.K.Sent && (q7.K.Marked == x.K.Marked && (q7.Change.Kind == x.Change.Kind && (q7.Change.A == x.Change.A && q7.Change.B == x.Change.B))))))))))))))))))) then
                    (Models.law25_taken q6).bind fun l9 =>
                    (Models.law25_taken a).bind fun l10 =>
                    (Models.law25_ints l9 l10).bind fun b11 =>
                    some b11
                  else
                    some false
                else
                  some false
              else
                (a.List[Int.toNat 0]?).bind fun q12 =>
                bif decide (x.At < q12.At) then
                  bif b1 then
                    bif q7.At == x.At && (q7.Number == a.Next && (q7.Kind == x.Kind && (q7.A == x.A && (q7.B == x.B && (q7.P.Flow == x.P.Flow && (q7.P.Sub == x.P.Sub && (q7.P.Number == x.P.Number && (q7.P.Data == x.P.Data && (q7.P.Size == x.P.Size && (q7.P.Sent == x.P.Sent && (q7.P.Able == x.P.Able && (q7.P.Marked == x.P.Marked && (q7.K.Sub == x.K.Sub && (q7.K.Number == x.K.Number && (q7.K.Next == x.K.Next && (q7.K.Sent == x.K.Sent && (q7.K.Marked == x.K.Marked && (q7.Change.Kind == x.Change.Kind && (q7.Change.A == x.Change.A && q7.Change.B == x.Change.B))))))))))))))))))) then
                      (Models.law25_taken q6).bind fun l13 =>
                      (Models.law25_taken a).bind fun l14 =>
                      (Models.law25_ints l13 l14).bind fun b15 =>
                      some b15
                    else
                      some false
                  else
                    some false
                else
                  (Models.agenda_Take a).bind fun (q16, q17, b18) =>
                  (Models.agenda_Add q16 x).bind fun (q19, i20) =>
                  bif b1 then
                    bif b18 then
                      bif i20 == 0 then
                        bif q7.At == q17.At && (q7.Number == q17.Number && (q7.Kind == q17.Kind && (q7.A == q17.A && (q7.B == q17.B && (q7.P.Flow == q17.P.Flow && (q7.P.Sub == q17.P.Sub && (q7.P.Number == q17.P.Number && (q7.P.Data == q17.P.Data && (q7.P.Size == q17.P.Size && (q7.P.Sent == q17.P.Sent && (q7.P.Able == q17.P.Able && (q7.P.Marked == q17.P.Marked && (q7.K.Sub == q17.K.Sub && (q7.K.Number == q17.K.Number && (q7.K.Next == q17.K.Next && (q7.K.Sent == q17.K.Sent && (q7.K.Marked == q17.K.Marked && (q7.Change.Kind == q17.Change.Kind && (q7.Change.A == q17.Change.A && q7.Change.B == q17.Change.B))))))))))))))))))) then
                          (Models.ref25_Same q6 q19).bind fun b21 =>
                          some b21
                        else
                          some false
                      else
                        some false
                    else
                      some false
                  else
                    some false
    else
      some b1
  else
    some b1
noncomputable def Go.Models.law25_AgendaTimes (l : List Itemx) : Option Bool :=
  (Models.law25_head).bind fun b1 =>
  bif decide (200 < (↑l.length : Int)) then
    some b1
  else
    (loopM (fun ((i2, l3, i4, l5, i6) : Int × List Itemx × Int × List Itemx × Int) =>
        bif decide (i2 < (↑l.length : Int)) then
          bif decide (0 ≤ i2) then
            (l[i2.toNat]?).bind fun q7 =>
            (Models.agenda_Add (Agenda.mk l5 i6) q7).bind fun (q8, i9) =>
            bif i9 == 0 then
              bif decide (0 ≤ IntKind.i64.wrap (IntKind.i64.wrap ((↑l.length : Int) - 1) - i2)) then
                (l[(IntKind.i64.wrap (IntKind.i64.wrap ((↑l.length : Int) - 1) - i2)).toNat]?).bind fun q10 =>
                (Models.agenda_Add (Agenda.mk l3 i4) q10).bind fun (q11, i12) =>
                bif i12 == 0 then
                  some (Sum.inl (IntKind.i64.wrap (i2 + 1), q11.List, q11.Next, q8.List, q8.Next))
                else
                  some (Sum.inl (IntKind.i64.wrap (i2 + 1), l3, i4, q8.List, q8.Next))
              else
                none
            else
              bif decide (0 ≤ IntKind.i64.wrap (IntKind.i64.wrap ((↑l.length : Int) - 1) - i2)) then
                (l[(IntKind.i64.wrap (IntKind.i64.wrap ((↑l.length : Int) - 1) - i2)).toNat]?).bind fun q13 =>
                (Models.agenda_Add (Agenda.mk l3 i4) q13).bind fun (q14, i15) =>
                bif i15 == 0 then
                  some (Sum.inl (IntKind.i64.wrap (i2 + 1), q14.List, q14.Next, l5, i6))
                else
                  some (Sum.inl (IntKind.i64.wrap (i2 + 1), l3, i4, l5, i6))
              else
                none
          else
            none
        else
          some (Sum.inr (i2, l3, i4, l5, i6))) (0, [], 0, [], 0)).bind fun (i16, l17, i18, l19, i20) =>
    (loopM (fun ((b21, i22, l23, i24, l25, i26) : Bool × Int × List Itemx × Int × List Itemx × Int) =>
        bif decide (i22 ≤ (↑l.length : Int)) then
          (Models.agenda_Take (Agenda.mk l25 i26)).bind fun (q27, q28, b29) =>
          (Models.agenda_Take (Agenda.mk l23 i24)).bind fun (q30, q31, b32) =>
          bif !b29 == b32 then
            some (Sum.inr (Sum.inl (false, l23, i24, l25, i26)))
          else
            bif !q28.At == q31.At then
              some (Sum.inr (Sum.inl (false, l23, i24, l25, i26)))
            else
              some (Sum.inl (b21, IntKind.i64.wrap (i22 + 1), q30.List, q30.Next, q27.List, q27.Next))
        else
          some (Sum.inr (Sum.inr (b21, i22, l23, i24, l25, i26)))) (false, 0, l17, i18, l19, i20)).bind fun w33 =>
    Sum.elim (fun (b34, l35, i36, l37, i38) =>
      some b34) (fun (b39, i40, l41, i42, l43, i44) =>
      some b1) w33
noncomputable def Go.Models.law25_AgendaDrop (a : Agenda) (kind : Int) (m : Int) (n : Int) (at_ : Int) : Option Bool :=
  (Models.law25_head).bind fun b1 =>
  bif decide ((↑a.List.length : Int) < 5000) then
    (Models.ref25_Valid a).bind fun b2 =>
    bif !b2 then
      some b1
    else
      bif decide (1000000000 ≤ a.Next) then
        some b1
      else
        (Models.agenda_Drop a kind m n).bind fun (q3, i4) =>
        (Models.agenda_Drop q3 kind m n).bind fun (q5, i6) =>
        (loopM (fun ((b7, i8, i9) : Bool × Int × Int) =>
            bif decide (i9 < (↑a.List.length : Int)) then
              bif decide (0 ≤ i9) then
                (a.List[i9.toNat]?).bind fun q10 =>
                bif q10.Kind == kind then
                  bif decide (0 ≤ i9) then
                    (a.List[i9.toNat]?).bind fun q11 =>
                    bif q11.A == m then
                      bif decide (0 ≤ i9) then
                        (a.List[i9.toNat]?).bind fun q12 =>
                        bif q12.B == n then
                          some (Sum.inl (b7, i8, IntKind.i64.wrap (i9 + 1)))
                        else
                          bif decide ((↑q3.List.length : Int) ≤ i8) then
                            some (Sum.inr (Sum.inl false))
                          else
                            bif decide (0 ≤ i8) then
                              (q3.List[i8.toNat]?).bind fun q13 =>
                              bif decide (0 ≤ i9) then
                                (a.List[i9.toNat]?).bind fun q14 =>
                                bif !(q13.At == q14.At && (q13.Number == q14.Number && (q13.Kind == q14.Kind && (q13.A == q14.A && (q13.B == q14.B && (q13.P.Flow == q14.P.Flow && (q13.P.Sub == q14.P.Sub && (q13.P.Number == q14.P.Number && (q13.P.Data == q14.P.Data && (q13.P.Size == q14.P.Size && (q13.P.Sent == q14.P.Sent && (q13.P.Able == q14.P.Able && (q13.P.Marked == q14.P.Marked && (q13.K.Sub == q14.K.Sub && (q13.K.Number == q14.K.Number && (q13.K.Next == q14.K.Next && (q13.K.Sent == q14.K.Sent && (q13.K.Marked == q14.K.Marked && (q13.Change.Kind == q14.Change.Kind && (q13.Change.A == q14.Change.A && q13.Change.B == q14.Change.B)))))))))))))))))))) then
                                  some (Sum.inr (Sum.inl false))
                                else
                                  some (Sum.inl (b7, IntKind.i64.wrap (i8 + 1), IntKind.i64.wrap (i9 + 1)))
                              else
                                none
                            else
                              none
                      else
                        none
                    else
                      bif decide ((↑q3.List.length : Int) ≤ i8) then
                        some (Sum.inr (Sum.inl false))
                      else
                        bif decide (0 ≤ i8) then
                          (q3.List[i8.toNat]?).bind fun q15 =>
                          bif decide (0 ≤ i9) then
                            (a.List[i9.toNat]?).bind fun q16 =>
                            bif !(q15.At == q16.At && (q15.Number == q16.Number && (q15.Kind == q16.Kind && (q15.A == q16.A && (q15.B == q16.B && (q15.P.Flow == q16.P.Flow && (q15.P.Sub == q16.P.Sub && (q15.P.Number == q16.P.Number && (q15.P.Data == q16.P.Data && (q15.P.Size == q16.P.Size && (q15.P.Sent == q16.P.Sent && (q15.P.Able == q16.P.Able && (q15.P.Marked == q16.P.Marked && (q15.K.Sub == q16.K.Sub && (q15.K.Number == q16.K.Number && (q15.K.Next == q16.K.Next && (q15.K.Sent == q16.K.Sent && (q15.K.Marked == q16.K.Marked && (q15.Change.Kind == q16.Change.Kind && (q15.Change.A == q16.Change.A && q15.Change.B == q16.Change.B)))))))))))))))))))) then
                              some (Sum.inr (Sum.inl false))
                            else
                              some (Sum.inl (b7, IntKind.i64.wrap (i8 + 1), IntKind.i64.wrap (i9 + 1)))
                          else
                            none
                        else
                          none
                  else
                    none
                else
                  bif decide ((↑q3.List.length : Int) ≤ i8) then
                    some (Sum.inr (Sum.inl false))
                  else
                    bif decide (0 ≤ i8) then
                      (q3.List[i8.toNat]?).bind fun q17 =>
                      bif decide (0 ≤ i9) then
                        (a.List[i9.toNat]?).bind fun q18 =>
                        bif !(q17.At == q18.At && (q17.Number == q18.Number && (q17.Kind == q18.Kind && (q17.A == q18.A && (q17.B == q18.B && (q17.P.Flow == q18.P.Flow && (q17.P.Sub == q18.P.Sub && (q17.P.Number == q18.P.Number && (q17.P.Data == q18.P.Data && (q17.P.Size == q18.P.Size && (q17.P.Sent == q18.P.Sent && (q17.P.Able == q18.P.Able && (q17.P.Marked == q18.P.Marked && (q17.K.Sub == q18.K.Sub && (q17.K.Number == q18.K.Number && (q17.K.Next == q18.K.Next && (q17.K.Sent == q18.K.Sent && (q17.K.Marked == q18.K.Marked && (q17.Change.Kind == q18.Change.Kind && (q17.Change.A == q18.Change.A && q17.Change.B == q18.Change.B)))))))))))))))))))) then
                          some (Sum.inr (Sum.inl false))
                        else
                          some (Sum.inl (b7, IntKind.i64.wrap (i8 + 1), IntKind.i64.wrap (i9 + 1)))
                      else
                        none
                    else
                      none
              else
                none
            else
              some (Sum.inr (Sum.inr (b7, i8, i9)))) (false, 0, 0)).bind fun w19 =>
        Sum.elim (fun b20 =>
          some b20) (fun (b21, i22, i23) =>
          bif b1 then
            bif i4 == 0 then
              bif i6 == 0 then
                bif i22 == (↑q3.List.length : Int) then
                  (Models.ref25_Same q3 q5).bind fun b24 =>
                  bif b24 then
                    (Models.agenda_Add a (Itemx.mk at_ 0 kind m n (Packet.mk 0 0 0 0 0 0 false false) (Ack.mk 0 0 0 0 false) (Change.mk 0 0 0))).bind fun (q25, i26) =>
                    bif !i26 == 0 then
                      some (q3.Next == a.Next)
                    else
                      (Models.agenda_Drop q25 kind m n).bind fun (q27, i28) =>
                      bif q3.Next == a.Next then
                        bif i28 == 0 then
                          (Models.ref25_Same (Agenda.mk q3.List (IntKind.i64.wrap (q3.Next + 1))) q27).bind fun b29 =>
                          some b29
                        else
                          some false
                      else
                        some false
                  else
                    (Models.agenda_Add a (Itemx.mk at_ 0 kind m n (Packet.mk 0 0 0 0 0 0 false false) (Ack.mk 0 0 0 0 false) (Change.mk 0 0 0))).bind fun (q30, i31) =>
                    bif !i31 == 0 then
                      some false
                    else
                      (Models.agenda_Drop q30 kind m n).bind fun (q32, i33) =>
                      some false
                else
                  (Models.agenda_Add a (Itemx.mk at_ 0 kind m n (Packet.mk 0 0 0 0 0 0 false false) (Ack.mk 0 0 0 0 false) (Change.mk 0 0 0))).bind fun (q34, i35) =>
                  bif !i35 == 0 then
                    some false
                  else
                    (Models.agenda_Drop q34 kind m n).bind fun (q36, i37) =>
                    some false
              else
                (Models.agenda_Add a (Itemx.mk at_ 0 kind m n (Packet.mk 0 0 0 0 0 0 false false) (Ack.mk 0 0 0 0 false) (Change.mk 0 0 0))).bind fun (q38, i39) =>
                bif !i39 == 0 then
                  some false
                else
                  (Models.agenda_Drop q38 kind m n).bind fun (q40, i41) =>
                  some false
            else
              (Models.agenda_Add a (Itemx.mk at_ 0 kind m n (Packet.mk 0 0 0 0 0 0 false false) (Ack.mk 0 0 0 0 false) (Change.mk 0 0 0))).bind fun (q42, i43) =>
              bif !i43 == 0 then
                some false
              else
                (Models.agenda_Drop q42 kind m n).bind fun (q44, i45) =>
                some false
          else
            (Models.agenda_Add a (Itemx.mk at_ 0 kind m n (Packet.mk 0 0 0 0 0 0 false false) (Ack.mk 0 0 0 0 false) (Change.mk 0 0 0))).bind fun (q46, i47) =>
            bif !i47 == 0 then
              some false
            else
              (Models.agenda_Drop q46 kind m n).bind fun (q48, i49) =>
              some false) w19
  else
    some b1
namespace Go.Proofs.Ytighpjegljchpaa
noncomputable def hints : List (Nat × Nat × Hint) := [(17, 5, ⟨[(2, .val 4), (27, .val 3)], [28, 29, 30, 31, 5, 4, 32, 33, 34, 35, 36, 37, 38, 39, 40, 41, 42, 43, 44, 45, 46, 47, 48, 49, 50, 51, 52, 53, 54, 55, 56, 57, 58, 59, 60, 61, 62, 63, 64, 65, 66, 67, 68, 69, 70, 71], [(1, .map (.int .i64) 4)], [⟨none, [(2, .val 4)], [.junk], []⟩, ⟨some 0, [(2, .val 4), (27, .val 3)], [], []⟩]⟩), (30, 2, ⟨[(5, .val 3), (6, .val 3)], [9, 10, 11, 12, 13, 14, 15, 16, 17, 7, 18, 19, 20, 21, 22, 23, 24], [], [⟨some 0, [(5, .val 3), (6, .val 3)], [], []⟩]⟩), (22, 3, ⟨[(6, .val 3)], [9, 10, 11, 12, 16, 17, 18, 19, 20, 21, 22, 23, 24, 25, 26, 15, 27, 28, 7, 8, 29, 30, 31, 13, 14], [(1, .agg [.val 22, .val 2])], [⟨some 0, [(6, .val 3)], [], []⟩]⟩), (33, 1, ⟨[(10, .val 3)], [11, 12, 13, 7, 14, 15, 16, 17, 18, 19, 20, 21, 22, 23, 24, 25, 26, 27, 28, 29, 30, 31, 32, 33, 34, 35, 36], [(3, .agg [.own 21 2, .val 2]), (2, .list 32)], [⟨some 0, [(10, .val 3)], [], [(8, .ready)]⟩]⟩), (21, 3, ⟨[(2, .own 1 1), (3, .own 1 2), (4, .val 3)], [8, 9, 13, 14, 12, 15, 16, 17, 5, 6, 7, 18, 19, 20, 21, 22, 23, 24, 25, 26, 10, 11], [(1, .list 3), (2, .list 3), (0, .agg [.val 22, .val 2])], [⟨none, [(2, .own 1 2)], [.junk, .junk], []⟩, ⟨some 0, [(2, .own 1 1), (3, .own 1 2), (4, .val 3)], [], []⟩]⟩), (20, 4, ⟨[(4, .val 4), (5, .val 3)], [11, 12, 13, 14, 17, 18, 19, 20, 21, 22, 23, 24, 25, 15, 16], [], [⟨none, [(4, .val 4)], [], []⟩, ⟨some 0, [(4, .val 4), (5, .val 3)], [], []⟩]⟩), (18, 4, ⟨[(2, .val 4), (3, .val 3)], [22, 23, 24, 25, 26, 29, 30, 31, 32, 33, 4, 34, 35, 5, 36, 37, 38, 39, 40, 41, 42, 43, 44, 45, 46, 47, 48, 49, 50, 51, 52, 53, 54, 55, 56, 57, 58, 59, 60, 61, 62, 63, 64, 65, 66, 67, 68, 69, 70, 71, 72, 73, 74, 75, 76, 77, 78, 79, 80, 81, 82, 83, 84, 85, 86, 87, 27, 28], [], [⟨none, [(2, .val 4)], [.junk], []⟩, ⟨some 0, [(2, .val 4), (3, .val 3)], [], []⟩]⟩), (18, 14, ⟨[(2, .val 4), (7, .val 3)], [89, 90, 91, 92, 93, 96, 97, 98, 99, 100, 101, 102, 103, 104, 105, 106, 107, 108, 109, 110, 94, 95], [(1, .map (.int .i64) 4)], [⟨none, [(2, .val 4)], [], []⟩, ⟨some 2, [(2, .val 4), (7, .val 3)], [], []⟩]⟩), (11, 11, ⟨[(9, .val 4), (10, .val 3)], [39, 40, 41, 42, 43, 46, 47, 48, 49, 50, 51, 52, 53, 54, 55, 56, 57, 58, 59, 60, 61, 62, 63, 64, 65, 66, 67, 68, 69, 70, 71, 72, 73, 74, 44, 45], [(4, .agg [.own 21 3, .val 2]), (3, .list 32)], [⟨some 0, [(9, .val 4), (10, .val 3)], [], []⟩]⟩), (15, 6, ⟨[(12, .val 3)], [21, 22, 23, 24, 25, 28, 29, 30, 31, 32, 33, 34, 35, 36, 37, 38, 39, 40, 41, 42, 43, 44, 45, 46, 47, 48, 49, 50, 51, 52, 53, 54, 55, 56, 57, 58, 59, 60, 61, 62, 63, 64, 65, 26, 27], [(3, .agg [.own 21 2, .val 2]), (2, .list 32)], [⟨some 0, [(12, .val 3)], [], []⟩]⟩), (16, 4, ⟨[(4, .val 4), (5, .val 3)], [20, 21, 22, 23, 24, 27, 28, 29, 30, 31, 32, 33, 34, 35, 36, 37, 25, 26], [], [⟨none, [(4, .val 4)], [], []⟩, ⟨some 0, [(4, .val 4), (5, .val 3)], [], []⟩]⟩), (4, 7, ⟨[(2, .val 4), (5, .own 21 1), (6, .val 3)], [25, 26, 27, 28, 31, 32, 33, 34, 35, 7, 37, 38, 39, 40, 41, 42, 36, 43, 44, 8, 9, 45, 46, 47, 48, 49, 50, 51, 52, 53, 10, 54, 55, 56, 57, 58, 59, 60, 61, 29, 30], [(1, .list 32), (0, .agg [.val 22, .val 2])], [⟨none, [(2, .val 4)], [.junk], []⟩, ⟨some 0, [(2, .val 4), (5, .own 21 1), (6, .val 3)], [], []⟩]⟩), (4, 21, ⟨[(2, .val 4), (13, .val 3)], [66, 67, 68, 69, 73, 74, 72, 75, 76, 77, 14, 15, 16, 78, 79, 80, 81, 82, 83, 84, 85, 86, 87, 88, 89, 90, 91, 92, 93, 94, 95, 96, 97, 98, 99, 100, 101, 102, 103, 104, 105, 106, 107, 108, 109, 110, 111, 112, 113, 114, 115, 116, 117, 118, 119, 120, 121, 122, 123, 124, 125, 126, 127, 128, 129, 130, 131, 132, 133, 134, 70, 71], [(0, .agg [.val 22, .val 2]), (3, .agg [.val 2, .val 2, .val 2, .val 2, .val 2, .val 2, .val 2, .val 2, .val 2, .val 2, .val 2, .val 4, .val 4, .val 2, .val 2, .val 2, .val 2, .val 4, .val 2, .val 2, .val 2]), (2, .fix 4)], [⟨none, [(2, .val 4)], [.junk, .junk], []⟩, ⟨some 2, [(2, .val 4), (13, .val 3)], [], []⟩]⟩), (7, 6, ⟨[(6, .val 3)], [23, 24, 25, 26, 30, 31, 32, 33, 34, 35, 29, 36, 37, 7, 8, 38, 39, 40, 42, 43, 44, 45, 46, 47, 48, 49, 50, 51, 41, 52, 53, 9, 10, 54, 55, 56, 27, 28], [(1, .agg [.val 22, .val 2]), (0, .agg [.val 22, .val 2])], [⟨some 0, [(6, .val 3)], [], []⟩]⟩), (7, 15, ⟨[(2, .val 4), (11, .val 3)], [57, 58, 59, 60, 64, 65, 63, 66, 67, 68, 12, 13, 14, 70, 71, 69, 72, 73, 74, 15, 16, 17, 75, 76, 77, 78, 79, 80, 81, 82, 83, 84, 85, 86, 61, 62], [(1, .agg [.val 22, .val 2]), (0, .agg [.val 22, .val 2])], [⟨none, [(2, .val 4)], [.junk, .junk, .junk, .junk], []⟩, ⟨some 2, [(2, .val 4), (11, .val 3)], [], []⟩]⟩), (8, 9, ⟨[(10, .val 4), (17, .val 3), (18, .val 3)], [56, 57, 58, 59, 60, 63, 64, 65, 66, 67, 68, 69, 70, 71, 72, 73, 74, 75, 76, 77, 78, 79, 80, 81, 82, 83, 84, 85, 86, 87, 88, 89, 90, 91, 92, 93, 94, 95, 96, 97, 98, 99, 100, 101, 102, 103, 104, 105, 106, 107, 108, 109, 110, 61, 62], [], [⟨none, [(10, .val 4)], [], []⟩, ⟨some 0, [(10, .val 4), (17, .val 3), (18, .val 3)], [], []⟩]⟩)]
def roll : FuncId → Nat → Bool := fun _ _ => false
noncomputable def sums : List (Nat × Summ T) := [(23, ⟨[32], [4], fun x => Go.Models.agenda_fits x⟩),
  (26, ⟨[32, 32], [4], fun x => Go.Models.agenda_before x.1 x.2⟩),
  (17, ⟨[24], [4], fun x => Go.Models.agenda_Valid x⟩),
  (25, ⟨[32, 1032], [4], fun x => Go.Models.agenda_Add_1 x.1 x.2⟩),
  (27, ⟨[62], [22], fun x => Go.Models.slices_Concat x⟩),
  (10, ⟨[24, 32], [24, 34], fun x => Go.Models.agenda_Add x.1 x.2⟩),
  (22, ⟨[47, 47], [24], fun x => Go.Models.law25_filled x.1 x.2⟩),
  (14, ⟨[24, 3, 3, 3], [24, 34], fun x => Go.Models.agenda_Drop x.1 x.2.1 x.2.2.1 x.2.2.2⟩),
  (28, ⟨[22], [22], fun x => Go.Models.slices_Clone x⟩),
  (12, ⟨[24], [24, 32, 4], fun x => Go.Models.agenda_Take x⟩),
  (21, ⟨[24], [47], fun x => Go.Models.law25_taken x⟩),
  (20, ⟨[47, 47], [4], fun x => Go.Models.law25_ints x.1 x.2⟩),
  (9, ⟨[], [4], fun x => Go.Models.law25_head ⟩),
  (19, ⟨[32], [4], fun x => Go.Models.ref25_Fits x⟩),
  (18, ⟨[24], [4], fun x => Go.Models.ref25_Valid x⟩),
  (11, ⟨[24, 32], [24, 34], fun x => Go.Models.ref25_Add x.1 x.2⟩),
  (13, ⟨[24], [24, 32, 4], fun x => Go.Models.ref25_Take x⟩),
  (15, ⟨[24, 3, 3, 3], [24, 34], fun x => Go.Models.ref25_Drop x.1 x.2.1 x.2.2.1 x.2.2.2⟩),
  (16, ⟨[24, 24], [4], fun x => Go.Models.ref25_Same x.1 x.2⟩),
  (3, ⟨[24, 32, 3, 3, 3], [4], fun x => Go.Models.law25_AgendaMatchesReference x.1 x.2.1 x.2.2.1 x.2.2.2.1 x.2.2.2.2⟩),
  (4, ⟨[22], [4], fun x => Go.Models.law25_AgendaOrder x⟩),
  (5, ⟨[24, 32, 3, 3, 3], [4], fun x => Go.Models.law25_AgendaValid x.1 x.2.1 x.2.2.1 x.2.2.2.1 x.2.2.2.2⟩),
  (6, ⟨[24, 32], [4], fun x => Go.Models.law25_AgendaLater x.1 x.2⟩),
  (7, ⟨[22], [4], fun x => Go.Models.law25_AgendaTimes x⟩),
  (8, ⟨[24, 3, 3, 3, 3], [4], fun x => Go.Models.law25_AgendaDrop x.1 x.2.1 x.2.2.1 x.2.2.2.1 x.2.2.2.2⟩)]
noncomputable abbrev S (n : Nat) : SCtx := mkS C T memo (Go.PI.look2 hints) roll sums n owns
theorem s0 : (S 0).Ok := mkS_zero TOk QOk ZOk ownsOk
theorem s1 : (S 1).Ok := mkS_next s0 (f := 23) rfl rfl rfl 400 (fun x => by kernel_rfl)
theorem s2 : (S 2).Ok := mkS_next s1 (f := 26) rfl rfl rfl 400 (fun x => by kernel_rfl)
theorem s3 : (S 3).Ok := mkS_next s2 (f := 17) rfl rfl rfl 400 (fun x => by kernel_rfl)
theorem s4 : (S 4).Ok := mkS_next s3 (f := 25) rfl rfl rfl 400 (fun x => by kernel_rfl)
theorem s5 : (S 5).Ok := mkS_step s4 (f := 27) rfl hand27
theorem s6 : (S 6).Ok := mkS_next s5 (f := 10) rfl rfl rfl 400 (fun x => by kernel_rfl)
theorem s7 : (S 7).Ok := mkS_next s6 (f := 22) rfl rfl rfl 400 (fun x => by kernel_rfl)
theorem s8 : (S 8).Ok := mkS_next s7 (f := 14) rfl rfl rfl 400 (fun x => by kernel_rfl)
theorem s9 : (S 9).Ok := mkS_step s8 (f := 28) rfl hand28
theorem s10 : (S 10).Ok := mkS_next s9 (f := 12) rfl rfl rfl 400 (fun x => by kernel_rfl)
theorem s11 : (S 11).Ok := mkS_next s10 (f := 21) rfl rfl rfl 400 (fun x => by kernel_rfl)
theorem s12 : (S 12).Ok := mkS_next s11 (f := 20) rfl rfl rfl 400 (fun x => by kernel_rfl)
theorem s13 : (S 13).Ok := mkS_step s12 (f := 9) rfl hand9
theorem s14 : (S 14).Ok := mkS_next s13 (f := 19) rfl rfl rfl 400 (fun x => by kernel_rfl)
theorem s15 : (S 15).Ok := mkS_next s14 (f := 18) rfl rfl rfl 400 (fun x => by kernel_rfl)
theorem s16 : (S 16).Ok := mkS_next s15 (f := 11) rfl rfl rfl 400 (fun x => by kernel_rfl)
theorem s17 : (S 17).Ok := mkS_next s16 (f := 13) rfl rfl rfl 400 (fun x => by kernel_rfl)
theorem s18 : (S 18).Ok := mkS_next s17 (f := 15) rfl rfl rfl 400 (fun x => by kernel_rfl)
theorem s19 : (S 19).Ok := mkS_next s18 (f := 16) rfl rfl rfl 400 (fun x => by kernel_rfl)
theorem s20 : (S 20).Ok := mkS_next s19 (f := 3) rfl rfl rfl 400 (fun x => by kernel_rfl)
theorem s21 : (S 21).Ok := mkS_next s20 (f := 4) rfl rfl rfl 400 (fun x => by kernel_rfl)
theorem s22 : (S 22).Ok := mkS_next s21 (f := 5) rfl rfl rfl 400 (fun x => by kernel_rfl)
theorem s23 : (S 23).Ok := mkS_next s22 (f := 6) rfl rfl rfl 400 (fun x => by kernel_rfl)
theorem s24 : (S 24).Ok := mkS_next s23 (f := 7) rfl rfl rfl 400 (fun x => by kernel_rfl)
theorem s25 : (S 25).Ok := mkS_next s24 (f := 8) rfl rfl rfl 400 (fun x => by kernel_rfl)
end Go.Proofs.Ytighpjegljchpaa
end

section
set_option linter.unusedVariables false
/- Plain laws of the agenda: validity, items. -/
set_option maxRecDepth 100000
namespace Go.Proofs.Ytighpjegljchpaa
open Go.PI Go.Pl

def fitsB (x : Itemx) : Bool := decide (0 ≤ x.At) && (decide (x.At ≤ 20000000) && (decide (1 ≤ x.Kind) && decide (x.Kind ≤ 7)))
def befB (a b : Itemx) : Bool := decide (a.At < b.At) || (a.At == b.At && decide (a.Number < b.Number))

theorem afits_eq (x : Itemx) : Models.agenda_fits x = some (fitsB x) := by
  unfold Models.agenda_fits; simp only [bif_tt]; rfl
theorem rfits_eq (x : Itemx) : Models.ref25_Fits x = some (fitsB x) := by
  unfold Models.ref25_Fits; simp only [bif_tt]; rfl
theorem abef_eq (a b : Itemx) : Models.agenda_before a b = some (befB a b) := by
  unfold Models.agenda_before; simp only [bif_tt, bif_or]; rfl

/-- A place of a list is in order. -/
def okI (next : Int) (l : List Itemx) (i : Nat) : Bool :=
  match l[i]? with
  | none => true
  | some x => fitsB x && (!decide (x.Number < 0) && (!decide (next ≤ x.Number) && (!decide (0 < i) || ((l[i - 1]?).map fun y => befB y x).getD true)))
/-- Its number did not occur before. -/
def newN (l : List Itemx) (i : Nat) : Bool :=
  match l[i]? with
  | none => true
  | some x => !(l.take i).any (fun y => y.Number == x.Number)

def validB (a : Agenda) : Bool := !decide (a.Next < 0) && (!decide (1000000000 < a.Next) && (!decide (5000 < (a.List.length : Int)) &&
  ((List.range a.List.length).all (okI a.Next a.List) && (List.range a.List.length).all (newN a.List))))

theorem all_and {p q : Nat → Bool} : ∀ (l : List Nat), l.all (fun i => p i && q i) = (l.all p && l.all q)
  | [] => rfl
  | x :: xs => by
    simp only [List.all_cons, all_and xs]
    cases p x <;> cases q x <;> cases xs.all p <;> cases xs.all q <;> rfl

theorem prev_wrap {i : Nat} (h : 0 < i) (hn : i ≤ 2 ^ 62) : IntKind.i64.wrap ((i : Int) - 1) = ((i - 1 : Nat) : Int) := by
  rw [i64_id (by omega) (by omega)]; omega

theorem avalid_eq (a : Agenda) : Models.agenda_Valid a = some (validB a) := by
  unfold Models.agenda_Valid validB
  cases h1 : decide (a.Next < 0)
  case true => rfl
  cases h2 : decide (1000000000 < a.Next)
  case true => rfl
  cases h3 : decide (5000 < (a.List.length : Int))
  case true => rfl
  have hlen : a.List.length ≤ 5000 := by simp at h3; omega
  simp only [cond_false, Bool.not_false, Bool.true_and, mapGet_int, mapPut_int]
  rw [← all_and]
  have key : ∀ f : Bool × Int × List (Int × Bool) → Option (Bool × Int × List (Int × Bool) ⊕ (Bool × List (Int × Bool) ⊕ Bool × Int × List (Int × Bool))),
      (∀ i, i < a.List.length → f (false, (i : Int), noted Itemx.Number (a.List.take i)) = some (bif (okI a.Next a.List i && newN a.List i) then .inl (false, ((i + 1 : Nat) : Int), noted Itemx.Number (a.List.take (i + 1))) else .inr (.inl (false, noted Itemx.Number (a.List.take i))))) →
      f (false, (a.List.length : Int), noted Itemx.Number (a.List.take a.List.length)) = some (.inr (.inr (false, (a.List.length : Int), noted Itemx.Number (a.List.take a.List.length)))) →
      ((loopM f (false, 0, [])).bind fun w8 => Sum.elim (fun ((b9, l10) : Bool × List (Int × Bool)) => some b9) (fun ((b11, i12, l13) : Bool × Int × List (Int × Bool)) => some true) w8) =
        some ((List.range a.List.length).all fun i => okI a.Next a.List i && newN a.List i) := by
    intro f h he
    have := loop_all (f := f) (fun i => ((false, (i : Int), noted Itemx.Number (a.List.take i)) : Bool × Int × List (Int × Bool))) (fun i => okI a.Next a.List i && newN a.List i) (fun i => .inl (false, noted Itemx.Number (a.List.take i))) a.List.length _ h he
    rcases this with ⟨h4, h5⟩ | ⟨h4, i, _, _, h5⟩
    · have h5' : loopM f (false, 0, []) = _ := h5
      rw [h4, h5']; rfl
    · have h5' : loopM f (false, 0, []) = _ := h5
      rw [h4, h5']; rfl
  apply key
  · intro i hi
    have hlt : ((i : Int) < (a.List.length : Int)) := by omega
    have hg := List.getElem?_eq_getElem hi
    have e1 : okI a.Next a.List i = (fitsB a.List[i] && (!decide (a.List[i].Number < 0) && (!decide (a.Next ≤ a.List[i].Number) && (!decide (0 < i) || ((a.List[i - 1]?).map fun y => befB y a.List[i]).getD true)))) := by
      unfold okI; rw [hg]
    have e2 : newN a.List i = !(a.List.take i).any (fun y => y.Number == a.List[i].Number) := by unfold newN; rw [hg]
    rw [noted_snoc hi, e1, e2]
    simp only [hlt, decide_true, cond_true, Int.natCast_nonneg, Int.toNat_natCast, hg, Option.bind_some, afits_eq, noted_get, wrap_succ hi (by omega)]
    generalize fitsB a.List[i] = c1
    generalize decide (a.List[i].Number < 0) = c2
    generalize decide (a.Next ≤ a.List[i].Number) = c3
    generalize (a.List.take i).any (fun y => y.Number == a.List[i].Number) = c4
    by_cases h0 : 0 < i
    · have h0' : (0 : Int) < (i : Int) := by omega
      have hp : i - 1 < a.List.length := by omega
      simp only [h0, h0', decide_true, cond_true, prev_wrap h0 (by omega), Int.natCast_nonneg, Int.toNat_natCast, List.getElem?_eq_getElem hp, Option.bind_some, abef_eq, Option.map_some, Option.getD_some]
      generalize befB a.List[i - 1] a.List[i] = c5
      cases c1 <;> cases c2 <;> cases c3 <;> cases c4 <;> cases c5 <;> rfl
    · have h0' : ¬ (0 : Int) < (i : Int) := by omega
      simp only [h0, h0', decide_false, cond_false]
      cases c1 <;> cases c2 <;> cases c3 <;> cases c4 <;> rfl
  · simp
end Go.Proofs.Ytighpjegljchpaa
end

section
set_option linter.unusedVariables false
/- Plain laws of the agenda: validity by the reference; equality. -/
set_option maxRecDepth 100000
namespace Go.Proofs.Ytighpjegljchpaa
open Go.PI Go.Pl

theorem rbef (q x : Itemx) : (!decide (x.At < q.At) && !(x.At == q.At && decide (x.Number ≤ q.Number))) = befB q x := by
  unfold befB
  rw [Bool.eq_iff_iff]
  simp only [Bool.and_eq_true, Bool.not_eq_true', decide_eq_false_iff_not, Bool.and_eq_false_iff, Bool.or_eq_true, decide_eq_true_eq, beq_iff_eq, beq_eq_false_iff_ne]
  omega

theorem rvalid_eq (a : Agenda) : Models.ref25_Valid a = some (validB a) := by
  unfold Models.ref25_Valid validB
  cases h1 : decide (a.Next < 0)
  case true => rfl
  cases h2 : decide (1000000000 < a.Next)
  case true => rfl
  cases h3 : decide (5000 < (a.List.length : Int))
  case true => rfl
  have hlen : a.List.length ≤ 5000 := by simp at h3; omega
  simp only [cond_false, Bool.not_false, Bool.true_and, mapGet_int, mapPut_int]
  have key2 : ∀ (b : Bool) (f : Bool × Int × List (Int × Bool) → Option (Bool × Int × List (Int × Bool) ⊕ (Bool × List (Int × Bool) ⊕ Bool × Int × List (Int × Bool)))),
      (∀ i, i < a.List.length → f (b, (i : Int), noted Itemx.Number (a.List.take i)) = some (bif newN a.List i then .inl (b, ((i + 1 : Nat) : Int), noted Itemx.Number (a.List.take (i + 1))) else .inr (.inl (false, noted Itemx.Number (a.List.take i))))) →
      f (b, (a.List.length : Int), noted Itemx.Number (a.List.take a.List.length)) = some (.inr (.inr (b, (a.List.length : Int), noted Itemx.Number (a.List.take a.List.length)))) →
      ((loopM f (b, 0, [])).bind fun w8 => Sum.elim (fun ((b9, l10) : Bool × List (Int × Bool)) => some b9) (fun ((b11, i12, l13) : Bool × Int × List (Int × Bool)) => some true) w8) =
        some ((List.range a.List.length).all (newN a.List)) := by
    intro b f h he
    have := loop_all (f := f) (fun i => ((b, (i : Int), noted Itemx.Number (a.List.take i)) : Bool × Int × List (Int × Bool))) (newN a.List) (fun i => .inl (false, noted Itemx.Number (a.List.take i))) a.List.length _ h he
    rcases this with ⟨h4, h5⟩ | ⟨h4, i, _, _, h5⟩
    · have h5' : loopM f (b, 0, []) = _ := h5
      rw [h4, h5']; rfl
    · have h5' : loopM f (b, 0, []) = _ := h5
      rw [h4, h5']; rfl
  have key1 : ∀ (f : Bool × Int → Option (Bool × Int ⊕ (Bool ⊕ Bool × Int))) (K : Bool × Int → Option Bool), (∀ i, i < a.List.length → f (false, (i : Int)) = some (bif okI a.Next a.List i then .inl (false, ((i + 1 : Nat) : Int)) else .inr (.inl false))) →
      f (false, (a.List.length : Int)) = some (.inr (.inr (false, (a.List.length : Int)))) → (K (false, (a.List.length : Int)) = some ((List.range a.List.length).all (newN a.List))) →
      ((loopM f (false, 0)).bind fun w8 => Sum.elim (fun b9 => some b9) K w8) = some ((List.range a.List.length).all (okI a.Next a.List) && (List.range a.List.length).all (newN a.List)) := by
    intro f K h he hK
    have := loop_all (f := f) (fun i => ((false, (i : Int)) : Bool × Int)) (okI a.Next a.List) (fun _ => .inl false) a.List.length _ h he
    rcases this with ⟨h4, h5⟩ | ⟨h4, i, _, _, h5⟩
    · have h5' : loopM f (false, 0) = _ := h5
      rw [h4, h5']; exact hK
    · have h5' : loopM f (false, 0) = _ := h5
      rw [h4, h5']; rfl
  apply key1
  · intro i hi
    have hlt : ((i : Int) < (a.List.length : Int)) := by omega
    have hg := List.getElem?_eq_getElem hi
    have e1 : okI a.Next a.List i = (fitsB a.List[i] && (!decide (a.List[i].Number < 0) && (!decide (a.Next ≤ a.List[i].Number) && (!decide (0 < i) || ((a.List[i - 1]?).map fun y => befB y a.List[i]).getD true)))) := by
      unfold okI; rw [hg]
    rw [e1]
    simp only [hlt, decide_true, cond_true, Int.natCast_nonneg, Int.toNat_natCast, hg, Option.bind_some, rfits_eq, wrap_succ hi (by omega)]
    generalize fitsB a.List[i] = c1
    generalize decide (a.List[i].Number < 0) = c2
    generalize decide (a.Next ≤ a.List[i].Number) = c3
    by_cases h0 : 0 < i
    · have h0' : (0 : Int) < (i : Int) := by omega
      have hp : i - 1 < a.List.length := by omega
      simp only [h0, h0', decide_true, cond_true, prev_wrap h0 (by omega), Int.natCast_nonneg, Int.toNat_natCast, List.getElem?_eq_getElem hp, Option.bind_some, Option.map_some, Option.getD_some]
      rw [← rbef]
      generalize decide (a.List[i].At < a.List[i - 1].At) = c5
      generalize (a.List[i].At == a.List[i - 1].At) = c6
      generalize decide (a.List[i].Number ≤ a.List[i - 1].Number) = c7
      cases c1 <;> cases c2 <;> cases c3 <;> cases c5 <;> cases c6 <;> cases c7 <;> rfl
    · have h0' : ¬ (0 : Int) < (i : Int) := by omega
      simp only [h0, h0', decide_false, cond_false]
      cases c1 <;> cases c2 <;> cases c3 <;> rfl
  · simp
  · apply key2
    · intro i hi
      have hlt : ((i : Int) < (a.List.length : Int)) := by omega
      have hg := List.getElem?_eq_getElem hi
      have e2 : newN a.List i = !(a.List.take i).any (fun y => y.Number == a.List[i].Number) := by unfold newN; rw [hg]
      rw [noted_snoc hi, e2]
      simp only [hlt, decide_true, cond_true, Int.natCast_nonneg, Int.toNat_natCast, hg, Option.bind_some, noted_get, wrap_succ hi (by omega)]
      cases (a.List.take i).any (fun y => y.Number == a.List[i].Number) <;> rfl
    · simp

/-- What a copy needs of room: nothing that a short list lacks. -/
theorem room {n : Nat} (h : n ≤ 2 ^ 32) : (decide (n * 160 ≤ 2 ^ 44) && decide (n ≤ 2 ^ 44)) = true := by
  simp only [Bool.and_eq_true, decide_eq_true_eq]; omega

theorem clone_eq {l : List Itemx} (h : l.length ≤ 2 ^ 32) : Models.slices_Clone l = some l := by
  unfold Models.slices_Clone cloneM roomM
  rw [room h]; rfl

def eqItem (x y : Itemx) : Bool := x.At == y.At && (x.Number == y.Number && (x.Kind == y.Kind && (x.A == y.A && (x.B == y.B && (x.P.Flow == y.P.Flow && (x.P.Sub == y.P.Sub && (x.P.Number == y.P.Number && (x.P.Data == y.P.Data && (x.P.Size == y.P.Size && (x.P.Sent == y.P.Sent && (x.P.Able == y.P.Able && (x.P.Marked == y.P.Marked && (x.K.Sub == y.K.Sub && (x.K.Number == y.K.Number && (x.K.Next == y.K.Next && (x.K.Sent == y.K.Sent && (x.K.Marked == y.K.Marked && (x.Change.Kind == y.Change.Kind && (x.Change.A == y.Change.A && x.Change.B == y.Change.B)))))))))))))))))))

theorem eqItem_self (x : Itemx) : eqItem x x = true := by
  unfold eqItem; simp

theorem same_self (a : Agenda) (ha : a.List.length ≤ 2 ^ 32) : Models.ref25_Same a a = some true := by
  unfold Models.ref25_Same
  simp only [beq_self_eq_true, Bool.not_true, cond_false]
  rw [loop_list a.List (fun i => ((false, (i : Int)) : Bool × Int)) (fun _ => true) (.inl false) (.inr (false, (a.List.length : Int)))]
  · have : a.List.all (fun _ => true) = true := by simp
    simp [this]
  · intro i hi
    have h1 : ((i : Int) < (a.List.length : Int)) := by omega
    simp [h1, Int.natCast_nonneg, List.getElem?_eq_getElem hi, wrap_succ hi (by omega)]
  · simp
  · rfl
end Go.Proofs.Ytighpjegljchpaa
end

section
set_option linter.unusedVariables false
/- Plain laws of the agenda: what validity says. -/
set_option maxRecDepth 100000
namespace Go.Proofs.Ytighpjegljchpaa
open Go.PI Go.Pl

structure Ok (a : Agenda) : Prop where
  lo : 0 ≤ a.Next
  hi : a.Next ≤ 1000000000
  len : a.List.length ≤ 5000
  all : ∀ x ∈ a.List, fitsB x = true ∧ 0 ≤ x.Number ∧ x.Number < a.Next
  ord : a.List.Pairwise fun x y => befB x y = true
  num : a.List.Pairwise fun x y => x.Number ≠ y.Number

theorem bef_iff {a b : Itemx} : befB a b = true ↔ a.At < b.At ∨ (a.At = b.At ∧ a.Number < b.Number) := by
  unfold befB; simp [Bool.or_eq_true]

theorem bef_trans {a b c : Itemx} (h : befB a b = true) (h' : befB b c = true) : befB a c = true := by
  rw [bef_iff] at *; omega

theorem chain_pair {l : List Itemx} (h : ∀ i (h0 : 0 < i) (hi : i < l.length), befB (l[i - 1]'(by omega)) l[i] = true) : l.Pairwise fun x y => befB x y = true := by
  rw [List.pairwise_iff_getElem]
  intro i j hi hj hij
  induction j with
  | zero => omega
  | succ j ih =>
    have hs := h (j + 1) (by omega) hj
    simp only [Nat.add_sub_cancel] at hs
    by_cases e : i = j
    · subst e; exact hs
    · exact bef_trans (ih (by omega) (by omega)) hs

theorem valid_iff {a : Agenda} : validB a = true ↔ Ok a := by
  unfold validB
  simp only [Bool.and_eq_true, Bool.not_eq_true', decide_eq_false_iff_not, List.all_eq_true, List.mem_range]
  constructor
  · rintro ⟨h1, h2, h3, h4, h5⟩
    have hok : ∀ i (hi : i < a.List.length), fitsB a.List[i] = true ∧ 0 ≤ a.List[i].Number ∧ a.List[i].Number < a.Next ∧ (0 < i → befB (a.List[i - 1]'(by omega)) a.List[i] = true) := by
      intro i hi
      have := h4 i hi
      unfold okI at this
      rw [List.getElem?_eq_getElem hi] at this
      simp only [Bool.and_eq_true, Bool.not_eq_true', decide_eq_false_iff_not] at this
      refine ⟨this.1, by omega, by omega, fun h0 => ?_⟩
      have h6 := this.2.2.2
      rw [List.getElem?_eq_getElem (show i - 1 < a.List.length by omega)] at h6
      simpa [h0] using h6
    refine ⟨by omega, by omega, by omega, fun x hx => ?_, chain_pair fun i h0 hi => (hok i hi).2.2.2 h0, ?_⟩
    · obtain ⟨i, hi, rfl⟩ := List.getElem_of_mem hx
      obtain ⟨g1, g2, g3, _⟩ := hok i hi
      exact ⟨g1, g2, g3⟩
    · rw [List.pairwise_iff_getElem]
      intro i j hi hj hij
      have := h5 j hj
      unfold newN at this
      rw [List.getElem?_eq_getElem hj] at this
      simp only [Bool.not_eq_true', List.any_eq_false] at this
      have := this a.List[i] (List.mem_take_iff_getElem.2 ⟨i, by omega, rfl⟩)
      simpa using this
  · intro h
    refine ⟨by have := h.lo; omega, by have := h.hi; omega, by have := h.len; omega, fun i hi => ?_, fun i hi => ?_⟩
    · unfold okI
      rw [List.getElem?_eq_getElem hi]
      obtain ⟨g1, g2, g3⟩ := h.all _ (List.getElem_mem hi)
      simp only [Bool.and_eq_true, Bool.not_eq_true', decide_eq_false_iff_not]
      refine ⟨g1, by omega, by omega, ?_⟩
      by_cases h0 : 0 < i
      · rw [List.getElem?_eq_getElem (show i - 1 < a.List.length by omega)]
        have := List.pairwise_iff_getElem.1 h.ord (i - 1) i (by omega) hi (by omega)
        simp [this]
      · simp [h0]
    · unfold newN
      rw [List.getElem?_eq_getElem hi]
      simp only [Bool.not_eq_true', List.any_eq_false]
      intro x hx
      obtain ⟨j, hj, rfl⟩ := List.mem_take_iff_getElem.1 hx
      have := List.pairwise_iff_getElem.1 h.num j i (by omega) hi (by omega)
      simpa using this

/-- Where an item goes. -/
def ins (x : Itemx) : List Itemx → List Itemx
  | [] => [x]
  | y :: l => if x.At < y.At then x :: y :: l else y :: ins x l

theorem ins_mem {x y : Itemx} : ∀ {l : List Itemx}, y ∈ ins x l ↔ y = x ∨ y ∈ l
  | [] => by simp [ins]
  | z :: l => by
    simp only [ins]
    split
    · simp
    · simp only [List.mem_cons, ins_mem (l := l)]
      constructor
      · rintro (h | h | h) <;> simp [h]
      · rintro (h | h | h) <;> simp [h]

theorem ins_len (x : Itemx) : ∀ (l : List Itemx), (ins x l).length = l.length + 1
  | [] => rfl
  | y :: l => by
    simp only [ins]
    split
    · rfl
    · simp [ins_len x l]

theorem ins_perm (x : Itemx) : ∀ (l : List Itemx), (ins x l).Perm (x :: l)
  | [] => List.Perm.refl _
  | y :: l => by
    simp only [ins]
    split
    · exact List.Perm.refl _
    · exact (List.Perm.cons y (ins_perm x l)).trans (List.Perm.swap x y l)

theorem ins_ord {x : Itemx} : ∀ {l : List Itemx}, (l.Pairwise fun x y => befB x y = true) → (∀ y ∈ l, y.Number < x.Number) → (ins x l).Pairwise fun x y => befB x y = true
  | [], _, _ => by simp [ins]
  | y :: l, h, hn => by
    simp only [List.pairwise_cons] at h
    simp only [ins]
    split
    · rename_i hlt
      simp only [List.pairwise_cons]
      refine ⟨fun z hz => ?_, h⟩
      rcases List.mem_cons.1 hz with rfl | hz
      · rw [bef_iff]; omega
      · have := h.1 z hz
        rw [bef_iff] at this ⊢
        omega
    · rename_i hlt
      simp only [List.pairwise_cons]
      refine ⟨fun z hz => ?_, ins_ord h.2 fun z hz => hn z (by simp [hz])⟩
      rcases ins_mem.1 hz with rfl | hz
      · have := hn y (by simp)
        rw [bef_iff]; omega
      · exact h.1 z hz

/-- The place of an item, as a search finds it. -/
def place (x : Itemx) : List Itemx → Nat
  | [] => 0
  | y :: l => if x.At < y.At then 0 else place x l + 1

theorem place_le (x : Itemx) : ∀ (l : List Itemx), place x l ≤ l.length
  | [] => Nat.le_refl _
  | y :: l => by
    simp only [place]
    split
    · exact Nat.zero_le _
    · have := place_le x l
      simp only [List.length_cons]; omega

theorem ins_place (x : Itemx) : ∀ (l : List Itemx), ins x l = l.take (place x l) ++ x :: l.drop (place x l)
  | [] => rfl
  | y :: l => by
    simp only [ins, place]
    split
    · rfl
    · simp only [List.take_succ_cons, List.drop_succ_cons, List.cons_append]
      rw [← ins_place x l]

theorem place_spec (x : Itemx) : ∀ (l : List Itemx) (i : Nat) (hi : i < l.length), i < place x l → ¬ x.At < l[i].At
  | y :: l, 0, hi, h => by
    simp only [place] at h
    split at h
    · omega
    · rename_i hn
      simp only [List.getElem_cons_zero]; exact hn
  | y :: l, i + 1, hi, h => by
    simp only [place] at h
    split at h
    · omega
    · simpa using place_spec x l i (by simpa using hi) (by omega)
  | [], i, hi, _ => by simp at hi

theorem place_at (x : Itemx) : ∀ (l : List Itemx) (hi : place x l < l.length), x.At < (l[place x l]).At
  | y :: l, hi => by
    by_cases h : x.At < y.At
    · have e : place x (y :: l) = 0 := by simp [place, h]
      simp only [e, List.getElem_cons_zero]
      exact h
    · have e : place x (y :: l) = place x l + 1 := by simp [place, h]
      simp only [e, List.getElem_cons_succ]
      exact place_at x l (by rw [e] at hi; simpa using hi)
  | [], hi => by simp at hi
end Go.Proofs.Ytighpjegljchpaa
end

section
set_option linter.unusedVariables false
/- Plain laws of the agenda: what adding, taking and dropping come to. -/
set_option maxRecDepth 100000
namespace Go.Proofs.Ytighpjegljchpaa
open Go.PI Go.Pl

def num (x : Itemx) (n : Int) : Itemx := Itemx.mk x.At n x.Kind x.A x.B x.P x.K x.Change
def noItem : Itemx := Itemx.mk 0 0 0 0 0 (Packet.mk 0 0 0 0 0 0 false false) (Ack.mk 0 0 0 0 false) (Change.mk 0 0 0)
def addR (a : Agenda) (x : Itemx) : Agenda × Int :=
  bif !validB a then (Agenda.mk [] 0, 1) else bif !fitsB x then (Agenda.mk [] 0, 1) else
  bif decide (5000 ≤ (a.List.length : Int)) then (Agenda.mk [] 0, 10) else bif decide (1000000000 ≤ a.Next) then (Agenda.mk [] 0, 10) else
  (Agenda.mk (ins (num x a.Next) a.List) (a.Next + 1), 0)

theorem room1 {n : Nat} (h : n ≤ 2 ^ 32) : (decide ((n + 1) * 160 ≤ 2 ^ 44) && decide (n + 1 ≤ 2 ^ 44)) = true := by
  simp only [Bool.and_eq_true, decide_eq_true_eq]; omega

theorem place_mono {x : Itemx} {l : List Itemx} (ho : l.Pairwise fun x y => befB x y = true) {i : Nat} (hi : i < l.length) (h : place x l ≤ i) : x.At < l[i].At := by
  have h1 := place_at x l (by omega)
  by_cases e : place x l = i
  · subst e; exact h1
  · have := List.pairwise_iff_getElem.1 ho (place x l) i (by omega) hi (by omega)
    rw [bef_iff] at this
    omega

theorem concat3 {a b c : List Itemx} (h : (a ++ (b ++ c)).length ≤ 2 ^ 32) : Models.slices_Concat [a, b, c] = some (a ++ (b ++ c)) := by
  unfold Models.slices_Concat concatM roomM
  have e : [a, b, c].flatten = a ++ (b ++ c) := by simp
  simp only [e]
  rw [room h]; rfl

theorem aadd_eq (a : Agenda) (x : Itemx) : Models.agenda_Add a x = some (addR a x) := by
  unfold Models.agenda_Add addR
  rw [avalid_eq, afits_eq]
  simp only [Option.bind_some]
  cases hv : validB a
  case false => rfl
  have ok := valid_iff.1 hv
  cases hf : fitsB x
  case false => rfl
  have hlen := ok.len
  have hn := ok.hi
  by_cases h5 : (a.List.length : Int) = 5000
  · simp [h5]
  by_cases h6 : a.Next = 1000000000
  · simp only [h6]
    have h7 : ¬ (5000 ≤ (a.List.length : Int)) := by omega
    simp [h7]
  have e5 : ((a.List.length : Int) == 5000) = false := by simpa using h5
  have e6 : (a.Next == 1000000000) = false := by simpa using h6
  have d5 : decide (5000 ≤ (a.List.length : Int)) = false := by simp; omega
  have d6 : decide (1000000000 ≤ a.Next) = false := by simp; omega
  simp only [Bool.not_true, cond_false, e5, e6, d5, d6]
  have hpl := place_le (num x a.Next) a.List
  rw [search (place (num x a.Next) a.List) a.List.length ((place (num x a.Next) a.List : Int), (place (num x a.Next) a.List : Int)) hpl]
  · simp only [Option.bind_some]
    have c1 : decide ((0 : Int) ≤ (place (num x a.Next) a.List : Int)) = true := by simp
    have c2 : (decide (0 ≤ ((place (num x a.Next) a.List : Int)).toNat) && decide (((place (num x a.Next) a.List : Int)).toNat ≤ ((place (num x a.Next) a.List : Int)).toNat) && decide (((place (num x a.Next) a.List : Int)).toNat ≤ a.List.length)) = true := by
      simp [hpl]
    have c3 : decide (((place (num x a.Next) a.List : Int)).toNat ≤ a.List.length) = true := by simp [hpl]
    simp only [c1, c3, cond_true]
    have ei := ins_place (num x a.Next) a.List
    have hil := ins_len (num x a.Next) a.List
    have en : Itemx.mk x.At a.Next x.Kind x.A x.B x.P x.K x.Change = num x a.Next := rfl
    have eq : List.take ((place (num x a.Next) a.List : Int).toNat - 0) (List.drop 0 a.List) ++ ([num x a.Next] ++ List.drop (place (num x a.Next) a.List : Int).toNat a.List) = ins (num x a.Next) a.List := by
      rw [ei]; simp
    rw [en, concat3 (by rw [eq, hil]; omega), eq, i64_id (by have := ok.lo; omega) (by omega)]
    simp only [Nat.zero_le, Nat.le_refl, decide_true, Bool.and_self, cond_true]
    rfl
  · intro i j hij hj hmid
    have hm : (i + j) / 2 < a.List.length := by omega
    have hij' : decide ((i : Int) < (j : Int)) = true := by simp; omega
    have en : Itemx.mk x.At a.Next x.Kind x.A x.B x.P x.K x.Change = num x a.Next := rfl
    simp only [hij', cond_true, mid_eq (i := i) (j := j) (by omega), Int.natCast_nonneg, decide_true, Int.toNat_natCast, List.getElem?_eq_getElem hm, Option.bind_some, Models.agenda_Add_1, en, abef_eq]
    have hb : befB (num x a.Next) a.List[(i + j) / 2] = decide (x.At < (a.List[(i + j) / 2]).At) := by
      rw [Bool.eq_iff_iff, bef_iff, decide_eq_true_eq]
      have := (ok.all _ (List.getElem_mem hm)).2.2
      show x.At < _ ∨ (x.At = _ ∧ a.Next < _) ↔ _
      omega
    rw [hb]
    by_cases hk : (i + j) / 2 < place (num x a.Next) a.List
    · have h1 : ¬ x.At < (a.List[(i + j) / 2]).At := place_spec (num x a.Next) a.List _ hm hk
      rw [if_pos hk]
      simp only [h1, decide_false, Bool.not_false, cond_true]
      rw [i64_id (by omega) (by omega)]
      simp
    · have h1 : x.At < (a.List[(i + j) / 2]).At := place_mono (x := num x a.Next) ok.ord hm (by omega)
      rw [if_neg hk]
      simp only [h1, decide_true, Bool.not_true, cond_false]
  · simp

theorem radd_eq (a : Agenda) (x : Itemx) : Models.ref25_Add a x = some (addR a x) := by
  unfold Models.ref25_Add addR
  rw [rvalid_eq, rfits_eq]
  simp only [Option.bind_some]
  cases hv : validB a
  case false => rfl
  have ok := valid_iff.1 hv
  cases hf : fitsB x
  case false => rfl
  have hlen := ok.len
  have hn := ok.hi
  have en : Itemx.mk x.At a.Next x.Kind x.A x.B x.P x.K x.Change = num x a.Next := rfl
  simp only [Bool.not_true, cond_false, en]
  cases d5 : decide (5000 ≤ (a.List.length : Int))
  case true => rfl
  cases d6 : decide (1000000000 ≤ a.Next)
  case true => rfl
  simp only [cond_false]
  have h6 : a.Next < 1000000000 := by simp at d6; omega
  rw [i64_id (n := a.Next + 1) (by have := ok.lo; omega) (by omega)]
  have hpl := place_le (num x a.Next) a.List
  generalize hx : num x a.Next = y at *
  have hxa : x.At = y.At := by rw [← hx]; rfl
  let st : Nat → Bool × Int × Int × List Itemx := fun i => (decide (place y a.List < i), (i : Int), a.Next + 1, if place y a.List < i then a.List.take (place y a.List) ++ y :: (a.List.take i).drop (place y a.List) else a.List.take i)
  rw [loop_to st a.List.length (st a.List.length)]
  · simp only [Option.bind_some, st]
    by_cases hp : place y a.List < a.List.length
    · simp only [hp, decide_true, Bool.not_true, cond_false, if_true, List.take_length]
      rw [ins_place]
    · have hpe : place y a.List = a.List.length := by omega
      simp only [hp, decide_false, Bool.not_false, cond_true, if_false, List.take_length]
      rw [room1 (by omega), ins_place, hpe]
      simp
  · intro i hi
    have hlt : ((i : Int) < (a.List.length : Int)) := by omega
    have hl : (a.List.take i).length = i := by simp; omega
    simp only [st, hlt, decide_true, cond_true, Int.natCast_nonneg, Int.toNat_natCast, List.getElem?_eq_getElem hi, Option.bind_some, wrap_succ hi (by omega), hxa]
    have ht := List.take_succ_eq_append_getElem hi
    by_cases hp : place y a.List < i
    · have hp' : place y a.List < i + 1 := by omega
      have hle : (a.List.take (place y a.List) ++ y :: (a.List.take i).drop (place y a.List)).length ≤ 2 ^ 32 := by simp; omega
      simp only [hp, hp', decide_true, Bool.not_true, cond_false, if_true, room1 hle, cond_true]
      rw [ht, List.drop_append_of_le_length (by omega)]
      simp
    · by_cases he : place y a.List = i
      · have h1 : y.At < (a.List[i]).At := place_mono ok.ord hi (by omega)
        have hle : (a.List.take i).length ≤ 2 ^ 32 := by omega
        have hle2 : (a.List.take i ++ [y]).length ≤ 2 ^ 32 := by simp; omega
        simp only [he, Nat.lt_irrefl, Nat.lt_succ_self, decide_false, decide_true, Bool.not_false, cond_true, h1, if_false, if_true, room1 hle, room1 hle2]
        rw [ht, List.drop_append_of_le_length (by omega)]
        simp [List.drop_eq_nil_of_le (Nat.le_of_eq hl)]
      · have h1 : ¬ y.At < (a.List[i]).At := place_spec y a.List i hi (by omega)
        have hp' : ¬ place y a.List < i + 1 := by omega
        have hle : (a.List.take i).length ≤ 2 ^ 32 := by omega
        simp only [hp, hp', decide_false, Bool.not_false, cond_true, cond_false, h1, if_false, room1 hle]
        rw [ht]
  · simp [st]
  · simp [st]
end Go.Proofs.Ytighpjegljchpaa
end

section
set_option linter.unusedVariables false
/- Plain laws of the agenda: taking, dropping. -/
set_option maxRecDepth 100000
namespace Go.Proofs.Ytighpjegljchpaa
open Go.PI Go.Pl

def takeR (a : Agenda) : Agenda × Itemx × Bool :=
  match a.List with
  | [] => (a, noItem, false)
  | y :: l => bif validB a then (Agenda.mk l a.Next, y, true) else (a, noItem, false)

theorem clone_len {l : List Itemx} (h : l.length ≤ 6000) : Models.slices_Clone l = some l := clone_eq (by omega)

theorem atake_eq (a : Agenda) (h : a.List.length ≤ 6000) : Models.agenda_Take a = some (takeR a) := by
  unfold Models.agenda_Take takeR
  rw [avalid_eq, clone_len h]
  rcases a with ⟨l, n⟩
  cases l with
  | nil => rfl
  | cons y l =>
    have e : (((y :: l).length : Int) == 0) = false := by simp; omega
    simp only [e, cond_false, Option.bind_some]
    cases validB ⟨y :: l, n⟩
    · rfl
    · have c : decide (Int.toNat 1 ≤ (y :: l).length) = true := by simp
      have hl : l.length ≤ 6000 := by simp at h; omega
      simp only [c, Bool.not_true, cond_false, cond_true]
      have : List.drop (Int.toNat 1) (y :: l) = l := rfl
      rw [this, clone_len hl]
      rfl

theorem roomc {n : Nat} (h : n ≤ 6000) : (decide (n * 160 ≤ 2 ^ 44) && decide (n ≤ 2 ^ 44)) = true := room (by omega)

theorem rtake_eq (a : Agenda) (h : a.List.length ≤ 6000) : Models.ref25_Take a = some (takeR a) := by
  unfold Models.ref25_Take takeR
  rw [rvalid_eq]
  rcases a with ⟨l, n⟩
  cases l with
  | nil =>
    simp only [Option.bind_some]
    cases validB ⟨[], n⟩ <;> rfl
  | cons y l =>
    have e : (((y :: l).length : Int) == 0) = false := by simp; omega
    have hr := roomc h
    simp only [e, cond_false, Option.bind_some, List.isEmpty_cons, hr, cond_true]
    cases validB ⟨y :: l, n⟩
    · rfl
    · have c : decide (Int.toNat 1 ≤ (y :: l).length) = true := by simp
      have hl : l.length ≤ 6000 := by simp at h; omega
      simp only [c, Bool.not_true, cond_false, cond_true]
      have : List.drop (Int.toNat 1) (y :: l) = l := rfl
      have hr := roomc hl
      simp only [this, hr, cond_true]
      cases l <;> rfl

def keepB (kind x y : Int) (q : Itemx) : Bool := !(q.Kind == kind && (q.A == x && q.B == y))
def dropR (a : Agenda) (kind x y : Int) : Agenda × Int :=
  bif validB a then (Agenda.mk (a.List.filter (keepB kind x y)) a.Next, 0) else (Agenda.mk [] 0, 1)

theorem adrop_eq (a : Agenda) (kind x y : Int) : Models.agenda_Drop a kind x y = some (dropR a kind x y) := by
  unfold Models.agenda_Drop dropR
  rw [avalid_eq]
  simp only [Option.bind_some]
  cases hv : validB a
  case false => rfl
  have hlen := (valid_iff.1 hv).len
  simp only [Bool.not_true, cond_false, cond_true]
  let st : Nat → Int × Int × List Itemx := fun i => ((i : Int), a.Next, (a.List.take i).filter (keepB kind x y))
  rw [loop_to st a.List.length (st a.List.length)]
  · simp [st]
  · intro i hi
    have hlt : ((i : Int) < (a.List.length : Int)) := by omega
    have hle : ((a.List.take i).filter (keepB kind x y)).length ≤ 2 ^ 32 := by
      have := List.length_filter_le (keepB kind x y) (a.List.take i)
      simp at this; omega
    simp only [st, hlt, decide_true, cond_true, Int.natCast_nonneg, Int.toNat_natCast, List.getElem?_eq_getElem hi, Option.bind_some, wrap_succ hi (by omega), room1 hle, filter_snoc hi]
    generalize (a.List.take i).filter (keepB kind x y) = l4
    have e : keepB kind x y a.List[i] = !(a.List[i].Kind == kind && (a.List[i].A == x && a.List[i].B == y)) := rfl
    rw [e]
    cases (a.List[i].Kind == kind) <;> cases (a.List[i].A == x) <;> cases (a.List[i].B == y) <;> simp
  · simp [st]
  · simp [st]

theorem rdrop_eq (a : Agenda) (kind x y : Int) : Models.ref25_Drop a kind x y = some (dropR a kind x y) := by
  unfold Models.ref25_Drop dropR
  rw [rvalid_eq]
  simp only [Option.bind_some]
  cases hv : validB a
  case false => rfl
  have hlen := (valid_iff.1 hv).len
  simp only [Bool.not_true, cond_false, cond_true]
  let st : Nat → Int × Int × List Itemx := fun i => ((i : Int), a.Next, (a.List.take i).filter (keepB kind x y))
  rw [loop_to st a.List.length (st a.List.length)]
  · simp [st]
  · intro i hi
    have hlt : ((i : Int) < (a.List.length : Int)) := by omega
    have hle : ((a.List.take i).filter (keepB kind x y)).length ≤ 2 ^ 32 := by
      have := List.length_filter_le (keepB kind x y) (a.List.take i)
      simp at this; omega
    simp only [st, hlt, decide_true, cond_true, Int.natCast_nonneg, Int.toNat_natCast, List.getElem?_eq_getElem hi, Option.bind_some, wrap_succ hi (by omega), room1 hle, filter_snoc hi]
    generalize (a.List.take i).filter (keepB kind x y) = l4
    have e : keepB kind x y a.List[i] = !(a.List[i].Kind == kind && (a.List[i].A == x && a.List[i].B == y)) := rfl
    rw [e]
    cases (a.List[i].Kind == kind) <;> cases (a.List[i].A == x) <;> cases (a.List[i].B == y) <;> simp
  · simp [st]
  · simp [st]

theorem ok_sub {a : Agenda} (h : Ok a) {l : List Itemx} (hl : l.Sublist a.List) : Ok ⟨l, a.Next⟩ :=
  ⟨h.lo, h.hi, Nat.le_trans hl.length_le h.len, fun x hx => h.all x (hl.subset hx), h.ord.sublist hl, h.num.sublist hl⟩

theorem ok_add {a : Agenda} (h : Ok a) {x : Itemx} (hf : fitsB x = true) (h5 : a.List.length < 5000) (h6 : a.Next < 1000000000) : Ok ⟨ins (num x a.Next) a.List, a.Next + 1⟩ := by
  have hlo := h.lo
  refine ⟨by show (0 : Int) ≤ a.Next + 1; omega, by show a.Next + 1 ≤ 1000000000; omega, by rw [ins_len]; omega, fun y hy => ?_, ins_ord h.ord fun y hy => (h.all y hy).2.2, ?_⟩
  · rcases ins_mem.1 hy with rfl | hy
    · exact ⟨hf, hlo, by show a.Next < a.Next + 1; omega⟩
    · obtain ⟨g1, g2, g3⟩ := h.all y hy
      exact ⟨g1, g2, by show y.Number < a.Next + 1; omega⟩
  · have hp : (num x a.Next :: a.List).Pairwise fun x y : Itemx => x.Number ≠ y.Number := by
      rw [List.pairwise_cons]
      refine ⟨fun y hy => ?_, h.num⟩
      have := (h.all y hy).2.2
      show a.Next ≠ y.Number
      omega
    exact (List.Perm.pairwise_iff (fun {x y} h => Ne.symm h) (ins_perm (num x a.Next) a.List)).2 hp

theorem addR_ok {a : Agenda} (h : Ok a) {x : Itemx} (hf : fitsB x = true) (h5 : a.List.length < 5000) (h6 : a.Next < 1000000000) : addR a x = (Agenda.mk (ins (num x a.Next) a.List) (a.Next + 1), 0) := by
  have hv := valid_iff.2 h
  have d5 : decide (5000 ≤ (a.List.length : Int)) = false := by simp; omega
  have d6 : decide (1000000000 ≤ a.Next) = false := by simp; omega
  unfold addR
  simp only [hv, hf, d5, d6, Bool.not_true, cond_false]
theorem takeR_ok {a : Agenda} (h : Ok a) {y : Itemx} {l : List Itemx} (e : a.List = y :: l) : takeR a = (Agenda.mk l a.Next, y, true) := by
  have hv := valid_iff.2 h
  unfold takeR
  simp only [e, hv, cond_true]
theorem takeR_nil {a : Agenda} (e : a.List = []) : takeR a = (a, noItem, false) := by
  unfold takeR
  simp only [e]
theorem dropR_ok {a : Agenda} (h : Ok a) (kind x y : Int) : dropR a kind x y = (Agenda.mk (a.List.filter (keepB kind x y)) a.Next, 0) := by
  have hv := valid_iff.2 h
  unfold dropR
  simp only [hv, cond_true]

theorem addR_len {a : Agenda} {x : Itemx} (h : a.List.length ≤ 6000) : (addR a x).1.List.length ≤ 2 ^ 32 := by
  unfold addR
  cases validB a <;> cases fitsB x <;> cases decide (5000 ≤ (a.List.length : Int)) <;> cases decide (1000000000 ≤ a.Next) <;> simp [ins_len] <;> omega
theorem takeR_len {a : Agenda} (h : a.List.length ≤ 6000) : (takeR a).1.List.length ≤ 2 ^ 32 := by
  unfold takeR
  rcases a with ⟨l, n⟩
  cases l with
  | nil => simp
  | cons y l => cases validB ⟨y :: l, n⟩ <;> simp at h ⊢ <;> omega
theorem dropR_len {a : Agenda} {k x y : Int} (h : a.List.length ≤ 6000) : (dropR a k x y).1.List.length ≤ 2 ^ 32 := by
  have := List.length_filter_le (keepB k x y) a.List
  unfold dropR
  cases validB a <;> simp <;> omega

theorem matches_law (a : Agenda) (x : Itemx) (k m n : Int) : Models.law25_AgendaMatchesReference a x k m n = some true := by
  unfold Models.law25_AgendaMatchesReference Models.law25_head
  by_cases h : 6000 < (a.List.length : Int)
  · simp [h]
  · have hl : a.List.length ≤ 6000 := by omega
    simp only [h, decide_false, Option.bind_some, cond_false, aadd_eq, radd_eq, atake_eq a hl, rtake_eq a hl, adrop_eq, rdrop_eq, cond_true, avalid_eq, rvalid_eq,
      same_self _ (addR_len (x := x) hl), same_self _ (takeR_len hl), same_self _ (dropR_len (k := k) (x := m) (y := n) hl), beq_self_eq_true, Bool.and_self]
end Go.Proofs.Ytighpjegljchpaa
end
