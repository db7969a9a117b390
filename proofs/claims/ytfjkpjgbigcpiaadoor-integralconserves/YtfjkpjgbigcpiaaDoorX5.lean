/- Part 5 of the proof: texts of this session laid one behind the other. -/
import Derived.KernelRfl
import Derived.IntWalk
import Derived.Test.YtfjkpjgbigcpiaaDoorX4
section
set_option linter.unusedVariables false
/- PS, part N: states with variables. -/
namespace Go.PI
variable {T : Tys} {ρ : Type}

def curAt {den : Nat → Type} (H : SHeap den) (n : Nat) : Option Nat :=
  match H[n]? with
  | some (some o) => some o.cur
  | _ => none

theorem curAt_some {den : Nat → Type} {H : SHeap den} {n : Nat} {o : SObj den} (h : H[n]? = some (some o)) : curAt H n = some o.cur := by simp [curAt, h]

theorem curAt_obj {den : Nat → Type} {H : SHeap den} {n c : Nat} (h : curAt H n = some c) : ∃ o, H[n]? = some (some o) ∧ o.cur = c := by
  unfold curAt at h
  split at h
  · rename_i o ho
    simp only [Option.some.injEq] at h
    exact ⟨o, ho, h⟩
  · simp at h

/-- Lengths kept from one heap to another. -/
def LenTo {den : Nat → Type} (ok : Nat → Prop) (Hs Hf : SHeap den) : Prop := ∀ (n : Nat) (o : SObj den), ok n → Hs[n]? = some (some o) → ∃ of : SObj den, Hf[n]? = some (some of) ∧ of.len = o.len

section
variable {Hs Hf Hc : SHeap T.den} {ok : Nat → Prop}

theorem concPat_ok [Glob] (hT : T.Ok) (hcur : ∀ n, curAt Hc n = curAt Hf n) (hlen : LenTo ok Hs Hf) {p : Pat} (hok : ∀ n, n ∈ p.owns → ok n) {v : SV T.den} {a : AV} (hv : RV T Hs v a) {ln : List (TV T.den)} (h : absPat Hs p v = some ln) (rest : List (TV T.den)) :
    ∃ v', concPat Hc p (ln ++ rest) = (v', rest) ∧ R T Hf v' a ∧ (closedS v = true → closedS v' = true) := by
  cases p with
  | val t =>
    simp only [absPat] at h
    split at h
    · simp at h
    rename_i hd
    split at h
    case h_2 => simp at h
    rename_i x hx
    simp only [Option.some.injEq] at h
    subst h
    have hrp := hT.dn _ _ _ _ Hs hx (hv.live hd)
    exact ⟨T.up t x, rfl, hT.up _ _ _ Hf hrp, fun _ => up_closed hT hrp⟩
  | own esz n =>
    simp only [absPat] at h
    split at h
    case h_2 => simp at h
    rename_i esz' n' c
    have hv := hv.live rfl
    split at h
    case h_2 => simp at h
    rename_i o ho
    split at h
    case isFalse => simp at h
    rename_i hc
    obtain ⟨rfl, rfl, rfl⟩ := hc
    simp only [Option.some.injEq] at h
    subst h
    obtain ⟨of, hof, hofl⟩ := hlen _ _ (hok _ (by simp [Pat.owns])) ho
    have hcc := hcur n'
    rw [curAt_some hof] at hcc
    obtain ⟨oc, hoc, hocc⟩ := curAt_obj hcc
    refine ⟨.osl esz' n' oc.cur none none, ?_, ?_, fun h => by simp [closedS] at h⟩
    · simp only [concPat, hoc, List.nil_append]
    · simp only [R] at hv ⊢
      obtain ⟨ver, ⟨o', h1, _, h3⟩, rfl⟩ := hv
      rw [ho] at h1
      simp only [Option.some.injEq] at h1
      subst h1
      exact ⟨ver, ⟨of, hof, by omega, fun _ => by rw [h3 rfl, hofl]⟩, rfl⟩

theorem concPats_ok [Glob] (hT : T.Ok) (hcur : ∀ n, curAt Hc n = curAt Hf n) (hlen : LenTo ok Hs Hf) : ∀ {ps : List Pat} {vs : List (SV T.den)} {as : List AV} {ln : List (TV T.den)}, (∀ n, n ∈ ps.flatMap Pat.owns → ok n) → RL T Hs vs as → absPats Hs ps vs = some ln → ∀ rest : List (TV T.den),
    ∃ vs', concPats Hc ps (ln ++ rest) = (vs', rest) ∧ RL T Hf vs' as ∧ (closedLS vs = true → closedLS vs' = true)
  | [], [], [], ln, _, _, h, rest => by
    simp only [absPats, Option.some.injEq] at h
    subst h
    exact ⟨[], rfl, by simp [RL], fun _ => rfl⟩
  | p :: ps, v :: vs, a :: as, ln, hok, hr, h, rest => by
    simp only [RL] at hr
    simp only [absPats, Option.bind_eq_some_iff, Option.map_eq_some_iff] at h
    obtain ⟨l1, h1, l2, h2, rfl⟩ := h
    obtain ⟨v', e1, e2, e3⟩ := concPat_ok hT hcur hlen (fun n hn => hok n (by simp [hn])) (.inr hr.1) h1 (l2 ++ rest)
    obtain ⟨vs', g1, g2, g3⟩ := concPats_ok hT hcur hlen (fun n hn => hok n (by simp only [List.flatMap_cons, List.mem_append]; exact .inr hn)) hr.2 h2 rest
    refine ⟨v' :: vs', ?_, by simp only [RL]; exact ⟨e2, g2⟩, fun hc => ?_⟩
    · simp only [concPats, List.append_assoc]
      rw [e1]
      simp only
      rw [g1]
    · simp only [closedLS, Bool.and_eq_true] at hc ⊢
      exact ⟨e3 hc.1, g3 hc.2⟩
  | [], _ :: _, _, _, _, _, h, _ => by simp [absPats] at h
  | _ :: _, [], _, _, _, _, h, _ => by simp [absPats] at h
  | _, [], _ :: _, _, _, h, _, _ => by simp [RL] at h
  | _, _ :: _, [], _, _, h, _, _ => by simp [RL] at h
end


/-- An object that is ready to take a pattern's variables. -/
def Compat {T : Tys} (o : SObj T.den) : OPat → Prop
  | .list t => ∃ g f c l, o = .tarr g f c t l
  | .fix t => ∃ g f c l, o = .tarr g f c t l
  | .one _ => ∃ g cl f c es, o = .arr g cl f c es
  | .agg _ => ∃ g cl f c es, o = .arr g cl f c es

section
variable {Hs Hf Hc : SHeap T.den} {ok : Nat → Prop}

theorem list_abs [Glob] (hT : T.Ok) {os : SObj T.den} {t : Nat} {ln : List (TV T.den)} (h : absObj Hs os (.list t) = some ln ∨ absObj Hs os (.fix t) = some ln) :
    ∃ l : List (T.den t), ln = [⟨.l t, l⟩] ∧ l.length = os.len ∧ os.flags.2.1 = true ∧ ∀ a, RO T Hs os a → ∃ es, a = .arr os.flags.1 true os.flags.2.2 es ∧ All2 (T.rp t) l es := by
  have h2 : absObj Hs os (.list t) = some ln := h.elim id id
  clear h
  have h := h2
  clear h2
  unfold absObj at h
  simp only at h
  split at h
  · rename_i g f c t' l
    split at h
    case isFalse => simp at h
    rename_i ht
    subst ht
    refine ⟨l, (Option.some.inj h).symm, rfl, rfl, fun a ha => ?_⟩
    obtain ⟨es, rfl, hes⟩ := ha
    exact ⟨es, rfl, hes⟩
  · rename_i g f c es
    cases hd : dnAll T t es with
    | none => rw [hd] at h; cases h
    | some l =>
      rw [hd] at h
      refine ⟨l, (Option.some.inj h).symm, ?_, rfl, fun a ha => ?_⟩
      · have : ∀ {l : List (T.den t)} {es : List (SV T.den)}, dnAll T t es = some l → l.length = es.length := by
          intro l es
          induction es generalizing l with
          | nil => intro h; simp [dnAll] at h; subst h; rfl
          | cons x xs ih =>
            intro h
            simp only [dnAll, Option.bind_eq_some_iff, Option.map_eq_some_iff] at h
            obtain ⟨_, _, y, hy, rfl⟩ := h
            simp [ih hy]
        exact this hd
      · obtain ⟨es', rfl, hes, _⟩ := ha
        exact ⟨es', rfl, dnAll_ok hT hes hd⟩
  · simp at h

/-- Its shape: the version stays, the length is the state's. -/
theorem concObj_shape [Glob] (hT : T.Ok) {o os : SObj T.den} {p : OPat} (hc : Compat o p) {ln : List (TV T.den)} (h : absObj Hs os p = some ln) (rest : List (TV T.den))
    (hp : ∀ q (v : SV T.den) l, absPat Hs q v = some l → ∀ rest, (concPat Hc q (l ++ rest)).2 = rest) :
    ∃ o', concObj Hc o p (ln ++ rest) = (o', rest) ∧ o'.cur = o.cur ∧ o'.len = os.len := by
  have hps : ∀ (ps : List Pat) (vs : List (SV T.den)) l, absPats Hs ps vs = some l → ∀ rest, (concPats Hc ps (l ++ rest)).2 = rest := by
    intro ps
    induction ps with
    | nil =>
      intro vs l hl rest
      cases vs with
      | nil => simp [absPats] at hl; subst hl; rfl
      | cons => simp [absPats] at hl
    | cons q ps ih =>
      intro vs l hl rest
      cases vs with
      | nil => simp [absPats] at hl
      | cons v vs =>
        simp only [absPats, Option.bind_eq_some_iff, Option.map_eq_some_iff] at hl
        obtain ⟨l1, h1, l2, h2, rfl⟩ := hl
        have e1 := hp q v l1 h1 (l2 ++ rest)
        have e2 := ih vs l2 h2 rest
        simp only [concPats, List.append_assoc]
        rw [e1]
        exact e2
  cases p with
  | list t =>
    obtain ⟨g, f, c, l0, rfl⟩ := hc
    obtain ⟨l, rfl, hl, _⟩ := list_abs hT (.inl h)
    exact ⟨.tarr g f c t l, rfl, rfl, hl⟩
  | fix t =>
    obtain ⟨g, f, c, l0, rfl⟩ := hc
    obtain ⟨l, rfl, hl, _⟩ := list_abs hT (.inr h)
    exact ⟨.tarr g f c t l, rfl, rfl, hl⟩
  | one q =>
    obtain ⟨g, cl, f, c, es, rfl⟩ := hc
    simp only [absObj] at h
    split at h
    case h_2 => simp at h
    rename_i v
    have e := hp q v ln h rest
    refine ⟨.arr g cl f c [(concPat Hc q (ln ++ rest)).1], ?_, rfl, rfl⟩
    have e2 : concPat Hc q (ln ++ rest) = ((concPat Hc q (ln ++ rest)).1, rest) := Prod.ext rfl e
    simp only [concObj]
    rw [e2]
  | agg ps =>
    obtain ⟨g, cl, f, c, es, rfl⟩ := hc
    simp only [absObj] at h
    split at h
    case h_2 => simp at h
    rename_i vs
    have e := hps ps vs ln h rest
    refine ⟨.arr g cl f c [.agg (concPats Hc ps (ln ++ rest)).1], ?_, rfl, rfl⟩
    have e2 : concPats Hc ps (ln ++ rest) = ((concPats Hc ps (ln ++ rest)).1, rest) := Prod.ext rfl e
    simp only [concObj]
    rw [e2]

theorem concObj_ok [Glob] (hT : T.Ok) (hcur : ∀ n, curAt Hc n = curAt Hf n) (hlen : LenTo ok Hs Hf) {o os o' : SObj T.den} {p : OPat} (hok : ∀ n, n ∈ p.owns → ok n) (hc : Compat o p) {ln : List (TV T.den)} (h : absObj Hs os p = some ln) {rest : List (TV T.den)}
    (ho : concObj Hc o p (ln ++ rest) = (o', rest)) (hf1 : o.flags.1 = os.flags.1) (hf2 : o.flags.2.1 = os.flags.2.1) (hf3 : o.flags.2.2 = os.flags.2.2) {a : AObj} (ha : RO T Hs os a) : RO T Hf o' a := by
  cases p with
  | list t =>
    obtain ⟨g, f, c, l0, rfl⟩ := hc
    obtain ⟨l, rfl, hl, _, hr⟩ := list_abs hT (.inl h)
    obtain ⟨es, rfl, hes⟩ := hr a ha
    simp only [concObj, List.cons_append, List.nil_append, Prod.mk.injEq] at ho
    obtain ⟨rfl, _⟩ := ho
    have hg : g = os.flags.1 := hf1
    have hf : f = os.flags.2.2 := hf3
    exact ⟨es, by rw [hg, hf], hes⟩
  | fix t =>
    obtain ⟨g, f, c, l0, rfl⟩ := hc
    obtain ⟨l, rfl, hl, _, hr⟩ := list_abs hT (.inr h)
    obtain ⟨es, rfl, hes⟩ := hr a ha
    simp only [concObj, List.cons_append, List.nil_append, Prod.mk.injEq] at ho
    obtain ⟨rfl, _⟩ := ho
    have hg : g = os.flags.1 := hf1
    have hf : f = os.flags.2.2 := hf3
    exact ⟨es, by rw [hg, hf], hes⟩
  | one q =>
    obtain ⟨g, cl, f, c, es, rfl⟩ := hc
    simp only [absObj] at h
    split at h
    case h_2 => simp at h
    rename_i g' cl' f' c' v
    simp only [SObj.flags] at hf1 hf2 hf3
    subst hf1; subst hf2; subst hf3
    obtain ⟨es', rfl, hes, hcl⟩ := ha
    match es', hes with
    | [b], hes =>
      simp only [RL] at hes
      obtain ⟨v', e1, e2, e3⟩ := concPat_ok hT hcur hlen hok (.inr hes.1) h rest
      simp only [concObj, e1, Prod.mk.injEq, and_true] at ho
      subst ho
      refine ⟨[b], rfl, by simp only [RL]; exact ⟨e2, trivial⟩, fun hcc => ?_⟩
      have := hcl hcc
      simp only [closedLS, Bool.and_true] at this ⊢
      exact e3 this
    | [], hes => simp [RL] at hes
    | _ :: _ :: _, hes => simp [RL] at hes
  | agg ps =>
    obtain ⟨g, cl, f, c, es, rfl⟩ := hc
    simp only [absObj] at h
    split at h
    case h_2 => simp at h
    rename_i g' cl' f' c' vs
    simp only [SObj.flags] at hf1 hf2 hf3
    subst hf1; subst hf2; subst hf3
    obtain ⟨es', rfl, hes, hcl⟩ := ha
    match es', hes with
    | [b], hes =>
      simp only [RL, R] at hes
      obtain ⟨⟨as, rfl, hes⟩, _⟩ := hes
      obtain ⟨vs', e1, e2, e3⟩ := concPats_ok hT hcur hlen hok hes h rest
      simp only [concObj, e1, Prod.mk.injEq, and_true] at ho
      subst ho
      refine ⟨[.agg as], rfl, by simp only [RL, R]; exact ⟨⟨as, rfl, e2⟩, trivial⟩, fun hcc => ?_⟩
      have := hcl hcc
      simp only [closedLS, closedS, Bool.and_true] at this ⊢
      exact e3 this
    | [], hes => simp [RL] at hes
    | _ :: _ :: _, hes => simp [RL] at hes

theorem concPat_snd {q : Pat} {v : SV T.den} {l : List (TV T.den)} (h : absPat Hs q v = some l) (rest : List (TV T.den)) : (concPat Hc q (l ++ rest)).2 = rest := by
  cases q with
  | val t =>
    simp only [absPat] at h
    split at h
    · simp at h
    split at h
    case h_2 => simp at h
    simp only [Option.some.injEq] at h
    subst h
    rfl
  | own esz n =>
    simp only [absPat] at h
    split at h
    case h_2 => simp at h
    split at h
    case h_2 => simp at h
    split at h
    case isFalse => simp at h
    simp only [Option.some.injEq] at h
    subst h
    rfl

theorem nodup_cons {x : Nat} {l : List Nat} (h : nodupB (x :: l) = true) : x ∉ l ∧ nodupB l = true := by
  simp only [nodupB, Bool.and_eq_true, Bool.not_eq_true', List.contains_eq_mem, decide_eq_false_iff_not] at h
  exact h

theorem curAt_set {H : SHeap T.den} {n : Nat} {o o' : SObj T.den} (ho : H[n]? = some (some o)) (hc : o'.cur = o.cur) (m : Nat) : curAt (H.set n (some o')) m = curAt H m := by
  unfold curAt
  by_cases e : m = n
  · subst e
    rw [List.getElem?_set_self (List.getElem?_eq_some_iff.1 ho).1, ho]
    simp [hc]
  · rw [List.getElem?_set_ne (Ne.symm e)]

/-- All objects of a hint, with their variables put in. -/
theorem concObjs_spec [Glob] (hT : T.Ok) : ∀ {objs : List (Nat × OPat)} {H : SHeap T.den} {l : List (TV T.den)} (rest : List (TV T.den)), nodupB (objs.map (·.1)) = true → absObjs Hs objs = some l →
    (∀ q, q ∈ objs → ∃ o, H[q.1]? = some (some o) ∧ Compat o q.2) →
    (concObjs H objs (l ++ rest)).length = H.length ∧ (∀ n : Nat, n ∉ objs.map (·.1) → (concObjs H objs (l ++ rest))[n]? = H[n]?) ∧ (∀ n, curAt (concObjs H objs (l ++ rest)) n = curAt H n) ∧
    (∀ q, q ∈ objs → ∃ o os o' ln Hc rest', H[q.1]? = some (some o) ∧ Hs[q.1]? = some (some os) ∧ absObj Hs os q.2 = some ln ∧ (∀ n, curAt Hc n = curAt H n) ∧ concObj Hc o q.2 (ln ++ rest') = (o', rest') ∧
      (concObjs H objs (l ++ rest))[q.1]? = some (some o') ∧ o'.cur = o.cur ∧ o'.len = os.len)
  | [], H, l, rest, _, _, _ => ⟨rfl, fun _ _ => rfl, fun _ => rfl, fun q hq => by simp at hq⟩
  | (n, p) :: objs, H, l, rest, hnd, habs, hcm => by
    simp only [List.map_cons] at hnd
    obtain ⟨hni, hnd⟩ := nodup_cons hnd
    simp only [absObjs] at habs
    split at habs
    case h_2 => simp at habs
    rename_i os hos
    rw [Option.bind_eq_some_iff] at habs
    obtain ⟨ln, h1, habs⟩ := habs
    rw [Option.map_eq_some_iff] at habs
    obtain ⟨l2, h2, rfl⟩ := habs
    obtain ⟨o, ho, hco⟩ := hcm (n, p) (by simp)
    simp only at ho hco
    obtain ⟨o', e1, e2, e3⟩ := concObj_shape (Hc := H) hT hco h1 (l2 ++ rest) fun q v l hl rest => concPat_snd hl rest
    have estep : concObjs H ((n, p) :: objs) (ln ++ l2 ++ rest) = concObjs (H.set n (some o')) objs (l2 ++ rest) := by
      simp only [concObjs, ho, List.append_assoc]
      rw [e1]
    rw [estep]
    have hlt := (List.getElem?_eq_some_iff.1 ho).1
    have hcm' : ∀ q, q ∈ objs → ∃ o, (H.set n (some o'))[q.1]? = some (some o) ∧ Compat o q.2 := by
      intro q hq
      obtain ⟨o2, h3, h4⟩ := hcm q (List.mem_cons_of_mem _ hq)
      have hne : q.1 ≠ n := fun e => hni (by rw [← e]; exact List.mem_map_of_mem hq)
      exact ⟨o2, by rw [List.getElem?_set_ne (Ne.symm hne)]; exact h3, h4⟩
    obtain ⟨i1, i2, i3, i4⟩ := concObjs_spec hT rest hnd h2 hcm'
    have hcs := curAt_set ho e2
    refine ⟨by rw [i1]; simp, fun m hm => ?_, fun m => by rw [i3, hcs], fun q hq => ?_⟩
    · simp only [List.map_cons, List.mem_cons, not_or] at hm
      rw [i2 m hm.2, List.getElem?_set_ne (Ne.symm hm.1)]
    · rcases List.mem_cons.1 hq with rfl | hq
      · exact ⟨o, os, o', ln, H, _, ho, hos, h1, fun _ => rfl, e1, by rw [i2 n hni]; exact List.getElem?_set_self hlt, e2, e3⟩
      · obtain ⟨o2, os2, o2', ln2, Hc, rest', a1, a2, a3, a4, a5, a6, a7, a8⟩ := i4 q hq
        have hne : q.1 ≠ n := fun e => hni (by rw [← e]; exact List.mem_map_of_mem hq)
        rw [List.getElem?_set_ne (Ne.symm hne)] at a1
        exact ⟨o2, os2, o2', ln2, Hc, rest', a1, a2, a3, fun m => by rw [a4, hcs], a5, a6, a7, a8⟩

theorem bumpH_spec [Glob] : ∀ {objs : List (Nat × OPat)} {H : SHeap T.den}, nodupB (objs.map (·.1)) = true →
    (bumpH H objs).length = H.length ∧ (∀ n : Nat, n ∉ objs.map (·.1) → (bumpH H objs)[n]? = H[n]?) ∧ (∀ q, q ∈ objs → ∀ o, H[q.1]? = some (some o) → (bumpH H objs)[q.1]? = some (some (bumpO o q.2)))
  | [], H, _ => ⟨rfl, fun _ _ => rfl, fun q hq => by simp at hq⟩
  | (n, p) :: objs, H, hnd => by
    simp only [List.map_cons] at hnd
    obtain ⟨hni, hnd⟩ := nodup_cons hnd
    simp only [bumpH]
    split
    · rename_i o ho
      have hlt := (List.getElem?_eq_some_iff.1 ho).1
      obtain ⟨i1, i2, i3⟩ := bumpH_spec (objs := objs) (H := H.set n (some (bumpO o p))) hnd
      refine ⟨by rw [i1]; simp, fun m hm => ?_, fun q hq o2 ho2 => ?_⟩
      · simp only [List.map_cons, List.mem_cons, not_or] at hm
        rw [i2 m hm.2, List.getElem?_set_ne (Ne.symm hm.1)]
      · rcases List.mem_cons.1 hq with rfl | hq
        · rw [ho] at ho2
          simp only [Option.some.injEq] at ho2
          subst ho2
          rw [i2 n hni]
          exact List.getElem?_set_self hlt
        · have hne : q.1 ≠ n := fun e => hni (by rw [← e]; exact List.mem_map_of_mem hq)
          exact i3 q hq o2 (by rw [List.getElem?_set_ne (Ne.symm hne)]; exact ho2)
    · rename_i hno
      obtain ⟨i1, i2, i3⟩ := bumpH_spec (objs := objs) (H := H) hnd
      refine ⟨i1, fun m hm => ?_, fun q hq o2 ho2 => ?_⟩
      · simp only [List.map_cons, List.mem_cons, not_or] at hm
        exact i2 m hm.2
      · rcases List.mem_cons.1 hq with rfl | hq
        · exact absurd ho2 (hno o2)
        · exact i3 q hq o2 ho2

theorem concSlots_spec [Glob] (hT : T.Ok) (hcur : ∀ n, curAt Hc n = curAt Hf n) (hlen : LenTo ok Hs Hf) {N : Nat} {frs : SFr T.den} {ast : Nat → AV} (hfr : ∀ t, RV T Hs (getF frs t) (ast t)) :
    ∀ {slots : List (Nat × Pat)} {fr : SFr T.den} {l : List (TV T.den)} (rest : List (TV T.den)), nodupB (slots.map (·.1)) = true → (∀ q, q ∈ slots → q.1 < N ∧ ∀ n, n ∈ q.2.owns → ok n) → absSlots Hs frs slots = some l →
      ∃ fr', concSlots N Hc fr slots (l ++ rest) = (fr', rest) ∧ (∀ t, t ∉ slots.map (·.1) → getF fr' t = getF fr t) ∧ (∀ q, q ∈ slots → R T Hf (getF fr' q.1) (ast q.1))
  | [], fr, l, rest, _, _, h => by
    simp only [absSlots, Option.some.injEq] at h
    subst h
    exact ⟨fr, rfl, fun _ _ => rfl, fun q hq => by simp at hq⟩
  | (d, p) :: slots, fr, l, rest, hnd, hN, h => by
    simp only [List.map_cons] at hnd
    obtain ⟨hni, hnd⟩ := nodup_cons hnd
    simp only [absSlots, Option.bind_eq_some_iff, Option.map_eq_some_iff] at h
    obtain ⟨l1, h1, l2, h2, rfl⟩ := h
    obtain ⟨v', e1, e2, _⟩ := concPat_ok hT hcur hlen (hN (d, p) (by simp)).2 (hfr d) h1 (l2 ++ rest)
    obtain ⟨fr', i1, i2, i3⟩ := concSlots_spec hT hcur hlen hfr (fr := setF N fr d v') rest hnd (fun q hq => hN q (List.mem_cons_of_mem _ hq)) h2
    refine ⟨fr', ?_, fun t ht => ?_, fun q hq => ?_⟩
    · simp only [concSlots, List.append_assoc]
      rw [e1]
      exact i1
    · simp only [List.map_cons, List.mem_cons, not_or] at ht
      rw [i2 t ht.2, getF_set, if_neg (by omega)]
    · rcases List.mem_cons.1 hq with rfl | hq
      · rw [i2 d hni, getF_set, if_pos ⟨rfl, (hN (d, p) (by simp)).1⟩]
        exact e2
      · exact i3 q hq

theorem killS_get [Glob] {N : Nat} : ∀ {dead : List Nat} {fr : SFr T.den} {t : Nat}, getF (killS N fr dead) t = (if t ∈ dead ∧ t < N then .dead else getF fr t)
  | [], fr, t => by simp [killS]
  | d :: r, fr, t => by
    simp only [killS]
    rw [killS_get, getF_set]
    by_cases h1 : t ∈ r ∧ t < N
    · rw [if_pos h1, if_pos ⟨List.mem_cons_of_mem _ h1.1, h1.2⟩]
    · rw [if_neg h1]
      by_cases h2 : t = d ∧ d < N
      · obtain ⟨rfl, h2⟩ := h2
        rw [if_pos ⟨rfl, h2⟩, if_pos ⟨by simp, h2⟩]
      · rw [if_neg h2, if_neg]
        rintro ⟨h3, h4⟩
        rcases List.mem_cons.1 h3 with rfl | h3
        · exact h2 ⟨rfl, h4⟩
        · exact h1 ⟨h3, h4⟩
end

end Go.PI
end

section
set_option linter.unusedVariables false
/- PS, part O: a state goes over into one with variables. -/
namespace Go.PI
variable {T : Tys} {ρ : Type}

section
variable {H0 Hs Hf : SHeap T.den}
mutual
/-- A value that was there before and is unchanged. -/
theorem R.transfer (ht : ∀ n c v0 ver, verOk H0 n c v0 → verOk Hs n c ver → verOk Hf n c ver) : ∀ {v : SV T.den} {a0 a : AV}, R T H0 v a0 → R T Hs v a → R T Hf v a
  | .dead, _, _, h, _ => by simp [R] at h
  | .lit v, a0, a, _, h => by simpa [R] using h
  | .agg l, a0, a, h0, h => by
    simp only [R] at h0 h ⊢
    obtain ⟨l0, _, h2⟩ := h0
    obtain ⟨l', h1, h3⟩ := h
    exact ⟨l', h1, RL.transfer ht h2 h3⟩
  | .tup l, a0, a, h0, h => by
    simp only [R] at h0 h ⊢
    obtain ⟨l0, _, h2⟩ := h0
    obtain ⟨l', h1, h3⟩ := h
    exact ⟨l', h1, RL.transfer ht h2 h3⟩
  | .sl l, a0, a, h0, h => by
    simp only [R] at h0 h ⊢
    obtain ⟨l0, _, h2, _⟩ := h0
    obtain ⟨l', h1, h3, h4⟩ := h
    exact ⟨l', h1, RL.transfer ht h2 h3, h4⟩
  | .tsl t l, a0, a, _, h => by simpa [R] using h
  | .eref e j, a0, a, h0, h => by
    simp only [R] at h0 h ⊢
    obtain ⟨l0, _, h2, _⟩ := h0
    obtain ⟨l', h1, h3, h4⟩ := h
    exact ⟨l', h1, R.transfer ht h2 h3, h4⟩
  | .ref m c i j, a0, a, h0, h => by
    simp only [R] at h0 h ⊢
    obtain ⟨v0, _, h2⟩ := h0
    obtain ⟨ver, h1, h3⟩ := h
    exact ⟨ver, h1, ht _ _ _ _ h2 h3⟩
  | .asl m c i j ln cp, a0, a, h0, h => by
    simp only [R] at h0 h ⊢
    obtain ⟨v0, _, h2⟩ := h0
    obtain ⟨ver, h1, h3⟩ := h
    exact ⟨ver, h1, ht _ _ _ _ h2 h3⟩
  | .osl esz m c rg cap, a0, a, h0, h => by
    simp only [R] at h0 h ⊢
    obtain ⟨v0, h2, _⟩ := h0
    obtain ⟨ver, h3, h1⟩ := h
    exact ⟨ver, ht _ _ _ _ h2 h3, h1⟩
  | .clo fn f c, a0, a, h0, h => by
    simp only [R] at h0 h ⊢
    obtain ⟨_, _, _, g1, g2⟩ := h0
    obtain ⟨f', c', h1, h2, h3⟩ := h
    exact ⟨f', c', h1, RL.transfer ht g1 h2, RL.transfer ht g2 h3⟩
  | .ifc t v, a0, a, h0, h => by
    simp only [R] at h0 h ⊢
    obtain ⟨l0, _, h2⟩ := h0
    obtain ⟨l', h1, h3⟩ := h
    exact ⟨l', h1, R.transfer ht h2 h3⟩
theorem RL.transfer (ht : ∀ n c v0 ver, verOk H0 n c v0 → verOk Hs n c ver → verOk Hf n c ver) : ∀ {l : List (SV T.den)} {m0 m : List AV}, RL T H0 l m0 → RL T Hs l m → RL T Hf l m
  | [], [], [], _, _ => by simp [RL]
  | x :: xs, y0 :: ys0, y :: ys, h0, h => by
    simp only [RL] at h0 h ⊢
    exact ⟨R.transfer ht h0.1 h.1, RL.transfer ht h0.2 h.2⟩
  | [], _ :: _, _, h, _ => by simp [RL] at h
  | [], [], _ :: _, _, h => by simp [RL] at h
  | _ :: _, [], _, h, _ => by simp [RL] at h
  | _ :: _, _ :: _, [], _, h => by simp [RL] at h
end
end

theorem absObjs_obj {Hs : SHeap T.den} : ∀ {objs : List (Nat × OPat)} {l : List (TV T.den)}, absObjs Hs objs = some l → ∀ q, q ∈ objs → ∃ o ln, Hs[q.1]? = some (some o) ∧ absObj Hs o q.2 = some ln
  | [], _, _, q, hq => by simp at hq
  | (n, p) :: r, l, h, q, hq => by
    simp only [absObjs] at h
    split at h
    case h_2 => simp at h
    rename_i o ho
    rw [Option.bind_eq_some_iff] at h
    obtain ⟨ln, h1, h⟩ := h
    rw [Option.map_eq_some_iff] at h
    obtain ⟨l2, h2, rfl⟩ := h
    rcases List.mem_cons.1 hq with rfl | hq
    · exact ⟨o, ln, ho, h1⟩
    · exact absObjs_obj h2 q hq

/-- The version with which a round begins. -/
def curP (p : OPat) (c : Nat) : Nat :=
  match p with
  | .list _ => c + 1
  | _ => c

theorem curP_le (p : OPat) (c : Nat) : c ≤ curP p c := by cases p <;> simp [curP]

theorem curP_ne {p : OPat} (h : ∀ t, p ≠ .list t) (c : Nat) : curP p c = c := by
  cases p with
  | list t => exact absurd rfl (h t)
  | _ => rfl

theorem compat_bump {Hs : SHeap T.den} {o : SObj T.den} {p : OPat} {ln : List (TV T.den)} (h : absObj Hs o p = some ln) : Compat (bumpO o p) p ∧ (bumpO o p).flags.1 = o.flags.1 ∧ (bumpO o p).flags.2.1 = o.flags.2.1 ∧ (bumpO o p).flags.2.2 = o.flags.2.2 ∧
    (bumpO o p).cur = curP p o.cur := by
  cases p with
  | list t =>
    cases o with
    | arr g cl f c es =>
      cases cl with
      | true => exact ⟨⟨g, f, c + 1, [], rfl⟩, rfl, rfl, rfl, rfl⟩
      | false => cases h
    | tarr g f c t' l => exact ⟨⟨g, f, c + 1, [], rfl⟩, rfl, rfl, rfl, rfl⟩
    | junk => cases h
  | fix t =>
    cases o with
    | arr g cl f c es =>
      cases cl with
      | true => exact ⟨⟨g, f, c, [], rfl⟩, rfl, rfl, rfl, rfl⟩
      | false => cases h
    | tarr g f c t' l => exact ⟨⟨g, f, c, [], rfl⟩, rfl, rfl, rfl, rfl⟩
    | junk => cases h
  | one q =>
    cases o with
    | arr g cl f c es => exact ⟨⟨g, cl, f, c, es, rfl⟩, rfl, rfl, rfl, rfl⟩
    | tarr g f c t' l => cases h
    | junk => cases h
  | agg ps =>
    cases o with
    | arr g cl f c es => exact ⟨⟨g, cl, f, c, es, rfl⟩, rfl, rfl, rfl, rfl⟩
    | tarr g f c t' l => cases h
    | junk => cases h

theorem extObjs_mem : ∀ {ext : List SExt} {n : Nat} {q : Nat × OPat}, q ∈ extObjs n ext → ∃ i g f t, q = (n + i, .list t) ∧ ext[i]? = some (.list g f t)
  | [], _, q, h => by simp [extObjs] at h
  | .junk :: r, n, q, h => by
    simp only [extObjs] at h
    obtain ⟨i, g, f, t, rfl, h2⟩ := extObjs_mem h
    exact ⟨i + 1, g, f, t, by rw [show n + 1 + i = n + (i + 1) by omega], by simpa using h2⟩
  | .list g f t :: r, n, q, h => by
    simp only [extObjs] at h
    rcases List.mem_cons.1 h with rfl | h
    · exact ⟨0, g, f, t, rfl, rfl⟩
    · obtain ⟨i, g', f', t', rfl, h2⟩ := extObjs_mem h
      exact ⟨i + 1, g', f', t', by rw [show n + 1 + i = n + (i + 1) by omega], by simpa using h2⟩

theorem extObjs_nodup [Glob] : ∀ {ext : List SExt} {n : Nat}, nodupB ((extObjs n ext).map (·.1)) = true
  | [], _ => rfl
  | .junk :: r, n => by simp only [extObjs]; exact extObjs_nodup
  | .list g f t :: r, n => by
    simp only [extObjs, List.map_cons, nodupB, Bool.and_eq_true, Bool.not_eq_true', List.contains_eq_mem, decide_eq_false_iff_not]
    refine ⟨fun h => ?_, extObjs_nodup⟩
    obtain ⟨q, hq, e⟩ := List.mem_map.1 h
    obtain ⟨i, _, _, _, rfl, _⟩ := extObjs_mem hq
    simp only at e
    omega

theorem nodup_app [Glob] : ∀ {l m : List Nat}, nodupB l = true → nodupB m = true → (∀ x, x ∈ l → x ∉ m) → nodupB (l ++ m) = true
  | [], m, _, h, _ => h
  | x :: l, m, h, h', hd => by
    obtain ⟨h1, h2⟩ := nodup_cons h
    simp only [List.cons_append, nodupB, Bool.and_eq_true, Bool.not_eq_true', List.contains_eq_mem, decide_eq_false_iff_not, List.mem_append, not_or]
    exact ⟨⟨h1, hd x (by simp)⟩, nodup_app h2 h' fun y hy => hd y (List.mem_cons_of_mem _ hy)⟩

theorem extOk_at {H : SHeap T.den} : ∀ {ext : List SExt} {n i : Nat} {e : SExt}, extOk H n ext = true → ext[i]? = some e → ∃ o, H[n + i]? = some (some o) ∧ (match e with | .junk => o.flags.2.1 = true | .list g f _ => o.flags = (g, true, f))
  | [], _, i, e, _, h => by simp at h
  | x :: r, n, i, e, hx, h => by
    simp only [extOk, Bool.and_eq_true] at hx
    cases i with
    | zero =>
      simp only [List.getElem?_cons_zero, Option.some.injEq] at h
      subst h
      have h1 := hx.1
      split at h1
      · rename_i o ho; exact ⟨o, ho, h1⟩
      · rename_i o g f t ho; exact ⟨o, ho, by simpa using h1⟩
      · simp at h1
    | succ i =>
      simp only [List.getElem?_cons_succ] at h
      obtain ⟨o, h1, h2⟩ := extOk_at hx.2 h
      exact ⟨o, by rw [show n + (i + 1) = n + 1 + i by omega]; exact h1, h2⟩

theorem junk_or_list [Glob] : ∀ {ext : List SExt} {n i : Nat}, i < ext.length → (ext[i]? = some .junk ∧ n + i ∉ (extObjs n ext).map (·.1)) ∨ ∃ g f t, ext[i]? = some (.list g f t) ∧ (n + i, OPat.list t) ∈ extObjs n ext
  | [], _, i, h => by simp at h
  | .junk :: r, n, i, h => by
    cases i with
    | zero =>
      left
      refine ⟨rfl, fun hc => ?_⟩
      obtain ⟨q, hq, e⟩ := List.mem_map.1 hc
      simp only [extObjs] at hq
      obtain ⟨j, _, _, _, rfl, _⟩ := extObjs_mem hq
      simp only at e; omega
    | succ i =>
      rcases junk_or_list (n := n + 1) (i := i) (by simpa using h) with ⟨h1, h2⟩ | ⟨g, f, t, h1, h2⟩
      · left
        exact ⟨by simpa using h1, by simp only [extObjs]; rw [show n + (i + 1) = n + 1 + i by omega]; exact h2⟩
      · right
        exact ⟨g, f, t, by simpa using h1, by simp only [extObjs]; rw [show n + (i + 1) = n + 1 + i by omega]; exact h2⟩
  | .list g f t :: r, n, i, h => by
    cases i with
    | zero => right; exact ⟨g, f, t, rfl, by simp [extObjs]⟩
    | succ i =>
      rcases junk_or_list (n := n + 1) (i := i) (by simpa using h) with ⟨h1, h2⟩ | ⟨g', f', t', h1, h2⟩
      · left
        refine ⟨by simpa using h1, ?_⟩
        simp only [extObjs, List.map_cons, List.mem_cons, not_or]
        exact ⟨by omega, by rw [show n + (i + 1) = n + 1 + i by omega]; exact h2⟩
      · right
        exact ⟨g', f', t', by simpa using h1, by simp only [extObjs, List.mem_cons]; right; rw [show n + (i + 1) = n + 1 + i by omega]; exact h2⟩

theorem flags_arr {o : SObj T.den} {H : SHeap T.den} {a : AObj} (h : RO T H o a) (hc : o.flags.2.1 = true) : ∃ g f es, a = .arr g true f es := by
  cases o with
  | arr g cl f c es =>
    obtain ⟨es', rfl, _⟩ := h
    simp only [SObj.flags] at hc
    subst hc
    exact ⟨_, _, _, rfl⟩
  | tarr g f c t l => obtain ⟨es', rfl, _⟩ := h; exact ⟨_, _, _, rfl⟩
  | junk => exact h

/-- What must hold for a state to be taken over into variables. -/
structure Over (T : Tys) (slots : List (Nat × Pat)) (dead : List Nat) (objs : List (Nat × OPat)) (ext : List SExt) (s0 s : SSt T.den) (l : List (TV T.den)) : Prop where
  nd1 : nodupB (slots.map (·.1)) = true
  nd2 : nodupB (objs.map (·.1)) = true
  slotsN : ∀ d, d ∈ slots.map (·.1) ++ dead → d < s0.n
  owns : ownsOk s0.hp.length slots (objs ++ extObjs s0.hp.length ext) = true
  fn : s.fn = s0.fn
  n : s.n = s0.n
  fr : ∀ t, t ∉ slots.map (·.1) ++ dead → getF s.fr t = getF s0.fr t
  hp : ∀ n : Nat, n < s0.hp.length → n ∉ objs.map (·.1) → s.hp[n]? = s0.hp[n]?
  len : s.hp.length = s0.hp.length + ext.length
  flags : sameFlags s0.hp s.hp objs = true
  cur : sameCur s0.hp s.hp objs = true
  extk : extOk s.hp s0.hp.length ext = true
  abs0 : ∃ l0, absObjs s0.hp objs = some l0
  abs : absS slots (objs ++ extObjs s0.hp.length ext) s = some l

theorem sameFlags_at {H H' : SHeap T.den} {objs : List (Nat × OPat)} (h : sameFlags H H' objs = true) {q : Nat × OPat} (hq : q ∈ objs) {o o' : SObj T.den} (h1 : H[q.1]? = some (some o)) (h2 : H'[q.1]? = some (some o')) : o.flags = o'.flags := by
  have := List.all_eq_true.1 h q hq
  simp only [h1, h2, decide_eq_true_eq] at this
  exact this

theorem sameCur_at {H H' : SHeap T.den} {objs : List (Nat × OPat)} (h : sameCur H H' objs = true) {q : Nat × OPat} (hq : q ∈ objs) (hl : ∀ t, q.2 ≠ .list t) {o o' : SObj T.den} (h1 : H[q.1]? = some (some o)) (h2 : H'[q.1]? = some (some o')) : o.cur = o'.cur := by
  have := List.all_eq_true.1 h q hq
  split at this
  · rename_i t e; exact absurd e (hl t)
  · simp only [h1, h2] at this
    exact Nat.eq_of_beq_eq_true this

theorem over_ok [Glob] (hT : T.Ok) {slots : List (Nat × Pat)} {dead : List Nat} {objs : List (Nat × OPat)} {ext : List SExt} {s0 s : SSt T.den} {l : List (TV T.den)} (ho : Over T slots dead objs ext s0 s l) {st0 st : St} (h0 : RS T s0 st0) (h : RS T s st) :
    RS T (concS slots dead objs ext s0 l) st ∧ (concS slots dead objs ext s0 l).hp.length = s.hp.length ∧
    (∀ n : Nat, n < s0.hp.length → n ∉ objs.map (·.1) → (concS slots dead objs ext s0 l).hp[n]? = s0.hp[n]?) ∧
    (∀ t, t ∉ slots.map (·.1) ++ dead → getF (concS slots dead objs ext s0 l).fr t = getF s0.fr t) ∧
    (concS slots dead objs ext s0 l).fn = s0.fn ∧ (concS slots dead objs ext s0 l).n = s0.n ∧
    (∀ q, q ∈ objs → ∃ o0 os of, s0.hp[q.1]? = some (some o0) ∧ s.hp[q.1]? = some (some os) ∧ (concS slots dead objs ext s0 l).hp[q.1]? = some (some of) ∧ of.len = os.len ∧ of.cur = curP q.2 o0.cur) := by
  obtain ⟨l0, habs0⟩ := ho.abs0
  have hobj0 := absObjs_obj habs0
  -- the names
  have hlt : ∀ n, n ∈ objs.map (·.1) → n < s0.hp.length := by
    intro n hn
    obtain ⟨q, hq, rfl⟩ := List.mem_map.1 hn
    obtain ⟨o, _, h1, _⟩ := hobj0 q hq
    exact (List.getElem?_eq_some_iff.1 h1).1
  have hge : ∀ n, n ∈ (extObjs s0.hp.length ext).map (·.1) → s0.hp.length ≤ n := by
    intro n hn
    obtain ⟨q, hq, rfl⟩ := List.mem_map.1 hn
    obtain ⟨i, _, _, _, rfl, _⟩ := extObjs_mem hq
    simp
  have hnd : nodupB ((objs ++ extObjs s0.hp.length ext).map (·.1)) = true := by
    rw [List.map_append]
    exact nodup_app ho.nd2 extObjs_nodup fun x hx hc => by have := hlt x hx; have := hge x hc; omega
  obtain ⟨b1, b2, b3⟩ := bumpH_spec (objs := objs) (H := s0.hp) ho.nd2
  generalize hH1 : bumpH s0.hp objs ++ ext.map extO = H1
  have hH1len : H1.length = s.hp.length := by rw [← hH1, ho.len]; simp [b1]
  have hH1lt : ∀ n : Nat, n < s0.hp.length → H1[n]? = (bumpH s0.hp objs)[n]? := fun n hn => by
    rw [← hH1, List.getElem?_append_left (by rw [b1]; exact hn)]
  have hH1ge : ∀ i : Nat, H1[s0.hp.length + i]? = (ext.map extO)[i]? := fun i => by
    rw [← hH1, List.getElem?_append_right (by rw [b1]; omega), b1]; congr 1; omega
  have habs := ho.abs
  unfold absS at habs
  rw [Option.bind_eq_some_iff] at habs
  obtain ⟨la, hla, habs⟩ := habs
  rw [Option.map_eq_some_iff] at habs
  obtain ⟨lb, hlb, rfl⟩ := habs
  -- the objects
  have hcm : ∀ q, q ∈ objs ++ extObjs s0.hp.length ext → ∃ o, H1[q.1]? = some (some o) ∧ Compat o q.2 := by
    intro q hq
    rcases List.mem_append.1 hq with hq | hq
    · obtain ⟨o, ln, h1, h2⟩ := hobj0 q hq
      exact ⟨bumpO o q.2, by rw [hH1lt _ (hlt _ (List.mem_map_of_mem hq))]; exact b3 q hq o h1, (compat_bump h2).1⟩
    · obtain ⟨i, g, f, t, rfl, h2⟩ := extObjs_mem hq
      refine ⟨.tarr g f 0 t [], ?_, ⟨g, f, 0, [], rfl⟩⟩
      simp only
      rw [hH1ge, List.getElem?_map, h2]
      rfl
  obtain ⟨c1, c2, c3, c4⟩ := concObjs_spec hT (Hs := s.hp) (H := H1) [] hnd hlb hcm
  simp only [List.append_nil] at c1 c2 c3 c4
  generalize hHf : concObjs H1 (objs ++ extObjs s0.hp.length ext) lb = Hf at c1 c2 c3 c4
  -- lengths are kept where they are asked for
  have hlen : LenTo (fun n => n < s0.hp.length ∨ n ∈ (objs ++ extObjs s0.hp.length ext).map (·.1)) s.hp Hf := by
    intro n o hn hso
    by_cases hm : n ∈ (objs ++ extObjs s0.hp.length ext).map (·.1)
    · obtain ⟨q, hq, rfl⟩ := List.mem_map.1 hm
      obtain ⟨o1, os, o', ln, Hc, rest', _, d2, _, _, _, d6, _, d8⟩ := c4 q hq
      rw [hso] at d2
      simp only [Option.some.injEq] at d2
      subst d2
      exact ⟨o', d6, d8⟩
    · have hn : n < s0.hp.length := hn.resolve_right hm
      have hm' : n ∉ objs.map (·.1) := fun hc => hm (by rw [List.map_append]; exact List.mem_append_left _ hc)
      refine ⟨o, ?_, rfl⟩
      rw [c2 n hm, hH1lt n hn, b2 n hm', ← ho.hp n hn hm']
      exact hso
  have howns := List.all_eq_true.1 ho.owns
  have hokO : ∀ q, q ∈ objs ++ extObjs s0.hp.length ext → ∀ n, n ∈ q.2.owns → (n < s0.hp.length ∨ n ∈ (objs ++ extObjs s0.hp.length ext).map (·.1)) := by
    intro q hq n hn
    have := howns n (List.mem_append_right _ (List.mem_flatMap.2 ⟨q, hq, hn⟩))
    simp only [Bool.or_eq_true, List.contains_eq_mem, decide_eq_true_eq] at this
    refine this.imp (fun h => ?_) id
    have := Nat.le_of_ble_eq_true h
    omega
  have hokS : ∀ q, q ∈ slots → ∀ n, n ∈ q.2.owns → (n < s0.hp.length ∨ n ∈ (objs ++ extObjs s0.hp.length ext).map (·.1)) := by
    intro q hq n hn
    have := howns n (List.mem_append_left _ (List.mem_flatMap.2 ⟨q, hq, hn⟩))
    simp only [Bool.or_eq_true, List.contains_eq_mem, decide_eq_true_eq] at this
    refine this.imp (fun h => ?_) id
    have := Nat.le_of_ble_eq_true h
    omega
  -- the object under a name of the hint
  have hper : ∀ q, q ∈ objs → ∃ o0 os of, s0.hp[q.1]? = some (some o0) ∧ s.hp[q.1]? = some (some os) ∧ Hf[q.1]? = some (some of) ∧ of.len = os.len ∧ of.cur = curP q.2 o0.cur ∧
      (∀ a, RO T s.hp os a → RO T Hf of a) := by
    intro q hq
    obtain ⟨o0, ln0, h1, h2⟩ := hobj0 q hq
    obtain ⟨o1, os, o', ln, Hc, rest', d1, d2, d3, d4, d5, d6, d7, d8⟩ := c4 q (List.mem_append_left _ hq)
    have hb := b3 q hq o0 h1
    rw [hH1lt _ (hlt _ (List.mem_map_of_mem hq)), hb] at d1
    simp only [Option.some.injEq] at d1
    subst d1
    obtain ⟨e1, e2, e3, e4, e5⟩ := compat_bump h2
    have hfl := sameFlags_at ho.flags hq h1 d2
    refine ⟨o0, os, o', h1, d2, d6, d8, by rw [d7, e5], fun a ha => ?_⟩
    exact concObj_ok hT (fun n => by rw [d4, c3]) hlen (hokO q (List.mem_append_left _ hq)) e1 d3 d5 (by rw [e2, hfl]) (by rw [e3, hfl]) (by rw [e4, hfl]) ha
  -- values that did not change
  have htr : ∀ n c v0 ver, verOk s0.hp n c v0 → verOk s.hp n c ver → verOk Hf n c ver := by
    intro n c v0 ver hv0 hv
    have hn := hv0.lt
    by_cases hm : n ∈ objs.map (·.1)
    · obtain ⟨q, hq, rfl⟩ := List.mem_map.1 hm
      obtain ⟨o0, os, of, g1, g2, g3, g4, g5, _⟩ := hper q hq
      obtain ⟨o0', k1, k2, _⟩ := hv0
      rw [g1] at k1
      simp only [Option.some.injEq] at k1
      subst k1
      obtain ⟨os', k3, k4, k5⟩ := hv
      rw [g2] at k3
      simp only [Option.some.injEq] at k3
      subst k3
      refine ⟨of, g3, ?_, fun e => ?_⟩
      · have := curP_le q.2 o0.cur; omega
      · by_cases hl : ∃ t, q.2 = .list t
        · obtain ⟨t, hl⟩ := hl
          rw [g5, hl] at e
          simp only [curP] at e
          omega
        · have hc := sameCur_at ho.cur hq (fun t e => hl ⟨t, e⟩) g1 g2
          have : of.cur = o0.cur := by rw [g5, curP_ne (fun t e => hl ⟨t, e⟩)]
          rw [g4]
          exact k5 (by omega)
    · have hm' : n ∉ (objs ++ extObjs s0.hp.length ext).map (·.1) := by
        rw [List.map_append]
        intro hc
        rcases List.mem_append.1 hc with hc | hc
        · exact hm hc
        · have := hge n hc; omega
      obtain ⟨os, k1, k2, k3⟩ := hv
      exact ⟨os, by rw [c2 n hm', hH1lt n hn, b2 n hm, ← ho.hp n hn hm]; exact k1, k2, k3⟩
  -- the heaps
  have hrh : RH T Hf st.hp := by
    have hl1 : Hf.length = st.hp.length := by rw [c1, hH1len]; exact h.hp.length
    refine All2.of_get hl1 fun n x y hx hy => ?_
    obtain ⟨xs, hxs, hr⟩ := All2.get' h.hp hy
    have hns : n < s.hp.length := (List.getElem?_eq_some_iff.1 hxs).1
    by_cases hn : n < s0.hp.length
    · by_cases hm : n ∈ objs.map (·.1)
      · obtain ⟨q, hq, rfl⟩ := List.mem_map.1 hm
        obtain ⟨o0, os, of, g1, g2, g3, g4, g5, g6⟩ := hper q hq
        rw [g3] at hx
        rw [g2] at hxs
        simp only [Option.some.injEq] at hx hxs
        subst hx; subst hxs
        cases y with
        | none => exact hr.elim
        | some a => exact g6 a hr
      · have hm' : n ∉ (objs ++ extObjs s0.hp.length ext).map (·.1) := by
          rw [List.map_append]
          intro hc
          rcases List.mem_append.1 hc with hc | hc
          · exact hm hc
          · have := hge n hc; omega
        rw [c2 n hm', hH1lt n hn, b2 n hm, ← ho.hp n hn hm, hxs] at hx
        simp only [Option.some.injEq] at hx
        subst hx
        have hs0 : s0.hp[n]? = some xs := by rw [← ho.hp n hn hm]; exact hxs
        obtain ⟨y0, _, hr0⟩ := All2.get h0.hp hs0
        cases xs with
        | none => cases y with
          | none => trivial
          | some a => exact hr.elim
        | some o => cases y with
          | none => exact hr.elim
          | some a =>
            cases y0 with
            | none => exact hr0.elim
            | some a0 =>
              cases o with
              | arr g cl f c es =>
                obtain ⟨es', e1, e2, e3⟩ := hr
                obtain ⟨es0, _, e5, _⟩ := hr0
                exact ⟨es', e1, RL.transfer htr e5 e2, e3⟩
              | tarr g f c t l => exact hr
              | junk => exact hr
    · have hi : n - s0.hp.length < ext.length := by have := ho.len; omega
      have hni : n = s0.hp.length + (n - s0.hp.length) := by omega
      rcases junk_or_list (n := s0.hp.length) hi with ⟨k1, k2⟩ | ⟨g, f, t, k1, k2⟩
      · rw [← hni] at k2
        have hm' : n ∉ (objs ++ extObjs s0.hp.length ext).map (·.1) := by
          rw [List.map_append]
          intro hc
          rcases List.mem_append.1 hc with hc | hc
          · exact hn (hlt n hc)
          · exact k2 hc
        rw [c2 n hm', hni, hH1ge, List.getElem?_map, k1] at hx
        simp only [Option.map_some, extO, Option.some.injEq] at hx
        subst hx
        obtain ⟨o, m1, m2⟩ := extOk_at ho.extk k1
        rw [← hni, hxs] at m1
        simp only [Option.some.injEq] at m1
        subst m1
        cases y with
        | none => exact hr.elim
        | some a => exact flags_arr hr m2
      · obtain ⟨o1, os, o', ln, Hc, rest', d1, d2, d3, d4, d5, d6, d7, d8⟩ := c4 _ (List.mem_append_right _ k2)
        simp only at d1 d2 d3 d5 d6
        rw [← hni] at d2 d6
        rw [d6] at hx
        rw [d2] at hxs
        simp only [Option.some.injEq] at hx hxs
        subst hx; subst hxs
        rw [hH1ge, List.getElem?_map, k1] at d1
        simp only [Option.map_some, extO, Option.some.injEq] at d1
        subst d1
        obtain ⟨o, m1, m2⟩ := extOk_at ho.extk k1
        rw [← hni, d2] at m1
        simp only [Option.some.injEq] at m1
        subst m1
        simp only at m2
        cases y with
        | none => exact hr.elim
        | some a =>
          exact concObj_ok hT (fun n => by rw [d4, c3]) hlen (by intro n hn; simp [OPat.owns] at hn) (show Compat (.tarr g f 0 t []) (.list t) from ⟨g, f, 0, [], rfl⟩) d3 d5 (by rw [m2]; rfl) (by rw [m2]; rfl) (by rw [m2]; rfl) hr
  -- the slots
  obtain ⟨fr', f1, f2, f3⟩ := concSlots_spec hT (Hc := H1) (Hf := Hf) (fun n => by rw [c3]) hlen (N := s0.n) (frs := s.fr) (ast := fun t => st.fr.getD t .undef) h.fr (fr := killS s0.n s0.fr dead) lb ho.nd1
    (fun q hq => ⟨ho.slotsN _ (List.mem_append_left _ (List.mem_map_of_mem hq)), hokS q hq⟩) hla
  have hconc : concS slots dead objs ext s0 (la ++ lb) = { s0 with fr := fr', hp := Hf } := by
    unfold concS
    rw [hH1, f1]
    simp only [hHf]
  have hkeepF : ∀ t, t ∉ slots.map (·.1) ++ dead → getF fr' t = getF s0.fr t := by
    intro t ht
    simp only [List.mem_append, not_or] at ht
    rw [f2 t ht.1, killS_get, if_neg (fun hc => ht.2 hc.1)]
  rw [hconc]
  refine ⟨⟨?_, ?_, fun t => ?_, hrh⟩, by rw [c1, hH1len], fun n hn hm => ?_, hkeepF, rfl, rfl, fun q hq => ?_⟩
  · show s0.fn = st.fn
    rw [← ho.fn]; exact h.fn
  · show st.fr.length = s0.n
    rw [← ho.n]; exact h.n
  · simp only
    by_cases ht : t ∈ slots.map (·.1)
    · obtain ⟨q, hq, rfl⟩ := List.mem_map.1 ht
      exact .inr (f3 q hq)
    · by_cases hd : t ∈ dead
      · left
        rw [f2 t ht, killS_get, if_pos ⟨hd, ho.slotsN _ (List.mem_append_right _ hd)⟩]
      · have hnt : t ∉ slots.map (·.1) ++ dead := by simp only [List.mem_append, not_or]; exact ⟨ht, hd⟩
        rw [hkeepF t hnt]
        have e1 := h.fr t
        rw [ho.fr t hnt] at e1
        rcases e1 with e1 | e1
        · exact .inl e1
        · rcases h0.fr t with e0 | e0
          · exact .inl e0
          · exact .inr (R.transfer htr e0 e1)
  · simp only
    have hm' : n ∉ (objs ++ extObjs s0.hp.length ext).map (·.1) := by
      rw [List.map_append]
      intro hc
      rcases List.mem_append.1 hc with hc | hc
      · exact hm hc
      · have := hge n hc; omega
    rw [c2 n hm', hH1lt n hn, b2 n hm]
  · obtain ⟨o0, os, of, g1, g2, g3, g4, g5, _⟩ := hper q hq
    exact ⟨o0, os, of, g1, g2, g3, g4, g5⟩

end Go.PI
end

section
set_option linter.unusedVariables false
/- PS, part P: the trees tell the truth. -/
namespace Go.PI

structure SCtx.Ok [Glob] (S : SCtx) : Prop where
  T : S.T.Ok
  Q : S.Q.Ok
  Z : S.T.Zeros S.Q
  sum : ∀ g σ, S.sum g = some σ → SumOk S.C S.T g σ
  own : ∀ g σ, S.own g = some σ → OwnOk S.C S.T g σ

def ROut (T : Tys) : SOut T.den → Out → Prop
  | .norm s, o => ∃ st, o = .norm st ∧ RS T s st
  | .exit id s, o => ∃ st, o = .exit id st ∧ RS T s st
  | .ret s, o => ∃ st, o = .ret st ∧ RS T s st

def SOut.st {den : Nat → Type} : SOut den → SSt den
  | .norm s => s
  | .exit _ s => s
  | .ret s => s

structure SoundAt [Glob] (S : SCtx) (k : Nat) : Prop where
  f : ∀ (ρ : Type) (f : FuncId) (args : List (SV S.T.den)) (hp : SHeap S.T.den) (wh : List Nat) (K : SV S.T.den → SHeap S.T.den → List Nat → Tr ρ) (r : ρ) (as : List AV) (ahp : AHeap), RL S.T hp args as → RH S.T hp ahp →
    (exF S k ρ f args hp wh K).run = some r → ∃ v hp' wh' a ahp', runF S.C f as ahp = some (.val a, ahp') ∧ R S.T hp' v a ∧ RH S.T hp' ahp' ∧ Grow hp hp' ∧ hp.length ≤ hp'.length ∧
      (∀ n : Nat, n < hp.length → n ∉ wh' → hp'[n]? = hp[n]?) ∧ (∀ n, n ∈ wh → n ∈ wh') ∧ (K v hp' wh').run = some r
  c : ∀ (ρ : Type) (c : Code) (s : SSt S.T.den) (K : SOut S.T.den → Tr ρ) (r : ρ) (st : St), RS S.T s st → (exC S k ρ c s K).run = some r →
    ∃ so o, runC S.C c st = some o ∧ ROut S.T so o ∧ Agree s so.st ∧ (K so).run = some r
  o : ∀ (ρ : Type) (o : Oper) (s : SSt S.T.den) (K : SSt S.T.den → Tr ρ) (r : ρ) (st : St), RS S.T s st → (exO S k ρ o s K).run = some r →
    ∃ s' st', runO S.C o st = some (.norm st') ∧ RS S.T s' st' ∧ Agree s s' ∧ (K s').run = some r

section
variable [Glob] {S : SCtx} (hS : S.Ok)
include hS

theorem exE_ok {ρ : Type} {r : ρ} {nm : Nat} {o : Oper} {s : SSt S.T.den} {st : St} {K : EK S.T ρ} (h : RS S.T s st) (hn : nm = s.hp.length ∨ s.hp[nm]? = some none) (hk : (exE S nm o s K).run = some r) :
    ∃ v wr rd e lg, runE S.C nm o st.fr st.hp = some (e, lg) ∧ (∀ n, n ∈ lg → n ∈ rd) ∧ RE S.T s.hp st.hp v wr e ∧ (K v wr rd).run = some r := by
  have plain : (∀ c f, o.op = .call c → c.callee = .value f → False) → (∀ c m i, o.op = .call c → c.callee = .invoke m i → False) → (opS S.Q nm s.hp (evalS s.fr) o K).run = some r →
      ∃ v wr rd e lg, runE S.C nm o st.fr st.hp = some (e, lg) ∧ (∀ n, n ∈ lg → n ∈ rd) ∧ RE S.T s.hp st.hp v wr e ∧ (K v wr rd).run = some r := by
    intro h1 h2 hk
    obtain ⟨v, wr, rd, e, g1, g2, g3⟩ := opS_ok hS.T hS.Q hS.Z h.hp hn (fun x => h.ev x) hk
    refine ⟨v, wr, rd, e, _, ?_, g1.2, g2, g3⟩
    rw [runE_plain h1 h2]
    have := g1.1
    rw [show S.Q.P = S.C.P from rfl] at this
    rw [this]
    rfl
  unfold exE at hk
  split at hk
  · rename_i c hc
    split at hk
    · rename_i b hb
      exact plain (fun c' f h1 h2 => by rw [hc] at h1; simp only [Op.call.injEq] at h1; subst h1; rw [hb] at h2; cases h2) (fun c' m i h1 h2 => by rw [hc] at h1; simp only [Op.call.injEq] at h1; subst h1; rw [hb] at h2; cases h2) hk
    · rename_i f hf
      split at hk
      · simp [Tr.run] at hk
      rename_i g args hg
      split at hk
      · rename_i hal
        split at hk
        case h_2 => simp [Tr.run] at hk
        rename_i σ hd hσ
        obtain ⟨m, hm1, hm2⟩ := resolveS_ok (h.ev f) (ev_list (fun x => h.ev x) c.args.toList) hg
        obtain ⟨v, wr, rd, e, lg, g2, g3, g4, g5⟩ := ownS_ok hS.T (hS.own g σ hσ) h.hp hn (hm2 hd) hk
        refine ⟨v, wr, rd, _, lg, ?_, g3, g4, g5⟩
        obtain ⟨dst, op, type, pos, after, guard⟩ := o
        simp only at hc hal
        subst hc
        obtain ⟨callee, cargs, ats⟩ := c
        simp only at hf
        subst hf
        rw [runE_call, hm1, hal]
        exact g2
      rename_i hal
      split at hk
      case h_2 => simp [Tr.run] at hk
      rename_i σ hd hσ
      obtain ⟨m, hm1, hm2⟩ := resolveS_ok (h.ev f) (ev_list (fun x => h.ev x) c.args.toList) hg
      obtain ⟨v, wr, rd, a, w, lg, _, g2, g3, g4, g5⟩ := sumS_ok hS.T (hS.sum g σ hσ) h.hp (hm2 hd) hk
      refine ⟨v, wr, rd, _, lg, ?_, g3, g4, g5⟩
      obtain ⟨dst, op, type, pos, after, guard⟩ := o
      simp only at hc hal
      subst hc
      obtain ⟨callee, cargs, ats⟩ := c
      simp only at hf
      subst hf
      rw [runE_call, hm1, hal]
      exact g2 nm
    · simp [Tr.run] at hk
  · rename_i hnc
    exact plain (fun c' f h1 _ => hnc c' h1) (fun c' m i h1 _ => hnc c' h1) hk

theorem exO_ok {k : Nat} (ih : SoundAt S k) {ρ : Type} {o : Oper} {s : SSt S.T.den} {K : SSt S.T.den → Tr ρ} {r : ρ} {st : St} (h : RS S.T s st) (hk : (exO S (k + 1) ρ o s K).run = some r) :
    ∃ s' st', runO S.C o st = some (.norm st') ∧ RS S.T s' st' ∧ Agree s s' ∧ (K s').run = some r := by
  have plain : plainOp o.op = true → (opS S.Q s.hp.length s.hp (evalS s.fr) o fun v wr _ => s.stepK o.dst v wr K).run = some r →
      ∃ s' st', runO S.C o st = some (.norm st') ∧ RS S.T s' st' ∧ Agree s s' ∧ (K s').run = some r := by
    intro h1 hk
    obtain ⟨v, wr, rd, e, g1, g2, g3⟩ := opS_ok hS.T hS.Q hS.Z h.hp (.inl rfl) (fun x => h.ev x) hk
    replace g3 : (s.stepK o.dst v wr K).run = some r := g3
    rw [stepK_eq] at g3
    obtain ⟨g4, g5⟩ := h.step g2 o.dst
    refine ⟨_, _, ?_, g4, g5, g3⟩
    rw [runO_plain h1]
    have := g1.1
    rw [h.hp.length] at this
    rw [show S.Q.P = S.C.P from rfl] at this
    rw [this]
    rfl
  unfold exO at hk
  obtain ⟨dst, op, type, pos, after, guard⟩ := o
  simp only at hk
  split at hk
  · rename_i c
    obtain ⟨callee, cargs, ats⟩ := c
    split at hk
    · rename_i b hb
      simp only at hb
      subst hb
      exact plain rfl hk
    · rename_i f hf
      simp only at hf
      subst hf
      split at hk
      · simp [Tr.run] at hk
      rename_i g args hg
      obtain ⟨m, hm1, hm2⟩ := resolveS_ok (h.ev f) (ev_list (fun x => h.ev x) cargs.toList) hg
      split at hk
      · rename_i hal
        split at hk
        case h_2 => simp [Tr.run] at hk
        rename_i σ hd hσ
        obtain ⟨v, wr, rd, e, lg, g2, _, g4, g5⟩ := ownS_ok hS.T (hS.own g σ hσ) h.hp (.inl rfl) (hm2 hd) hk
        rw [stepK_eq] at g5
        obtain ⟨g6, g7⟩ := h.step g4 dst
        refine ⟨_, _, ?_, g6, g7, g5⟩
        rw [runO_call, hm1]
        rw [h.hp.length] at g2
        simp only [Option.bind_some, callA, hal, g2, doneE]
      rename_i hal
      split at hk
      · rename_i σ hd hσ
        obtain ⟨v, wr, rd, a, w, lg, g1, _, _, g4, g5⟩ := sumS_ok hS.T (hS.sum g σ hσ) h.hp (hm2 hd) hk
        rw [stepK_eq] at g5
        obtain ⟨g6, g7⟩ := h.step g4 dst
        refine ⟨_, _, ?_, g6, g7, g5⟩
        rw [runO_call, hm1]
        simp only [Option.bind_some, callA, hal, (hS.sum g σ hσ).kind, g1, doneP]
      · rename_i hd hσ
        split at hk
        · simp [Tr.run] at hk
        rename_i hkind
        obtain ⟨v, hp', wh', a, ahp', g1, g2, g3, g4, g5, g6, g7, hk⟩ := ih.f _ _ _ _ _ _ _ _ _ (hm2 hd) h.hp hk
        rw [forceH_eq, stepK_eq] at hk
        obtain ⟨t1, t2⟩ := truncS_ok (n := s.hp.length) g3 g2
        -- the state behind the call
        have hgrow : Grow s.hp (truncS s.hp.length v hp') := by
          unfold truncS
          split
          · intro n o ho
            obtain ⟨o', h1, h2⟩ := g4 n o ho
            exact ⟨o', by rw [take_getElem? (List.getElem?_eq_some_iff.1 ho).1]; exact h1, h2⟩
          · exact g4
        have hkeep : ∀ n : Nat, n < s.hp.length → n ∉ wh' → (truncS s.hp.length v hp')[n]? = s.hp[n]? := by
          intro n hn hw
          unfold truncS
          split
          · rw [take_getElem? hn]; exact g6 n hn hw
          · exact g6 n hn hw
        have hlen : s.hp.length ≤ (truncS s.hp.length v hp').length := by
          unfold truncS
          split
          · simp; omega
          · exact g5
        have hs1 : RS S.T ⟨s.fn, s.n, s.fr, truncS s.hp.length v hp', s.wf, wh'⟩ ⟨st.fn, st.fr, truncA s.hp.length a ahp'⟩ := ⟨h.fn, h.n, fun t => (h.fr t).mono hgrow, t1⟩
        obtain ⟨g8, g9⟩ := hs1.step (v := v) (wr := []) (e := ⟨a, []⟩) ⟨.inr t2, t1, Grow.refl _, fun q hq => by simp at hq, fun _ _ _ => rfl, Nat.le_refl _⟩ dst
        refine ⟨_, _, ?_, g8, Agree.trans (s' := ⟨s.fn, s.n, s.fr, truncS s.hp.length v hp', s.wf, wh'⟩) ⟨rfl, rfl, fun _ _ => rfl, fun _ h => h, hkeep, g7, hlen, hgrow⟩ g9, hk⟩
        rw [runO_call, hm1]
        simp only [Option.bind_some, callA, hal, hkind, g1, doneI]
        rw [h.hp.length]
        rfl
      · simp [Tr.run] at hk
    · simp [Tr.run] at hk
  · split at hk
    · rename_i d
      rw [runO_nil]
      have hfn := h.fn
      split at hk
      · rename_i hacc
        rw [hfn] at hacc
        rw [hacc]
        simp only [cond_true]
        split at hk
        case h_2 => simp [Tr.run] at hk
        rename_i m hm
        obtain ⟨q, hq1, _, hq3, _⟩ := hS.Q.elem hm
        split at hk
        case isFalse => simp [Tr.run] at hk
        rename_i hsz
        rw [stepK_eq] at hk
        have hnew := h.hp.new (nm := s.hp.length) (o' := .arr true true false 0 []) (a' := .arr true true false []) (.inl rfl) ⟨[], rfl, by simp [RL], fun _ => rfl⟩
        have e1 : applyWrS s.hp [(s.hp.length, .arr true true false 0 [])] = setObjS s.hp s.hp.length (.arr true true false 0 []) := rfl
        have hl := h.hp.length
        obtain ⟨g8, g9⟩ := h.step (v := .osl m.size s.hp.length 0 none none) (wr := [(s.hp.length, .arr true true false 0 [])]) (e := ⟨.osl q.size st.hp.length 0 0 0 none, [(st.hp.length, .arr true true false [])]⟩)
          ⟨.inr (by
              rw [e1]
              simp only [R]
              exact ⟨0, verOk_new h.hp (.inl rfl) (o := .arr true true false 0 []), by rw [hq3, hl]⟩),
            by
              rw [← hl]
              exact hnew.2, by rw [e1]; exact hnew.1, fun q hq => by simp at hq; subst hq; simp [hl], fun n hn hl => by
              rw [e1]; simp at hn; exact setObjS_ne hl hn, by rw [e1]; exact setObjS_len (.inl rfl)⟩ (some d)
        refine ⟨_, _, ?_, g8, g9, hk⟩
        have hq1' : sliceElem S.C.P type = some q := hq1
        rw [hq1']
        simp only [Option.bind_some]
        rw [if_pos (by rw [hq3]; exact hsz)]
        simp only [putA, applyWr, setObj, if_true]
      · rename_i hacc
        simp only [Bool.not_eq_true] at hacc
        rw [hfn] at hacc
        rw [hacc]
        simp only [cond_false]
        rw [stepK_eq] at hk
        obtain ⟨g8, g9⟩ := h.step (v := .lit nilSl) (wr := []) (e := ⟨.lit nilSl, []⟩) ⟨RV_lit _, h.hp, Grow.refl _, fun q hq => by simp at hq, fun _ _ _ => rfl, Nat.le_refl _⟩ (some d)
        exact ⟨_, _, rfl, g8, g9, hk⟩
    · -- no variable: nothing happens
      refine ⟨s, st, ?_, h, Agree.refl _, hk⟩
      refine lim_step (growO S.C _ _) (by simp [evO]) fun k => ?_
      simp only [evO]
  · rename_i hnc hna
    refine plain ?_ hk
    unfold plainOp
    simp only

end

end Go.PI
end

section
set_option linter.unusedVariables false
/- PS, part Q: loops, code, functions: the soundness of the trees. -/
namespace Go.PI

/- Loops without fuel. -/

theorem loopN_mono {τ ω : Type} {f : τ → Option (τ ⊕ ω)} : ∀ {n : Nat} {x : τ} {w : ω}, loopN f n x = some w → loopN f (n + 1) x = some w
  | 0, x, w, h => by simp [loopN] at h
  | n + 1, x, w, h => by
    rw [loopN] at h ⊢
    cases hf : f x with
    | none => rw [hf] at h; simp at h
    | some q =>
      rw [hf] at h
      cases q with
      | inl y => exact loopN_mono h
      | inr z => exact h

theorem grow_loopN [Glob] {τ ω : Type} (f : τ → Option (τ ⊕ ω)) (x : τ) : Grows fun n => loopN f n x := fun _ _ h => loopN_mono h

theorem loopM_some [Glob] {τ ω : Type} {f : τ → Option (τ ⊕ ω)} {x : τ} {w : ω} : loopM f x = some w ↔ ∃ n, loopN f n x = some w := lim_some (grow_loopN f x)

/-- A loop's answer is that of its first round, and of the rest. -/
theorem loopM_eq [Glob] {τ ω : Type} (f : τ → Option (τ ⊕ ω)) (x : τ) : loopM f x = (f x).bind fun q => Sum.elim (loopM f) some q := by
  apply Option.ext
  intro w
  rw [loopM_some]
  constructor
  · rintro ⟨n, h⟩
    cases n with
    | zero => simp [loopN] at h
    | succ n =>
      rw [loopN] at h
      cases hf : f x with
      | none => rw [hf] at h; simp at h
      | some q =>
        rw [hf] at h
        cases q with
        | inl y => simp only [Option.bind_some, Sum.elim_inl]; exact loopM_some.2 ⟨n, h⟩
        | inr z => simp only [Option.bind_some, Sum.elim_inr]; exact h
  · intro h
    cases hf : f x with
    | none => rw [hf] at h; simp at h
    | some q =>
      rw [hf] at h
      cases q with
      | inl y =>
        simp only [Option.bind_some, Sum.elim_inl] at h
        obtain ⟨n, hn⟩ := loopM_some.1 h
        exact ⟨n + 1, by rw [loopN, hf]; exact hn⟩
      | inr z =>
        simp only [Option.bind_some, Sum.elim_inr] at h
        exact ⟨1, by rw [loopN, hf]; exact h⟩

section
variable {T : Tys} {ρ : Type}

theorem lenGuard_some [Glob] {H0 H : SHeap T.den} {K : Tr ρ} {r : ρ} : ∀ {objs : List (Nat × OPat)}, (lenGuard H0 H objs K).run = some r → K.run = some r ∧ ∀ q, q ∈ objs → ∀ t, q.2 = .fix t → ∀ o o', H0[q.1]? = some (some o) → H[q.1]? = some (some o') → o'.len = o.len
  | [], h => ⟨h, fun q hq => by simp at hq⟩
  | (n, p) :: objs, h => by
    cases p with
    | fix t =>
      simp only [lenGuard] at h
      split at h
      · rename_i o o' h1 h2
        obtain ⟨g1, g2⟩ := guard_some h
        simp only [decide_eq_true_eq] at g1
        obtain ⟨i1, i2⟩ := lenGuard_some g2
        refine ⟨i1, fun q hq t' e o3 o4 h3 h4 => ?_⟩
        rcases List.mem_cons.1 hq with rfl | hq
        · simp only at h3 h4
          rw [h1] at h3; rw [h2] at h4
          simp only [Option.some.injEq] at h3 h4
          subst h3; subst h4
          exact g1
        · exact i2 q hq t' e o3 o4 h3 h4
      · simp [Tr.run] at h
    | list t =>
      obtain ⟨i1, i2⟩ := lenGuard_some (objs := objs) h
      refine ⟨i1, fun q hq t' e o3 o4 h3 h4 => ?_⟩
      rcases List.mem_cons.1 hq with rfl | hq
      · simp at e
      · exact i2 q hq t' e o3 o4 h3 h4
    | one p =>
      obtain ⟨i1, i2⟩ := lenGuard_some (objs := objs) h
      refine ⟨i1, fun q hq t' e o3 o4 h3 h4 => ?_⟩
      rcases List.mem_cons.1 hq with rfl | hq
      · simp at e
      · exact i2 q hq t' e o3 o4 h3 h4
    | agg ps =>
      obtain ⟨i1, i2⟩ := lenGuard_some (objs := objs) h
      refine ⟨i1, fun q hq t' e o3 o4 h3 h4 => ?_⟩
      rcases List.mem_cons.1 hq with rfl | hq
      · simp at e
      · exact i2 q hq t' e o3 o4 h3 h4

/-- How a loop's outcome is chosen, and what it is good for. -/
theorem outK_some [Glob] {key : Nat} {h : Hint} {s0 s : SSt T.den} {kind : Option Nat} {r : ρ} : ∀ {l : List HOut} {K : SumD T.den h.objs l → Tr ρ}, (outK key h s0 s kind l K).run = some r →
    ∃ o x w, o ∈ l ∧ o.kind = kind ∧ outX h s0 s kind o = some x ∧ (K w).run = some r ∧
      (∀ q, q ∈ h.objs → ∀ t, q.2 = .fix t → ∀ o o', s0.hp[q.1]? = some (some o) → s.hp[q.1]? = some (some o') → o'.len = o.len) ∧
      ∀ {σ : Type} (K' : SOut T.den → Tr σ), (inK h s0 l w K').run = (K' (outS (afterS h s0 o x) o.kind)).run
  | [], K, hk => by simp [outK, Tr.run] at hk
  | [o], K, hk => by
    simp only [outK] at hk
    split at hk
    · rename_i x hx
      obtain ⟨hk, hl⟩ := lenGuard_some hk
      refine ⟨o, x, x, by simp, ?_, hx, hk, hl, fun K' => ?_⟩
      · unfold outX at hx
        split at hx
        · rename_i hc; simp only [Bool.and_eq_true, decide_eq_true_eq] at hc; exact hc.1
        · simp at hx
      · simp only [inK]
        rw [force_eq]
    · simp [Tr.run] at hk
  | o :: p :: l, K, hk => by
    simp only [outK] at hk
    split at hk
    · rename_i x hx
      obtain ⟨hk, hl⟩ := lenGuard_some hk
      refine ⟨o, x, .inl x, by simp, ?_, hx, hk, hl, fun K' => ?_⟩
      · unfold outX at hx
        split at hx
        · rename_i hc; simp only [Bool.and_eq_true, decide_eq_true_eq] at hc; exact hc.1
        · simp at hx
      · simp only [inK, Tr.run, Sum.elim_inl]
        rw [force_eq]
    · obtain ⟨o', x, w, h1, h2, h3, h4, h5, h6⟩ := outK_some (l := p :: l) hk
      refine ⟨o', x, .inr w, List.mem_cons_of_mem _ h1, h2, h3, h4, h5, fun K' => ?_⟩
      simp only [inK, Tr.run, Sum.elim_inr]
      exact h6 K'

theorem subset_mem {a b : List Nat} (h : subset a b = true) {x : Nat} (hx : x ∈ a) : x ∈ b := by
  have := List.all_eq_true.1 h x hx
  simpa using this

/-- What a round leaves unchanged. -/
theorem over_of [Glob] {hobjs : List (Nat × OPat)} {slots0 : List (Nat × Pat)} {dead0 : List Nat} {slots : List (Nat × Pat)} {dead : List Nat} {ext : List SExt} {s0 sx s : SSt T.den} {l : List (TV T.den)}
    (nd1 : nodupB (slots.map (·.1)) = true) (nd2 : nodupB (hobjs.map (·.1)) = true)
    (hsx1 : sx.fn = s0.fn) (hsx2 : sx.n = s0.n) (hsx3 : ∀ t, t ∉ slots0.map (·.1) ++ dead0 → getF sx.fr t = getF s0.fr t) (hsx4 : ∀ n : Nat, n < s0.hp.length → n ∉ hobjs.map (·.1) → sx.hp[n]? = s0.hp[n]?) (hsx5 : sx.hp.length = s0.hp.length)
    (hsub : ∀ t, t ∈ slots0.map (·.1) ++ dead0 → t ∈ slots.map (·.1) ++ dead) (ha : Agree sx s) (hl : leaveS slots dead hobjs ext s0 s = true)
    (abs0 : ∃ l0, absObjs s0.hp hobjs = some l0) (abs : absS slots (hobjs ++ extObjs s0.hp.length ext) s = some l) : Over T slots dead hobjs ext s0 s l := by
  unfold leaveS at hl
  simp only [Bool.and_eq_true, decide_eq_true_eq] at hl
  obtain ⟨⟨⟨⟨⟨⟨⟨l1, l2⟩, l3⟩, l4⟩, l5⟩, l6⟩, l7⟩, l8⟩ := hl
  refine ⟨nd1, nd2, fun d hd => ?_, l2, ha.fn.trans hsx1, ha.n.trans hsx2, fun t ht => ?_, fun n hn hm => ?_, l5, l6, l7, l8, abs0, abs⟩
  · have := List.all_eq_true.1 l1 d hd
    have := Nat.le_of_ble_eq_true this
    omega
  · have hw : t ∉ s.wf := fun hc => ht (subset_mem l3 hc)
    rw [ha.fr t hw, hsx3 t (fun hc => ht (hsub t hc))]
  · have hw : n ∉ s.wh := fun hc => hm (subset_mem l4 (List.mem_filter.2 ⟨hc, by simpa using hn⟩))
    rw [ha.hp n (by rw [hsx5]; exact hn) hw, hsx4 n hn hm]
end

theorem absS_objs {T : Tys} {slots : List (Nat × Pat)} {objs : List (Nat × OPat)} {s : SSt T.den} {l : List (TV T.den)} (h : absS slots objs s = some l) : ∃ l0, absObjs s.hp objs = some l0 := by
  unfold absS at h
  rw [Option.bind_eq_some_iff] at h
  obtain ⟨_, _, h⟩ := h
  rw [Option.map_eq_some_iff] at h
  obtain ⟨lb, h, _⟩ := h
  exact ⟨lb, h⟩

theorem sameFlags_refl [Glob] {T : Tys} {H : SHeap T.den} {objs : List (Nat × OPat)} {l : List (TV T.den)} (h : absObjs H objs = some l) : sameFlags H H objs = true := by
  refine List.all_eq_true.2 fun q hq => ?_
  obtain ⟨o, _, h1, _⟩ := absObjs_obj h q hq
  simp [h1]

theorem sameCur_refl [Glob] {T : Tys} {H : SHeap T.den} {objs : List (Nat × OPat)} {l : List (TV T.den)} (h : absObjs H objs = some l) : sameCur H H objs = true := by
  refine List.all_eq_true.2 fun q hq => ?_
  obtain ⟨o, _, h1, _⟩ := absObjs_obj h q hq
  split
  · rfl
  · simp [h1]

section
variable [Glob] {S : SCtx} (hS : S.Ok)
include hS

theorem loop_ok {k : Nat} (ih : SoundAt S k) {b : Code} {s : SSt S.T.den} {h : Hint} {l0 : List (TV S.T.den)} {x0 : HL S.T.den h.tys} (hok : h.ok = true) (hsl : slotsOk s.n h.slots h.dead = true) (how : ownsOk s.hp.length h.slots h.objs = true)
    (habs : absS h.slots h.objs s = some l0) (hx0 : toHL h.tys l0 = some x0) {st : St} (hst : RS S.T s st) {w : SumD S.T.den h.objs h.outs}
    (hw : loopM (fun x => (SSt.force { concS h.slots h.dead h.objs [] s (ofHL h.tys x) with wf := [], wh := [] } fun s1 => exC S k (HL S.T.den h.tys ⊕ SumD S.T.den h.objs h.outs) b s1 fun
              | .norm s' =>
                (match resetS s.hp.length s' with
                | s'' => (match leaveS h.slots h.dead h.objs [] s s'', (absS h.slots h.objs s'').bind (toHL h.tys) with
                  | true, some y => lenGuard s.hp s''.hp h.objs (.ret (.inl y))
                  | _, _ => .bad (keyOf b) none s s''))
              | .exit id s' => outK (keyOf b) h s s' (some id) h.outs fun w => .ret (.inr w)
              | .ret s' => outK (keyOf b) h s s' none h.outs fun w => .ret (.inr w)).run) x0 = some w) :
    ∃ o x so oo, runC S.C (.loop b) st = some oo ∧ so = outS (afterS h s o x) o.kind ∧ ROut S.T so oo ∧ Agree s so.st ∧ ∀ {σ : Type} (K' : SOut S.T.den → Tr σ), (inK h s h.outs w K').run = (K' so).run := by
  simp only [Hint.ok, Bool.and_eq_true] at hok
  obtain ⟨⟨hok1, hok2⟩, hok3⟩ := hok
  obtain ⟨lobj, hlobj⟩ := absS_objs habs
  have nd1 : nodupB (h.slots.map (·.1)) = true := by
    have : ∀ {l m : List Nat}, nodupB (l ++ m) = true → nodupB l = true := by
      intro l m
      induction l with
      | nil => intro _; rfl
      | cons x xs ih =>
        intro hx
        obtain ⟨h1, h2⟩ := nodup_cons hx
        simp only [nodupB, Bool.and_eq_true, Bool.not_eq_true', List.contains_eq_mem, decide_eq_false_iff_not]
        exact ⟨fun hc => h1 (List.mem_append_left _ hc), ih h2⟩
    exact this hok1
  have hslN : ∀ d, d ∈ h.slots.map (·.1) ++ h.dead → d < s.n := by
    intro d hd
    have := List.all_eq_true.1 hsl d hd
    have := Nat.le_of_ble_eq_true this
    omega
  -- the state of a round
  have sxf : ∀ x : HL S.T.den h.tys, ∀ l, absS h.slots h.objs s = some l → True := fun _ _ _ => trivial
  clear sxf
  -- facts of the state with variables that do not depend on their values
  have hshape : ∀ (x : HL S.T.den h.tys) (sc : SSt S.T.den) (lc : List (TV S.T.den)), Over S.T h.slots h.dead h.objs [] s sc lc → ofHL h.tys x = lc → ∀ (stc : St), RS S.T sc stc →
      RS S.T (concS h.slots h.dead h.objs [] s (ofHL h.tys x)) stc ∧ (concS h.slots h.dead h.objs [] s (ofHL h.tys x)).hp.length = s.hp.length ∧
      (∀ n : Nat, n < s.hp.length → n ∉ h.objs.map (·.1) → (concS h.slots h.dead h.objs [] s (ofHL h.tys x)).hp[n]? = s.hp[n]?) ∧
      (∀ t, t ∉ h.slots.map (·.1) ++ h.dead → getF (concS h.slots h.dead h.objs [] s (ofHL h.tys x)).fr t = getF s.fr t) ∧
      (concS h.slots h.dead h.objs [] s (ofHL h.tys x)).fn = s.fn ∧ (concS h.slots h.dead h.objs [] s (ofHL h.tys x)).n = s.n := by
    intro x sc lc ho hx stc hstc
    obtain ⟨r1, r2, r3, r4, r5, r6, _⟩ := over_ok hS.T ho hst hstc
    rw [hx]
    refine ⟨r1, ?_, r3, r4, r5, r6⟩
    rw [r2, ho.len]; rfl
  -- one round after the other
  have main : ∀ (n : Nat) (x : HL S.T.den h.tys) (stx : St), RS S.T (concS h.slots h.dead h.objs [] s (ofHL h.tys x)) stx → (concS h.slots h.dead h.objs [] s (ofHL h.tys x)).hp.length = s.hp.length →
      (∀ n : Nat, n < s.hp.length → n ∉ h.objs.map (·.1) → (concS h.slots h.dead h.objs [] s (ofHL h.tys x)).hp[n]? = s.hp[n]?) →
      (∀ t, t ∉ h.slots.map (·.1) ++ h.dead → getF (concS h.slots h.dead h.objs [] s (ofHL h.tys x)).fr t = getF s.fr t) →
      (concS h.slots h.dead h.objs [] s (ofHL h.tys x)).fn = s.fn → (concS h.slots h.dead h.objs [] s (ofHL h.tys x)).n = s.n →
      loopN (fun x => (SSt.force { concS h.slots h.dead h.objs [] s (ofHL h.tys x) with wf := [], wh := [] } fun s1 => exC S k (HL S.T.den h.tys ⊕ SumD S.T.den h.objs h.outs) b s1 fun
              | .norm s' =>
                (match resetS s.hp.length s' with
                | s'' => (match leaveS h.slots h.dead h.objs [] s s'', (absS h.slots h.objs s'').bind (toHL h.tys) with
                  | true, some y => lenGuard s.hp s''.hp h.objs (.ret (.inl y))
                  | _, _ => .bad (keyOf b) none s s''))
              | .exit id s' => outK (keyOf b) h s s' (some id) h.outs fun w => .ret (.inr w)
              | .ret s' => outK (keyOf b) h s s' none h.outs fun w => .ret (.inr w)).run) n x = some w →
      ∃ o x so oo, runC S.C (.loop b) stx = some oo ∧ so = outS (afterS h s o x) o.kind ∧ ROut S.T so oo ∧ Agree s so.st ∧ ∀ {σ : Type} (K' : SOut S.T.den → Tr σ), (inK h s h.outs w K').run = (K' so).run := by
    intro n
    induction n with
    | zero => intro x stx _ _ _ _ _ _ hn; simp [loopN] at hn
    | succ n ihn =>
      intro x stx hsx hlen hkeepH hkeepF hfn hn2 hn
      rw [loopN] at hn
      generalize hsxe : ({ concS h.slots h.dead h.objs [] s (ofHL h.tys x) with wf := [], wh := [] } : SSt S.T.den) = sx at hn
      have hsx' : RS S.T sx stx := by rw [← hsxe]; exact ⟨hsx.fn, hsx.n, hsx.fr, hsx.hp⟩
      have e1 : sx.fn = s.fn := by rw [← hsxe]; exact hfn
      have e2 : sx.n = s.n := by rw [← hsxe]; exact hn2
      have e3 : ∀ t, t ∉ h.slots.map (·.1) ++ h.dead → getF sx.fr t = getF s.fr t := by rw [← hsxe]; exact hkeepF
      have e4 : ∀ n : Nat, n < s.hp.length → n ∉ h.objs.map (·.1) → sx.hp[n]? = s.hp[n]? := by rw [← hsxe]; exact hkeepH
      have e5 : sx.hp.length = s.hp.length := by rw [← hsxe]; exact hlen
      rw [force_eq] at hn
      -- the outcome of the round
      have hcase : ∀ q, (exC S k (HL S.T.den h.tys ⊕ SumD S.T.den h.objs h.outs) b sx fun
              | .norm s' =>
                (match resetS s.hp.length s' with
                | s'' => (match leaveS h.slots h.dead h.objs [] s s'', (absS h.slots h.objs s'').bind (toHL h.tys) with
                  | true, some y => lenGuard s.hp s''.hp h.objs (.ret (.inl y))
                  | _, _ => .bad (keyOf b) none s s''))
              | .exit id s' => outK (keyOf b) h s s' (some id) h.outs fun w => .ret (.inr w)
              | .ret s' => outK (keyOf b) h s s' none h.outs fun w => .ret (.inr w)).run = some q →
          (∃ y, q = .inl y ∧ ∃ stb, runC S.C b stx = some (.norm stb) ∧ RS S.T (concS h.slots h.dead h.objs [] s (ofHL h.tys y)) (resetA stx.hp.length stb) ∧ (concS h.slots h.dead h.objs [] s (ofHL h.tys y)).hp.length = s.hp.length ∧
            (∀ n : Nat, n < s.hp.length → n ∉ h.objs.map (·.1) → (concS h.slots h.dead h.objs [] s (ofHL h.tys y)).hp[n]? = s.hp[n]?) ∧
            (∀ t, t ∉ h.slots.map (·.1) ++ h.dead → getF (concS h.slots h.dead h.objs [] s (ofHL h.tys y)).fr t = getF s.fr t) ∧
            (concS h.slots h.dead h.objs [] s (ofHL h.tys y)).fn = s.fn ∧ (concS h.slots h.dead h.objs [] s (ofHL h.tys y)).n = s.n) ∨
          (∃ w', q = .inr w' ∧ ∃ o x so oo, runC S.C b stx = some oo ∧ (∀ s', oo ≠ .norm s') ∧ so = outS (afterS h s o x) o.kind ∧ ROut S.T so oo ∧ Agree s so.st ∧ ∀ {σ : Type} (K' : SOut S.T.den → Tr σ), (inK h s h.outs w' K').run = (K' so).run) := by
        intro q hq
        obtain ⟨so, o, c1, c2, c3, c4⟩ := ih.c _ _ _ _ _ _ hsx' hq
        -- an outcome that leaves the loop
        have leave : ∀ (kind : Option Nat) (s' : SSt S.T.den) (stb : St), RS S.T s' stb → Agree sx s' → (outK (keyOf b) h s s' kind h.outs fun w => (.ret (.inr w) : Tr (HL S.T.den h.tys ⊕ SumD S.T.den h.objs h.outs))).run = some q →
            ∃ w', q = .inr w' ∧ ∃ o x, o.kind = kind ∧ RS S.T (afterS h s o x) stb ∧ Agree s (afterS h s o x) ∧ ∀ {σ : Type} (K' : SOut S.T.den → Tr σ), (inK h s h.outs w' K').run = (K' (outS (afterS h s o x) o.kind)).run := by
          intro kind s' stb hs' ha hq
          obtain ⟨o, x, w', d1, d2, d3, d4, d5, d6⟩ := outK_some hq
          simp only [Tr.run, Option.some.injEq] at d4
          refine ⟨w', d4.symm, o, x, d2, ?_⟩
          unfold outX at d3
          split at d3
          case h_2 => simp at d3
          rename_i hc
          simp only [Bool.and_eq_true, decide_eq_true_eq] at hc
          rw [Option.bind_eq_some_iff] at d3
          obtain ⟨lx, d7, d8⟩ := d3
          have hov : Over S.T o.slots (h.slots.map (·.1) ++ h.dead) h.objs o.ext s s' lx :=
            over_of (slots0 := h.slots) (dead0 := h.dead) (List.all_eq_true.1 hok3 o d1) hok2 e1 e2 e3 e4 e5 (fun t ht => List.mem_append_right _ ht) ha hc.2 ⟨_, hlobj⟩ d7
          obtain ⟨r1, r2, r3, r4, r5, r6, r7⟩ := over_ok hS.T hov hst hs'
          have ex := toHL_ok _ _ _ d8
          refine ⟨?_, ?_, d6⟩
          · unfold afterS
            rw [ex]
            exact ⟨r1.fn, r1.n, r1.fr, r1.hp⟩
          · unfold afterS
            rw [ex]
            refine ⟨r5, r6, fun t ht => r4 t ?_, fun t ht => ?_, fun n hn hw => r3 n hn ?_, fun n hn => ?_, ?_, ?_⟩
            · simp only [List.mem_append, not_or] at ht ⊢
              exact ⟨ht.1, ht.2.1, ht.2.2.1⟩
            · simp only [List.mem_append]
              exact .inr (.inr (.inr ht))
            · simp only [List.mem_append, not_or] at hw
              exact hw.1
            · simp only [List.mem_append]
              exact .inr hn
            · simp only
              rw [r2, hov.len]
              omega
            · intro n o' ho'
              have hn := (List.getElem?_eq_some_iff.1 ho').1
              by_cases hm : n ∈ h.objs.map (·.1)
              · obtain ⟨qq, hqq, rfl⟩ := List.mem_map.1 hm
                obtain ⟨o0, os, of, g1, g2, g3, g4, g5⟩ := r7 qq hqq
                rw [g1] at ho'
                simp only [Option.some.injEq] at ho'
                subst ho'
                refine ⟨of, g3, by rw [g5]; exact curP_le _ _, fun ec => ?_⟩
                rw [g4]
                rw [g5] at ec
                have habs0 := absObjs_obj hlobj qq hqq
                obtain ⟨oo, ln, m1, m2⟩ := habs0
                rw [g1] at m1
                simp only [Option.some.injEq] at m1
                subst m1
                have habsS := absS_objs d7
                obtain ⟨lS, hlS⟩ := habsS
                obtain ⟨oo2, ln2, m3, m4⟩ := absObjs_obj hlS qq (List.mem_append_left _ hqq)
                rw [g2] at m3
                simp only [Option.some.injEq] at m3
                subst m3
                cases hp : qq.2 with
                | list t => rw [hp] at ec; simp [curP] at ec
                | fix t => exact d5 qq hqq t hp o0 os g1 g2
                | one p =>
                  rw [hp] at m2 m4
                  simp only [absObj] at m2 m4
                  split at m2
                  case h_2 => simp at m2
                  split at m4
                  case h_2 => simp at m4
                  rfl
                | agg p =>
                  rw [hp] at m2 m4
                  simp only [absObj] at m2 m4
                  split at m2
                  case h_2 => simp at m2
                  split at m4
                  case h_2 => simp at m4
                  rfl
              · exact ⟨o', by simp only; rw [r3 n hn hm]; exact ho', Nat.le_refl _, fun _ => rfl⟩
        cases so with
        | norm s' =>
          left
          obtain ⟨stb, rfl, hs'⟩ := c2
          simp only at c4
          split at c4
          · rename_i y hl hy
            obtain ⟨c5, _⟩ := lenGuard_some c4
            simp only [Tr.run, Option.some.injEq] at c5
            rw [Option.bind_eq_some_iff] at hy
            obtain ⟨ly, hy1, hy2⟩ := hy
            have hr := reset_ok (n := s.hp.length) hs'
            have hag : Agree sx (resetS s.hp.length s') := by
              have := reset_agree hsx' c3
              rw [e5] at this
              exact this
            have hov : Over S.T h.slots h.dead h.objs [] s (resetS s.hp.length s') ly :=
              over_of (slots0 := h.slots) (dead0 := h.dead) nd1 hok2 e1 e2 e3 e4 e5 (fun t ht => ht) hag hl ⟨_, hlobj⟩ (by simpa [extObjs] using hy1)
            have hle : stx.hp.length = s.hp.length := by rw [← e5]; exact hsx'.hp.length.symm
            refine ⟨y, c5.symm, stb, c1, ?_⟩
            rw [hle]
            exact hshape y _ ly hov (toHL_ok _ _ _ hy2) _ hr
          · simp [Tr.run] at c4
        | exit id s' =>
          right
          obtain ⟨stb, rfl, hs'⟩ := c2
          obtain ⟨w', f1, o', x', f2, f3, f4, f5⟩ := leave (some id) s' stb hs' c3 c4
          refine ⟨w', f1, o', x', outS (afterS h s o' x') o'.kind, _, c1, by simp, rfl, ?_, ?_, f5⟩
          · rw [f2]; exact ⟨stb, rfl, f3⟩
          · rw [f2]; exact f4
        | ret s' =>
          right
          obtain ⟨stb, rfl, hs'⟩ := c2
          obtain ⟨w', f1, o', x', f2, f3, f4, f5⟩ := leave none s' stb hs' c3 c4
          refine ⟨w', f1, o', x', outS (afterS h s o' x') o'.kind, _, c1, by simp, rfl, ?_, ?_, f5⟩
          · rw [f2]; exact ⟨stb, rfl, f3⟩
          · rw [f2]; exact f4
      split at hn
      · rename_i y hy
        rcases hcase _ hy with ⟨y', e, stb, g1, g2, g3, g4, g5, g6, g7⟩ | ⟨w', e, _⟩
        · simp only [Sum.inl.injEq] at e
          subst e
          obtain ⟨o, x', so, oo, i1, i2⟩ := ihn _ _ g2 g3 g4 g5 g6 g7 hn
          refine ⟨o, x', so, oo, ?_, i2⟩
          rw [runC_loop, g1]
          exact i1
        · simp at e
      · rename_i w2 hw2
        simp only [Option.some.injEq] at hn
        subst hn
        rcases hcase _ hw2 with ⟨y', e, _⟩ | ⟨w', e, o, x', so, oo, g1, g2, g3⟩
        · simp at e
        · simp only [Sum.inr.injEq] at e
          subst e
          refine ⟨o, x', so, oo, ?_, g3⟩
          rw [runC_loop, g1]
          cases oo with
          | norm s' => exact absurd rfl (g2 s')
          | _ => rfl
      · simp at hn
  -- the first round
  obtain ⟨n, hn⟩ := loopM_some.1 hw
  have hov : Over S.T h.slots h.dead h.objs [] s s l0 := ⟨nd1, hok2, hslN, by simpa [extObjs] using how, rfl, rfl, fun _ _ => rfl, fun _ _ _ => rfl, rfl, sameFlags_refl hlobj, sameCur_refl hlobj, rfl, ⟨_, hlobj⟩, by simpa [extObjs] using habs⟩
  obtain ⟨r1, r2, r3, r4, r5, r6⟩ := hshape x0 s l0 hov (toHL_ok _ _ _ hx0) st hst
  exact main n x0 st r1 r2 r3 r4 r5 r6 hn


theorem exF_ok {k : Nat} (ih : SoundAt S k) {ρ : Type} {f : FuncId} {args : List (SV S.T.den)} {hp : SHeap S.T.den} {wh : List Nat} {K : SV S.T.den → SHeap S.T.den → List Nat → Tr ρ} {r : ρ} {as : List AV} {ahp : AHeap}
    (ha : RL S.T hp args as) (hh : RH S.T hp ahp) (hk : (exF S (k + 1) ρ f args hp wh K).run = some r) : ∃ v hp' wh' a ahp', runF S.C f as ahp = some (.val a, ahp') ∧ R S.T hp' v a ∧ RH S.T hp' ahp' ∧ Grow hp hp' ∧ hp.length ≤ hp'.length ∧
      (∀ n : Nat, n < hp.length → n ∉ wh' → hp'[n]? = hp[n]?) ∧ (∀ n, n ∈ wh → n ∈ wh') ∧ (K v hp' wh').run = some r := by
  unfold exF at hk
  split at hk
  · simp [Tr.run] at hk
  rename_i fn hfn
  split at hk
  · simp [Tr.run] at hk
  rename_i c hc
  rw [forceN_eq, force_eq] at hk
  have hst := start_ok (f := f) ha hh fn.ntmps wh
  obtain ⟨so, o, c1, c2, c3, hk⟩ := ih.c _ _ _ _ _ _ hst hk
  have fin : ∀ (s : SSt S.T.den) (st : St), RS S.T s st → Agree ⟨f, max fn.ntmps args.length, argsF 0 args, hp, [], wh⟩ s → (endF S.C fn.results o = ((resultsL S.C.P st.fr fn.results.toList).run st.hp).map fun l => (.val (tupOf l), st.hp)) →
      (resS S.T S.Q s fn.results.toList fun l => K (tupS l) s.hp s.wh).run = some r →
      ∃ v hp' wh' a ahp', runF S.C f as ahp = some (.val a, ahp') ∧ R S.T hp' v a ∧ RH S.T hp' ahp' ∧ Grow hp hp' ∧ hp.length ≤ hp'.length ∧
      (∀ n : Nat, n < hp.length → n ∉ wh' → hp'[n]? = hp[n]?) ∧ (∀ n, n ∈ wh → n ∈ wh') ∧ (K v hp' wh').run = some r := by
    intro s st hs hag he hk
    obtain ⟨l, m, g1, g2, hk⟩ := resS_ok hS.T hS.Q hs hk
    refine ⟨tupS l, s.hp, s.wh, tupOf m, st.hp, ?_, tup_R g2, hs.hp, hag.grow, hag.len, hag.hp, hag.wh, hk⟩
    rw [runF_eq hfn hc, c1]
    simp only [Option.bind_some]
    rw [he]
    have g1' : (resultsL S.C.P st.fr fn.results.toList).run st.hp = some m := g1
    rw [g1']
    rfl
  cases so with
  | norm s =>
    obtain ⟨st, rfl, hs⟩ := c2
    exact fin s st hs c3 rfl hk
  | ret s =>
    obtain ⟨st, rfl, hs⟩ := c2
    exact fin s st hs c3 rfl hk
  | exit id s => simp [Tr.run] at hk

theorem exC_ok {k : Nat} (ih : SoundAt S k) {ρ : Type} {c : Code} {s : SSt S.T.den} {K : SOut S.T.den → Tr ρ} {r : ρ} {st : St} (h : RS S.T s st) (hk : (exC S (k + 1) ρ c s K).run = some r) :
    ∃ so o, runC S.C c st = some o ∧ ROut S.T so o ∧ Agree s so.st ∧ (K so).run = some r := by
  unfold exC at hk
  split at hk
  · exact ⟨.norm s, _, runC_skip st, ⟨st, rfl, h⟩, Agree.refl _, hk⟩
  · exact ⟨.norm s, _, runC_label _ st, ⟨st, rfl, h⟩, Agree.refl _, hk⟩
  · exact ⟨.ret s, _, runC_ret st, ⟨st, rfl, h⟩, Agree.refl _, hk⟩
  · rename_i id
    exact ⟨.exit id s, _, runC_exit id st, ⟨st, rfl, h⟩, Agree.refl _, hk⟩
  · rename_i a b
    obtain ⟨so, o, c1, c2, c3, hk⟩ := ih.c _ _ _ _ _ _ h hk
    rw [runC_seq, c1]
    cases so with
    | norm s' =>
      obtain ⟨st', rfl, hs'⟩ := c2
      obtain ⟨so2, o2, d1, d2, d3, hk⟩ := ih.c _ _ _ _ _ _ hs' hk
      exact ⟨so2, o2, d1, d2, c3.trans d3, hk⟩
    | exit id s' =>
      obtain ⟨st', rfl, hs'⟩ := c2
      exact ⟨.exit id s', _, rfl, ⟨st', rfl, hs'⟩, c3, hk⟩
    | ret s' =>
      obtain ⟨st', rfl, hs'⟩ := c2
      exact ⟨.ret s', _, rfl, ⟨st', rfl, hs'⟩, c3, hk⟩
  · rename_i o a b
    split at hk
    · rename_i t ht
      have ha := (h.ev o).lit ht
      rw [runC_cond, ha]
      rcases cond_some hk with ⟨rfl, hk⟩ | ⟨rfl, hk⟩
      · exact ih.c _ _ _ _ _ _ h hk
      · exact ih.c _ _ _ _ _ _ h hk
    · simp [Tr.run] at hk
  · rename_i id b
    obtain ⟨so, o, c1, c2, c3, hk⟩ := ih.c _ _ _ _ _ _ h hk
    rw [runC_block, c1]
    cases so with
    | norm s' =>
      obtain ⟨st', rfl, hs'⟩ := c2
      exact ⟨.norm s', _, rfl, ⟨st', rfl, hs'⟩, c3, hk⟩
    | exit id' s' =>
      obtain ⟨st', rfl, hs'⟩ := c2
      simp only at hk
      by_cases e : id' = id
      · rw [if_pos e] at hk
        exact ⟨.norm s', .norm st', by simp [blockA, e], ⟨st', rfl, hs'⟩, c3, hk⟩
      · rw [if_neg e] at hk
        exact ⟨.exit id' s', .exit id' st', by simp [blockA, e], ⟨st', rfl, hs'⟩, c3, hk⟩
    | ret s' =>
      obtain ⟨st', rfl, hs'⟩ := c2
      exact ⟨.ret s', _, rfl, ⟨st', rfl, hs'⟩, c3, hk⟩
  · rename_i b
    split at hk
    · split at hk
      · obtain ⟨so, o, c1, c2, c3, hk⟩ := ih.c _ _ _ _ _ _ h hk
        rw [runC_loop, c1]
        cases so with
        | norm s' =>
          obtain ⟨st', rfl, hs'⟩ := c2
          simp only at hk
          rw [force_eq] at hk
          have hr := reset_ok (n := s.hp.length) hs'
          have hag := reset_agree h c3
          obtain ⟨so2, o2, d1, d2, d3, hk⟩ := ih.c _ _ _ _ _ _ hr hk
          refine ⟨so2, o2, ?_, d2, hag.trans d3, hk⟩
          simp only [Option.bind_some, againA]
          rw [← h.hp.length]
          exact d1
        | exit id s' =>
          obtain ⟨st', rfl, hs'⟩ := c2
          exact ⟨.exit id s', _, rfl, ⟨st', rfl, hs'⟩, c3, hk⟩
        | ret s' =>
          obtain ⟨st', rfl, hs'⟩ := c2
          exact ⟨.ret s', _, rfl, ⟨st', rfl, hs'⟩, c3, hk⟩
      · simp [Tr.run] at hk
    · rename_i hi _
      split at hk
      · rename_i x0 hok hx0
        simp only [Bool.and_eq_true] at hok
        rw [Option.bind_eq_some_iff] at hx0
        obtain ⟨l0, h1, h2⟩ := hx0
        simp only [Tr.run, Option.bind_eq_some_iff] at hk
        obtain ⟨w, hw, hk⟩ := hk
        obtain ⟨o, x, so, oo, g1, g2, g3, g4, g5⟩ := loop_ok hS ih hok.1.1 hok.1.2 hok.2 h1 h2 h hw
        exact ⟨so, oo, g1, g3, g4, by rw [← g5]; exact hk⟩
      · simp [Tr.run] at hk
  · rename_i id ops draw
    split at hk
    · rw [forceG_eq] at hk
      obtain ⟨s', st', g1, g2, g3, hk⟩ := exOps_ok (C := S.C) (fun o s st K h hk => ih.o _ _ _ _ _ _ h hk) _ _ _ _ h hk
      exact ⟨.norm s', .norm st', by rw [runC_ops]; exact g1, ⟨st', rfl, g2⟩, g3, hk⟩
    · split at hk
      case isFalse => simp [Tr.run] at hk
      rename_i hreg
      rw [forceG_eq, forceI_eq, mapItems_eq] at hk
      -- the heap with room for what is made
      have hRH : ∀ n : Nat, Grow s.hp (s.hp ++ List.replicate n none) ∧ RH S.T (s.hp ++ List.replicate n none) (st.hp ++ List.replicate n none) := by
        intro n
        have hg : Grow s.hp (s.hp ++ List.replicate n none) := fun m o ho => ⟨o, by rw [List.getElem?_append_left (List.getElem?_eq_some_iff.1 ho).1]; exact ho, Nat.le_refl _, fun _ => rfl⟩
        exact ⟨hg, All2.append (All2.mono (fun _ _ => ROo.mono hg) h.hp) (All2.replicate (show ROo S.T _ none none from trivial) n)⟩
      generalize hcnt : (ops.toList.filter fun o => isAllocOp o.op).length = cnt at hk
      have hs1 : RS S.T { s with hp := s.hp ++ List.replicate cnt none } { st with hp := st.hp ++ List.replicate cnt none } :=
        ⟨h.fn, h.n, fun t => (h.fr t).mono (hRH cnt).1, (hRH cnt).2⟩
      have hag1 : Agree s { s with hp := s.hp ++ List.replicate cnt none } :=
        ⟨rfl, rfl, fun _ _ => rfl, fun _ h => h, fun n hn _ => by simp only; rw [List.getElem?_append_left hn], fun _ h => h, by simp, (hRH cnt).1⟩
      obtain ⟨s', st', fs1, fs2, g1, g2, g3, g4, hk⟩ := exDraw_ok (C := S.C) (ops := ops) (fun nm o s st K h hn hk => exE_ok hS h hn hk) (nameOps 0 s.hp.length ops.toList) s.hp.length _ _ [] _ (named_ops _ _ _)
        (by rw [countA_ops, hcnt]; simp) (fun m hm hml => by
          simp only at hml ⊢
          rw [List.getElem?_append_right hm, List.getElem?_replicate, if_pos]
          simp at hml; omega) hs1 hk
      split at hk
      case isFalse => simp [Tr.run] at hk
      rename_i hfoot
      refine ⟨.norm s', .norm st', ?_, ⟨st', rfl, g3⟩, hag1.trans g4, hk⟩
      rw [runC_draw id ops hreg, hcnt]
      have hl := h.hp.length
      rw [← hl]
      rw [g1]
      simp only [Option.bind_some, doneD]
      rw [if_pos]
      simp only [List.nil_append] at hfoot
      exact footsOk_le g2 (footsFast_ok hfoot)
  · simp [Tr.run] at hk

theorem ex_sound : ∀ k, SoundAt S k
  | 0 => ⟨fun _ _ _ _ _ _ _ _ _ _ _ h => by simp [exF, Tr.run] at h, fun _ _ _ _ _ _ _ h => by simp [exC, Tr.run] at h, fun _ _ _ _ _ _ _ h => by simp [exO, Tr.run] at h⟩
  | k + 1 =>
    have ih := ex_sound k
    ⟨fun _ _ _ _ _ _ _ _ _ ha hh hk => exF_ok hS ih ha hh hk, fun _ _ _ _ _ _ h hk => exC_ok hS ih h hk, fun _ _ _ _ _ _ h hk => exO_ok hS ih h hk⟩

end

end Go.PI
end

section
set_option linter.unusedVariables false
/- PS, part R: from an equation of trees to what is known of a function; laws; arguments read. -/
namespace Go.PI

theorem sumOk_of [Glob] {S : SCtx} (hS : S.Ok) {k : Nat} {f : FuncId} {σ : Summ S.T} (hk : S.C.kind f = .pure) (hi : S.C.intr f = none) (h : ∀ x, (fnTr S k f σ.args σ.res x).run = σ.fn x) : SumOk S.C S.T f σ where
  kind := hk
  ans := by
    intro x as y hx hy
    rw [← h x] at hy
    unfold fnTr at hy
    obtain ⟨v, hp', wh', a, ahp', g1, g2, g3, _, _, _, _, hy⟩ := (ex_sound hS k).f _ f _ [] [] _ _ as [] (upL_R hS.T [] hx) (show RH S.T [] [] from trivial) hy
    obtain ⟨v', rd, a', h1, h2, h3, hy⟩ := sealS_ok g3 g2 hy
    split at hy
    case h_2 => simp [Tr.run] at hy
    rename_i r hr
    simp only [Tr.run, Option.some.injEq] at hy
    subst hy
    rw [Option.bind_eq_some_iff] at hr
    obtain ⟨l, hl, hr⟩ := hr
    have h1' : ∀ (ts : List Nat) (l : List (SV S.T.den)) r, dnL S.T ts l = some r → ts.length = l.length := by
      intro ts
      induction ts with
      | nil =>
        intro l r h
        cases l with
        | nil => rfl
        | cons => simp [dnL] at h
      | cons t ts ih =>
        intro l r h
        cases l with
        | nil => simp [dnL] at h
        | cons v l =>
          simp only [dnL, Option.bind_eq_some_iff, Option.map_eq_some_iff] at h
          obtain ⟨_, _, _, h, _⟩ := h
          simp [ih _ _ h]
    have hlen := h1' _ _ _ hl
    have key : ∃ m, RL S.T hp' (compS σ.res v') m ∧ tupOf m = a' := by
      unfold compS at hlen ⊢
      split at hlen
      · exact ⟨[a'], by simp only [RL]; exact ⟨h2, trivial⟩, rfl⟩
      · rename_i hne
        have hl1 : σ.res.length ≠ 1 := by
          intro hc
          match hres : σ.res, hc with
          | [t], _ => exact hne t hres
        split at hlen
        · simp only [R] at h2
          obtain ⟨m, rfl, h2⟩ := h2
          have hm := h2.length
          refine ⟨m, h2, ?_⟩
          match m, hm with
          | [], _ => rfl
          | [x], hm => simp at hm; omega
          | x :: y :: r, _ => rfl
        · simp at hlen; omega
    obtain ⟨m, hm1, hm3⟩ := key
    have hrp := dnL_ok hS.T hm1 hl
    rw [toHL_ok _ _ _ hr]
    refine ⟨a, ahp', m, ?_, ?_, ?_, hrp⟩
    · simp only [ansC, hi, g1]
    · rw [hm3]; exact h1.1
    · rw [hm3]; exact h3.1

/-- The tree of a function whose result is the caller's: the elements of the slice. -/
def fnTrO [Glob] (S : SCtx) (k : Nat) (f : FuncId) (args : List Nat) (el esz : Nat) (xs : HL S.T.den (args.map .v)) : Tr (List (S.T.den el)) :=
  exF S k _ f (upL S.T (ofHL _ xs)) [] [] fun v hp _ =>
    match v with
    | .osl esz' n c none none =>
      (match Nat.beq esz' esz, hp[n]? with
      | true, some (some (.tarr true false cur t l)) =>
        (match Nat.beq cur c with
        | true => if h : t = el then .ret (castL h l) else .no "own"
        | false => .no "own")
      | true, some (some (.arr true true false cur es)) =>
        (match Nat.beq cur c, dnAll S.T el es with
        | true, some l => .ret l
        | _, _ => .no "own")
      | _, _ => .no "own")
    | _ => .no "own"

theorem ownOk_of [Glob] {S : SCtx} (hS : S.Ok) {k : Nat} {f : FuncId} {σ : OSumm S.T} (hi : S.C.intrO f = none) (hflat : ∀ x a, S.T.rp σ.el x a → flat a = true)
    (h : ∀ x, (fnTrO S k f σ.args σ.el σ.esz x).run = σ.fn x) : OwnOk S.C S.T f σ where
  ans := by
    intro x as y hx hy
    rw [← h x] at hy
    unfold fnTrO at hy
    obtain ⟨v, hp', wh', a, ahp', g1, g2, g3, _, _, _, _, hy⟩ := (ex_sound hS k).f _ f _ [] [] _ _ as [] (upL_R hS.T [] hx) (show RH S.T [] [] from trivial) hy
    have fin : ∀ (n c : Nat) (o : SObj S.T.den), v = .osl σ.esz n c none none → hp'[n]? = some (some o) → o.cur = c → (∀ a', RO S.T hp' o a' → ∃ es, a' = .arr true true false es ∧ All2 (S.T.rp σ.el) y es ∧ es.length = o.len) →
        ∃ n cl es hpf, ownC S.C f as = some (.osl σ.esz n es.length 0 es.length none, hpf) ∧ hpf[n]? = some (some (.arr true cl false es)) ∧ es.all flat = true ∧ All2 (S.T.rp σ.el) y es := by
      intro n c o hv ho hc hro
      subst hv
      obtain ⟨a', ha', hR⟩ := g3.obj ho
      obtain ⟨es, e1, e2, e3⟩ := hro a' hR
      simp only [R] at g2
      obtain ⟨ver, ⟨o2, ho2, _, hver⟩, rfl⟩ := g2
      rw [ho] at ho2
      cases ho2
      have hv := hver hc.symm
      rw [← e3] at hv
      subst hv
      refine ⟨n, true, es, ahp', ?_, ?_, ?_, e2⟩
      · simp only [ownC, hi, g1]
      · rw [ha', e1]
      · rw [List.all_eq_true]
        intro z hz
        obtain ⟨i, hi, rfl⟩ := List.getElem_of_mem hz
        obtain ⟨w, _, hw⟩ := All2.get' e2 (i := i) (List.getElem?_eq_getElem hi)
        exact hflat w _ hw
    split at hy
    case h_2 => simp [Tr.run] at hy
    rename_i esz' n c
    split at hy
    · rename_i cur t l hb ho
      split at hy
      case h_2 => simp [Tr.run] at hy
      rename_i hcur
      split at hy
      case isFalse => simp [Tr.run] at hy
      rename_i ht
      simp only [Tr.run, Option.some.injEq] at hy
      have hc : cur = c := Nat.eq_of_beq_eq_true hcur
      have he : esz' = σ.esz := Nat.eq_of_beq_eq_true hb
      subst he
      refine fin n c _ rfl ho hc fun a' hR => ?_
      obtain ⟨es', rfl, h2⟩ := hR
      subst ht
      subst hy
      exact ⟨es', rfl, h2, (All2.length h2).symm⟩
    · rename_i cur es hb ho
      split at hy
      case h_2 => simp [Tr.run] at hy
      rename_i l hcur hl
      simp only [Tr.run, Option.some.injEq] at hy
      subst hy
      have hc : cur = c := Nat.eq_of_beq_eq_true hcur
      have he : esz' = σ.esz := Nat.eq_of_beq_eq_true hb
      subst he
      refine fin n c _ rfl ho hc fun a' hR => ?_
      obtain ⟨es', rfl, h2, _⟩ := hR
      exact ⟨es', rfl, dnAll_ok hS.T h2 hl, h2.length.symm⟩
    · simp [Tr.run] at hy

/-- The first functions of a list, as they are known. -/
def mkS (C : Ctx) (T : Tys) (M : List (Nat × MTy)) (hint : FuncId → Nat → Option Hint) (roll : FuncId → Nat → Bool) (L : List (Nat × Summ T)) (n : Nat) (O : List (Nat × OSumm T) := []) : SCtx :=
  ⟨C, T, lookS (L.take n), hint, roll, M, lookS O⟩

theorem lookS_app {α : Type} : ∀ {l m : List (Nat × α)} {n : Nat} {a : α}, lookS (l ++ m) n = some a → lookS l n = some a ∨ lookS m n = some a
  | [], m, n, a, h => .inr h
  | (k, b) :: l, m, n, a, h => by
    simp only [List.cons_append, lookS] at h ⊢
    split at h
    · exact .inl h
    · exact lookS_app h

section
variable {C : Ctx} {T : Tys} {M : List (Nat × MTy)} {hint : FuncId → Nat → Option Hint} {roll : FuncId → Nat → Bool} {L : List (Nat × Summ T)} {O : List (Nat × OSumm T)}

theorem mkS_zero [Glob] (hT : T.Ok) (hQ : Prg.Ok ⟨C.P, M⟩) (hZ : T.Zeros ⟨C.P, M⟩) (hO : ∀ g σ, lookS O g = some σ → OwnOk C T g σ) : (mkS C T M hint roll L 0 O).Ok :=
  ⟨hT, hQ, hZ, fun g σ h => by simp [mkS, lookS] at h, hO⟩

theorem mkS_step [Glob] {n : Nat} (hS : (mkS C T M hint roll L n O).Ok) {f : FuncId} {σ : Summ T} (hL : L[n]? = some (f, σ)) (h : SumOk C T f σ) : (mkS C T M hint roll L (n + 1) O).Ok := by
  refine ⟨hS.T, hS.Q, hS.Z, fun g τ hg => ?_, hS.own⟩
  simp only [mkS] at hg
  rw [List.take_add_one, hL] at hg
  rcases lookS_app hg with hg | hg
  · exact hS.sum g τ hg
  · have := lookS_mem hg
    simp only [Option.toList_some, List.mem_singleton] at this
    obtain ⟨rfl, rfl⟩ := this
    exact h

/-- One function more. -/
theorem mkS_next [Glob] {n : Nat} (hS : (mkS C T M hint roll L n O).Ok) {f : FuncId} {σ : Summ T} (hL : L[n]? = some (f, σ)) (hk : C.kind f = .pure) (hi : C.intr f = none) (k : Nat)
    (h : ∀ x, (fnTr (mkS C T M hint roll L n O) k f σ.args σ.res x).run = σ.fn x) : (mkS C T M hint roll L (n + 1) O).Ok :=
  mkS_step hS hL (sumOk_of hS hk hi h)

theorem mkS_sum [Glob] {n : Nat} (hS : (mkS C T M hint roll L n O).Ok) {f : FuncId} {σ : Summ T} (h : lookS (L.take n) f = some σ) : SumOk C T f σ := hS.sum f σ h
end

theorem sealV_bool [Glob] {hp : AHeap} {v : AV} {b : Bool} (h : (sealV 1000 v).run hp = some (.lit (.bool b))) : v = .lit (.bool b) := by
  cases v with
  | lit x =>
    simp only [sealV] at h
    split at h
    · simp [RM.run_pure] at h
    · simpa [RM.run_pure] using h
  | agg l => simp only [sealV, RM.run_bind] at h; cases hq : (sealL 999 l).run hp <;> rw [hq] at h <;> simp [RM.run_pure] at h
  | tup l => simp only [sealV, RM.run_bind] at h; cases hq : (sealL 999 l).run hp <;> rw [hq] at h <;> simp [RM.run_pure] at h
  | sl l => simp [sealV, RM.run_pure] at h
  | slx l c => simp [sealV, RM.run_pure] at h
  | eref e j => simp [sealV, RM.run_pure] at h
  | ref n ver i j =>
    simp only [sealV, RM.run_bind] at h
    cases hq : (RM.arr n ver).run hp with
    | none => rw [hq] at h; simp at h
    | some q =>
      obtain ⟨g, c, f, es⟩ := q
      rw [hq] at h
      simp only [Option.bind_some] at h
      split at h
      · split at h
        · simp [RM.run_pure] at h
        · rename_i e _ _
          rw [RM.run_bind] at h
          cases hq2 : (sealV 999 e).run hp <;> rw [hq2] at h <;> simp [RM.run_pure] at h
      · simp [RM.run_fail] at h
  | asl n v i j l c => simp [sealV, RM.run_fail] at h
  | mp n => simp [sealV, RM.run_fail] at h
  | any => simp [sealV, RM.run_fail] at h
  | ifc t x => simp only [sealV, RM.run_bind] at h; cases hq : (sealV 999 x).run hp <;> rw [hq] at h <;> simp [RM.run_pure] at h
  | clo fn f c =>
    simp only [sealV, RM.run_bind] at h
    cases hq : (sealL 999 f).run hp with
    | none => rw [hq] at h; simp at h
    | some f' =>
      cases hq2 : (sealL 999 c).run hp with
      | none => rw [hq, hq2] at h; simp at h
      | some c' => rw [hq, hq2] at h; simp [RM.run_pure] at h
  | osl esz n ver off len cap =>
    simp only [sealV, RM.run_bind] at h
    cases hq : (RM.arr n ver).run hp with
    | none => rw [hq] at h; simp at h
    | some q =>
      obtain ⟨g, c, f, es⟩ := q
      rw [hq] at h
      simp only [Option.bind_some] at h
      split at h
      · split at h
        · simp [RM.run_pure] at h
        · rw [RM.run_bind] at h
          cases hq2 : (sealL 999 ((es.drop off).take len)).run hp <;> rw [hq2] at h <;> simp [RM.run_pure] at h
      · simp [RM.run_fail] at h

open Go.RowKit in
/-- A law that is true by its model returns true. -/
theorem law_true [Glob] {C : Ctx} {T : Tys} (hC : C.Ok) {f : FuncId} {σ : Summ T} (h : SumOk C T f σ) (hi : C.intr f = none) {x : HL T.den (σ.args.map .v)} {y : HL T.den (σ.res.map .v)} (hy : σ.fn x = some y)
    (hres : ∀ l, All2 (rpV T) (ofHL _ y) l → l = [.lit (.bool true)]) {as : List AV} (ha : All2 (rpV T) (ofHL _ x) as) {W : World} (hg : GlobOk (Env.all W)) {vs : List Value} (hr : RepT (Env.all W) false as vs) :
    Calls C.P f vs.toArray W fun e w' => e = .returned (.bool true) ∧ Below W.heap.size W w' := by
  obtain ⟨v, hpf, l, h1, h2, _, h4⟩ := h.ans x as y ha hy
  have := hres l h4
  subst this
  have hv := sealV_bool h2
  subst hv
  unfold ansC at h1
  rw [hi] at h1
  simp only at h1
  split at h1
  case h_2 => simp at h1
  rename_i v0 hpf0 hrun
  simp only [Option.some.injEq, Prod.mk.injEq] at h1
  obtain ⟨rfl, rfl⟩ := h1
  exact law_calls hC hrun hg hr

end Go.PI
end

section
set_option linter.unusedVariables false
/- PS, part S: arguments that came in, as typed values. -/
namespace Go.PI

section
variable {P : Program} {n t : Nat} {l : List AV}

theorem shape_succ (h : Shape P n t l) : ∃ k, n = k + 1 := by
  cases n with
  | zero => simp [Shape] at h
  | succ k => exact ⟨k, rfl⟩

theorem shape_bool [Glob] (hu : P.underlying t = some .bool) (h : Shape P n t l) : ∃ b, l = [.lit (.bool b)] := by
  obtain ⟨k, rfl⟩ := shape_succ h
  simpa only [Shape, hu] using h

theorem shape_int [Glob] {i : IntKind} (hu : P.underlying t = some (.int i)) (h : Shape P n t l) : ∃ m : Int, l = [.lit (.int i m)] ∧ i.min ≤ m ∧ m ≤ i.max := by
  obtain ⟨k, rfl⟩ := shape_succ h
  simp only [Shape, hu] at h
  obtain ⟨m, h1, h2⟩ := h
  simp only [Lit.wf, Bool.and_eq_true, decide_eq_true_eq] at h2
  exact ⟨m, h1, h2⟩

theorem shape_str [Glob] (hu : P.underlying t = some .string) (h : Shape P n t l) : ∃ s : ByteArray, l = [.lit (.string s)] ∧ s.size ≤ maxLen := by
  obtain ⟨k, rfl⟩ := shape_succ h
  simpa only [Shape, hu] using h

/-- A slice's elements, one by one. -/
theorem shape_slice [Glob] {e : Nat} {α : Type} {Q : α → AV → Prop} {d : TypeDesc} (hu : P.underlying t = some (.slice e)) (he : P.underlying e = some d) (h : Shape P n t l)
    (helem : ∀ k x, (∃ cl, (if isAggD d then x = AV.agg cl else cl = [x]) ∧ Shape P k e cl) → ∃ y, Q y x) :
    ∃ ys xs, l = [.sl xs] ∧ All2 Q ys xs ∧ ys.length ≤ maxLen := by
  obtain ⟨k, rfl⟩ := shape_succ h
  simp only [Shape, hu] at h
  obtain ⟨xs, h1, h2, h3⟩ := h
  have : ∃ ys, All2 Q ys xs := by
    clear h1 h2
    induction xs with
    | nil => exact ⟨[], trivial⟩
    | cons x xs ih =>
      obtain ⟨ys, h4⟩ := ih fun y hy => h3 y (List.mem_cons_of_mem _ hy)
      obtain ⟨cl, h5, h6⟩ := h3 x (by simp)
      rw [he] at h5
      obtain ⟨y, h7⟩ := helem k x ⟨cl, h5, h6⟩
      exact ⟨y :: ys, h7, h4⟩
  obtain ⟨ys, h4⟩ := this
  exact ⟨ys, xs, h1, h4, by rw [h4.length]; exact h2⟩

theorem shape_struct [Glob] {fs : Array Field} (hu : P.underlying t = some (.struct fs)) (h : Shape P n t l) : l.length = P.cellsOf t ∧ ∃ k, ∀ f, f ∈ fs.toList → Shape P k f.type ((l.drop f.offset).take (P.cellsOf f.type)) := by
  obtain ⟨k, rfl⟩ := shape_succ h
  simp only [Shape, hu] at h
  exact ⟨h.1, k, h.2⟩

/-- With the table: a field by its place and type. -/
theorem shape_fields [Glob] {Q : Prg} (hQ : Q.Ok) {t : Nat} {m : MTy} (hm : Q.ty t = some m) {fs : List (Nat × Nat)} (hk : m.kind = .struct fs) (h : Shape Q.P n t l) :
    l.length = Q.P.cellsOf t ∧ ∃ k, ∀ q, q ∈ fs → Shape Q.P k q.2 ((l.drop q.1).take (Q.P.cellsOf q.2)) := by
  obtain ⟨d, hd, hk2⟩ := hQ.kind t m hm
  rw [hk] at hk2
  cases d <;> simp [kindOf] at hk2
  rename_i fs'
  subst hk2
  obtain ⟨h1, k, h2⟩ := shape_struct hd h
  refine ⟨h1, k, fun q hq => ?_⟩
  obtain ⟨f, hf, rfl⟩ := List.mem_map.1 hq
  exact h2 f hf

theorem shape_array [Glob] {Q : Prg} (hQ : Q.Ok) {t : Nat} {m : MTy} (hm : Q.ty t = some m) {c e : Nat} (hk : m.kind = .array c e) (h : Shape Q.P n t l) :
    l.length = Q.P.cellsOf t ∧ ∃ k, ∀ i, i < c → Shape Q.P k e ((l.drop (i * Q.P.cellsOf e)).take (Q.P.cellsOf e)) := by
  obtain ⟨d, hd, hk2⟩ := hQ.kind t m hm
  rw [hk] at hk2
  cases d <;> simp [kindOf] at hk2
  obtain ⟨rfl, rfl⟩ := hk2
  obtain ⟨k, rfl⟩ := shape_succ h
  simp only [Shape, hd] at h
  exact ⟨h.1, k, h.2⟩
end

/-- A type's cells, counted in the table. -/
theorem cellsOf_ty {Q : Prg} (hQ : Q.Ok) {t : Nat} {m : MTy} (h : Q.ty t = some m) : Q.P.cellsOf t = m.size := by
  obtain ⟨r, h1, _, h2, _⟩ := hQ.row t m h
  unfold tyOf at h1
  unfold Program.cellsOf
  cases hi : Q.P.info? t with
  | none => rw [hi] at h1; simp at h1
  | some i =>
    cases hu : Q.P.underlying t with
    | none => rw [hi, hu] at h1; simp at h1
    | some d =>
      rw [hi, hu] at h1
      simp only [Option.some.injEq] at h1
      rw [← h2, ← h1]
      simp

/-- A type's shape is that of what it stands for. -/
theorem shape_same [Glob] {P : Program} {n t t' : Nat} {l : List AV} (hu : P.underlying t = P.underlying t') (h : Shape P n t l) (hc : P.cellsOf t = P.cellsOf t' := by kernel_rfl) : Shape P n t' l := by
  obtain ⟨k, rfl⟩ := shape_succ h
  simp only [Shape] at h ⊢
  rw [← hu, ← hc]
  exact h

theorem leaf_int {k : IntKind} {n : Int} : isLeaf (.lit (.int k n)) = true := rfl
theorem leaf_bool {b : Bool} : isLeaf (.lit (.bool b)) = true := rfl
theorem leaf_str {s : ByteArray} : isLeaf (.lit (.string s)) = true := rfl

theorem RL_cons_iff {T : Tys} {H : SHeap T.den} {v : SV T.den} {vs : List (SV T.den)} {l : List AV} : RL T H (v :: vs) l ↔ ∃ c cs, l = c :: cs ∧ R T H v c ∧ RL T H vs cs := by
  cases l with
  | nil => simp [RL]
  | cons c cs =>
    simp only [RL]
    constructor
    · intro h; exact ⟨c, cs, rfl, h⟩
    · rintro ⟨c', cs', e, h⟩
      simp only [List.cons.injEq] at e
      obtain ⟨rfl, rfl⟩ := e
      exact h

theorem RL_nil_iff {T : Tys} {H : SHeap T.den} {l : List AV} : RL T H [] l ↔ l = [] := by
  cases l <;> simp [RL]

end Go.PI
end

section
set_option linter.unusedVariables false
/- PS, part U: what is lacking of laws to compute by: appends and literal slices. -/
namespace Go.PI
variable {C : Ctx} {P : Program} {dst : Option Tmp} {type : TypeId} {pos : String} {after : Array Edge} {guard : Option (Nat × Bool)} {s : St} {hp : AHeap} {nm : Nat} {ev : Operand → AV}

theorem ro_asNil [Glob] {d : Tmp} (h : C.acc s.fn d = false) : runO C ⟨some d, .assign (.const (.slice none 0 0)), type, pos, after, guard⟩ s = some (.norm { s with fr := s.fr.set d (.lit nilSl) }) := by
  refine lim_step (growO C _ _) (by simp [evO]) fun k => ?_
  simp only [evO, h]
  rfl

theorem op_app {x y : Operand} {t u : TypeId} : (opEff P nm ev ⟨dst, .call ⟨.builtin .append, #[x, y], #[t, u]⟩, type, pos, after, guard⟩).run hp = (appendA P nm t u (ev x) (ev y)).run hp := rfl

theorem op_build0 {t : TypeId} {r : TyRow} (hse : sliceElem P t = some r) (hz : (elemZero r).isSome = true) (hr : 0 < r.size) :
    (opEff P nm ev ⟨dst, .buildSlice t 0 #[], type, pos, after, guard⟩).run hp = some ⟨.osl r.size nm 0 0 0 (some 0), [(nm, .arr false true false [])]⟩ := by
  obtain ⟨z, hz⟩ := Option.isSome_iff_exists.1 hz
  simp only [opEff, buildSliceA, hse, hz]
  simp [hr, closedL, setParts]
  rfl

theorem app_none [Glob] {t u : TypeId} {r : TyRow} (hse : sliceElem P t = some r) (hst : isSliceTy P u = true) (hz : (elemZero r).isSome = true) (hr : 0 < r.size) {n ver off len : Nat} {cap : Option Nat} {c : Nat} :
    (appendA P nm t u (.osl r.size n ver off len cap) (.slx [] c)).run hp = some ⟨.osl r.size n ver off len cap, []⟩ := by
  simp [appendA, hse, srcA, hst, elemsA, RM.run_bind, RM.run_pure, hz, hr]

theorem app_first [Glob] {t u : TypeId} {r : TyRow} (hse : sliceElem P t = some r) (hst : isSliceTy P u = true) (hz : (elemZero r).isSome = true) (hr : 0 < r.size) {xs : List AV} {c n : Nat} (hall : xs.all (okElem r.isAgg r.size) = true)
    (hne : xs ≠ []) (hobj : (RM.arr n 0).run hp = some (false, true, false, [])) (h1 : xs.length * r.bytes ≤ 2 ^ 44) (h2 : xs.length ≤ 2 ^ 44) :
    (appendA P nm t u (.osl r.size n 0 0 0 (some 0)) (.slx xs c)).run hp = some ⟨.osl r.size nm xs.length 0 xs.length none, [(nm, .arr true true false xs)]⟩ := by
  have hn : xs.isEmpty = false := by cases xs <;> simp_all
  have hl : 0 < xs.length := List.length_pos_iff.2 hne
  simp only [appendA, hse, srcA, hst, elemsA, RM.run_bind, RM.run_pure, Option.bind_some, hz, hr, hall, decide_true, Bool.and_self, hn, hobj]
  simp [RM.run_pure, h1, h2, hne]

def nilE (d : Option Eff) : AV → Option Eff
  | .lit (.slice none 0 0) => some ⟨int 0, []⟩
  | _ => d

theorem nilE_nil {d : Option Eff} : nilE d (.lit (.slice none 0 0)) = some ⟨int 0, []⟩ := rfl

theorem op_cap0 {t : TypeId} {x : Operand} (h : isSliceTy P t = true) : (opEff P nm ev ⟨dst, .call ⟨.builtin .cap, #[x], #[t]⟩, type, pos, after, guard⟩).run hp =
    nilE (restE P nm ev ⟨dst, .call ⟨.builtin .cap, #[x], #[t]⟩, type, pos, after, guard⟩ hp) (ev x) := by
  unfold nilE
  split
  · rename_i hx; simp [opEff, builtinA, hx, h]; rfl
  · rfl

theorem op_len0 {t : TypeId} {x : Operand} (h : isSliceTy P t = true) : (opEff P nm ev ⟨dst, .call ⟨.builtin .len, #[x], #[t]⟩, type, pos, after, guard⟩).run hp =
    nilE (restE P nm ev ⟨dst, .call ⟨.builtin .len, #[x], #[t]⟩, type, pos, after, guard⟩ hp) (ev x) := by
  unfold nilE
  split
  · rename_i hx; simp [opEff, builtinA, hx, h, lenA]; rfl
  · rfl

theorem op_cutA [Glob] {t : TypeId} {x : Operand} {lo hi mx : Option Operand} : (opEff P nm ev ⟨dst, .slice t x lo hi mx, type, pos, after, guard⟩).run hp = (cutA P t (ev x) (lo.map ev) (hi.map ev) (mx.map ev)).map fun x => ⟨x, []⟩ := run_opt _ _

theorem cut_nil {t : TypeId} {r : TyRow} (hse : sliceElem P t = some r) : cutA P t (.lit nilSl) none (some (int 0)) none = some (.lit nilSl) := by
  simp [cutA, hse, optNat, asNat]

theorem cut_own {t : TypeId} {r : TyRow} (hse : sliceElem P t = some r) {n ver len : Nat} (hv : 0 < ver) : cutA P t (.osl r.size n ver 0 len none) none (some (int 0)) none = some (.osl r.size n ver 0 0 none) := by
  simp [cutA, hse, optNat, asNat, hv]

theorem app_make [Glob] {t u : TypeId} {r : TyRow} {k : IntKind} {z : AV} {n : Nat} (hse : sliceElem P t = some r) (hst : isSliceTy P u = false) (hu : P.underlying u = some (.int k)) (hz : elemZero r = some z) (hr : 0 < r.size)
    (ho : okElem r.isAgg r.size z = true) (hn : 0 < n) (h1 : n * r.bytes ≤ 2 ^ 44) (h2 : n ≤ 2 ^ 44) :
    (appendA P nm t u (.lit nilSl) (int n)).run hp = some ⟨.osl r.size nm n 0 n none, [(nm, .arr true true false (List.replicate n z))]⟩ := by
  have hne : (List.replicate n z).isEmpty = false := by cases n with
    | zero => omega
    | succ n => rfl
  have hall : (List.replicate n z).all (okElem r.isAgg r.size) = true := by simp [ho]
  simp only [appendA, hse, srcA, hst, hu, hz, asNat_cast, RM.run_bind, h1, h2, and_self, if_true, RM.run_pure, Option.bind_some, Option.isSome_some, hr, hall, decide_true, Bool.and_self, hne, List.length_replicate]

theorem seal_whole [Glob] {k n : Nat} {xs : List AV} {esz : Nat} {cap : Option Nat} {g f : Bool} (h : (RM.arr n xs.length).run hp = some (g, true, f, xs)) : (sealV (k + 1) (.osl esz n xs.length 0 xs.length cap)).run hp = some (.sl xs) := by
  simp [sealV, RM.run_bind, h, RM.run_pure]

/-- A nil slice is an empty one. -/
def unNil : AV → AV
  | .lit (.slice none 0 0) => .sl []
  | x => x

theorem unNil_ne {x : AV} (h : x ≠ .lit nilSl) : unNil x = x := by
  unfold unNil
  split
  · exact absurd rfl h
  · rfl

theorem rep_unNil {E : Env} {o : Bool} {x : AV} {v : Value} (h : Rep E o x v) : Rep E o (unNil x) v := by
  unfold unNil
  split
  · simp only [Rep] at h ⊢
    subst h
    exact ⟨none, 0, rfl, Nat.le_refl _, fun _ => rfl, .inl trivial⟩
  · exact h

theorem repS_unNil [Glob] {E : Env} {c : Array Value} {esz : Nat} : ∀ {xs : List AV} {pos : Nat}, RepS E xs c pos esz → RepS E (xs.map unNil) c pos esz
  | [], _, _ => by simp [RepS]
  | x :: xs, pos, h => by
    simp only [RepS, List.map_cons] at h ⊢
    obtain ⟨⟨v, h1, h2⟩, h3⟩ := h
    exact ⟨⟨v, rep_unNil h1, h2⟩, repS_unNil h3⟩

theorem rep_slNil [Glob] {E : Env} {o : Bool} {xs : List AV} {v : Value} (h : Rep E o (.sl xs) v) : Rep E o (.sl (xs.map unNil)) v := by
  simp only [Rep, List.length_map] at h ⊢
  obtain ⟨a, cap, h1, h2, h3, h4⟩ := h
  refine ⟨a, cap, h1, h2, h3, ?_⟩
  rcases h4 with h4 | ⟨b, of, esz, c, h5, h6, h7⟩
  · left; rw [h4]; rfl
  · exact .inr ⟨b, of, esz, c, h5, h6, repS_unNil h7⟩

def unSls : List AV → Option (List (List AV))
  | [] => some []
  | .sl l :: xs => (unSls xs).map fun r => l :: r
  | _ :: _ => none

theorem unSls_eq : ∀ {xs : List AV} {ls : List (List AV)}, unSls xs = some ls → xs = ls.map .sl
  | [], ls, h => by simp [unSls] at h; subst h; rfl
  | x :: xs, ls, h => by
    unfold unSls at h
    split at h
    · rename_i hh; simp at hh
    · rename_i l xs' hh
      simp only [List.cons.injEq] at hh
      obtain ⟨rfl, rfl⟩ := hh
      simp only [Option.map_eq_some_iff] at h
      obtain ⟨r, h1, rfl⟩ := h
      rw [unSls_eq h1]; rfl
    · simp at h

/-- What a list's copy is known by. -/
def cloneI (r : TyRow) : List AV → Option AV
  | [.sl xs] => if xs.all (okElem r.isAgg r.size) = true ∧ xs.length * r.bytes ≤ 2 ^ 44 ∧ xs.length ≤ 2 ^ 44 then some (.sl xs) else none
  | [.lit (.slice none 0 0)] => some (.sl [])
  | _ => none

theorem clone_ok [Glob] {C0 : Ctx} (hok : C0.Ok) {g : FuncId} {r : TyRow}
    (h0 : ∃ hpf, runF C0 g [.lit nilSl] [] = some (.val (.lit nilSl), hpf))
    (h1 : ∀ xs cap, xs.all (okElem r.isAgg r.size) = true → xs.length * r.bytes ≤ 2 ^ 44 → xs.length ≤ 2 ^ 44 → ∃ res hpf, runF C0 g [.slx xs cap] [] = some (.val res, hpf) ∧ (sealV 1000 res).run hpf = some (.sl xs))
    {as : List AV} {a : AV} (h : cloneI r as = some a) (Ec : Env) (w : World) (vs : List Value) (hI : Inv Ec [] w) (ha : RepT Ec false as vs) : Calls C0.P g vs.toArray w (CallPost Ec w [] (.val a)) := by
  have z : ∃ res hpf, runF C0 g [.lit nilSl] [] = some (.val res, hpf) ∧ (sealV 1000 res).run hpf = some (.sl []) := by
    obtain ⟨hpf, h0⟩ := h0
    exact ⟨_, _, h0, rfl⟩
  unfold cloneI at h
  split at h
  · rename_i xs
    split at h
    case isFalse => simp at h
    rename_i hc
    simp only [Option.some.injEq] at h
    subst h
    exact intr_two (r := .sl xs) hok (fun h => by subst h; exact z) (fun cap _ => h1 xs cap hc.1 hc.2.1 hc.2.2) Ec w vs hI ha
  · simp only [Option.some.injEq] at h
    subst h
    have ha' : RepT Ec false [.sl []] vs := by
      match vs, ha with
      | [], ha => simp [RepT] at ha
      | _ :: _ :: _, ha => simp [RepT] at ha
      | [v], ha =>
        simp only [RepT] at ha ⊢
        exact ⟨rep_unNil ha.1, trivial⟩
    exact intr_two hok (fun _ => z) (fun cap _ => h1 [] cap rfl (by simp) (by simp)) Ec w vs hI ha'
  · simp at h

/-- What the lists laid together are known by. -/
def concatI (r : TyRow) : List AV → Option AV
  | [.sl es] => (match unSls (es.map unNil) with
    | some ls => if ls.length ≤ 2 ^ 44 ∧ ls.flatten.all (okElem r.isAgg r.size) = true ∧ ls.flatten.length * r.bytes ≤ 2 ^ 44 ∧ ls.flatten.length ≤ 2 ^ 44 then some (.sl ls.flatten) else none
    | none => none)
  | [.lit (.slice none 0 0)] => some (.sl [])
  | _ => none

theorem intr_one [Glob] {C0 : Ctx} (hok : C0.Ok) {g : FuncId} {xs : List AV} {r : AV}
    (h0 : ∃ res hpf, runF C0 g [.sl xs] [] = some (.val res, hpf) ∧ (sealV 1000 res).run hpf = some r)
    (Ec : Env) (w : World) (vs : List Value) (hI : Inv Ec [] w) (ha : RepT Ec false [.sl xs] vs) : Calls C0.P g vs.toArray w (CallPost Ec w [] (.val r)) := by
  obtain ⟨res, hpf, he, h⟩ := h0
  have out : (pureOut [.sl xs] hpf (.val res)).run [] = some (.val r, []) := by
    simp only [pureOut, h]
    split
    · rfl
    · simp [namesL, names, freezeR, RM.run_bind, RM.run_pure]
  have ha2 : RepT Ec true [.sl xs] vs := by
    match vs, ha with
    | [], ha => simp [RepT] at ha
    | _ :: _ :: _, ha => simp [RepT] at ha
    | [v], ha =>
      simp only [RepT] at ha ⊢
      exact ⟨Rep.widen ha.1, trivial⟩
  obtain ⟨k, hk⟩ := (lim_some (growF C0 g [.sl xs] [])).1 he
  have hseal : (sealL 1000 [.sl xs]).run [] = some [.sl xs] := rfl
  refine pure_call hI ha2 hseal out fun Ec' hI' ha' => ?_
  refine (sound hok k).1 g [.sl xs] [] _ _ hk Ec' w vs hI' ?_
  match vs, ha' with
  | [], ha => simp [RepT] at ha
  | _ :: _ :: _, ha => simp [RepT] at ha
  | [v], ha =>
    simp only [RepT] at ha ⊢
    exact ⟨Rep.widen ha.1, trivial⟩

theorem concat_ok [Glob] {C0 : Ctx} (hok : C0.Ok) {g : FuncId} {r : TyRow}
    (h1 : ∀ ls : List (List AV), ls.length ≤ 2 ^ 44 → (∀ l ∈ ls, l.all (okElem r.isAgg r.size) = true) → ls.flatten.length * r.bytes ≤ 2 ^ 44 → ls.flatten.length ≤ 2 ^ 44 →
      ∃ res hpf, runF C0 g [.sl (ls.map .sl)] [] = some (.val res, hpf) ∧ (sealV 1000 res).run hpf = some (.sl ls.flatten))
    {as : List AV} {a : AV} (h : concatI r as = some a) (Ec : Env) (w : World) (vs : List Value) (hI : Inv Ec [] w) (ha : RepT Ec false as vs) : Calls C0.P g vs.toArray w (CallPost Ec w [] (.val a)) := by
  unfold concatI at h
  split at h
  · rename_i es
    split at h
    case h_2 => simp at h
    rename_i ls hls
    split at h
    case isFalse => simp at h
    rename_i hc
    simp only [Option.some.injEq] at h
    subst h
    have he := unSls_eq hls
    refine intr_one hok (xs := ls.map .sl) (h1 ls hc.1 (fun l hl => ?_) hc.2.2.1 hc.2.2.2) Ec w vs hI ?_
    · have := hc.2.1
      rw [List.all_eq_true] at this ⊢
      exact fun x hx => this x (List.mem_flatten.2 ⟨l, hl, hx⟩)
    · rw [← he]
      match vs, ha with
      | [], ha => simp [RepT] at ha
      | _ :: _ :: _, ha => simp [RepT] at ha
      | [v], ha =>
        simp only [RepT] at ha ⊢
        exact ⟨rep_slNil ha.1, trivial⟩
  · simp only [Option.some.injEq] at h
    subst h
    refine intr_one hok (xs := []) (h1 [] (by simp) (by simp) (by simp) (by simp)) Ec w vs hI ?_
    match vs, ha with
    | [], ha => simp [RepT] at ha
    | _ :: _ :: _, ha => simp [RepT] at ha
    | [v], ha =>
      simp only [RepT] at ha ⊢
      exact ⟨rep_unNil ha.1, trivial⟩
  · simp at h

end Go.PI
end

section
set_option linter.unusedVariables false
/- PS, part V: copies of lists and lists laid together, as models. -/
namespace Go.PI

def roomM (b n : Nat) : Bool := decide (n * b ≤ 2 ^ 44) && decide (n ≤ 2 ^ 44)
def cloneM {α : Type} (b : Nat) (x : List α) : Option (List α) := bif roomM b x.length then some x else none
def concatM {α : Type} (b : Nat) (x : List (List α)) : Option (List α) := bif decide (x.length ≤ 2 ^ 44) && roomM b x.flatten.length then some x.flatten else none

/-- A list that may be nil. -/
def rps {α : Type} (rpe : α → AV → Prop) (x : List α) (a : AV) : Prop := (∃ l, a = .sl l ∧ All2 rpe x l) ∨ (x = [] ∧ a = .lit nilSl)

theorem clone_ans [Glob] {α : Type} {rpe : α → AV → Prop} {r : TyRow} (hok : ∀ x a, rpe x a → okElem r.isAgg r.size a = true) {x y : List α} {a : AV} (ha : rps rpe x a) (hy : cloneM r.bytes x = some y) :
    ∃ l, cloneI r [a] = some (.sl l) ∧ All2 rpe y l := by
  unfold cloneM roomM at hy
  rcases ha with ⟨l, rfl, h⟩ | ⟨rfl, rfl⟩
  · cases hq : decide (x.length * r.bytes ≤ 2 ^ 44) && decide (x.length ≤ 2 ^ 44)
    · rw [hq] at hy; simp at hy
    rw [hq] at hy
    simp only [cond_true, Option.some.injEq] at hy
    subst hy
    simp only [Bool.and_eq_true, decide_eq_true_eq] at hq
    rw [h.length] at hq
    refine ⟨l, ?_, h⟩
    unfold cloneI
    simp only
    have hall : l.all (okElem r.isAgg r.size) = true := by
      refine List.all_eq_true.2 fun z hz => ?_
      obtain ⟨i, hi⟩ := List.getElem?_of_mem hz
      obtain ⟨u, _, hu⟩ := h.get' hi
      exact hok _ _ hu
    rw [if_pos ⟨hall, hq.1, hq.2⟩]
  · simp only [List.length_nil, Nat.zero_mul] at hy
    simp at hy
    subst hy
    exact ⟨[], rfl, trivial⟩

theorem unSls_all2 [Glob] {α : Type} {rpe : α → AV → Prop} : ∀ {x : List (List α)} {es : List AV}, All2 (rps rpe) x es → ∃ ls, unSls (es.map unNil) = some ls ∧ All2 (All2 rpe) x ls
  | [], es, h => by
    have := h.nil_left
    subst this
    exact ⟨[], rfl, trivial⟩
  | x :: xs, [], h => by simp [All2] at h
  | x :: xs, e :: es, h => by
    simp only [All2] at h
    obtain ⟨h1, h2⟩ := h
    obtain ⟨ls, h3, h4⟩ := unSls_all2 h2
    rcases h1 with ⟨l, rfl, h⟩ | ⟨rfl, rfl⟩
    · refine ⟨l :: ls, ?_, h, h4⟩
      simp only [List.map_cons, unNil, unSls, h3, Option.map_some]
    · refine ⟨[] :: ls, ?_, trivial, h4⟩
      simp only [List.map_cons, unNil, unSls, h3, Option.map_some]

theorem all2_flatten [Glob] {α : Type} {rpe : α → AV → Prop} : ∀ {x : List (List α)} {ls : List (List AV)}, All2 (All2 rpe) x ls → All2 rpe x.flatten ls.flatten
  | [], ls, h => by
    have := h.nil_left
    subst this
    exact trivial
  | x :: xs, [], h => by simp [All2] at h
  | x :: xs, e :: es, h => by
    simp only [All2] at h
    simp only [List.flatten_cons]
    exact h.1.append (all2_flatten h.2)

theorem concat_ans [Glob] {α : Type} {rpe : α → AV → Prop} {r : TyRow} (hok : ∀ x a, rpe x a → okElem r.isAgg r.size a = true) {x : List (List α)} {y : List α} {a : AV} (ha : rps (rps rpe) x a) (hy : concatM r.bytes x = some y) :
    ∃ l, concatI r [a] = some (.sl l) ∧ All2 rpe y l := by
  unfold concatM roomM at hy
  cases hq : decide (x.length ≤ 2 ^ 44) && (decide (x.flatten.length * r.bytes ≤ 2 ^ 44) && decide (x.flatten.length ≤ 2 ^ 44))
  · rw [hq] at hy; simp at hy
  rw [hq] at hy
  simp only [cond_true, Option.some.injEq] at hy
  subst hy
  simp only [Bool.and_eq_true, decide_eq_true_eq] at hq
  rcases ha with ⟨es, rfl, h⟩ | ⟨rfl, rfl⟩
  · obtain ⟨ls, h1, h2⟩ := unSls_all2 h
    have h3 := all2_flatten h2
    rw [h3.length, h2.length] at hq
    refine ⟨ls.flatten, ?_, h3⟩
    unfold concatI
    simp only
    rw [h1]
    simp only
    have hall : ls.flatten.all (okElem r.isAgg r.size) = true := by
      refine List.all_eq_true.2 fun z hz => ?_
      obtain ⟨i, hi⟩ := List.getElem?_of_mem hz
      obtain ⟨u, _, hu⟩ := h3.get' hi
      exact hok _ _ hu
    rw [if_pos ⟨hq.1, hall, hq.2.1, hq.2.2⟩]
  · exact ⟨[], rfl, trivial⟩

/-- A function known by hand: of one argument, its answer one value. -/
theorem sumOk_hand [Glob] {C : Ctx} {T : Tys} {g : FuncId} {t u : Nat} {I : List AV → Option AV} {F : T.den t → Option (T.den u)} (hk : C.kind g = .pure) (hi : C.intr g = some I)
    (h : ∀ x a y, T.rp t x a → F x = some y → ∃ l, I [a] = some (.sl l) ∧ T.rp u y (.sl l)) : SumOk C T g ⟨[t], [u], F⟩ where
  kind := hk
  ans := by
    intro x as y hx hy
    match as, hx with
    | [], hx => exact False.elim hx
    | _ :: _ :: _, hx => exact False.elim hx.2
    | [a], hx =>
      obtain ⟨l, h1, h2⟩ := h x a y hx.1 hy
      refine ⟨.sl l, [], [.sl l], ?_, rfl, rfl, ?_⟩
      · simp only [ansC, hi, h1]; rfl
      · exact ⟨h2, trivial⟩

end Go.PI
end

section
set_option linter.unusedVariables false
/- PS, part W: a copy of a slice is the caller's own. -/
namespace Go.PI

/-- A nil slice, as an empty one of one's own. -/
theorem own_nil [Glob] {Ec : Env} {w w' : World} {en : Ending} (esz : Nat) (h : CallPost Ec w [] (.val (.lit nilSl)) en w') :
    CallPost Ec w [some (.arr true true false [])] (.val (.osl esz 0 0 0 0 none)) en w' := by
  obtain ⟨E', hx, hI, hf, hr⟩ := h
  cases en with
  | panicked ch => exact hr.elim
  | outgrown => exact hr.elim
  | returned v =>
    simp only [ResOk, Rep] at hr
    obtain ⟨E2, hx2, hI2, hf2, hr2⟩ := virt_ok hI (esz := esz)
    refine ⟨E2, hx.trans hx2, hI2, hf.trans hf2, ?_⟩
    simp only [ResOk]
    rw [hr]
    exact hr2

/-- An empty slice without room, as one of one's own. -/
theorem own_empty [Glob] {Ec : Env} {w w' : World} {en : Ending} {hpf : AHeap} {n esz : Nat} {cl : Bool} (hn : hpf[n]? = some (some (.arr false cl false [])))
    (h : CallPost Ec w hpf (.val (.osl esz n 0 0 0 (some 0))) en w') : CallPost Ec w (hpf.set n (some (.arr true true false []))) (.val (.osl esz n 0 0 0 none)) en w' := by
  obtain ⟨E', hx, hI, hf, hr⟩ := h
  cases en with
  | panicked ch => exact hr.elim
  | outgrown => exact hr.elim
  | returned v =>
    have hget : ∀ i o, (hpf.set n (some (AObj.arr true true false [])))[i]? = some (some o) → (i = n ∧ o = .arr true true false []) ∨ (i ≠ n ∧ hpf[i]? = some (some o)) := by
      intro i o ho
      by_cases e : i = n
      · subst e
        rw [getElem?_set_eq hn] at ho
        simp only [Option.some.injEq] at ho
        exact .inl ⟨rfl, ho.symm⟩
      · rw [List.getElem?_set_ne (fun h => e h.symm)] at ho
        exact .inr ⟨e, ho⟩
    have hblk : ∀ i b, BlkOf E' (hpf.set n (some (AObj.arr true true false []))) i b → BlkOf E' hpf i b := by
      rintro i b ⟨o, l, ho, hl, hb⟩
      rcases hget i o ho with ⟨rfl, rfl⟩ | ⟨_, ho⟩
      · exact ⟨_, l, hn, hl, hb⟩
      · exact ⟨o, l, ho, hl, hb⟩
    have hobj := hI.objs n _ hn
    refine ⟨E', hx, ⟨by simpa using hI.len, ?_, ?_, fun n1 n2 b h1 h2 => hI.inj n1 n2 b (hblk _ _ h1) (hblk _ _ h2), hI.mem, hI.ownb, hI.glob⟩, hf, ?_⟩
    · intro i o ho
      rcases hget i o ho with ⟨rfl, rfl⟩ | ⟨_, ho⟩
      · obtain ⟨l, hl, hv, hm⟩ := hobj
        refine ⟨l, hl, hv, ?_⟩
        cases hb : l.blk with
        | none => rw [hb] at hm; exact ⟨rfl, rfl⟩
        | some b =>
          rw [hb] at hm
          obtain ⟨c, T, a1, a2, a3, a4, a5, _, _⟩ := hm
          exact ⟨c, T, a1, a2, a3, a4, a5, (fun h => by cases h), fun i e he => by simp at he⟩
      · exact hI.objs i o ho
    · intro i ver h
      by_cases e : i = n
      · subst e; rw [getElem?_set_eq hn] at h; simp at h
      · rw [List.getElem?_set_ne (fun h => e h.symm)] at h
        exact hI.free i ver h
    · simp only [ResOk, Rep] at hr ⊢
      obtain ⟨h1, h2, l, hl, hez, hv, hm⟩ := hr
      refine ⟨h1, h2, l, hl, hez, hv, ?_⟩
      obtain ⟨l2, hl2, _, hm2⟩ := hobj
      rw [show ([] : List AV).length = 0 from rfl, hl] at hl2
      cases hl2
      cases hb : l.blk with
      | none => rw [hb] at hm; simp at hm
      | some b =>
        rw [hb] at hm hm2
        obtain ⟨c, T, _, _, _, _, _, hg, _⟩ := hm2
        obtain ⟨a, ccap, rfl, hk, _, h3, h4, h5, h6⟩ := hm
        have := hk 0 rfl
        subst this
        have htot := hg rfl
        exact ⟨a, 0, rfl, fun k hk' => by simp at hk', fun _ => by simp at htot; omega, h3, h4, h5, h6⟩

/-- What a copy gives. -/
def cloneO (r : TyRow) : List AV → Option (AV × AHeap)
  | [.sl xs] => if xs.all (okElem r.isAgg r.size) = true ∧ xs.length * r.bytes ≤ 2 ^ 44 ∧ xs.length ≤ 2 ^ 44 then some (.osl r.size 0 xs.length 0 xs.length none, [some (.arr true true false xs)]) else none
  | [.lit (.slice none 0 0)] => some (.osl r.size 0 0 0 0 none, [some (.arr true true false [])])
  | _ => none

theorem own_same {nm n m esz : Nat} {cl cl' : Bool} {es : List AV} {hpf hpf' : AHeap} (h : hpf[n]? = some (some (.arr true cl false es))) (h' : hpf'[m]? = some (some (.arr true cl' false es))) :
    ownOut nm (.osl esz n es.length 0 es.length none) hpf = ownOut nm (.osl esz m es.length 0 es.length none) hpf' := by
  simp only [ownOut, h, h']

theorem cloneO_ok [Glob] {C0 : Ctx} (hok : C0.Ok) {g : FuncId} {r : TyRow}
    (h0 : runF C0 g [.lit nilSl] [] = some (.val (.lit nilSl), []))
    (he : ∀ cap, ∃ n cl hpf, runF C0 g [.slx [] cap] [] = some (.val (.osl r.size n 0 0 0 (some 0)), hpf) ∧ hpf[n]? = some (some (.arr false cl false [])))
    (h1 : ∀ xs cap, xs ≠ [] → xs.all (okElem r.isAgg r.size) = true → xs.length * r.bytes ≤ 2 ^ 44 → xs.length ≤ 2 ^ 44 →
      ∃ n cl hpf, runF C0 g [.slx xs cap] [] = some (.val (.osl r.size n xs.length 0 xs.length none), hpf) ∧ hpf[n]? = some (some (.arr true cl false xs)))
    {as : List AV} {a : AV} {hpf : AHeap} (h : cloneO r as = some (a, hpf)) (Ec : Env) (w : World) (vs : List Value) (hI : Inv Ec [] w) (ha : RepT Ec false as vs) :
    Calls C0.P g vs.toArray w (fun en w' => ∃ r' hpf', CallPost Ec w hpf' (.val r') en w' ∧ ∀ nm, ownOut nm r' hpf' = ownOut nm a hpf) := by
  have nilCase : ∀ v, v = nilSl → Calls C0.P g #[v] w (fun en w' => ∃ r' hpf', CallPost Ec w hpf' (.val r') en w' ∧ ∀ nm, ownOut nm r' hpf' = ownOut nm (.osl r.size 0 0 0 0 none) [some (.arr true true false [])]) := by
    intro v hv
    obtain ⟨k, hk⟩ := (lim_some (growF C0 g [.lit nilSl] [])).1 h0
    refine ((sound hok k).1 g [.lit nilSl] [] _ _ hk Ec w [v] hI (by simp only [RepT, Rep]; exact ⟨hv, trivial⟩)).mono fun en w' hp => ?_
    exact ⟨_, _, own_nil r.size hp, fun _ => rfl⟩
  unfold cloneO at h
  split at h
  · rename_i xs
    split at h
    case isFalse => simp at h
    rename_i hc
    simp only [Option.some.injEq, Prod.mk.injEq] at h
    obtain ⟨rfl, rfl⟩ := h
    match vs, ha with
    | [], ha => simp [RepT] at ha
    | _ :: _ :: _, ha => simp [RepT] at ha
    | [v], ha =>
      have hrep := ha
      simp only [RepT, Rep] at hrep
      obtain ⟨⟨ad, cap, hv, hle, hn, hor⟩, _⟩ := hrep
      cases ad with
      | none =>
        have hx : xs = [] := by
          rcases hor with h | ⟨b, of, esz, c, h, _⟩
          · exact h
          · simp at h
        subst hx
        exact nilCase v (by rw [hv, hn rfl]; rfl)
      | some ad =>
        have hrep2 : RepT Ec true [.slx xs cap] [v] := by
          simp only [RepT, Rep]
          refine ⟨⟨ad, hv, hle, ?_⟩, trivial⟩
          rcases hor with h | ⟨b, of, esz, c, h2, h3, h4⟩
          · exact .inl h
          · simp only [Option.some.injEq] at h2
            exact .inr ⟨b, of, esz, c, h2, h3, h4⟩
        by_cases hx : xs = []
        · subst hx
          obtain ⟨n, cl, hpf, hr, hob⟩ := he cap
          obtain ⟨k, hk⟩ := (lim_some (growF C0 g [.slx [] cap] [])).1 hr
          refine ((sound hok k).1 g [.slx [] cap] [] _ _ hk Ec w [v] hI hrep2).mono fun en w' hp => ?_
          exact ⟨_, _, own_empty hob hp, fun nm => own_same (es := []) (getElem?_set_eq hob) rfl⟩
        · obtain ⟨n, cl, hpf, hr, hob⟩ := h1 xs cap hx hc.1 hc.2.1 hc.2.2
          obtain ⟨k, hk⟩ := (lim_some (growF C0 g [.slx xs cap] [])).1 hr
          refine ((sound hok k).1 g [.slx xs cap] [] _ _ hk Ec w [v] hI hrep2).mono fun en w' hp => ?_
          exact ⟨_, _, hp, fun nm => own_same hob rfl⟩
  · simp only [Option.some.injEq, Prod.mk.injEq] at h
    obtain ⟨rfl, rfl⟩ := h
    match vs, ha with
    | [], ha => simp [RepT] at ha
    | _ :: _ :: _, ha => simp [RepT] at ha
    | [v], ha =>
      simp only [RepT, Rep] at ha
      exact nilCase v ha.1
  · simp at h

theorem cloneO_ans {α : Type} {rpe : α → AV → Prop} {r : TyRow} (hok : ∀ x a, rpe x a → okElem r.isAgg r.size a = true) {x y : List α} {a : AV} (ha : rps rpe x a) (hy : cloneM r.bytes x = some y) :
    ∃ l, cloneO r [a] = some (.osl r.size 0 l.length 0 l.length none, [some (.arr true true false l)]) ∧ All2 rpe y l := by
  unfold cloneM roomM at hy
  rcases ha with ⟨l, rfl, h⟩ | ⟨rfl, rfl⟩
  · cases hq : decide (x.length * r.bytes ≤ 2 ^ 44) && decide (x.length ≤ 2 ^ 44)
    · rw [hq] at hy; simp at hy
    rw [hq] at hy
    simp only [cond_true, Option.some.injEq] at hy
    subst hy
    simp only [Bool.and_eq_true, decide_eq_true_eq] at hq
    rw [h.length] at hq
    refine ⟨l, ?_, h⟩
    unfold cloneO
    simp only
    have hall : l.all (okElem r.isAgg r.size) = true := by
      refine List.all_eq_true.2 fun z hz => ?_
      obtain ⟨i, hi⟩ := List.getElem?_of_mem hz
      obtain ⟨u, _, hu⟩ := h.get' hi
      exact hok u z hu
    rw [if_pos ⟨hall, hq.1, hq.2⟩]
  · have : y = [] := by
      simp only [List.length_nil, Nat.zero_mul, Nat.zero_le, decide_true, Bool.and_self, cond_true, Option.some.injEq] at hy
      exact hy.symm
    subst this
    exact ⟨[], rfl, trivial⟩

theorem ownOk_hand [Glob] {C : Ctx} {T : Tys} {g : FuncId} {t el esz : Nat} {I : List AV → Option (AV × AHeap)} {F : T.den t → Option (List (T.den el))} (hi : C.intrO g = some I)
    (hflat : ∀ x a, T.rp el x a → flat a = true)
    (h : ∀ x a y, T.rp t x a → F x = some y → ∃ l, I [a] = some (.osl esz 0 l.length 0 l.length none, [some (.arr true true false l)]) ∧ All2 (T.rp el) y l) : OwnOk C T g ⟨[t], el, esz, F⟩ where
  ans := by
    intro x as y hx hy
    match as, hx with
    | [], hx => exact False.elim hx
    | _ :: _ :: _, hx => exact False.elim hx.2
    | [a], hx =>
      obtain ⟨l, h1, h2⟩ := h x a y hx.1 hy
      refine ⟨0, true, l, [some (.arr true true false l)], ?_, rfl, ?_, h2⟩
      · simp only [ownC, hi, h1]
      · rw [List.all_eq_true]
        intro z hz
        obtain ⟨i, hi⟩ := List.getElem?_of_mem hz
        obtain ⟨u, _, hu⟩ := h2.get' hi
        exact hflat u z hu

end Go.PI
end

section
set_option linter.unusedVariables false
/- Plain laws: loops of models. -/
namespace Go.Pl
open Go.PI

theorem next [Glob] {τ ω : Type} {f : τ → Option (τ ⊕ ω)} {x y : τ} (h : f x = some (.inl y)) : loopM f x = loopM f y := by
  rw [loopM_eq, h]; rfl
theorem out [Glob] {τ ω : Type} {f : τ → Option (τ ⊕ ω)} {x : τ} {w : ω} (h : f x = some (.inr w)) : loopM f x = some w := by
  rw [loopM_eq, h]; rfl

theorem range_from_all (p : Nat → Bool) (n i : Nat) (hi : i < n) : (List.range' i (n - i)).all p = (p i && (List.range' (i + 1) (n - (i + 1))).all p) := by
  obtain ⟨m, hm⟩ : ∃ m, n - i = m + 1 := ⟨n - i - 1, by omega⟩
  have : n - (i + 1) = m := by omega
  rw [hm, this, List.range'_succ, List.all_cons]

/-- A loop over the places of a list that goes out at the first bad one. -/
theorem loop_all [Glob] {τ ω : Type} {f : τ → Option (τ ⊕ ω)} (st : Nat → τ) (p : Nat → Bool) (bad : Nat → ω) (n : Nat) (e : ω)
    (h : ∀ i, i < n → f (st i) = some (bif p i then .inl (st (i + 1)) else .inr (bad i))) (he : f (st n) = some (.inr e)) :
    (List.range n).all p = true ∧ loopM f (st 0) = some e ∨ (List.range n).all p = false ∧ ∃ i, i < n ∧ p i = false ∧ loopM f (st 0) = some (bad i) := by
  have key : ∀ m i, m = n - i → i ≤ n → (List.range' i (n - i)).all p = true ∧ loopM f (st i) = some e ∨ (List.range' i (n - i)).all p = false ∧ ∃ j, j < n ∧ p j = false ∧ loopM f (st i) = some (bad j) := by
    intro m
    induction m with
    | zero =>
      intro i hm hi
      have : i = n := by omega
      subst this
      left
      rw [Nat.sub_self]
      exact ⟨rfl, out he⟩
    | succ m ih =>
      intro i hm hi
      have hlt : i < n := by omega
      have hs := h i hlt
      rw [range_from_all p n i hlt]
      cases hp : p i with
      | false =>
        rw [hp] at hs
        right
        exact ⟨by simp, i, hlt, hp, out hs⟩
      | true =>
        rw [hp] at hs
        rw [next hs]
        simpa using ih (i + 1) (by omega) (by omega)
  have := key n 0 rfl (Nat.zero_le _)
  rwa [Nat.sub_zero, ← List.range_eq_range'] at this

theorem range_all {α : Type} {l : List α} {q : α → Bool} {p : Nat → Bool} (h : ∀ i (hi : i < l.length), p i = q l[i]) : (List.range l.length).all p = l.all q := by
  rw [Bool.eq_iff_iff, List.all_eq_true, List.all_eq_true]
  constructor
  · intro hp x hx
    obtain ⟨i, hi, rfl⟩ := List.getElem_of_mem hx
    rw [← h i hi]; exact hp i (List.mem_range.2 hi)
  · intro hq i hi
    have hi := List.mem_range.1 hi
    rw [h i hi]; exact hq _ (List.getElem_mem hi)

/-- The same with one bad answer. -/
theorem loop_list [Glob] {α τ ω : Type} {f : τ → Option (τ ⊕ ω)} (l : List α) (st : Nat → τ) (q : α → Bool) (bad e : ω) {x0 : τ}
    (h : ∀ i (hi : i < l.length), f (st i) = some (bif q l[i] then .inl (st (i + 1)) else .inr bad)) (he : f (st l.length) = some (.inr e)) (hx : x0 = st 0) :
    loopM f x0 = some (bif l.all q then e else bad) := by
  subst hx
  have hp : ∀ i (hi : i < l.length), (fun i => (l[i]?.map q).getD false) i = q l[i] := by
    intro i hi
    simp [List.getElem?_eq_getElem hi]
  rcases loop_all st (fun i => (l[i]?.map q).getD false) (fun _ => bad) l.length e (fun i hi => by have := hp i hi; simp only at this; rw [this]; exact h i hi) he with ⟨h1, h2⟩ | ⟨h1, i, _, _, h2⟩
  · rw [range_all hp] at h1; rw [h2, h1]; rfl
  · rw [range_all hp] at h1; rw [h2, h1]; rfl

theorem wrap_succ {i n : Nat} (h : i < n) (hn : n ≤ 2 ^ 63 - 1) : IntKind.i64.wrap ((i : Int) + 1) = ((i + 1 : Nat) : Int) := by
  rw [IntWalk.i64_in _ (by omega)]; omega

end Go.Pl
end

section
set_option linter.unusedVariables false
/- The types of this seat, as Lean's (printed by gen_tys.py out of the dump). -/
namespace Go.Proofs.YtfjkpjgbigcpiaaDoor
open Go.PI

/-- The package's variable that the code reads: queuelab/random.mixing. A copy of a slice is the caller's. -/
noncomputable instance : Glob := ⟨fun g => match Nat.beq g 0 with
  | true => some #[.int .u64 30, .int .u64 13787848793156543929, .int .u64 27, .int .u64 10723151780598845931, .int .u64 31, .int .u64 1]
  | false => none, fun f => Nat.beq f 37⟩

structure A8 (α : Type) where
  e0 : α
  e1 : α
  e2 : α
  e3 : α
  e4 : α
  e5 : α
  e6 : α
  e7 : α

structure Policy where
  Kind : Int
  A : Int
  B : Int
  C : Int

structure Packet where
  Flow : Int
  Sub : Int
  Number : Int
  Data : Int
  Size : Int
  Sent : Int
  Able : Bool
  Marked : Bool

structure Queued where
  P : Packet
  At : Int

structure Queue where
  Policy : Policy
  Room : Int
  Lists : List (List Queued)
  Vars : A8 Int
  Seed : Int

structure Step where
  Wait : Int
  Take : Bool
  P : Packet

def den : Nat → Type
  | 2 => Int
  | 3 => Int
  | 4 => Bool
  | 5 => Int
  | 9 => ByteArray
  | 22 => Policy
  | 23 => Policy
  | 24 => List (List Queued)
  | 25 => A8 Int
  | 26 => Int
  | 27 => Queue
  | 28 => Queue
  | 29 => Packet
  | 30 => Packet
  | 33 => List Packet
  | 34 => Int
  | 42 => List Step
  | 43 => List Queued
  | 44 => Queued
  | 45 => Queued
  | 46 => Int
  | 47 => Step
  | 48 => Step
  | 59 => Queue
  | 60 => Queue
  | 56 => Queue
  | 1003 => Int
  | 1056 => Queue
  | _ => Unit

abbrev V := SV den

def dI (k : IntKind) : V → Option Int
  | .lit (.int k' n) => if k = k' then some n else none
  | _ => none
def dB : V → Option Bool
  | .lit (.bool b) => some b
  | _ => none
def dS : V → Option ByteArray
  | .lit (.string s) => some s
  | _ => none

def up2 (x : Int) : V := .lit (.int .i64 x)
def dn2 (v : V) : Option Int := dI .i64 v
def rp2 (x : Int) (a : AV) : Prop := a = .lit (.int .i64 x)
def up3 (x : Int) : V := .lit (.int .i64 x)
def dn3 (v : V) : Option Int := dI .i64 v
def rp3 (x : Int) (a : AV) : Prop := a = .lit (.int .i64 x)
def up4 (x : Bool) : V := .lit (.bool x)
def dn4 (v : V) : Option Bool := dB v
def rp4 (x : Bool) (a : AV) : Prop := a = .lit (.bool x)
def up5 (x : Int) : V := .lit (.int .u8 x)
def dn5 (v : V) : Option Int := dI .u8 v
def rp5 (x : Int) (a : AV) : Prop := a = .lit (.int .u8 x)
def up9 (x : ByteArray) : V := .lit (.string x)
def dn9 (v : V) : Option ByteArray := dS v
def rp9 (x : ByteArray) (a : AV) : Prop := a = .lit (.string x)
def up22 (x : Policy) : V := .agg [.lit (.int .i64 x.Kind), .lit (.int .i64 x.A), .lit (.int .i64 x.B), .lit (.int .i64 x.C)]
def dn22 : V → Option Policy
  | .agg [a0, a1, a2, a3] => (dn3 a0).bind fun b0 => (dn3 a1).bind fun b1 => (dn3 a2).bind fun b2 => (dn3 a3).bind fun b3 => some ⟨b0, b1, b2, b3⟩
  | _ => none
def rp22 (x : Policy) (a : AV) : Prop := a = .agg [.lit (.int .i64 x.Kind), .lit (.int .i64 x.A), .lit (.int .i64 x.B), .lit (.int .i64 x.C)]
def up29 (x : Packet) : V := .agg [.lit (.int .i64 x.Flow), .lit (.int .i64 x.Sub), .lit (.int .i64 x.Number), .lit (.int .i64 x.Data), .lit (.int .i64 x.Size), .lit (.int .i64 x.Sent), .lit (.bool x.Able), .lit (.bool x.Marked)]
def dn29 : V → Option Packet
  | .agg [a0, a1, a2, a3, a4, a5, a6, a7] => (dn3 a0).bind fun b0 => (dn3 a1).bind fun b1 => (dn3 a2).bind fun b2 => (dn3 a3).bind fun b3 => (dn3 a4).bind fun b4 => (dn3 a5).bind fun b5 => (dn4 a6).bind fun b6 => (dn4 a7).bind fun b7 => some ⟨b0, b1, b2, b3, b4, b5, b6, b7⟩
  | _ => none
def rp29 (x : Packet) (a : AV) : Prop := a = .agg [.lit (.int .i64 x.Flow), .lit (.int .i64 x.Sub), .lit (.int .i64 x.Number), .lit (.int .i64 x.Data), .lit (.int .i64 x.Size), .lit (.int .i64 x.Sent), .lit (.bool x.Able), .lit (.bool x.Marked)]
def up44 (x : Queued) : V := .agg [.lit (.int .i64 x.P.Flow), .lit (.int .i64 x.P.Sub), .lit (.int .i64 x.P.Number), .lit (.int .i64 x.P.Data), .lit (.int .i64 x.P.Size), .lit (.int .i64 x.P.Sent), .lit (.bool x.P.Able), .lit (.bool x.P.Marked), .lit (.int .i64 x.At)]
def dn44 : V → Option Queued
  | .agg [a0, a1, a2, a3, a4, a5, a6, a7, a8] => (dn3 a0).bind fun b0 => (dn3 a1).bind fun b1 => (dn3 a2).bind fun b2 => (dn3 a3).bind fun b3 => (dn3 a4).bind fun b4 => (dn3 a5).bind fun b5 => (dn4 a6).bind fun b6 => (dn4 a7).bind fun b7 => (dn3 a8).bind fun b8 => some ⟨⟨b0, b1, b2, b3, b4, b5, b6, b7⟩, b8⟩
  | _ => none
def rp44 (x : Queued) (a : AV) : Prop := a = .agg [.lit (.int .i64 x.P.Flow), .lit (.int .i64 x.P.Sub), .lit (.int .i64 x.P.Number), .lit (.int .i64 x.P.Data), .lit (.int .i64 x.P.Size), .lit (.int .i64 x.P.Sent), .lit (.bool x.P.Able), .lit (.bool x.P.Marked), .lit (.int .i64 x.At)]
def up43 (x : List Queued) : V := .tsl 45 x
def dl43 : List V → Option (List Queued)
  | [] => some []
  | v :: vs => (dn44 v).bind fun x => (dl43 vs).map fun l => x :: l
def dn43 : V → Option (List Queued)
  | .tsl t l => if h : t = 45 then some (@castL den t _ h l) else none
  | .sl vs => dl43 vs
  | .lit (.slice none 0 0) => some []
  | _ => none
def rp43 (x : List Queued) (a : AV) : Prop := (∃ l, a = .sl l ∧ All2 rp44 x l) ∨ (x = [] ∧ a = .lit nilSl)
def up24 (x : List (List Queued)) : V := .tsl 43 x
def dl24 : List V → Option (List (List Queued))
  | [] => some []
  | v :: vs => (dn43 v).bind fun x => (dl24 vs).map fun l => x :: l
def dn24 : V → Option (List (List Queued))
  | .tsl t l => if h : t = 43 then some (@castL den t _ h l) else none
  | .sl vs => dl24 vs
  | .lit (.slice none 0 0) => some []
  | _ => none
def rp24 (x : List (List Queued)) (a : AV) : Prop := (∃ l, a = .sl l ∧ All2 rp43 x l) ∨ (x = [] ∧ a = .lit nilSl)
def up25 (x : A8 Int) : V := .agg [.lit (.int .i64 x.e0), .lit (.int .i64 x.e1), .lit (.int .i64 x.e2), .lit (.int .i64 x.e3), .lit (.int .i64 x.e4), .lit (.int .i64 x.e5), .lit (.int .i64 x.e6), .lit (.int .i64 x.e7)]
def dn25 : V → Option (A8 Int)
  | .agg [a0, a1, a2, a3, a4, a5, a6, a7] => (dn3 a0).bind fun b0 => (dn3 a1).bind fun b1 => (dn3 a2).bind fun b2 => (dn3 a3).bind fun b3 => (dn3 a4).bind fun b4 => (dn3 a5).bind fun b5 => (dn3 a6).bind fun b6 => (dn3 a7).bind fun b7 => some ⟨b0, b1, b2, b3, b4, b5, b6, b7⟩
  | _ => none
def rp25 (x : A8 Int) (a : AV) : Prop := a = .agg [.lit (.int .i64 x.e0), .lit (.int .i64 x.e1), .lit (.int .i64 x.e2), .lit (.int .i64 x.e3), .lit (.int .i64 x.e4), .lit (.int .i64 x.e5), .lit (.int .i64 x.e6), .lit (.int .i64 x.e7)]
def up26 (x : Int) : V := .lit (.int .u64 x)
def dn26 (v : V) : Option Int := dI .u64 v
def rp26 (x : Int) (a : AV) : Prop := a = .lit (.int .u64 x)
def up27 (x : Queue) : V := .agg [.lit (.int .i64 x.Policy.Kind), .lit (.int .i64 x.Policy.A), .lit (.int .i64 x.Policy.B), .lit (.int .i64 x.Policy.C), .lit (.int .i64 x.Room), .tsl 43 x.Lists, .lit (.int .i64 x.Vars.e0), .lit (.int .i64 x.Vars.e1), .lit (.int .i64 x.Vars.e2), .lit (.int .i64 x.Vars.e3), .lit (.int .i64 x.Vars.e4), .lit (.int .i64 x.Vars.e5), .lit (.int .i64 x.Vars.e6), .lit (.int .i64 x.Vars.e7), .lit (.int .u64 x.Seed)]
def dn27 : V → Option Queue
  | .agg [a0, a1, a2, a3, a4, a5, a6, a7, a8, a9, a10, a11, a12, a13, a14] => (dn3 a0).bind fun b0 => (dn3 a1).bind fun b1 => (dn3 a2).bind fun b2 => (dn3 a3).bind fun b3 => (dn3 a4).bind fun b4 => (dn24 a5).bind fun b5 => (dn3 a6).bind fun b6 => (dn3 a7).bind fun b7 => (dn3 a8).bind fun b8 => (dn3 a9).bind fun b9 => (dn3 a10).bind fun b10 => (dn3 a11).bind fun b11 => (dn3 a12).bind fun b12 => (dn3 a13).bind fun b13 => (dn26 a14).bind fun b14 => some ⟨⟨b0, b1, b2, b3⟩, b4, b5, ⟨b6, b7, b8, b9, b10, b11, b12, b13⟩, b14⟩
  | _ => none
def rp27 (x : Queue) (a : AV) : Prop := ∃ a5, rp24 x.Lists a5 ∧ a = .agg [.lit (.int .i64 x.Policy.Kind), .lit (.int .i64 x.Policy.A), .lit (.int .i64 x.Policy.B), .lit (.int .i64 x.Policy.C), .lit (.int .i64 x.Room), a5, .lit (.int .i64 x.Vars.e0), .lit (.int .i64 x.Vars.e1), .lit (.int .i64 x.Vars.e2), .lit (.int .i64 x.Vars.e3), .lit (.int .i64 x.Vars.e4), .lit (.int .i64 x.Vars.e5), .lit (.int .i64 x.Vars.e6), .lit (.int .i64 x.Vars.e7), .lit (.int .u64 x.Seed)]
def up33 (x : List Packet) : V := .tsl 30 x
def dl33 : List V → Option (List Packet)
  | [] => some []
  | v :: vs => (dn29 v).bind fun x => (dl33 vs).map fun l => x :: l
def dn33 : V → Option (List Packet)
  | .tsl t l => if h : t = 30 then some (@castL den t _ h l) else none
  | .sl vs => dl33 vs
  | .lit (.slice none 0 0) => some []
  | _ => none
def rp33 (x : List Packet) (a : AV) : Prop := (∃ l, a = .sl l ∧ All2 rp29 x l) ∨ (x = [] ∧ a = .lit nilSl)
def up46 (x : Int) : V := .lit (.int .u16 x)
def dn46 (v : V) : Option Int := dI .u16 v
def rp46 (x : Int) (a : AV) : Prop := a = .lit (.int .u16 x)
def up47 (x : Step) : V := .agg [.lit (.int .u16 x.Wait), .lit (.bool x.Take), .lit (.int .i64 x.P.Flow), .lit (.int .i64 x.P.Sub), .lit (.int .i64 x.P.Number), .lit (.int .i64 x.P.Data), .lit (.int .i64 x.P.Size), .lit (.int .i64 x.P.Sent), .lit (.bool x.P.Able), .lit (.bool x.P.Marked)]
def dn47 : V → Option Step
  | .agg [a0, a1, a2, a3, a4, a5, a6, a7, a8, a9] => (dn46 a0).bind fun b0 => (dn4 a1).bind fun b1 => (dn3 a2).bind fun b2 => (dn3 a3).bind fun b3 => (dn3 a4).bind fun b4 => (dn3 a5).bind fun b5 => (dn3 a6).bind fun b6 => (dn3 a7).bind fun b7 => (dn4 a8).bind fun b8 => (dn4 a9).bind fun b9 => some ⟨b0, b1, ⟨b2, b3, b4, b5, b6, b7, b8, b9⟩⟩
  | _ => none
def rp47 (x : Step) (a : AV) : Prop := a = .agg [.lit (.int .u16 x.Wait), .lit (.bool x.Take), .lit (.int .i64 x.P.Flow), .lit (.int .i64 x.P.Sub), .lit (.int .i64 x.P.Number), .lit (.int .i64 x.P.Data), .lit (.int .i64 x.P.Size), .lit (.int .i64 x.P.Sent), .lit (.bool x.P.Able), .lit (.bool x.P.Marked)]
def up42 (x : List Step) : V := .tsl 48 x
def dl42 : List V → Option (List Step)
  | [] => some []
  | v :: vs => (dn47 v).bind fun x => (dl42 vs).map fun l => x :: l
def dn42 : V → Option (List Step)
  | .tsl t l => if h : t = 48 then some (@castL den t _ h l) else none
  | .sl vs => dl42 vs
  | .lit (.slice none 0 0) => some []
  | _ => none
def rp42 (x : List Step) (a : AV) : Prop := (∃ l, a = .sl l ∧ All2 rp47 x l) ∨ (x = [] ∧ a = .lit nilSl)
def up59 (x : Queue) : V := .agg [.lit (.int .i64 x.Policy.Kind), .lit (.int .i64 x.Policy.A), .lit (.int .i64 x.Policy.B), .lit (.int .i64 x.Policy.C), .lit (.int .i64 x.Room), .tsl 43 x.Lists, .lit (.int .i64 x.Vars.e0), .lit (.int .i64 x.Vars.e1), .lit (.int .i64 x.Vars.e2), .lit (.int .i64 x.Vars.e3), .lit (.int .i64 x.Vars.e4), .lit (.int .i64 x.Vars.e5), .lit (.int .i64 x.Vars.e6), .lit (.int .i64 x.Vars.e7), .lit (.int .u64 x.Seed)]
def dn59 : V → Option Queue
  | .agg [a0, a1, a2, a3, a4, a5, a6, a7, a8, a9, a10, a11, a12, a13, a14] => (dn3 a0).bind fun b0 => (dn3 a1).bind fun b1 => (dn3 a2).bind fun b2 => (dn3 a3).bind fun b3 => (dn3 a4).bind fun b4 => (dn24 a5).bind fun b5 => (dn3 a6).bind fun b6 => (dn3 a7).bind fun b7 => (dn3 a8).bind fun b8 => (dn3 a9).bind fun b9 => (dn3 a10).bind fun b10 => (dn3 a11).bind fun b11 => (dn3 a12).bind fun b12 => (dn3 a13).bind fun b13 => (dn26 a14).bind fun b14 => some ⟨⟨b0, b1, b2, b3⟩, b4, b5, ⟨b6, b7, b8, b9, b10, b11, b12, b13⟩, b14⟩
  | _ => none
def rp59 (x : Queue) (a : AV) : Prop := ∃ a5, rp24 x.Lists a5 ∧ a = .agg [.lit (.int .i64 x.Policy.Kind), .lit (.int .i64 x.Policy.A), .lit (.int .i64 x.Policy.B), .lit (.int .i64 x.Policy.C), .lit (.int .i64 x.Room), a5, .lit (.int .i64 x.Vars.e0), .lit (.int .i64 x.Vars.e1), .lit (.int .i64 x.Vars.e2), .lit (.int .i64 x.Vars.e3), .lit (.int .i64 x.Vars.e4), .lit (.int .i64 x.Vars.e5), .lit (.int .i64 x.Vars.e6), .lit (.int .i64 x.Vars.e7), .lit (.int .u64 x.Seed)]
def up56 (x : Queue) : V := .eref (up59 x) 0
def dn56 : V → Option Queue
  | .eref v 0 => dn59 v
  | _ => none
def rp56 (x : Queue) (a : AV) : Prop := ∃ b, a = .eref b 0 ∧ rp59 x b
def up1003 (x : Int) : V := .eref (up3 x) 0
def dn1003 : V → Option Int
  | .eref v 0 => dn3 v
  | _ => none
def rp1003 (x : Int) (a : AV) : Prop := ∃ b, a = .eref b 0 ∧ rp3 x b
def up1056 (x : Queue) : V := .eref (up56 x) 0
def dn1056 : V → Option Queue
  | .eref v 0 => dn56 v
  | _ => none
def rp1056 (x : Queue) (a : AV) : Prop := ∃ b, a = .eref b 0 ∧ rp56 x b

def up : (t : Nat) → den t → V
  | 2, x => up2 x
  | 3, x => up3 x
  | 4, x => up4 x
  | 5, x => up5 x
  | 9, x => up9 x
  | 22, x => up22 x
  | 23, x => up22 x
  | 24, x => up24 x
  | 25, x => up25 x
  | 26, x => up26 x
  | 27, x => up27 x
  | 28, x => up27 x
  | 29, x => up29 x
  | 30, x => up29 x
  | 33, x => up33 x
  | 34, x => up3 x
  | 42, x => up42 x
  | 43, x => up43 x
  | 44, x => up44 x
  | 45, x => up44 x
  | 46, x => up46 x
  | 47, x => up47 x
  | 48, x => up47 x
  | 59, x => up59 x
  | 60, x => up59 x
  | 56, x => up56 x
  | 1003, x => up1003 x
  | 1056, x => up1056 x
  | _, _ => .dead

def dn : (t : Nat) → V → Option (den t)
  | 2, v => dn2 v
  | 3, v => dn3 v
  | 4, v => dn4 v
  | 5, v => dn5 v
  | 9, v => dn9 v
  | 22, v => dn22 v
  | 23, v => dn22 v
  | 24, v => dn24 v
  | 25, v => dn25 v
  | 26, v => dn26 v
  | 27, v => dn27 v
  | 28, v => dn27 v
  | 29, v => dn29 v
  | 30, v => dn29 v
  | 33, v => dn33 v
  | 34, v => dn3 v
  | 42, v => dn42 v
  | 43, v => dn43 v
  | 44, v => dn44 v
  | 45, v => dn44 v
  | 46, v => dn46 v
  | 47, v => dn47 v
  | 48, v => dn47 v
  | 59, v => dn59 v
  | 60, v => dn59 v
  | 56, v => dn56 v
  | 1003, v => dn1003 v
  | 1056, v => dn1056 v
  | _, _ => none

def rp : (t : Nat) → den t → AV → Prop
  | 2, x, a => rp2 x a
  | 3, x, a => rp3 x a
  | 4, x, a => rp4 x a
  | 5, x, a => rp5 x a
  | 9, x, a => rp9 x a
  | 22, x, a => rp22 x a
  | 23, x, a => rp22 x a
  | 24, x, a => rp24 x a
  | 25, x, a => rp25 x a
  | 26, x, a => rp26 x a
  | 27, x, a => rp27 x a
  | 28, x, a => rp27 x a
  | 29, x, a => rp29 x a
  | 30, x, a => rp29 x a
  | 33, x, a => rp33 x a
  | 34, x, a => rp3 x a
  | 42, x, a => rp42 x a
  | 43, x, a => rp43 x a
  | 44, x, a => rp44 x a
  | 45, x, a => rp44 x a
  | 46, x, a => rp46 x a
  | 47, x, a => rp47 x a
  | 48, x, a => rp47 x a
  | 59, x, a => rp59 x a
  | 60, x, a => rp59 x a
  | 56, x, a => rp56 x a
  | 1003, x, a => rp1003 x a
  | 1056, x, a => rp1056 x a
  | _, _, _ => False

def aggT : Nat → Bool
  | 22 => true
  | 23 => true
  | 25 => true
  | 27 => true
  | 28 => true
  | 29 => true
  | 30 => true
  | 44 => true
  | 45 => true
  | 47 => true
  | 48 => true
  | 59 => true
  | 60 => true
  | _ => false

def sizeT : Nat → Nat
  | 22 => 4
  | 23 => 4
  | 25 => 8
  | 27 => 15
  | 28 => 15
  | 29 => 8
  | 30 => 8
  | 44 => 9
  | 45 => 9
  | 47 => 10
  | 48 => 10
  | 59 => 15
  | 60 => 15
  | _ => 1

def zeroT : (t : Nat) → Option (den t)
  | 2 => some (0 : Int)
  | 3 => some (0 : Int)
  | 4 => some (false : Bool)
  | 5 => some (0 : Int)
  | 9 => some (ByteArray.empty : ByteArray)
  | 22 => some (⟨0, 0, 0, 0⟩ : Policy)
  | 23 => some (⟨0, 0, 0, 0⟩ : Policy)
  | 24 => some ([] : List (List Queued))
  | 25 => some (⟨0, 0, 0, 0, 0, 0, 0, 0⟩ : A8 Int)
  | 26 => some (0 : Int)
  | 27 => some (⟨⟨0, 0, 0, 0⟩, 0, [], ⟨0, 0, 0, 0, 0, 0, 0, 0⟩, 0⟩ : Queue)
  | 28 => some (⟨⟨0, 0, 0, 0⟩, 0, [], ⟨0, 0, 0, 0, 0, 0, 0, 0⟩, 0⟩ : Queue)
  | 29 => some (⟨0, 0, 0, 0, 0, 0, false, false⟩ : Packet)
  | 30 => some (⟨0, 0, 0, 0, 0, 0, false, false⟩ : Packet)
  | 33 => some ([] : List Packet)
  | 34 => some (0 : Int)
  | 42 => some ([] : List Step)
  | 43 => some ([] : List Queued)
  | 44 => some (⟨⟨0, 0, 0, 0, 0, 0, false, false⟩, 0⟩ : Queued)
  | 45 => some (⟨⟨0, 0, 0, 0, 0, 0, false, false⟩, 0⟩ : Queued)
  | 46 => some (0 : Int)
  | 47 => some (⟨0, false, ⟨0, 0, 0, 0, 0, 0, false, false⟩⟩ : Step)
  | 48 => some (⟨0, false, ⟨0, 0, 0, 0, 0, 0, false, false⟩⟩ : Step)
  | 59 => some (⟨⟨0, 0, 0, 0⟩, 0, [], ⟨0, 0, 0, 0, 0, 0, 0, 0⟩, 0⟩ : Queue)
  | 60 => some (⟨⟨0, 0, 0, 0⟩, 0, [], ⟨0, 0, 0, 0, 0, 0, 0, 0⟩, 0⟩ : Queue)
  | _ => none

def memo : List (Nat × MTy) := [
  (1, ⟨false, 1, 8, some (.lit .nilFunc), .other, none⟩),
  (2, ⟨false, 1, 8, some (.lit (.int .i64 0)), .other, none⟩),
  (3, ⟨false, 1, 8, some (.lit (.int .i64 0)), .other, none⟩),
  (4, ⟨false, 1, 1, some (.lit (.bool false)), .other, none⟩),
  (5, ⟨false, 1, 1, some (.lit (.int .u8 0)), .other, none⟩),
  (6, ⟨false, 1, 1, some (.lit (.int .u8 0)), .other, none⟩),
  (7, ⟨true, 4, 24, some (.agg [.lit (.int .i64 0), .lit (.int .i64 0), .lit (.bool false), .lit (.int .u8 0)]), .struct [(0, 2), (1, 3), (2, 4), (3, 6)], none⟩),
  (8, ⟨true, 4, 24, some (.agg [.lit (.int .i64 0), .lit (.int .i64 0), .lit (.bool false), .lit (.int .u8 0)]), .struct [(0, 2), (1, 3), (2, 4), (3, 6)], none⟩),
  (9, ⟨false, 1, 16, some (.lit (.string ByteArray.empty)), .other, none⟩),
  (10, ⟨false, 1, 16, some (.lit (.string ByteArray.empty)), .other, none⟩),
  (11, ⟨false, 1, 16, some (.lit (.string ByteArray.empty)), .other, none⟩),
  (12, ⟨false, 1, 8, some (.lit (.int .u64 0)), .other, none⟩),
  (13, ⟨true, 2, 24, some (.agg [.lit (.string ByteArray.empty), .lit (.int .u64 0)]), .struct [(0, 9), (1, 12)], none⟩),
  (14, ⟨true, 2, 24, some (.agg [.lit (.string ByteArray.empty), .lit (.int .u64 0)]), .struct [(0, 9), (1, 12)], none⟩),
  (15, ⟨false, 1, 8, some (.lit (.pointer none)), .other, none⟩),
  (16, ⟨false, 1, 8, some (.lit (.pointer none)), .other, none⟩),
  (17, ⟨false, 1, 8, some (.lit (.pointer none)), .other, none⟩),
  (18, ⟨true, 1, 8, some (.agg [.lit (.pointer none)]), .struct [(0, 17)], none⟩),
  (19, ⟨true, 1, 8, some (.agg [.lit (.pointer none)]), .struct [(0, 17)], none⟩),
  (20, ⟨false, 1, 16, some (.lit .nilIface), .iface, none⟩),
  (21, ⟨false, 1, 4, some (.lit (.int .i32 0)), .other, none⟩),
  (22, ⟨true, 4, 32, some (.agg [.lit (.int .i64 0), .lit (.int .i64 0), .lit (.int .i64 0), .lit (.int .i64 0)]), .struct [(0, 3), (1, 3), (2, 3), (3, 3)], some [.int .i64, .int .i64, .int .i64, .int .i64]⟩),
  (23, ⟨true, 4, 32, some (.agg [.lit (.int .i64 0), .lit (.int .i64 0), .lit (.int .i64 0), .lit (.int .i64 0)]), .struct [(0, 3), (1, 3), (2, 3), (3, 3)], some [.int .i64, .int .i64, .int .i64, .int .i64]⟩),
  (24, ⟨false, 1, 24, some (.lit (.slice none 0 0)), .slice 43, none⟩),
  (25, ⟨true, 8, 64, some (.agg [.lit (.int .i64 0), .lit (.int .i64 0), .lit (.int .i64 0), .lit (.int .i64 0), .lit (.int .i64 0), .lit (.int .i64 0), .lit (.int .i64 0), .lit (.int .i64 0)]), .array 8 3, some [.int .i64, .int .i64, .int .i64, .int .i64, .int .i64, .int .i64, .int .i64, .int .i64]⟩),
  (26, ⟨false, 1, 8, some (.lit (.int .u64 0)), .other, none⟩),
  (27, ⟨true, 15, 136, some (.agg [.lit (.int .i64 0), .lit (.int .i64 0), .lit (.int .i64 0), .lit (.int .i64 0), .lit (.int .i64 0), .lit (.slice none 0 0), .lit (.int .i64 0), .lit (.int .i64 0), .lit (.int .i64 0), .lit (.int .i64 0), .lit (.int .i64 0), .lit (.int .i64 0), .lit (.int .i64 0), .lit (.int .i64 0), .lit (.int .u64 0)]), .struct [(0, 23), (4, 3), (5, 24), (6, 25), (14, 26)], none⟩),
  (28, ⟨true, 15, 136, some (.agg [.lit (.int .i64 0), .lit (.int .i64 0), .lit (.int .i64 0), .lit (.int .i64 0), .lit (.int .i64 0), .lit (.slice none 0 0), .lit (.int .i64 0), .lit (.int .i64 0), .lit (.int .i64 0), .lit (.int .i64 0), .lit (.int .i64 0), .lit (.int .i64 0), .lit (.int .i64 0), .lit (.int .i64 0), .lit (.int .u64 0)]), .struct [(0, 23), (4, 3), (5, 24), (6, 25), (14, 26)], none⟩),
  (29, ⟨true, 8, 56, some (.agg [.lit (.int .i64 0), .lit (.int .i64 0), .lit (.int .i64 0), .lit (.int .i64 0), .lit (.int .i64 0), .lit (.int .i64 0), .lit (.bool false), .lit (.bool false)]), .struct [(0, 3), (1, 3), (2, 3), (3, 3), (4, 3), (5, 3), (6, 4), (7, 4)], some [.int .i64, .int .i64, .int .i64, .int .i64, .int .i64, .int .i64, .bool, .bool]⟩),
  (30, ⟨true, 8, 56, some (.agg [.lit (.int .i64 0), .lit (.int .i64 0), .lit (.int .i64 0), .lit (.int .i64 0), .lit (.int .i64 0), .lit (.int .i64 0), .lit (.bool false), .lit (.bool false)]), .struct [(0, 3), (1, 3), (2, 3), (3, 3), (4, 3), (5, 3), (6, 4), (7, 4)], some [.int .i64, .int .i64, .int .i64, .int .i64, .int .i64, .int .i64, .bool, .bool]⟩),
  (31, ⟨false, 1, 8, some (.lit .nilFunc), .other, none⟩),
  (32, ⟨false, 1, 8, some (.lit .nilFunc), .other, none⟩),
  (33, ⟨false, 1, 24, some (.lit (.slice none 0 0)), .slice 30, none⟩),
  (34, ⟨false, 1, 8, some (.lit (.int .i64 0)), .other, none⟩),
  (36, ⟨false, 1, 8, some (.lit .nilFunc), .other, none⟩),
  (38, ⟨false, 1, 8, some (.lit .nilFunc), .other, none⟩),
  (39, ⟨false, 1, 8, some (.lit .nilFunc), .other, none⟩),
  (40, ⟨false, 1, 8, some (.lit .nilFunc), .other, none⟩),
  (41, ⟨false, 1, 8, some (.lit .nilFunc), .other, none⟩),
  (42, ⟨false, 1, 24, some (.lit (.slice none 0 0)), .slice 48, none⟩),
  (43, ⟨false, 1, 24, some (.lit (.slice none 0 0)), .slice 45, none⟩),
  (44, ⟨true, 9, 64, some (.agg [.lit (.int .i64 0), .lit (.int .i64 0), .lit (.int .i64 0), .lit (.int .i64 0), .lit (.int .i64 0), .lit (.int .i64 0), .lit (.bool false), .lit (.bool false), .lit (.int .i64 0)]), .struct [(0, 30), (8, 3)], some [.int .i64, .int .i64, .int .i64, .int .i64, .int .i64, .int .i64, .bool, .bool, .int .i64]⟩),
  (45, ⟨true, 9, 64, some (.agg [.lit (.int .i64 0), .lit (.int .i64 0), .lit (.int .i64 0), .lit (.int .i64 0), .lit (.int .i64 0), .lit (.int .i64 0), .lit (.bool false), .lit (.bool false), .lit (.int .i64 0)]), .struct [(0, 30), (8, 3)], some [.int .i64, .int .i64, .int .i64, .int .i64, .int .i64, .int .i64, .bool, .bool, .int .i64]⟩),
  (46, ⟨false, 1, 2, some (.lit (.int .u16 0)), .other, none⟩),
  (47, ⟨true, 10, 64, some (.agg [.lit (.int .u16 0), .lit (.bool false), .lit (.int .i64 0), .lit (.int .i64 0), .lit (.int .i64 0), .lit (.int .i64 0), .lit (.int .i64 0), .lit (.int .i64 0), .lit (.bool false), .lit (.bool false)]), .struct [(0, 46), (1, 4), (2, 30)], some [.int .u16, .bool, .int .i64, .int .i64, .int .i64, .int .i64, .int .i64, .int .i64, .bool, .bool]⟩),
  (48, ⟨true, 10, 64, some (.agg [.lit (.int .u16 0), .lit (.bool false), .lit (.int .i64 0), .lit (.int .i64 0), .lit (.int .i64 0), .lit (.int .i64 0), .lit (.int .i64 0), .lit (.int .i64 0), .lit (.bool false), .lit (.bool false)]), .struct [(0, 46), (1, 4), (2, 30)], some [.int .u16, .bool, .int .i64, .int .i64, .int .i64, .int .i64, .int .i64, .int .i64, .bool, .bool]⟩),
  (49, ⟨false, 1, 8, some (.lit .nilFunc), .other, none⟩),
  (50, ⟨false, 1, 8, some (.lit .nilFunc), .other, none⟩),
  (51, ⟨false, 1, 8, some (.lit .nilFunc), .other, none⟩),
  (52, ⟨false, 1, 8, some (.lit .nilFunc), .other, none⟩),
  (53, ⟨false, 1, 8, some (.lit .nilFunc), .other, none⟩),
  (54, ⟨false, 1, 8, some (.lit .nilFunc), .other, none⟩),
  (55, ⟨false, 1, 8, some (.lit .nilFunc), .other, none⟩),
  (56, ⟨false, 1, 8, some (.lit (.pointer none)), .other, none⟩),
  (58, ⟨false, 1, 8, some (.lit .nilFunc), .other, none⟩),
  (59, ⟨true, 15, 136, some (.agg [.lit (.int .i64 0), .lit (.int .i64 0), .lit (.int .i64 0), .lit (.int .i64 0), .lit (.int .i64 0), .lit (.slice none 0 0), .lit (.int .i64 0), .lit (.int .i64 0), .lit (.int .i64 0), .lit (.int .i64 0), .lit (.int .i64 0), .lit (.int .i64 0), .lit (.int .i64 0), .lit (.int .i64 0), .lit (.int .u64 0)]), .struct [(0, 28)], none⟩),
  (60, ⟨true, 15, 136, some (.agg [.lit (.int .i64 0), .lit (.int .i64 0), .lit (.int .i64 0), .lit (.int .i64 0), .lit (.int .i64 0), .lit (.slice none 0 0), .lit (.int .i64 0), .lit (.int .i64 0), .lit (.int .i64 0), .lit (.int .i64 0), .lit (.int .i64 0), .lit (.int .i64 0), .lit (.int .i64 0), .lit (.int .i64 0), .lit (.int .u64 0)]), .struct [(0, 28)], none⟩),
  (62, ⟨false, 1, 8, some (.lit .nilFunc), .other, none⟩),
  (63, ⟨false, 1, 8, some (.lit .nilFunc), .other, none⟩),
  (64, ⟨false, 1, 8, some (.lit .nilFunc), .other, none⟩),
  (65, ⟨false, 1, 8, some (.lit .nilFunc), .other, none⟩),
  (66, ⟨false, 1, 8, some (.lit .nilFunc), .other, none⟩),
  (67, ⟨false, 1, 8, some (.lit .nilFunc), .other, none⟩),
  (68, ⟨false, 1, 8, some (.lit .nilFunc), .other, none⟩),
  (69, ⟨false, 1, 8, some (.lit .nilFunc), .other, none⟩),
  (70, ⟨false, 1, 8, some (.lit .nilFunc), .other, none⟩),
  (71, ⟨false, 1, 8, some (.lit .nilFunc), .other, none⟩),
  (73, ⟨false, 1, 8, some (.lit .nilFunc), .other, none⟩),
  (74, ⟨false, 1, 8, some (.lit (.int .u64 0)), .other, none⟩),
  (75, ⟨false, 1, 8, some (.lit .nilFunc), .other, none⟩),
  (76, ⟨false, 1, 8, some (.lit .nilFunc), .other, none⟩),
  (77, ⟨true, 4, 32, some (.agg [.lit (.int .i64 0), .lit (.int .i64 0), .lit (.int .i64 0), .lit (.int .i64 0)]), .array 4 3, some [.int .i64, .int .i64, .int .i64, .int .i64]⟩),
  (78, ⟨false, 1, 24, some (.lit (.slice none 0 0)), .slice 3, none⟩),
  (79, ⟨false, 1, 8, some (.lit .nilFunc), .other, none⟩),
  (80, ⟨false, 1, 8, some (.lit .nilFunc), .other, none⟩),
  (81, ⟨false, 1, 8, some (.lit .nilFunc), .other, none⟩),
  (82, ⟨true, 2, 16, some (.agg [.lit (.int .u64 0), .lit (.int .u64 0)]), .struct [(0, 74), (1, 26)], none⟩),
  (83, ⟨true, 6, 48, some (.agg [.lit (.int .u64 0), .lit (.int .u64 0), .lit (.int .u64 0), .lit (.int .u64 0), .lit (.int .u64 0), .lit (.int .u64 0)]), .array 3 82, some [.int .u64, .int .u64, .int .u64, .int .u64, .int .u64, .int .u64]⟩),
  (84, ⟨false, 1, 8, some (.lit .nilFunc), .other, none⟩),
  (85, ⟨false, 1, 8, some (.lit .nilFunc), .other, none⟩),
  (86, ⟨true, 4, 40, some (.agg [.lit (.pointer none), .lit (.pointer none), .lit (.pointer none), .lit (.string ByteArray.empty)]), .struct [(0, 17), (1, 17), (2, 17), (3, 9)], none⟩),
  (87, ⟨true, 4, 40, some (.agg [.lit (.pointer none), .lit (.pointer none), .lit (.pointer none), .lit (.string ByteArray.empty)]), .struct [(0, 17), (1, 17), (2, 17), (3, 9)], none⟩),
  (91, ⟨false, 1, 8, some (.lit .nilFunc), .other, none⟩),
  (92, ⟨false, 1, 4, some (.lit (.int .u32 0)), .other, none⟩),
  (93, ⟨false, 1, 1, some (.lit (.int .u8 0)), .other, none⟩),
  (94, ⟨false, 1, 1, some (.lit (.int .u8 0)), .other, none⟩),
  (95, ⟨false, 1, 8, some (.lit .nilFunc), .other, none⟩),
  (96, ⟨false, 1, 8, some (.lit (.pointer none)), .other, none⟩),
  (97, ⟨false, 1, 4, some (.lit (.int .i32 0)), .other, none⟩),
  (98, ⟨false, 1, 4, some (.lit (.int .i32 0)), .other, none⟩),
  (99, ⟨true, 11, 48, some (.agg [.lit (.int .u64 0), .lit (.int .u64 0), .lit (.int .u32 0), .lit (.int .u8 0), .lit (.int .u8 0), .lit (.int .u8 0), .lit (.int .u8 0), .lit .nilFunc, .lit (.pointer none), .lit (.int .i32 0), .lit (.int .i32 0)]), .struct [(0, 12), (1, 12), (2, 92), (3, 93), (4, 5), (5, 5), (6, 94), (7, 95), (8, 96), (9, 97), (10, 98)], none⟩),
  (100, ⟨true, 11, 48, some (.agg [.lit (.int .u64 0), .lit (.int .u64 0), .lit (.int .u32 0), .lit (.int .u8 0), .lit (.int .u8 0), .lit (.int .u8 0), .lit (.int .u8 0), .lit .nilFunc, .lit (.pointer none), .lit (.int .i32 0), .lit (.int .i32 0)]), .struct [(0, 12), (1, 12), (2, 92), (3, 93), (4, 5), (5, 5), (6, 94), (7, 95), (8, 96), (9, 97), (10, 98)], none⟩)]

abbrev T : Tys := ⟨den, up, dn, rp, aggT, sizeT, zeroT⟩

end Go.Proofs.YtfjkpjgbigcpiaaDoor
end
