/- Part 5 of the proof: texts of this session laid one behind the other. -/
import Derived.Test.YtomccdllhpolbaaDoorProg
import Derived.KernelRfl
import Derived.Test.YtomccdllhpolbaaDoorX4
set_option linter.unusedVariables false
set_option linter.unusedSimpArgs false
section
/- The types of this seat: what must hold of them (printed by gen_tys.py out of the dump). -/
set_option maxRecDepth 100000
namespace Go.Proofs.YtomccdllhpolbaaDoor
open Go.PI
theorem rlc{H:SHeap den}{v:V}{vs:List V}{l:List AV}:RL T H (v::vs) l↔∃ c cs,l=c::cs∧R T H v c∧RL T H vs cs:=RL_cons_iff (T:=T)
theorem rln{H:SHeap den}{l:List AV}:RL T H [] l↔l=[]:=RL_nil_iff (T:=T)
theorem uk45(x:Packet)(a:AV)(H:SHeap den)(h:rp45 x a):R T H (up45 x) a:=by
 unfold rp45 at h; subst h
 unfold up45
 simp only[R]
 refine⟨_,rfl,?_⟩
 simp only[RL,R,and_true,true_and]
theorem dk45(v:V)(x:Packet)(a:AV)(H:SHeap den)(h:dn45 v=some x)(hr:R T H v a):rp45 x a:=by
 unfold dn45 at h
 split at h
 ·simp only[Option.bind_eq_some_iff,Option.some.injEq]at h
  obtain⟨b0,g0,b1,g1,b2,g2,b3,g3,b4,g4,b5,g5,b6,g6,b7,g7,rfl⟩:=h
  simp only[R]at hr
  obtain⟨_,rfl,hl⟩:=hr
  obtain⟨c0,_,rfl,r0,hl⟩:=rlc.1 hl
  obtain⟨c1,_,rfl,r1,hl⟩:=rlc.1 hl
  obtain⟨c2,_,rfl,r2,hl⟩:=rlc.1 hl
  obtain⟨c3,_,rfl,r3,hl⟩:=rlc.1 hl
  obtain⟨c4,_,rfl,r4,hl⟩:=rlc.1 hl
  obtain⟨c5,_,rfl,r5,hl⟩:=rlc.1 hl
  obtain⟨c6,_,rfl,r6,hl⟩:=rlc.1 hl
  obtain⟨c7,_,rfl,r7,hl⟩:=rlc.1 hl
  cases rln.1 hl
  cases dI_ok (T:=T) g0 r0
  cases dI_ok (T:=T) g1 r1
  cases dI_ok (T:=T) g2 r2
  cases dI_ok (T:=T) g3 r3
  cases dI_ok (T:=T) g4 r4
  cases dI_ok (T:=T) g5 r5
  cases dB_ok (T:=T) g6 r6
  cases dB_ok (T:=T) g7 r7
  exact rfl
 ·simp at h
theorem ek45(x:Packet)(a:AV)(h:rp45 x a):okElem true 8 a=true∧closed a=true:=by
 unfold rp45 at h; subst h
 exact⟨by simp[okElem,leaf_int,leaf_bool,leaf_str],by simp[closed,closedL]⟩
theorem uk47(x:Stepx)(a:AV)(H:SHeap den)(h:rp47 x a):R T H (up47 x) a:=by
 unfold rp47 at h; subst h
 unfold up47
 simp only[R]
 refine⟨_,rfl,?_⟩
 simp only[RL,R,and_true,true_and]
theorem dk47(v:V)(x:Stepx)(a:AV)(H:SHeap den)(h:dn47 v=some x)(hr:R T H v a):rp47 x a:=by
 unfold dn47 at h
 split at h
 ·simp only[Option.bind_eq_some_iff,Option.some.injEq]at h
  obtain⟨b0,g0,b1,g1,b2,g2,b3,g3,b4,g4,b5,g5,b6,g6,b7,g7,b8,g8,b9,g9,rfl⟩:=h
  simp only[R]at hr
  obtain⟨_,rfl,hl⟩:=hr
  obtain⟨c0,_,rfl,r0,hl⟩:=rlc.1 hl
  obtain⟨c1,_,rfl,r1,hl⟩:=rlc.1 hl
  obtain⟨c2,_,rfl,r2,hl⟩:=rlc.1 hl
  obtain⟨c3,_,rfl,r3,hl⟩:=rlc.1 hl
  obtain⟨c4,_,rfl,r4,hl⟩:=rlc.1 hl
  obtain⟨c5,_,rfl,r5,hl⟩:=rlc.1 hl
  obtain⟨c6,_,rfl,r6,hl⟩:=rlc.1 hl
  obtain⟨c7,_,rfl,r7,hl⟩:=rlc.1 hl
  obtain⟨c8,_,rfl,r8,hl⟩:=rlc.1 hl
  obtain⟨c9,_,rfl,r9,hl⟩:=rlc.1 hl
  cases rln.1 hl
  cases dI_ok (T:=T) g0 r0
  cases dB_ok (T:=T) g1 r1
  cases dI_ok (T:=T) g2 r2
  cases dI_ok (T:=T) g3 r3
  cases dI_ok (T:=T) g4 r4
  cases dI_ok (T:=T) g5 r5
  cases dI_ok (T:=T) g6 r6
  cases dI_ok (T:=T) g7 r7
  cases dB_ok (T:=T) g8 r8
  cases dB_ok (T:=T) g9 r9
  exact rfl
 ·simp at h
theorem ek47(x:Stepx)(a:AV)(h:rp47 x a):okElem true 10 a=true∧closed a=true:=by
 unfold rp47 at h; subst h
 exact⟨by simp[okElem,leaf_int,leaf_bool,leaf_str],by simp[closed,closedL]⟩
theorem uk26(x:Policy)(a:AV)(H:SHeap den)(h:rp26 x a):R T H (up26 x) a:=by
 unfold rp26 at h; subst h
 unfold up26
 simp only[R]
 refine⟨_,rfl,?_⟩
 simp only[RL,R,and_true,true_and]
theorem dk26(v:V)(x:Policy)(a:AV)(H:SHeap den)(h:dn26 v=some x)(hr:R T H v a):rp26 x a:=by
 unfold dn26 at h
 split at h
 ·simp only[Option.bind_eq_some_iff,Option.some.injEq]at h
  obtain⟨b0,g0,b1,g1,b2,g2,b3,g3,rfl⟩:=h
  simp only[R]at hr
  obtain⟨_,rfl,hl⟩:=hr
  obtain⟨c0,_,rfl,r0,hl⟩:=rlc.1 hl
  obtain⟨c1,_,rfl,r1,hl⟩:=rlc.1 hl
  obtain⟨c2,_,rfl,r2,hl⟩:=rlc.1 hl
  obtain⟨c3,_,rfl,r3,hl⟩:=rlc.1 hl
  cases rln.1 hl
  cases dI_ok (T:=T) g0 r0
  cases dI_ok (T:=T) g1 r1
  cases dI_ok (T:=T) g2 r2
  cases dI_ok (T:=T) g3 r3
  exact rfl
 ·simp at h
theorem ek26(x:Policy)(a:AV)(h:rp26 x a):okElem true 4 a=true∧closed a=true:=by
 unfold rp26 at h; subst h
 exact⟨by simp[okElem,leaf_int,leaf_bool,leaf_str],by simp[closed,closedL]⟩
theorem uk71(x:Queued)(a:AV)(H:SHeap den)(h:rp71 x a):R T H (up71 x) a:=by
 unfold rp71 at h; subst h
 unfold up71
 simp only[R]
 refine⟨_,rfl,?_⟩
 simp only[RL,R,and_true,true_and]
theorem dk71(v:V)(x:Queued)(a:AV)(H:SHeap den)(h:dn71 v=some x)(hr:R T H v a):rp71 x a:=by
 unfold dn71 at h
 split at h
 ·simp only[Option.bind_eq_some_iff,Option.some.injEq]at h
  obtain⟨b0,g0,b1,g1,b2,g2,b3,g3,b4,g4,b5,g5,b6,g6,b7,g7,b8,g8,rfl⟩:=h
  simp only[R]at hr
  obtain⟨_,rfl,hl⟩:=hr
  obtain⟨c0,_,rfl,r0,hl⟩:=rlc.1 hl
  obtain⟨c1,_,rfl,r1,hl⟩:=rlc.1 hl
  obtain⟨c2,_,rfl,r2,hl⟩:=rlc.1 hl
  obtain⟨c3,_,rfl,r3,hl⟩:=rlc.1 hl
  obtain⟨c4,_,rfl,r4,hl⟩:=rlc.1 hl
  obtain⟨c5,_,rfl,r5,hl⟩:=rlc.1 hl
  obtain⟨c6,_,rfl,r6,hl⟩:=rlc.1 hl
  obtain⟨c7,_,rfl,r7,hl⟩:=rlc.1 hl
  obtain⟨c8,_,rfl,r8,hl⟩:=rlc.1 hl
  cases rln.1 hl
  cases dI_ok (T:=T) g0 r0
  cases dI_ok (T:=T) g1 r1
  cases dI_ok (T:=T) g2 r2
  cases dI_ok (T:=T) g3 r3
  cases dI_ok (T:=T) g4 r4
  cases dI_ok (T:=T) g5 r5
  cases dB_ok (T:=T) g6 r6
  cases dB_ok (T:=T) g7 r7
  cases dI_ok (T:=T) g8 r8
  exact rfl
 ·simp at h
theorem ek71(x:Queued)(a:AV)(h:rp71 x a):okElem true 9 a=true∧closed a=true:=by
 unfold rp71 at h; subst h
 exact⟨by simp[okElem,leaf_int,leaf_bool,leaf_str],by simp[closed,closedL]⟩
theorem uk29(x:A8 Int)(a:AV)(H:SHeap den)(h:rp29 x a):R T H (up29 x) a:=by
 unfold rp29 at h; subst h
 unfold up29
 simp only[R]
 refine⟨_,rfl,?_⟩
 simp only[RL,R,and_true,true_and]
theorem dk29(v:V)(x:A8 Int)(a:AV)(H:SHeap den)(h:dn29 v=some x)(hr:R T H v a):rp29 x a:=by
 unfold dn29 at h
 split at h
 ·simp only[Option.bind_eq_some_iff,Option.some.injEq]at h
  obtain⟨b0,g0,b1,g1,b2,g2,b3,g3,b4,g4,b5,g5,b6,g6,b7,g7,rfl⟩:=h
  simp only[R]at hr
  obtain⟨_,rfl,hl⟩:=hr
  obtain⟨c0,_,rfl,r0,hl⟩:=rlc.1 hl
  obtain⟨c1,_,rfl,r1,hl⟩:=rlc.1 hl
  obtain⟨c2,_,rfl,r2,hl⟩:=rlc.1 hl
  obtain⟨c3,_,rfl,r3,hl⟩:=rlc.1 hl
  obtain⟨c4,_,rfl,r4,hl⟩:=rlc.1 hl
  obtain⟨c5,_,rfl,r5,hl⟩:=rlc.1 hl
  obtain⟨c6,_,rfl,r6,hl⟩:=rlc.1 hl
  obtain⟨c7,_,rfl,r7,hl⟩:=rlc.1 hl
  cases rln.1 hl
  cases dI_ok (T:=T) g0 r0
  cases dI_ok (T:=T) g1 r1
  cases dI_ok (T:=T) g2 r2
  cases dI_ok (T:=T) g3 r3
  cases dI_ok (T:=T) g4 r4
  cases dI_ok (T:=T) g5 r5
  cases dI_ok (T:=T) g6 r6
  cases dI_ok (T:=T) g7 r7
  exact rfl
 ·simp at h
theorem ek29(x:A8 Int)(a:AV)(h:rp29 x a):okElem true 8 a=true∧closed a=true:=by
 unfold rp29 at h; subst h
 exact⟨by simp[okElem,leaf_int,leaf_bool,leaf_str],by simp[closed,closedL]⟩
theorem uk31(x:Queue)(a:AV)(H:SHeap den)(h:rp31 x a):R T H (up31 x) a:=by
 obtain⟨a5,h5,rfl⟩:=h
 unfold up31
 simp only[R]
 refine⟨_,rfl,?_⟩
 simp only[RL,R,and_true,true_and]
 exact h5
theorem dk31(v:V)(x:Queue)(a:AV)(H:SHeap den)(h:dn31 v=some x)(hr:R T H v a):rp31 x a:=by
 unfold dn31 at h
 split at h
 ·simp only[Option.bind_eq_some_iff,Option.some.injEq]at h
  obtain⟨b0,g0,b1,g1,b2,g2,b3,g3,b4,g4,b5,g5,b6,g6,b7,g7,b8,g8,b9,g9,b10,g10,b11,g11,b12,g12,b13,g13,b14,g14,rfl⟩:=h
  simp only[R]at hr
  obtain⟨_,rfl,hl⟩:=hr
  obtain⟨c0,_,rfl,r0,hl⟩:=rlc.1 hl
  obtain⟨c1,_,rfl,r1,hl⟩:=rlc.1 hl
  obtain⟨c2,_,rfl,r2,hl⟩:=rlc.1 hl
  obtain⟨c3,_,rfl,r3,hl⟩:=rlc.1 hl
  obtain⟨c4,_,rfl,r4,hl⟩:=rlc.1 hl
  obtain⟨c5,_,rfl,r5,hl⟩:=rlc.1 hl
  obtain⟨c6,_,rfl,r6,hl⟩:=rlc.1 hl
  obtain⟨c7,_,rfl,r7,hl⟩:=rlc.1 hl
  obtain⟨c8,_,rfl,r8,hl⟩:=rlc.1 hl
  obtain⟨c9,_,rfl,r9,hl⟩:=rlc.1 hl
  obtain⟨c10,_,rfl,r10,hl⟩:=rlc.1 hl
  obtain⟨c11,_,rfl,r11,hl⟩:=rlc.1 hl
  obtain⟨c12,_,rfl,r12,hl⟩:=rlc.1 hl
  obtain⟨c13,_,rfl,r13,hl⟩:=rlc.1 hl
  obtain⟨c14,_,rfl,r14,hl⟩:=rlc.1 hl
  cases rln.1 hl
  cases dI_ok (T:=T) g0 r0
  cases dI_ok (T:=T) g1 r1
  cases dI_ok (T:=T) g2 r2
  cases dI_ok (T:=T) g3 r3
  cases dI_ok (T:=T) g4 r4
  have e5:=dnG_ok (T:=T) (e:=62) (fun _ _ _ h hr=>dnG_ok (T:=T) (e:=72) (fun _ _ _ h hr=>dk71 _ _ _ H h hr) h hr) g5 r5
  cases dI_ok (T:=T) g6 r6
  cases dI_ok (T:=T) g7 r7
  cases dI_ok (T:=T) g8 r8
  cases dI_ok (T:=T) g9 r9
  cases dI_ok (T:=T) g10 r10
  cases dI_ok (T:=T) g11 r11
  cases dI_ok (T:=T) g12 r12
  cases dI_ok (T:=T) g13 r13
  cases dI_ok (T:=T) g14 r14
  exact⟨_,e5,rfl⟩
 ·simp at h
theorem ek31(x:Queue)(a:AV)(h:rp31 x a):okElem true 15 a=true∧closed a=true:=by
 obtain⟨a5,h5,rfl⟩:=h
 have k5:=eG h5
 exact⟨by simp[okElem,leaf_int,leaf_bool,leaf_str,k5.2.2],by simp[closed,closedL,k5.2.1]⟩
theorem uk34(x:Run)(a:AV)(H:SHeap den)(h:rp34 x a):R T H (up34 x) a:=by
 obtain⟨a5,a15,a16,a17,h5,h15,h16,h17,rfl⟩:=h
 unfold up34
 simp only[R]
 refine⟨_,rfl,?_⟩
 simp only[RL,R,and_true,true_and]
 exact⟨h5,h15,h16,h17⟩
theorem dk34(v:V)(x:Run)(a:AV)(H:SHeap den)(h:dn34 v=some x)(hr:R T H v a):rp34 x a:=by
 unfold dn34 at h
 split at h
 ·simp only[Option.bind_eq_some_iff,Option.some.injEq]at h
  obtain⟨b0,g0,b1,g1,b2,g2,b3,g3,b4,g4,b5,g5,b6,g6,b7,g7,b8,g8,b9,g9,b10,g10,b11,g11,b12,g12,b13,g13,b14,g14,b15,g15,b16,g16,b17,g17,rfl⟩:=h
  simp only[R]at hr
  obtain⟨_,rfl,hl⟩:=hr
  obtain⟨c0,_,rfl,r0,hl⟩:=rlc.1 hl
  obtain⟨c1,_,rfl,r1,hl⟩:=rlc.1 hl
  obtain⟨c2,_,rfl,r2,hl⟩:=rlc.1 hl
  obtain⟨c3,_,rfl,r3,hl⟩:=rlc.1 hl
  obtain⟨c4,_,rfl,r4,hl⟩:=rlc.1 hl
  obtain⟨c5,_,rfl,r5,hl⟩:=rlc.1 hl
  obtain⟨c6,_,rfl,r6,hl⟩:=rlc.1 hl
  obtain⟨c7,_,rfl,r7,hl⟩:=rlc.1 hl
  obtain⟨c8,_,rfl,r8,hl⟩:=rlc.1 hl
  obtain⟨c9,_,rfl,r9,hl⟩:=rlc.1 hl
  obtain⟨c10,_,rfl,r10,hl⟩:=rlc.1 hl
  obtain⟨c11,_,rfl,r11,hl⟩:=rlc.1 hl
  obtain⟨c12,_,rfl,r12,hl⟩:=rlc.1 hl
  obtain⟨c13,_,rfl,r13,hl⟩:=rlc.1 hl
  obtain⟨c14,_,rfl,r14,hl⟩:=rlc.1 hl
  obtain⟨c15,_,rfl,r15,hl⟩:=rlc.1 hl
  obtain⟨c16,_,rfl,r16,hl⟩:=rlc.1 hl
  obtain⟨c17,_,rfl,r17,hl⟩:=rlc.1 hl
  cases rln.1 hl
  cases dI_ok (T:=T) g0 r0
  cases dI_ok (T:=T) g1 r1
  cases dI_ok (T:=T) g2 r2
  cases dI_ok (T:=T) g3 r3
  cases dI_ok (T:=T) g4 r4
  have e5:=dnG_ok (T:=T) (e:=62) (fun _ _ _ h hr=>dnG_ok (T:=T) (e:=72) (fun _ _ _ h hr=>dk71 _ _ _ H h hr) h hr) g5 r5
  cases dI_ok (T:=T) g6 r6
  cases dI_ok (T:=T) g7 r7
  cases dI_ok (T:=T) g8 r8
  cases dI_ok (T:=T) g9 r9
  cases dI_ok (T:=T) g10 r10
  cases dI_ok (T:=T) g11 r11
  cases dI_ok (T:=T) g12 r12
  cases dI_ok (T:=T) g13 r13
  cases dI_ok (T:=T) g14 r14
  have e15:=dnG_ok (T:=T) (e:=46) (fun _ _ _ h hr=>dk45 _ _ _ H h hr) g15 r15
  have e16:=dnG_ok (T:=T) (e:=46) (fun _ _ _ h hr=>dk45 _ _ _ H h hr) g16 r16
  have e17:=dnG_ok (T:=T) (e:=46) (fun _ _ _ h hr=>dk45 _ _ _ H h hr) g17 r17
  exact⟨_,_,_,_,e5,e15,e16,e17,rfl⟩
 ·simp at h
theorem ek34(x:Run)(a:AV)(h:rp34 x a):okElem true 18 a=true∧closed a=true:=by
 obtain⟨a5,a15,a16,a17,h5,h15,h16,h17,rfl⟩:=h
 have k5:=eG h5
 have k15:=eG h15
 have k16:=eG h16
 have k17:=eG h17
 exact⟨by simp[okElem,leaf_int,leaf_bool,leaf_str,k5.2.2,k15.2.2,k16.2.2,k17.2.2],by simp[closed,closedL,k5.2.1,k15.2.1,k16.2.1,k17.2.1]⟩
theorem uk65(x:Queue)(a:AV)(H:SHeap den)(h:rp65 x a):R T H (up65 x) a:=by
 obtain⟨a5,h5,rfl⟩:=h
 unfold up65
 simp only[R]
 refine⟨_,rfl,?_⟩
 simp only[RL,R,and_true,true_and]
 exact h5
theorem dk65(v:V)(x:Queue)(a:AV)(H:SHeap den)(h:dn65 v=some x)(hr:R T H v a):rp65 x a:=by
 unfold dn65 at h
 split at h
 ·simp only[Option.bind_eq_some_iff,Option.some.injEq]at h
  obtain⟨b0,g0,b1,g1,b2,g2,b3,g3,b4,g4,b5,g5,b6,g6,b7,g7,b8,g8,b9,g9,b10,g10,b11,g11,b12,g12,b13,g13,b14,g14,rfl⟩:=h
  simp only[R]at hr
  obtain⟨_,rfl,hl⟩:=hr
  obtain⟨c0,_,rfl,r0,hl⟩:=rlc.1 hl
  obtain⟨c1,_,rfl,r1,hl⟩:=rlc.1 hl
  obtain⟨c2,_,rfl,r2,hl⟩:=rlc.1 hl
  obtain⟨c3,_,rfl,r3,hl⟩:=rlc.1 hl
  obtain⟨c4,_,rfl,r4,hl⟩:=rlc.1 hl
  obtain⟨c5,_,rfl,r5,hl⟩:=rlc.1 hl
  obtain⟨c6,_,rfl,r6,hl⟩:=rlc.1 hl
  obtain⟨c7,_,rfl,r7,hl⟩:=rlc.1 hl
  obtain⟨c8,_,rfl,r8,hl⟩:=rlc.1 hl
  obtain⟨c9,_,rfl,r9,hl⟩:=rlc.1 hl
  obtain⟨c10,_,rfl,r10,hl⟩:=rlc.1 hl
  obtain⟨c11,_,rfl,r11,hl⟩:=rlc.1 hl
  obtain⟨c12,_,rfl,r12,hl⟩:=rlc.1 hl
  obtain⟨c13,_,rfl,r13,hl⟩:=rlc.1 hl
  obtain⟨c14,_,rfl,r14,hl⟩:=rlc.1 hl
  cases rln.1 hl
  cases dI_ok (T:=T) g0 r0
  cases dI_ok (T:=T) g1 r1
  cases dI_ok (T:=T) g2 r2
  cases dI_ok (T:=T) g3 r3
  cases dI_ok (T:=T) g4 r4
  have e5:=dnG_ok (T:=T) (e:=62) (fun _ _ _ h hr=>dnG_ok (T:=T) (e:=72) (fun _ _ _ h hr=>dk71 _ _ _ H h hr) h hr) g5 r5
  cases dI_ok (T:=T) g6 r6
  cases dI_ok (T:=T) g7 r7
  cases dI_ok (T:=T) g8 r8
  cases dI_ok (T:=T) g9 r9
  cases dI_ok (T:=T) g10 r10
  cases dI_ok (T:=T) g11 r11
  cases dI_ok (T:=T) g12 r12
  cases dI_ok (T:=T) g13 r13
  cases dI_ok (T:=T) g14 r14
  exact⟨_,e5,rfl⟩
 ·simp at h
theorem ek65(x:Queue)(a:AV)(h:rp65 x a):okElem true 15 a=true∧closed a=true:=by
 obtain⟨a5,h5,rfl⟩:=h
 have k5:=eG h5
 exact⟨by simp[okElem,leaf_int,leaf_bool,leaf_str,k5.2.2],by simp[closed,closedL,k5.2.1]⟩
theorem uk84(x:Line)(a:AV)(H:SHeap den)(h:rp84 x a):R T H (up84 x) a:=by
 obtain⟨a5,h5,rfl⟩:=h
 unfold up84
 simp only[R]
 refine⟨_,rfl,?_⟩
 simp only[RL,R,and_true,true_and]
 exact h5
theorem dk84(v:V)(x:Line)(a:AV)(H:SHeap den)(h:dn84 v=some x)(hr:R T H v a):rp84 x a:=by
 unfold dn84 at h
 split at h
 ·simp only[Option.bind_eq_some_iff,Option.some.injEq]at h
  obtain⟨b0,g0,b1,g1,b2,g2,b3,g3,b4,g4,b5,g5,b6,g6,b7,g7,b8,g8,b9,g9,b10,g10,b11,g11,b12,g12,b13,g13,b14,g14,b15,g15,rfl⟩:=h
  simp only[R]at hr
  obtain⟨_,rfl,hl⟩:=hr
  obtain⟨c0,_,rfl,r0,hl⟩:=rlc.1 hl
  obtain⟨c1,_,rfl,r1,hl⟩:=rlc.1 hl
  obtain⟨c2,_,rfl,r2,hl⟩:=rlc.1 hl
  obtain⟨c3,_,rfl,r3,hl⟩:=rlc.1 hl
  obtain⟨c4,_,rfl,r4,hl⟩:=rlc.1 hl
  obtain⟨c5,_,rfl,r5,hl⟩:=rlc.1 hl
  obtain⟨c6,_,rfl,r6,hl⟩:=rlc.1 hl
  obtain⟨c7,_,rfl,r7,hl⟩:=rlc.1 hl
  obtain⟨c8,_,rfl,r8,hl⟩:=rlc.1 hl
  obtain⟨c9,_,rfl,r9,hl⟩:=rlc.1 hl
  obtain⟨c10,_,rfl,r10,hl⟩:=rlc.1 hl
  obtain⟨c11,_,rfl,r11,hl⟩:=rlc.1 hl
  obtain⟨c12,_,rfl,r12,hl⟩:=rlc.1 hl
  obtain⟨c13,_,rfl,r13,hl⟩:=rlc.1 hl
  obtain⟨c14,_,rfl,r14,hl⟩:=rlc.1 hl
  obtain⟨c15,_,rfl,r15,hl⟩:=rlc.1 hl
  cases rln.1 hl
  cases dI_ok (T:=T) g0 r0
  cases dI_ok (T:=T) g1 r1
  cases dI_ok (T:=T) g2 r2
  cases dI_ok (T:=T) g3 r3
  cases dI_ok (T:=T) g4 r4
  have e5:=dnG_ok (T:=T) (e:=62) (fun _ _ _ h hr=>dnG_ok (T:=T) (e:=72) (fun _ _ _ h hr=>dk71 _ _ _ H h hr) h hr) g5 r5
  cases dI_ok (T:=T) g6 r6
  cases dI_ok (T:=T) g7 r7
  cases dI_ok (T:=T) g8 r8
  cases dI_ok (T:=T) g9 r9
  cases dI_ok (T:=T) g10 r10
  cases dI_ok (T:=T) g11 r11
  cases dI_ok (T:=T) g12 r12
  cases dI_ok (T:=T) g13 r13
  cases dI_ok (T:=T) g14 r14
  cases dI_ok (T:=T) g15 r15
  exact⟨_,e5,rfl⟩
 ·simp at h
theorem ek84(x:Line)(a:AV)(h:rp84 x a):okElem true 16 a=true∧closed a=true:=by
 obtain⟨a5,h5,rfl⟩:=h
 have k5:=eG h5
 exact⟨by simp[okElem,leaf_int,leaf_bool,leaf_str,k5.2.2],by simp[closed,closedL,k5.2.1]⟩
theorem uk101(x:A2 (List Queued))(a:AV)(H:SHeap den)(h:rp101 x a):R T H (up101 x) a:=by
 obtain⟨a0,a1,h0,h1,rfl⟩:=h
 unfold up101
 simp only[R]
 refine⟨_,rfl,?_⟩
 simp only[RL,R,and_true,true_and]
 exact⟨h0,h1⟩
theorem dk101(v:V)(x:A2 (List Queued))(a:AV)(H:SHeap den)(h:dn101 v=some x)(hr:R T H v a):rp101 x a:=by
 unfold dn101 at h
 split at h
 ·simp only[Option.bind_eq_some_iff,Option.some.injEq]at h
  obtain⟨b0,g0,b1,g1,rfl⟩:=h
  simp only[R]at hr
  obtain⟨_,rfl,hl⟩:=hr
  obtain⟨c0,_,rfl,r0,hl⟩:=rlc.1 hl
  obtain⟨c1,_,rfl,r1,hl⟩:=rlc.1 hl
  cases rln.1 hl
  have e0:=dnG_ok (T:=T) (e:=72) (fun _ _ _ h hr=>dk71 _ _ _ H h hr) g0 r0
  have e1:=dnG_ok (T:=T) (e:=72) (fun _ _ _ h hr=>dk71 _ _ _ H h hr) g1 r1
  exact⟨_,_,e0,e1,rfl⟩
 ·simp at h
theorem ek101(x:A2 (List Queued))(a:AV)(h:rp101 x a):okElem true 2 a=true∧closed a=true:=by
 obtain⟨a0,a1,h0,h1,rfl⟩:=h
 have k0:=eG h0
 have k1:=eG h1
 exact⟨by simp[okElem,leaf_int,leaf_bool,leaf_str,k0.2.2,k1.2.2],by simp[closed,closedL,k0.2.1,k1.2.1]⟩
theorem uk102(x:Pair)(a:AV)(H:SHeap den)(h:rp102 x a):R T H (up102 x) a:=by
 obtain⟨a5,a15,a16,a18,h5,h15,h16,h18,rfl⟩:=h
 unfold up102
 simp only[R]
 refine⟨_,rfl,?_⟩
 simp only[RL,R,and_true,true_and]
 exact⟨h5,h15,h16,h18⟩
theorem dk102(v:V)(x:Pair)(a:AV)(H:SHeap den)(h:dn102 v=some x)(hr:R T H v a):rp102 x a:=by
 unfold dn102 at h
 split at h
 ·simp only[Option.bind_eq_some_iff,Option.some.injEq]at h
  obtain⟨b0,g0,b1,g1,b2,g2,b3,g3,b4,g4,b5,g5,b6,g6,b7,g7,b8,g8,b9,g9,b10,g10,b11,g11,b12,g12,b13,g13,b14,g14,b15,g15,b16,g16,b17,g17,b18,g18,rfl⟩:=h
  simp only[R]at hr
  obtain⟨_,rfl,hl⟩:=hr
  obtain⟨c0,_,rfl,r0,hl⟩:=rlc.1 hl
  obtain⟨c1,_,rfl,r1,hl⟩:=rlc.1 hl
  obtain⟨c2,_,rfl,r2,hl⟩:=rlc.1 hl
  obtain⟨c3,_,rfl,r3,hl⟩:=rlc.1 hl
  obtain⟨c4,_,rfl,r4,hl⟩:=rlc.1 hl
  obtain⟨c5,_,rfl,r5,hl⟩:=rlc.1 hl
  obtain⟨c6,_,rfl,r6,hl⟩:=rlc.1 hl
  obtain⟨c7,_,rfl,r7,hl⟩:=rlc.1 hl
  obtain⟨c8,_,rfl,r8,hl⟩:=rlc.1 hl
  obtain⟨c9,_,rfl,r9,hl⟩:=rlc.1 hl
  obtain⟨c10,_,rfl,r10,hl⟩:=rlc.1 hl
  obtain⟨c11,_,rfl,r11,hl⟩:=rlc.1 hl
  obtain⟨c12,_,rfl,r12,hl⟩:=rlc.1 hl
  obtain⟨c13,_,rfl,r13,hl⟩:=rlc.1 hl
  obtain⟨c14,_,rfl,r14,hl⟩:=rlc.1 hl
  obtain⟨c15,_,rfl,r15,hl⟩:=rlc.1 hl
  obtain⟨c16,_,rfl,r16,hl⟩:=rlc.1 hl
  obtain⟨c17,_,rfl,r17,hl⟩:=rlc.1 hl
  obtain⟨c18,_,rfl,r18,hl⟩:=rlc.1 hl
  cases rln.1 hl
  cases dI_ok (T:=T) g0 r0
  cases dI_ok (T:=T) g1 r1
  cases dI_ok (T:=T) g2 r2
  cases dI_ok (T:=T) g3 r3
  cases dI_ok (T:=T) g4 r4
  have e5:=dnG_ok (T:=T) (e:=62) (fun _ _ _ h hr=>dnG_ok (T:=T) (e:=72) (fun _ _ _ h hr=>dk71 _ _ _ H h hr) h hr) g5 r5
  cases dI_ok (T:=T) g6 r6
  cases dI_ok (T:=T) g7 r7
  cases dI_ok (T:=T) g8 r8
  cases dI_ok (T:=T) g9 r9
  cases dI_ok (T:=T) g10 r10
  cases dI_ok (T:=T) g11 r11
  cases dI_ok (T:=T) g12 r12
  cases dI_ok (T:=T) g13 r13
  cases dI_ok (T:=T) g14 r14
  have e15:=dnG_ok (T:=T) (e:=72) (fun _ _ _ h hr=>dk71 _ _ _ H h hr) g15 r15
  have e16:=dnG_ok (T:=T) (e:=72) (fun _ _ _ h hr=>dk71 _ _ _ H h hr) g16 r16
  cases dI_ok (T:=T) g17 r17
  have e18:=dnG_ok (T:=T) (e:=46) (fun _ _ _ h hr=>dk45 _ _ _ H h hr) g18 r18
  exact⟨_,_,_,_,e5,e15,e16,e18,rfl⟩
 ·simp at h
theorem ek102(x:Pair)(a:AV)(h:rp102 x a):okElem true 19 a=true∧closed a=true:=by
 obtain⟨a5,a15,a16,a18,h5,h15,h16,h18,rfl⟩:=h
 have k5:=eG h5
 have k15:=eG h15
 have k16:=eG h16
 have k18:=eG h18
 exact⟨by simp[okElem,leaf_int,leaf_bool,leaf_str,k5.2.2,k15.2.2,k16.2.2,k18.2.2],by simp[closed,closedL,k5.2.1,k15.2.1,k16.2.1,k18.2.1]⟩
theorem T_up(t:Nat)(x:den t)(a:AV)(H:SHeap den)(h:rp t x a):R T H (up t x) a:=by
 unfold rp at h
 split at h
 ·exact uL (T:=T) h
 ·exact uL (T:=T) h
 ·exact uL (T:=T) h
 ·exact uL (T:=T) h
 ·exact uL (T:=T) h
 ·exact uL (T:=T) h
 ·exact uG (T:=T) (e:=48) h
 ·exact uk26 _ _ H h
 ·exact uk26 _ _ H h
 ·exact uG (T:=T) (e:=62) h
 ·exact uk29 _ _ H h
 ·exact uL (T:=T) h
 ·exact uk31 _ _ H h
 ·exact uk31 _ _ H h
 ·exact uG (T:=T) (e:=46) h
 ·exact uk34 _ _ H h
 ·exact uk34 _ _ H h
 ·exact uG (T:=T) (e:=27) h
 ·exact uL (T:=T) h
 ·exact uk45 _ _ H h
 ·exact uk45 _ _ H h
 ·exact uk47 _ _ H h
 ·exact uk47 _ _ H h
 ·exact uG (T:=T) (e:=72) h
 ·exact uk65 _ _ H h
 ·exact uk65 _ _ H h
 ·exact uk71 _ _ H h
 ·exact uk71 _ _ H h
 ·exact uk65 _ _ H h
 ·exact uG (T:=T) (e:=3) h
 ·exact uk84 _ _ H h
 ·exact uk84 _ _ H h
 ·exact uk65 _ _ H h
 ·exact uk101 _ _ H h
 ·exact uk102 _ _ H h
 ·exact uk102 _ _ H h
 ·exact uP (T:=T) (fun b hb=>uk65 _ _ H hb) rfl h
 ·exact uP (T:=T) (fun b hb=>uk84 _ _ H hb) rfl h
 ·exact uP (T:=T) (fun b hb=>uk65 _ _ H hb) rfl h
 ·exact uP (T:=T) (fun b hb=>uk102 _ _ H hb) rfl h
 ·exact uP (T:=T) (fun b hb=>uP (T:=T) (fun b hb=>uk65 _ _ H hb) rfl hb) rfl h
 ·exact uP (T:=T) (fun b hb=>uL (T:=T) hb) rfl h
 ·exact h.elim
theorem T_dn(t:Nat)(v:V)(x:den t)(a:AV)(H:SHeap den)(h:dn t v=some x)(hr:R T H v a):rp t x a:=by
 revert x h hr
 refine dn.fun_cases_unfolding (motive:=fun t v r=>∀ (x:den t),r=some x→R T H v a→rp t x a) ?_ ?_ ?_ ?_ ?_ ?_ ?_ ?_ ?_ ?_ ?_ ?_ ?_ ?_ ?_ ?_ ?_ ?_ ?_ ?_ ?_ ?_ ?_ ?_ ?_ ?_ ?_ ?_ ?_ ?_ ?_ ?_ ?_ ?_ ?_ ?_ ?_ ?_ ?_ ?_ ?_ ?_ ?_ t v
 ·intro v x h hr; exact dI_ok (T:=T) h hr
 ·intro v x h hr; exact dI_ok (T:=T) h hr
 ·intro v x h hr; exact dB_ok (T:=T) h hr
 ·intro v x h hr; exact dI_ok (T:=T) h hr
 ·intro v x h hr; exact dS_ok (T:=T) h hr
 ·intro v x h hr; exact dI_ok (T:=T) h hr
 ·intro v x h hr; exact dnG_ok (T:=T) (e:=48) (fun _ _ _ h hr=>dk47 _ _ _ H h hr) h hr
 ·intro v x h hr; exact dk26 _ _ _ H h hr
 ·intro v x h hr; exact dk26 _ _ _ H h hr
 ·intro v x h hr; exact dnG_ok (T:=T) (e:=62) (fun _ _ _ h hr=>dnG_ok (T:=T) (e:=72) (fun _ _ _ h hr=>dk71 _ _ _ H h hr) h hr) h hr
 ·intro v x h hr; exact dk29 _ _ _ H h hr
 ·intro v x h hr; exact dI_ok (T:=T) h hr
 ·intro v x h hr; exact dk31 _ _ _ H h hr
 ·intro v x h hr; exact dk31 _ _ _ H h hr
 ·intro v x h hr; exact dnG_ok (T:=T) (e:=46) (fun _ _ _ h hr=>dk45 _ _ _ H h hr) h hr
 ·intro v x h hr; exact dk34 _ _ _ H h hr
 ·intro v x h hr; exact dk34 _ _ _ H h hr
 ·intro v x h hr; exact dnG_ok (T:=T) (e:=27) (fun _ _ _ h hr=>dk26 _ _ _ H h hr) h hr
 ·intro v x h hr; exact dI_ok (T:=T) h hr
 ·intro v x h hr; exact dk45 _ _ _ H h hr
 ·intro v x h hr; exact dk45 _ _ _ H h hr
 ·intro v x h hr; exact dk47 _ _ _ H h hr
 ·intro v x h hr; exact dk47 _ _ _ H h hr
 ·intro v x h hr; exact dnG_ok (T:=T) (e:=72) (fun _ _ _ h hr=>dk71 _ _ _ H h hr) h hr
 ·intro v x h hr; exact dk65 _ _ _ H h hr
 ·intro v x h hr; exact dk65 _ _ _ H h hr
 ·intro v x h hr; exact dk71 _ _ _ H h hr
 ·intro v x h hr; exact dk71 _ _ _ H h hr
 ·intro v x h hr; exact dk65 _ _ _ H h hr
 ·intro v x h hr; exact dnG_ok (T:=T) (e:=3) (fun _ _ _ h hr=>dI_ok (T:=T) h hr) h hr
 ·intro v x h hr; exact dk84 _ _ _ H h hr
 ·intro v x h hr; exact dk84 _ _ _ H h hr
 ·intro v x h hr; exact dk65 _ _ _ H h hr
 ·intro v x h hr; exact dk101 _ _ _ H h hr
 ·intro v x h hr; exact dk102 _ _ _ H h hr
 ·intro v x h hr; exact dk102 _ _ _ H h hr
 ·intro v x h hr; exact dnP_ok (T:=T) (fun _ _ h hr=>dk65 _ _ _ H h hr) h hr
 ·intro v x h hr; exact dnP_ok (T:=T) (fun _ _ h hr=>dk84 _ _ _ H h hr) h hr
 ·intro v x h hr; exact dnP_ok (T:=T) (fun _ _ h hr=>dk65 _ _ _ H h hr) h hr
 ·intro v x h hr; exact dnP_ok (T:=T) (fun _ _ h hr=>dk102 _ _ _ H h hr) h hr
 ·intro v x h hr; exact dnP_ok (T:=T) (fun _ _ h hr=>dnP_ok (T:=T) (fun _ _ h hr=>dk65 _ _ _ H h hr) h hr) h hr
 ·intro v x h hr; exact dnP_ok (T:=T) (fun _ _ h hr=>dI_ok (T:=T) h hr) h hr
 ·intros; rename_i h _; cases h
theorem T_ok(t:Nat)(x:den t)(a:AV)(h:rp t x a):okElem (aggT t) (sizeT t) a=true∧closed a=true:=by
 unfold rp at h
 split at h
 ·exact e12 (eI h)
 ·exact e12 (eI h)
 ·exact e12 (eB h)
 ·exact e12 (eI h)
 ·exact e12 (eS h)
 ·exact e12 (eI h)
 ·exact e12 (eG h)
 ·exact ek26 _ _ h
 ·exact ek26 _ _ h
 ·exact e12 (eG h)
 ·exact ek29 _ _ h
 ·exact e12 (eI h)
 ·exact ek31 _ _ h
 ·exact ek31 _ _ h
 ·exact e12 (eG h)
 ·exact ek34 _ _ h
 ·exact ek34 _ _ h
 ·exact e12 (eG h)
 ·exact e12 (eI h)
 ·exact ek45 _ _ h
 ·exact ek45 _ _ h
 ·exact ek47 _ _ h
 ·exact ek47 _ _ h
 ·exact e12 (eG h)
 ·exact ek65 _ _ h
 ·exact ek65 _ _ h
 ·exact ek71 _ _ h
 ·exact ek71 _ _ h
 ·exact ek65 _ _ h
 ·exact e12 (eG h)
 ·exact ek84 _ _ h
 ·exact ek84 _ _ h
 ·exact ek65 _ _ h
 ·exact ek101 _ _ h
 ·exact ek102 _ _ h
 ·exact ek102 _ _ h
 ·exact e12 (eP h)
 ·exact e12 (eP h)
 ·exact e12 (eP h)
 ·exact e12 (eP h)
 ·exact e12 (eP h)
 ·exact e12 (eP h)
 ·exact h.elim
theorem TOk:T.Ok:=⟨fun t x a H h=>T_up t x a H h,fun t v x a H h hr=>T_dn t v x a H h hr,fun t x a h=>(T_ok t x a h).1,fun t x a h=>(T_ok t x a h).2⟩
theorem QOk:Prg.Ok ⟨Tryd.prog,memo,fun _=>false⟩:=Prg.Ok.of (by kernel_rfl) (by kernel_rfl) (by kernel_rfl) (by kernel_rfl) (by kernel_rfl)
def ZP(q:Nat×MTy):Prop:=∀ z za,zeroT q.1=some z→q.2.zero=some za→rp q.1 z za
theorem ZOk:T.Zeros ⟨Tryd.prog,memo,fun _=>false⟩:=by
 intro t m z za h1 h2 h3
 have hm:=lookS_mem h1
 have all:∀ q,q∈memo→ZP q:=by
  unfold memo
  intro q hq
  simp only[List.mem_cons,List.not_mem_nil,or_false]at hq
  rcases hq with rfl|rfl|rfl|rfl|rfl|rfl|rfl|rfl|rfl|rfl|rfl|rfl|rfl|rfl|rfl|rfl|rfl|rfl|rfl|rfl|rfl|rfl|rfl|rfl|rfl|rfl|rfl|rfl|rfl|rfl|rfl|rfl|rfl|rfl|rfl|rfl|rfl|rfl|rfl|rfl|rfl|rfl|rfl|rfl|rfl|rfl|rfl|rfl|rfl|rfl|rfl|rfl|rfl|rfl|rfl|rfl|rfl|rfl|rfl|rfl|rfl|rfl|rfl|rfl|rfl|rfl|rfl|rfl|rfl|rfl|rfl|rfl|rfl|rfl|rfl|rfl|rfl|rfl|rfl|rfl|rfl|rfl|rfl|rfl|rfl|rfl|rfl|rfl|rfl|rfl|rfl|rfl|rfl|rfl|rfl|rfl|rfl|rfl|rfl|rfl|rfl|rfl|rfl|rfl|rfl|rfl|rfl|rfl|rfl|rfl|rfl|rfl|rfl|rfl|rfl|rfl|rfl|rfl|rfl|rfl|rfl|rfl|rfl|rfl
  ·exact fun _ _ h _=>zn h
  ·exact fun _ _ h1 h2=>zz h1 h2 (rfl)
  ·exact fun _ _ h1 h2=>zz h1 h2 (rfl)
  ·exact fun _ _ h1 h2=>zz h1 h2 (rfl)
  ·exact fun _ _ h1 h2=>zz h1 h2 (rfl)
  ·exact fun _ _ h _=>zn h
  ·exact fun _ _ h _=>zn h
  ·exact fun _ _ h _=>zn h
  ·exact fun _ _ h1 h2=>zz h1 h2 (rfl)
  ·exact fun _ _ h _=>zn h
  ·exact fun _ _ h _=>zn h
  ·exact fun _ _ h _=>zn h
  ·exact fun _ _ h _=>zn h
  ·exact fun _ _ h _=>zn h
  ·exact fun _ _ h _=>zn h
  ·exact fun _ _ h _=>zn h
  ·exact fun _ _ h _=>zn h
  ·exact fun _ _ h _=>zn h
  ·exact fun _ _ h _=>zn h
  ·exact fun _ _ h _=>zn h
  ·exact fun _ _ h _=>zn h
  ·exact fun _ _ h1 h2=>zz h1 h2 (rfl)
  ·exact fun _ _ h1 h2=>zz h1 h2 (.inr ⟨rfl,rfl⟩)
  ·exact fun _ _ h _=>zn h
  ·exact fun _ _ h _=>zn h
  ·exact fun _ _ h1 h2=>zz h1 h2 (rfl)
  ·exact fun _ _ h1 h2=>zz h1 h2 (rfl)
  ·exact fun _ _ h1 h2=>zz h1 h2 (.inr ⟨rfl,rfl⟩)
  ·exact fun _ _ h1 h2=>zz h1 h2 (rfl)
  ·exact fun _ _ h1 h2=>zz h1 h2 (rfl)
  ·exact fun _ _ h1 h2=>zz h1 h2 (⟨_,.inr ⟨rfl,rfl⟩,rfl⟩)
  ·exact fun _ _ h1 h2=>zz h1 h2 (⟨_,.inr ⟨rfl,rfl⟩,rfl⟩)
  ·exact fun _ _ h1 h2=>zz h1 h2 (.inr ⟨rfl,rfl⟩)
  ·exact fun _ _ h1 h2=>zz h1 h2 (⟨_,_,_,_,.inr ⟨rfl,rfl⟩,.inr ⟨rfl,rfl⟩,.inr ⟨rfl,rfl⟩,.inr ⟨rfl,rfl⟩,rfl⟩)
  ·exact fun _ _ h1 h2=>zz h1 h2 (⟨_,_,_,_,.inr ⟨rfl,rfl⟩,.inr ⟨rfl,rfl⟩,.inr ⟨rfl,rfl⟩,.inr ⟨rfl,rfl⟩,rfl⟩)
  ·exact fun _ _ h1 h2=>zz h1 h2 (.inr ⟨rfl,rfl⟩)
  ·exact fun _ _ h _=>zn h
  ·exact fun _ _ h1 h2=>zz h1 h2 (rfl)
  ·exact fun _ _ h _=>zn h
  ·exact fun _ _ h _=>zn h
  ·exact fun _ _ h _=>zn h
  ·exact fun _ _ h _=>zn h
  ·exact fun _ _ h1 h2=>zz h1 h2 (rfl)
  ·exact fun _ _ h1 h2=>zz h1 h2 (rfl)
  ·exact fun _ _ h1 h2=>zz h1 h2 (rfl)
  ·exact fun _ _ h1 h2=>zz h1 h2 (rfl)
  ·exact fun _ _ h _=>zn h
  ·exact fun _ _ h _=>zn h
  ·exact fun _ _ h _=>zn h
  ·exact fun _ _ h _=>zn h
  ·exact fun _ _ h _=>zn h
  ·exact fun _ _ h _=>zn h
  ·exact fun _ _ h _=>zn h
  ·exact fun _ _ h _=>zn h
  ·exact fun _ _ h _=>zn h
  ·exact fun _ _ h _=>zn h
  ·exact fun _ _ h1 h2=>zz h1 h2 (.inr ⟨rfl,rfl⟩)
  ·exact fun _ _ h _=>zn h
  ·exact fun _ _ h _=>zn h
  ·exact fun _ _ h1 h2=>zz h1 h2 (⟨_,.inr ⟨rfl,rfl⟩,rfl⟩)
  ·exact fun _ _ h1 h2=>zz h1 h2 (⟨_,.inr ⟨rfl,rfl⟩,rfl⟩)
  ·exact fun _ _ h _=>zn h
  ·exact fun _ _ h _=>zn h
  ·exact fun _ _ h _=>zn h
  ·exact fun _ _ h _=>zn h
  ·exact fun _ _ h1 h2=>zz h1 h2 (rfl)
  ·exact fun _ _ h1 h2=>zz h1 h2 (rfl)
  ·exact fun _ _ h _=>zn h
  ·exact fun _ _ h _=>zn h
  ·exact fun _ _ h1 h2=>zz h1 h2 (⟨_,.inr ⟨rfl,rfl⟩,rfl⟩)
  ·exact fun _ _ h _=>zn h
  ·exact fun _ _ h _=>zn h
  ·exact fun _ _ h _=>zn h
  ·exact fun _ _ h1 h2=>zz h1 h2 (.inr ⟨rfl,rfl⟩)
  ·exact fun _ _ h _=>zn h
  ·exact fun _ _ h _=>zn h
  ·exact fun _ _ h1 h2=>zz h1 h2 (⟨_,.inr ⟨rfl,rfl⟩,rfl⟩)
  ·exact fun _ _ h1 h2=>zz h1 h2 (⟨_,.inr ⟨rfl,rfl⟩,rfl⟩)
  ·exact fun _ _ h _=>zn h
  ·exact fun _ _ h _=>zn h
  ·exact fun _ _ h1 h2=>zz h1 h2 (⟨_,.inr ⟨rfl,rfl⟩,rfl⟩)
  ·exact fun _ _ h _=>zn h
  ·exact fun _ _ h _=>zn h
  ·exact fun _ _ h _=>zn h
  ·exact fun _ _ h _=>zn h
  ·exact fun _ _ h _=>zn h
  ·exact fun _ _ h _=>zn h
  ·exact fun _ _ h _=>zn h
  ·exact fun _ _ h _=>zn h
  ·exact fun _ _ h _=>zn h
  ·exact fun _ _ h1 h2=>zz h1 h2 (⟨_,_,.inr ⟨rfl,rfl⟩,.inr ⟨rfl,rfl⟩,rfl⟩)
  ·exact fun _ _ h1 h2=>zz h1 h2 (⟨_,_,_,_,.inr ⟨rfl,rfl⟩,.inr ⟨rfl,rfl⟩,.inr ⟨rfl,rfl⟩,.inr ⟨rfl,rfl⟩,rfl⟩)
  ·exact fun _ _ h1 h2=>zz h1 h2 (⟨_,_,_,_,.inr ⟨rfl,rfl⟩,.inr ⟨rfl,rfl⟩,.inr ⟨rfl,rfl⟩,.inr ⟨rfl,rfl⟩,rfl⟩)
  ·exact fun _ _ h _=>zn h
  ·exact fun _ _ h _=>zn h
  ·exact fun _ _ h _=>zn h
  ·exact fun _ _ h _=>zn h
  ·exact fun _ _ h _=>zn h
  ·exact fun _ _ h _=>zn h
  ·exact fun _ _ h _=>zn h
  ·exact fun _ _ h _=>zn h
  ·exact fun _ _ h _=>zn h
  ·exact fun _ _ h _=>zn h
  ·exact fun _ _ h _=>zn h
  ·exact fun _ _ h _=>zn h
  ·exact fun _ _ h _=>zn h
  ·exact fun _ _ h _=>zn h
  ·exact fun _ _ h _=>zn h
  ·exact fun _ _ h _=>zn h
  ·exact fun _ _ h _=>zn h
  ·exact fun _ _ h _=>zn h
  ·exact fun _ _ h _=>zn h
  ·exact fun _ _ h _=>zn h
  ·exact fun _ _ h _=>zn h
  ·exact fun _ _ h _=>zn h
  ·exact fun _ _ h _=>zn h
  ·exact fun _ _ h _=>zn h
  ·exact fun _ _ h _=>zn h
  ·exact fun _ _ h _=>zn h
  ·exact fun _ _ h _=>zn h
  ·exact fun _ _ h _=>zn h
  ·exact fun _ _ h _=>zn h
  ·exact fun _ _ h _=>zn h
  ·exact fun _ _ h _=>zn h
 exact all _ hm z za h3 h2
theorem un3:Tryd.prog.underlying 3=some (.int .i64):=by kernel_rfl
def wf3(x:Int):Prop:=IntKind.min .i64≤x∧x≤IntKind.max .i64
theorem sh3{n:Nat}{l:List AV}(h:Shape Tryd.prog n 3 l):∃ x,wf3 x∧∃ a,l=[a]∧rp3 x a:=by
 obtain⟨m,rfl,h1⟩:=shape_int un3 h
 exact⟨m,h1,_,rfl,rfl⟩
theorem un4:Tryd.prog.underlying 4=some .bool:=by kernel_rfl
def wf4(_:Bool):Prop:=True
theorem sh4{n:Nat}{l:List AV}(h:Shape Tryd.prog n 4 l):∃ x,wf4 x∧∃ a,l=[a]∧rp4 x a:=by
 obtain⟨m,rfl⟩:=shape_bool un4 h
 exact⟨m,trivial,_,rfl,rfl⟩
theorem un22:Tryd.prog.underlying 22=some (.int .u16):=by kernel_rfl
def wf22(x:Int):Prop:=IntKind.min .u16≤x∧x≤IntKind.max .u16
theorem sh22{n:Nat}{l:List AV}(h:Shape Tryd.prog n 22 l):∃ x,wf22 x∧∃ a,l=[a]∧rp22 x a:=by
 obtain⟨m,rfl,h1⟩:=shape_int un22 h
 exact⟨m,h1,_,rfl,rfl⟩
def wf45(x:Packet):Prop:=wf3 x.Flow∧wf3 x.Sub∧wf3 x.Number∧wf3 x.Data∧wf3 x.Size∧wf3 x.Sent∧wf4 x.Able∧wf4 x.Marked
theorem uq45_0:Tryd.prog.underlying 3=Tryd.prog.underlying 3:=by kernel_rfl
theorem uq45_1:Tryd.prog.underlying 3=Tryd.prog.underlying 3:=by kernel_rfl
theorem uq45_2:Tryd.prog.underlying 3=Tryd.prog.underlying 3:=by kernel_rfl
theorem uq45_3:Tryd.prog.underlying 3=Tryd.prog.underlying 3:=by kernel_rfl
theorem uq45_4:Tryd.prog.underlying 3=Tryd.prog.underlying 3:=by kernel_rfl
theorem uq45_5:Tryd.prog.underlying 3=Tryd.prog.underlying 3:=by kernel_rfl
theorem uq45_6:Tryd.prog.underlying 4=Tryd.prog.underlying 4:=by kernel_rfl
theorem uq45_7:Tryd.prog.underlying 4=Tryd.prog.underlying 4:=by kernel_rfl
theorem sh45{n:Nat}{l:List AV}(h:Shape Tryd.prog n 45 l):∃ x,wf45 x∧rp45 x (.agg l):=by
 obtain⟨hl,k,hf⟩:=shape_fields QOk (t:=45) rfl rfl h
 rw[cellsOf_ty QOk (t:=45) rfl]at hl
 have h0:=hf (0,3) (by simp)
 rw[cellsOf_ty QOk (t:=3) rfl]at h0
 replace h0:=shape_same (uq45_0) h0
 have h1:=hf (1,3) (by simp)
 rw[cellsOf_ty QOk (t:=3) rfl]at h1
 replace h1:=shape_same (uq45_1) h1
 have h2:=hf (2,3) (by simp)
 rw[cellsOf_ty QOk (t:=3) rfl]at h2
 replace h2:=shape_same (uq45_2) h2
 have h3:=hf (3,3) (by simp)
 rw[cellsOf_ty QOk (t:=3) rfl]at h3
 replace h3:=shape_same (uq45_3) h3
 have h4:=hf (4,3) (by simp)
 rw[cellsOf_ty QOk (t:=3) rfl]at h4
 replace h4:=shape_same (uq45_4) h4
 have h5:=hf (5,3) (by simp)
 rw[cellsOf_ty QOk (t:=3) rfl]at h5
 replace h5:=shape_same (uq45_5) h5
 have h6:=hf (6,4) (by simp)
 rw[cellsOf_ty QOk (t:=4) rfl]at h6
 replace h6:=shape_same (uq45_6) h6
 have h7:=hf (7,4) (by simp)
 rw[cellsOf_ty QOk (t:=4) rfl]at h7
 replace h7:=shape_same (uq45_7) h7
 match l,hl with
 |[a0,a1,a2,a3,a4,a5,a6,a7],_=>
  replace h0:Shape Tryd.prog k 3 [a0]:=h0
  obtain⟨x0,w0,b0,e0,r0⟩:=sh3 h0
  simp only[List.cons.injEq,and_true]at e0
  subst e0
  unfold rp3 at r0; subst r0
  replace h1:Shape Tryd.prog k 3 [a1]:=h1
  obtain⟨x1,w1,b1,e1,r1⟩:=sh3 h1
  simp only[List.cons.injEq,and_true]at e1
  subst e1
  unfold rp3 at r1; subst r1
  replace h2:Shape Tryd.prog k 3 [a2]:=h2
  obtain⟨x2,w2,b2,e2,r2⟩:=sh3 h2
  simp only[List.cons.injEq,and_true]at e2
  subst e2
  unfold rp3 at r2; subst r2
  replace h3:Shape Tryd.prog k 3 [a3]:=h3
  obtain⟨x3,w3,b3,e3,r3⟩:=sh3 h3
  simp only[List.cons.injEq,and_true]at e3
  subst e3
  unfold rp3 at r3; subst r3
  replace h4:Shape Tryd.prog k 3 [a4]:=h4
  obtain⟨x4,w4,b4,e4,r4⟩:=sh3 h4
  simp only[List.cons.injEq,and_true]at e4
  subst e4
  unfold rp3 at r4; subst r4
  replace h5:Shape Tryd.prog k 3 [a5]:=h5
  obtain⟨x5,w5,b5,e5,r5⟩:=sh3 h5
  simp only[List.cons.injEq,and_true]at e5
  subst e5
  unfold rp3 at r5; subst r5
  replace h6:Shape Tryd.prog k 4 [a6]:=h6
  obtain⟨x6,w6,b6,e6,r6⟩:=sh4 h6
  simp only[List.cons.injEq,and_true]at e6
  subst e6
  unfold rp4 at r6; subst r6
  replace h7:Shape Tryd.prog k 4 [a7]:=h7
  obtain⟨x7,w7,b7,e7,r7⟩:=sh4 h7
  simp only[List.cons.injEq,and_true]at e7
  subst e7
  unfold rp4 at r7; subst r7
  exact⟨⟨x0,x1,x2,x3,x4,x5,x6,x7⟩,⟨w0,w1,w2,w3,w4,w5,w6,w7⟩,rfl⟩
def wf47(x:Stepx):Prop:=wf22 x.Wait∧wf4 x.Take∧wf45 x.P
theorem uq47_0:Tryd.prog.underlying 22=Tryd.prog.underlying 22:=by kernel_rfl
theorem uq47_1:Tryd.prog.underlying 4=Tryd.prog.underlying 4:=by kernel_rfl
theorem uq47_2:Tryd.prog.underlying 46=Tryd.prog.underlying 45:=by kernel_rfl
theorem sh47{n:Nat}{l:List AV}(h:Shape Tryd.prog n 47 l):∃ x,wf47 x∧rp47 x (.agg l):=by
 obtain⟨hl,k,hf⟩:=shape_fields QOk (t:=47) rfl rfl h
 rw[cellsOf_ty QOk (t:=47) rfl]at hl
 have h0:=hf (0,22) (by simp)
 rw[cellsOf_ty QOk (t:=22) rfl]at h0
 replace h0:=shape_same (uq47_0) h0
 have h1:=hf (1,4) (by simp)
 rw[cellsOf_ty QOk (t:=4) rfl]at h1
 replace h1:=shape_same (uq47_1) h1
 have h2:=hf (2,46) (by simp)
 rw[cellsOf_ty QOk (t:=46) rfl]at h2
 replace h2:=shape_same (uq47_2) h2
 match l,hl with
 |[a0,a1,a2,a3,a4,a5,a6,a7,a8,a9],_=>
  replace h0:Shape Tryd.prog k 22 [a0]:=h0
  obtain⟨x0,w0,b0,e0,r0⟩:=sh22 h0
  simp only[List.cons.injEq,and_true]at e0
  subst e0
  unfold rp22 at r0; subst r0
  replace h1:Shape Tryd.prog k 4 [a1]:=h1
  obtain⟨x1,w1,b1,e1,r1⟩:=sh4 h1
  simp only[List.cons.injEq,and_true]at e1
  subst e1
  unfold rp4 at r1; subst r1
  replace h2:Shape Tryd.prog k 45 [a2,a3,a4,a5,a6,a7,a8,a9]:=h2
  obtain⟨x2,w2,r2⟩:=sh45 h2
  have e2:_=_:=r2
  simp only[AV.agg.injEq,List.cons.injEq,and_true]at e2
  obtain⟨rfl,rfl,rfl,rfl,rfl,rfl,rfl,rfl⟩:=e2
  exact⟨⟨x0,x1,x2⟩,⟨w0,w1,w2⟩,rfl⟩
theorem un23:Tryd.prog.underlying 23=some (.slice 48):=by kernel_rfl
theorem ue23:(Tryd.prog.underlying 48).isSome=true:=by kernel_rfl
theorem ua23:(Tryd.prog.underlying 48).map isAggD=some true:=by kernel_rfl
theorem uu23:Tryd.prog.underlying 48=Tryd.prog.underlying 47:=by kernel_rfl
def wf23(x:List Stepx):Prop:=x.length≤maxLen∧∀ y,y∈x→wf47 y
theorem sh23{n:Nat}{l:List AV}(h:Shape Tryd.prog n 23 l):∃ x,wf23 x∧∃ a,l=[a]∧rp23 x a:=by
 obtain⟨d,hd⟩:=Option.isSome_iff_exists.1 ue23
 have hag:isAggD d=true:=by have:=ua23; rw[hd]at this; simpa using this
 obtain⟨ys,xs,rfl,h1,h2⟩:=shape_slice (Q:=fun y x=>wf47 y∧rp47 y x) un23 hd h (by
  rintro k x ⟨cl,h1,h2⟩
  rw[hag]at h1
  simp only[if_true]at h1
  replace h2:=shape_same uu23 h2
  subst h1
  obtain⟨y,hy,r⟩:=sh47 h2
  exact⟨y,hy,r⟩)
 refine⟨ys,⟨h2,?_⟩,_,rfl,.inl ⟨xs,rfl,h1.mono fun _ _ h=>h.2⟩⟩
 intro y hy
 obtain⟨i,hi⟩:=List.getElem?_of_mem hy
 obtain⟨_,_,h3⟩:=h1.get hi
 exact h3.1
end Go.Proofs.YtomccdllhpolbaaDoor
end
section
/- Copies of slices in this seat: what the library's functions come to (printed by gen_lib.py). -/
namespace Go.Proofs.YtomccdllhpolbaaDoor.Lib80
open Go.PI
noncomputable def C0:Ctx where
 P:=Tryd.prog
 kind:=fun f=>if f=81 then .imp else .pure
 intr:=fun _=>none
 acc:=fun _ _=>false
instance:NoNils C0:=⟨rfl,rfl⟩
noncomputable def R(t:Nat):TyRow:=(tyOf Tryd.prog t).getD ⟨.bool,0,0,none,false⟩
theorem se62:sliceElem C0.P 62=some (R 72):=by kernel_rfl
theorem st62:isSliceTy C0.P 62=true:=by kernel_rfl
theorem ze72:(elemZero (R 72)).isSome=true:=by kernel_rfl
theorem sz72:(R 72).size=9:=by kernel_rfl
theorem ag72:(R 72).isAgg=true:=by kernel_rfl
theorem by72:(R 72).bytes=64:=by kernel_rfl
theorem fn81:C0.P.funcs[81]?=some Tryd.f81:=by kernel_rfl
theorem st28:isSliceTy C0.P 28=true:=by kernel_rfl
theorem st3:isSliceTy C0.P 3=false:=by kernel_rfl
theorem un3:C0.P.underlying 3=some (.int .i64):=by kernel_rfl
noncomputable def zero72:AV:=(elemZero (R 72)).getD .undef
theorem zv72:elemZero (R 72)=some zero72:=by kernel_rfl
theorem zo72:okElem (R 72).isAgg (R 72).size zero72=true:=by kernel_rfl
theorem grow_zero:runF C0 81 [.lit nilSl,int 0] []=some (.val (.lit nilSl),[]):=
 (lim_some (growF C0 81 [.lit nilSl,int 0] [])).2 ⟨100,by kernel_rfl⟩
theorem grow_pos(n:Nat)(hn:0<n)(h1:n*(R 72).bytes≤2^44)(h2:n≤2^44):runF C0 81 [.lit nilSl,int n] []=some (.val (.osl (R 72).size 0 n 0 0 none),[some (.arr true true false (List.replicate n zero72))]):=by
 rw[runF_eq (fn:=Tryd.f81) fn81 rfl]
 have hacc:∀ f d,C0.acc f d=false:=fun _ _=>rfl
 have hr:0<(R 72).size:=by rw[sz72]; decide
 have hw:IntKind.i64.wrap ((n:Int)-0)=(n:Int):=by rw[IntWalk.i64_in _ (by omega)]; omega
 have hw0:IntKind.i64.wrap (0-0)=(0:Int):=by decide
 have hneg:¬((n:Int)<0):=by omega
 have hpos:(0:Int)<(n:Int):=by omega
 have hmap:Option.map (evalA [AV.lit nilSl]) none=(none:Option AV):=rfl
 simp (decide:=true) only [Tryd.f81,ro_asNil,hacc,op_cap0 st62,op_len0 st62,nilE_nil,op_cutA,cut_nil se62,cut_own se62 hn,op_app,app_make se62 st3 un3 zv72 hr zo72 hn h1 h2,hw,hw0,hneg,hpos,bol,Option.map_none,runC_seq,runC_ops,preps,guardG,List.map_cons,List.map_nil,runG_always,runG_nil,ro_move,ro_binOp,ro_slice,ro_builtin,ro_asTmp,op_move,op_assign,op_bin,evalA,constA,ofVal,doneE,putA,thenG_norm,ifA_tt,ifA_ff,app_nil,app_cons,bin_lss,bin_gtr,bin_sub,andThen_norm,runC_ret,endF_ret,res_nil,res_tmp,tup_one,List.getElem?_toArray,List.replicate_succ,List.replicate_zero,Nat.reduceSub,Nat.reduceAdd,Option.bind_some,Option.map_some,decide_true,decide_false,setObj_new,List.length_nil,List.length_cons,List.nil_append,List.cons_append,Nat.zero_add,fgz,fgs,fsz,fss,runC_cond,runC_skip]
theorem fn42:C0.P.funcs[42]?=some Tryd.f42:=by kernel_rfl
theorem ty62:tyOf C0.P 62=some (R 62):=by kernel_rfl
theorem ag62:(R 62).isAgg=false:=by kernel_rfl
theorem sz62:(R 62).size=1:=by kernel_rfl
theorem se28:sliceElem C0.P 28=some (R 62):=by kernel_rfl
theorem ae28:arrayElem C0.P 28=none:=by kernel_rfl
theorem ld62{nm:Nat}{ev:Operand→AV}{dst:Option Tmp}{type:TypeId}{pos:String}{after:Array Edge}{guard:Option (Nat×Bool)}{hp:AHeap}{x:Operand}:
  (opEff C0.P nm ev ⟨dst,.load 62 x,type,pos,after,guard⟩).run hp=oneE (loadN false 1 hp (ev x)):=by rw[op_load ty62,loadV_N ag62 sz62]
theorem ix28(x ix:AV):indexAddrA C0.P 28 x ix=(asNat ix).bind fun i=>sliceIxA false 1 i x:=by rw[ix_slice se28 ae28,ag62,sz62]
def I1(ls:List (List AV))(k:Nat)(s:St):Prop:=
 ∃ (i:Nat) (j1 j4 j5 j6 j7 j8 j12 j13 j14 j15 j16 j17 j18 j19 j20 j21 j22 j23 j24 j25 j26 j27 j28 j29 j30 j31 j32 j33 j34 j35:AV),k=ls.length-i∧i≤ls.length∧s=⟨42,[.sl (ls.map .sl),j1,.lit nilSl,int ((ls.take i).flatten.length:Nat),j4,j5,j6,j7,j8,.sl (ls.map .sl),int ls.length,int i,j12,j13,j14,j15,j16,j17,j18,j19,j20,j21,j22,j23,j24,j25,j26,j27,j28,j29,j30,j31,j32,j33,j34,j35],[]⟩
def P1(ls:List (List AV))(o:Out):Prop:=
 ∃ (j11 j1 j4 j5 j6 j7 j8 j12 j13 j14 j15 j16 j17 j18 j19 j20 j21 j22 j23 j24 j25 j26 j27 j28 j29 j30 j31 j32 j33 j34 j35:AV),o=.exit 0 ⟨42,[.sl (ls.map .sl),j1,.lit nilSl,int (ls.flatten.length:Nat),j4,j5,j6,j7,j8,.sl (ls.map .sl),int ls.length,j11,j12,j13,j14,j15,j16,j17,j18,j19,j20,j21,j22,j23,j24,j25,j26,j27,j28,j29,j30,j31,j32,j33,j34,j35],[]⟩
theorem flat_le{α:Type}(ls:List (List α))(i:Nat):(ls.take i).flatten.length≤ls.flatten.length:=by
 have h:ls.flatten.length=(ls.take i).flatten.length+(ls.drop i).flatten.length:=by
  rw[←List.length_append,←List.flatten_append,List.take_append_drop]
 omega
theorem flat_succ{α:Type}(ls:List (List α))(i:Nat)(h:i<ls.length):(ls.take (i+1)).flatten=(ls.take i).flatten++ls[i]:=by
 rw[List.take_succ_eq_append_getElem h,List.flatten_append]; simp only[List.flatten_cons,List.flatten_nil,List.append_nil]
noncomputable def cur(ls:List (List AV))(i:Nat):AV:=if ls.flatten.length=0 then .lit nilSl else .osl (R 72).size 0 ls.flatten.length 0 (ls.take i).flatten.length none
noncomputable def hpc(ls:List (List AV))(i:Nat):AHeap:=if ls.flatten.length=0 then [] else [some (.arr true true false ((ls.take i).flatten++List.replicate (ls.flatten.length-(ls.take i).flatten.length) zero72))]
theorem grow_cur(ls:List (List AV))(h1:ls.flatten.length*(R 72).bytes≤2^44)(h2:ls.flatten.length≤2^44):runF C0 81 [.lit (.slice none 0 0),int ls.flatten.length] []=some (.val (cur ls 0),hpc ls 0):=by
 unfold cur hpc
 by_cases h:ls.flatten.length=0
 ·rw[if_pos h,if_pos h,h]; exact grow_zero
 ·rw[if_neg h,if_neg h]
  simpa using grow_pos _ (by omega) h1 h2
theorem trunc_cur(ls:List (List AV))(i:Nat):truncA 0 (cur ls i) (hpc ls i)=hpc ls i:=by
 unfold cur hpc truncA
 by_cases h:ls.flatten.length=0
 ·rw[if_pos h,if_pos h]; simp
 ·rw[if_neg h,if_neg h]; simp[below]
theorem forget_cur(ls:List (List AV))(i:Nat):forget (hpc ls i).length (cur ls (i+1))=cur ls (i+1):=by
 apply forget_eq
 unfold cur hpc
 by_cases h:ls.flatten.length=0
 ·rw[if_pos h,if_pos h]; rfl
 ·rw[if_neg h,if_neg h]; simp[below]
theorem reset_cur(ls:List (List AV))(i:Nat)(f:Nat)(fr:List AV):resetA (hpc ls i).length ⟨f,fr,hpc ls (i+1)⟩=⟨f,fr.map (forget (hpc ls i).length),hpc ls (i+1)⟩:=by
 have hl:(hpc ls i).length=(hpc ls (i+1)).length:=by
  unfold hpc
  by_cases h:ls.flatten.length=0
  ·rw[if_pos h,if_pos h]
  ·rw[if_neg h,if_neg h]; rfl
 have ht:(hpc ls (i+1)).take (hpc ls i).length=hpc ls (i+1):=by rw[hl]; exact List.take_length
 rw[reset_eq]
 ·simp only[ht]
 ·simp only[ht]
  unfold hpc
  by_cases h:ls.flatten.length=0
  ·rw[if_pos h]; rfl
  ·rw[if_neg h]; rfl
theorem putElems_end(a ys:List AV)(k:Nat)(z:AV)(h:ys.length≤k):putElems (a++List.replicate k z) a.length ys=a++ys++List.replicate (k-ys.length) z:=by
 induction ys generalizing a k with
 |nil=>simp[putElems]
 |cons y ys ih=>
  obtain⟨k,rfl⟩:∃ m,k=m+1:=⟨k-1,by simp at h; omega⟩
  have:=ih (a++[y]) k (by simp at h; omega)
  simp only[putElems,List.replicate_succ]
  simp only[List.length_append,List.length_cons,List.length_nil]at this
  rw[List.set_append_right _ _ (Nat.le_refl _),Nat.sub_self,List.set_cons_zero]
  simpa[List.append_assoc] using this
theorem app_cur(ls:List (List AV))(i:Nat)(hi:i<ls.length)(hall:ls[i].all (okElem (R 72).isAgg (R 72).size)=true):
  ∃ wr,(∀ nm,(appendA C0.P nm 62 62 (cur ls i) (.sl ls[i])).run (hpc ls i)=some ⟨cur ls (i+1),wr⟩)∧applyWr (hpc ls i) wr=hpc ls (i+1):=by
 have hr:0<(R 72).size:=by rw[sz72]; decide
 have hf:=flat_succ ls i hi
 have hle:=flat_le ls (i+1)
 have hlen:(ls.take (i+1)).flatten.length=(ls.take i).flatten.length+ls[i].length:=by rw[hf,List.length_append]
 by_cases h:ls.flatten.length=0
 ·have he:ls[i]=[]:=List.length_eq_zero_iff.1 (by omega)
  refine⟨[],fun nm=>?_,?_⟩
  ·unfold cur hpc
   rw[if_pos h,if_pos h,if_pos h,he]
   simp[appendA,se62,srcA,st62,elemsA,RM.run_bind,RM.run_pure,ze72,hr]
  ·unfold hpc; rw[if_pos h,if_pos h]; rfl
 ·by_cases he:ls[i]=[]
  ·have hl0:ls[i].length=0:=by rw[he]; rfl
   rw[hl0]at hlen
   have hf2:(ls.take (i+1)).flatten=(ls.take i).flatten:=by rw[hf,he,List.append_nil]
   refine⟨[],fun nm=>?_,?_⟩
   ·unfold cur hpc
    rw[if_neg h,if_neg h,if_neg h,he,hf2]
    simp[appendA,se62,srcA,st62,elemsA,RM.run_bind,RM.run_pure,ze72,hr]
   ·unfold hpc; rw[if_neg h,if_neg h,hf2]; rfl
  ·have hne:ls[i].isEmpty=false:=by cases hq:ls[i]<;>simp_all
   have hes:((ls.take i).flatten++List.replicate (ls.flatten.length-(ls.take i).flatten.length) zero72).length=ls.flatten.length:=by
    rw[List.length_append,List.length_replicate]; omega
   refine⟨[(0,.arr true true false ((ls.take (i+1)).flatten++List.replicate (ls.flatten.length-(ls.take (i+1)).flatten.length) zero72))],fun nm=>?_,?_⟩
   ·unfold cur hpc
    rw[if_neg h,if_neg h,if_neg h]
    have ho:=RM.run_arr_mk (hp:=[some (.arr true true false ((ls.take i).flatten++List.replicate (ls.flatten.length-(ls.take i).flatten.length) zero72))]) (n:=0) rfl
    rw[hes]at ho
    have hput:=putElems_end (ls.take i).flatten ls[i] (ls.flatten.length-(ls.take i).flatten.length) zero72 (by omega)
    simp only[appendA,se62,srcA,st62,elemsA,RM.run_bind,RM.run_pure,Option.bind_some,ze72,hr,hall,decide_true,Bool.and_self,hne,ho]
    rw[if_neg (by rintro (h1|h1|h1); (exact absurd h1 (by decide)); (rw[hes]at h1; omega); (exact h1 rfl)),if_pos (by simp only[Option.getD_none]; omega),if_pos (by rw[hes]; omega)]
    simp only[RM.run_pure,Nat.zero_add,hput,hlen,←hf]
    rw[Nat.sub_sub]
   ·unfold hpc; rw[if_neg h,if_neg h]; rfl
def I2(ls:List (List AV))(k:Nat)(s:St):Prop:=
 ∃ (i:Nat) (j1 j4 j5 j7 j8 j9 j10 j11 j12 j13 j14 j15 j16 j17 j18 j19 j20 j21 j22 j23 j24 j28 j29 j30 j31 j32 j33 j34 j35:AV),k=ls.length-i∧i≤ls.length∧s=⟨42,[.sl (ls.map .sl),j1,.lit nilSl,int (ls.flatten.length:Nat),j4,j5,cur ls i,j7,j8,j9,j10,j11,j12,j13,j14,j15,j16,j17,j18,j19,j20,j21,j22,j23,j24,.sl (ls.map .sl),int ls.length,int i,j28,j29,j30,j31,j32,j33,j34,j35],hpc ls i⟩
def P2(ls:List (List AV))(o:Out):Prop:=
 ∃ (j27 j1 j4 j5 j7 j8 j9 j10 j11 j12 j13 j14 j15 j16 j17 j18 j19 j20 j21 j22 j23 j24 j28 j29 j30 j31 j32 j33 j34 j35:AV),o=.exit 2 ⟨42,[.sl (ls.map .sl),j1,.lit nilSl,int (ls.flatten.length:Nat),j4,j5,cur ls ls.length,j7,j8,j9,j10,j11,j12,j13,j14,j15,j16,j17,j18,j19,j20,j21,j22,j23,j24,.sl (ls.map .sl),int ls.length,j27,j28,j29,j30,j31,j32,j33,j34,j35],hpc ls ls.length⟩
theorem concat_run(ls:List (List AV))(hn:ls.length≤2^44)(hall:∀ l∈ls,l.all (okElem (R 72).isAgg (R 72).size)=true)(hT1:ls.flatten.length*(R 72).bytes≤2^44)(hT:ls.flatten.length≤2^44):∃ res hpf,runF C0 42 [.sl (ls.map .sl)] []=some (.val res,hpf)∧(sealV 1000 res).run hpf=some (.sl ls.flatten):=by
 have key:runF C0 42 [.sl (ls.map .sl)] []=some (.val (cur ls ls.length),hpc ls ls.length):=by
  rw[runF_eq (fn:=Tryd.f42) fn42 rfl]
  have hacc:∀ f d,C0.acc f d=false:=fun _ _=>rfl
  have hr:0<(R 72).size:=by rw[sz72]; decide
  simp (decide:=true) only [Tryd.f42,ro_asNil,hacc,op_len st28,List.length_map,runC_seq,runC_ops,preps,guardG,List.map_cons,List.map_nil,runG_always,runG_nil,ro_move,ro_builtin,ro_asInt,op_move,op_assign,evalA,constA,ofVal,doneE,putA,thenG_norm,app_nil,andThen_norm,List.getElem?_toArray,List.replicate_succ,List.replicate_zero,Nat.reduceSub,Option.bind_some,List.length_nil,List.length_cons,List.nil_append,List.cons_append,Nat.zero_add,fgz,fgs,fsz,fss,runC_block,Option.bind_assoc,lenE_sl]
  refine loop_bind (I1 ls) (P1 ls) ls.length ?_ ?_ ?_
  ·exact⟨0,_,_,_,_,_,_,_,_,_,_,_,_,_,_,_,_,_,_,_,_,_,_,_,_,_,_,_,_,_,_,rfl,Nat.zero_le _,rfl⟩
  ·rintro k s ⟨i,j1,j4,j5,j6,j7,j8,j12,j13,j14,j15,j16,j17,j18,j19,j20,j21,j22,j23,j24,j25,j26,j27,j28,j29,j30,j31,j32,j33,j34,j35,hk,hi,rfl⟩
   have hwrap:IntKind.i64.wrap ((i:Int)+1)=((i+1:Nat):Int):=by
    rw[IntWalk.i64_in _ (by omega)]; omega
   by_cases hlt:i<ls.length
   ·have hget:(ls.map AV.sl)[i]?=some (.sl ls[i]):=by simp[hlt]
    have hok:okElem false 1 (.sl ls[i])=true:=by simp[okElem,isLeaf]
    have hp0:partA false 1 (.sl ls[i]) 0=some (.sl ls[i]):=by simp[partA,isLeaf]
    have hlt2:((i:Int)<(ls.length:Int)):=by omega
    have hf:=flat_succ ls i hlt
    have hle:=flat_le ls (i+1)
    have hlen:(ls.take (i+1)).flatten.length=(ls.take i).flatten.length+ls[i].length:=by rw[hf,List.length_append]
    have hsz:IntKind.i64.wrap (((ls.take i).flatten.length:Int)+(ls[i].length:Int))=(((ls.take (i+1)).flatten.length:Nat):Int):=by
     rw[IntWalk.i64_in _ (by omega)]; omega
    have hneg:¬(((ls.take (i+1)).flatten.length:Int)<0):=by omega
    left
    refine⟨_,by simp (decide:=true) only [hget,hok,hlt2,hwrap,hsz,hneg,ld62,ix28,op_len st62,bol,runC_seq,runC_ops,preps,guardG,List.map_cons,List.map_nil,runG_always,runG_nil,ro_move,ro_load,ro_binOp,ro_indexAddr,ro_builtin,ro_asTmp,op_move,op_assign,op_bin,evalA,constA,ofVal,doneE,putA,thenG_norm,ifA_tt,ifA_ff,app_nil,bin_lss,bin_add,andThen_norm,List.getElem?_toArray,Option.bind_some,Option.map_some,decide_true,decide_false,List.length_nil,isLeaf,oneE,partA,if_true,fgz,fgs,fsz,fss,runC_block,runC_cond,blockA_norm,op_indexAddr,asNat_cast,sliceIxA,loadN,runC_skip,lenE_sl]; rfl,ls.length-(i+1),by omega,?_⟩
    rw[reset_eq (by simp)]
    exact⟨i+1,_,_,_,_,_,_,_,_,_,_,_,_,_,_,_,_,_,_,_,_,_,_,_,_,_,_,_,_,_,_,rfl,by omega,rfl⟩
   ·have hlt2:¬((i:Int)<(ls.length:Int)):=by omega
    have hie:i=ls.length:=by omega
    right
    refine⟨_,by simp (decide:=true) only [hlt2,bol,runC_seq,runC_ops,preps,guardG,List.map_cons,List.map_nil,runG_always,runG_nil,ro_binOp,op_bin,evalA,doneE,putA,thenG_norm,ifA_ff,app_nil,bin_lss,andThen_norm,andThen_exit,List.getElem?_toArray,Option.bind_some,Option.map_some,decide_false,List.length_nil,fgz,fgs,fsz,fss,runC_cond,runC_exit]; rfl,by simp,?_⟩
    have:ls.take i=ls:=by rw[hie]; exact List.take_length
    rw[this]
    exact⟨_,_,_,_,_,_,_,_,_,_,_,_,_,_,_,_,_,_,_,_,_,_,_,_,_,_,_,_,_,_,_,rfl⟩
  ·rintro o ⟨j11,j1,j4,j5,j6,j7,j8,j12,j13,j14,j15,j16,j17,j18,j19,j20,j21,j22,j23,j24,j25,j26,j27,j28,j29,j30,j31,j32,j33,j34,j35,rfl⟩
   simp (decide:=true) only [runC_seq,runC_ops,preps,guardG,List.map_cons,List.map_nil,runG_always,ro_move,op_move,evalA,constA,ofVal,doneE,putA,thenG_norm,app_nil,andThen_norm,List.getElem?_toArray,Option.bind_some,List.length_nil,runO_call,resolve_fn,fgz,fgs,fsz,fss,blockA_eq,Option.bind_assoc]
   have hk38:C0.kind 81=.imp:=rfl
   have hal38:∀ a t,isAllocOp (Op.call ⟨.value (.func 81),a,t⟩)=false:=fun _ _=>rfl
   simp only[calleeA,callA,hal38,hk38]
   rw[grow_cur ls hT1 hT]
   simp only[Option.bind_some,doneI,List.length_nil,trunc_cur]
   simp (decide:=true) only [op_len st28,List.length_map,runC_seq,runC_ops,preps,guardG,List.map_cons,List.map_nil,runG_always,runG_nil,ro_move,ro_builtin,ro_asTmp,op_move,op_assign,evalA,constA,ofVal,doneE,putA,thenG_norm,app_nil,andThen_norm,List.getElem?_toArray,Option.bind_some,fgz,fgs,fsz,fss,runC_block,Option.bind_assoc,lenE_sl]
   refine loop_bind (I2 ls) (P2 ls) ls.length ?_ ?_ ?_
   ·exact⟨0,_,_,_,_,_,_,_,_,_,_,_,_,_,_,_,_,_,_,_,_,_,_,_,_,_,_,_,_,_,rfl,Nat.zero_le _,rfl⟩
   ·rintro k s ⟨i,j1,j4,j5,j7,j8,j9,j10,j11,j12,j13,j14,j15,j16,j17,j18,j19,j20,j21,j22,j23,j24,j28,j29,j30,j31,j32,j33,j34,j35,hk,hi,rfl⟩
    have hwrap:IntKind.i64.wrap ((i:Int)+1)=((i+1:Nat):Int):=by
     rw[IntWalk.i64_in _ (by omega)]; omega
    by_cases hlt:i<ls.length
    ·have hget:(ls.map AV.sl)[i]?=some (.sl ls[i]):=by simp[hlt]
     have hok:okElem false 1 (.sl ls[i])=true:=by simp[okElem,isLeaf]
     have hp0:partA false 1 (.sl ls[i]) 0=some (.sl ls[i]):=by simp[partA,isLeaf]
     have hlt2:((i:Int)<(ls.length:Int)):=by omega
     obtain⟨wr,hap,hwr⟩:=app_cur ls i hlt (hall _ (List.getElem_mem hlt))
     left
     refine⟨_,by simp (decide:=true) only [hget,hok,hlt2,hwrap,op_app,hap,hwr,ld62,ix28,bol,runC_seq,runC_ops,preps,guardG,List.map_cons,List.map_nil,runG_always,runG_nil,ro_move,ro_load,ro_binOp,ro_indexAddr,ro_builtin,ro_asTmp,op_move,op_assign,op_bin,evalA,constA,ofVal,doneE,putA,thenG_norm,ifA_tt,app_nil,bin_lss,bin_add,andThen_norm,List.getElem?_toArray,Option.bind_some,Option.map_some,decide_true,isLeaf,oneE,partA,if_true,fgz,fgs,fsz,fss,runC_block,runC_cond,blockA_norm,op_indexAddr,asNat_cast,sliceIxA,loadN,runC_skip]; rfl,ls.length-(i+1),by omega,?_⟩
     rw[reset_cur]
     simp only[List.map_cons,List.map_nil,forget_cur]
     exact⟨i+1,_,_,_,_,_,_,_,_,_,_,_,_,_,_,_,_,_,_,_,_,_,_,_,_,_,_,_,_,_,rfl,by omega,rfl⟩
    ·have hlt2:¬((i:Int)<(ls.length:Int)):=by omega
     have hie:i=ls.length:=by omega
     right
     refine⟨_,by simp (decide:=true) only [hlt2,bol,runC_seq,runC_ops,preps,guardG,List.map_cons,List.map_nil,runG_always,runG_nil,ro_binOp,op_bin,evalA,doneE,putA,thenG_norm,ifA_ff,app_nil,bin_lss,andThen_norm,andThen_exit,List.getElem?_toArray,Option.bind_some,Option.map_some,decide_false,fgz,fgs,fsz,fss,runC_cond,runC_exit]; rfl,by simp,?_⟩
     subst hie
     exact⟨_,_,_,_,_,_,_,_,_,_,_,_,_,_,_,_,_,_,_,_,_,_,_,_,_,_,_,_,_,_,rfl⟩
   ·rintro o ⟨j27,j1,j4,j5,j7,j8,j9,j10,j11,j12,j13,j14,j15,j16,j17,j18,j19,j20,j21,j22,j23,j24,j28,j29,j30,j31,j32,j33,j34,j35,rfl⟩
    simp (decide:=true) only [runC_seq,runC_ops,preps,guardG,List.map_cons,List.map_nil,runG_always,runG_nil,ro_move,ro_asTmp,op_move,op_assign,evalA,doneE,putA,thenG_norm,app_nil,andThen_norm,runC_ret,endF_ret,res_nil,res_tmp,tup_one,List.getElem?_toArray,Option.bind_some,Option.map_some,fgz,fgs,fsz,fss,blockA_eq]
 refine⟨_,_,key,?_⟩
 unfold cur hpc
 by_cases h:ls.flatten.length=0
 ·rw[if_pos h,if_pos h,List.length_eq_zero_iff.1 h]; rfl
 ·rw[if_neg h,if_neg h]
  simp only[List.take_length,Nat.sub_self,List.replicate_zero,List.append_nil]
  exact seal_whole (RM.run_arr_mk rfl)
end Go.Proofs.YtomccdllhpolbaaDoor.Lib80
end
section
namespace Go.Proofs.YtomccdllhpolbaaDoor.Lib
open Go.PI
noncomputable def C0:Ctx where
 P:=Tryd.prog
 kind:=fun f=>if f=81 then .imp else .pure
 intr:=fun _=>none
 acc:=fun _ _=>false
instance:NoNils C0:=⟨rfl,rfl⟩
theorem fn80:C0.P.funcs[80]?=some Tryd.f80:=by kernel_rfl
noncomputable def R(t:Nat):TyRow:=(tyOf Tryd.prog t).getD ⟨.bool,0,0,none,false⟩
theorem se62:sliceElem C0.P 62=some (R 72):=by kernel_rfl
theorem st62:isSliceTy C0.P 62=true:=by kernel_rfl
theorem ze72:(elemZero (R 72)).isSome=true:=by kernel_rfl
theorem sz72:(R 72).size=9:=by kernel_rfl
theorem ag72:(R 72).isAgg=true:=by kernel_rfl
theorem by72:(R 72).bytes=64:=by kernel_rfl
theorem nil_eq(xs:List AV)(c:Nat)(x y:Operand):binA C0.P .eql 62 x y (.slx xs c) (.lit (.slice none 0 0))=some (bol false):=by
 unfold binA
 have h:eqAggA C0.P .eql 62 (.slx xs c) (.lit (.slice none 0 0))=none:=by kernel_rfl
 rw[h]
 show nilEqA C0.P .eql 62 (.slx xs c) (.slice none 0 0)=_
 kernel_rfl
theorem clone_nil:runF C0 80 [.lit nilSl] []=some (.val (.lit nilSl),[]):=
 (lim_some (growF C0 80 [.lit nilSl] [])).2 ⟨100,by kernel_rfl⟩
theorem clone_empty(cap:Nat):∃ n cl hpf,runF C0 80 [.slx [] cap] []=some (.val (.osl (R 72).size n 0 0 0 (some 0)),hpf)∧hpf[n]?=some (some (.arr false cl false [])):=
 ⟨0,true,[some (.arr false true false [])],(lim_some (growF C0 80 [.slx [] cap] [])).2 ⟨100,by kernel_rfl⟩,rfl⟩
theorem clone_slx(xs:List AV)(cap:Nat)(hx:xs≠[])(hall:xs.all (okElem (R 72).isAgg (R 72).size)=true)(h1:xs.length*(R 72).bytes≤2^44)(h2:xs.length≤2^44):∃ n cl hpf,runF C0 80 [.slx xs cap] []=some (.val (.osl (R 72).size n xs.length 0 xs.length none),hpf)∧hpf[n]?=some (some (.arr true cl false xs)):=by
 rw[runF_eq (fn:=Tryd.f80) fn80 rfl]
 have hacc:∀ f d,C0.acc f d=false:=fun _ _=>rfl
 have hr:0<(R 72).size:=by rw[sz72]; decide
 simp (decide:=true) only [Tryd.f80,ro_asNil,hacc,op_build0 se62 ze72 hr,op_app,nil_eq,bol,runC_seq,runC_ops,preps,guardG,List.map_cons,List.map_nil,runG_always,runG_nil,ro_move,ro_buildSlice,ro_binOp,ro_builtin,ro_asTmp,op_move,op_assign,op_bin,evalA,constA,ofVal,doneE,putA,thenG_norm,ifA_ff,app_nil,app_cons,andThen_norm,runC_ret,endF_ret,res_nil,res_tmp,tup_one,List.getElem?_toArray,List.replicate_succ,List.replicate_zero,Nat.reduceSub,Option.bind_some,Option.map_some,setObj_new,List.length_nil,List.length_cons,List.nil_append,List.cons_append,Nat.zero_add,fgz,fgs,fsz,fss,runC_cond,Option.bind_assoc,runC_skip]
 rw[app_first se62 st62 ze72 hr hall hx rfl h1 h2]
 simp (decide:=true) only [app_nil,app_cons,Option.bind_some,setObj_new,List.length_nil,List.length_cons,List.nil_append,List.cons_append,Nat.zero_add]
 exact⟨_,_,_,rfl,rfl⟩
end Go.Proofs.YtomccdllhpolbaaDoor.Lib
end
section
/- The context of this seat, contracts of library functions, the example. -/
set_option maxRecDepth 100000
set_option maxHeartbeats 0
namespace Go.Proofs.YtomccdllhpolbaaDoor
open Go.PI
def row72:TyRow:=⟨.struct #[],9,64,none,false⟩
noncomputable def C:Ctx where
 P:=Tryd.prog
 kind:=fun f=>match Go.PI.lookS [(10,()),(15,()),(16,()),(46,()),(47,()),(48,()),(51,()),(52,()),(54,()),(55,()),(56,()),(57,()),(58,()),(61,()),(68,()),(74,()),(75,()),(76,()),(77,()),(80,()),(82,()),(84,()),(85,()),(86,()),(88,()),(89,()),(90,()),(92,()),(93,()),(95,()),(110,()),(111,()),(112,()),(114,()),(115,()),(116,()),(117,()),(118,())] f with|some _=>.imp|none=>.pure
 intr:=fun g=>Go.PI.lookS [(42,concatI row72)] g
 acc:=fun _ _=>true
 intrO:=fun g=>Go.PI.lookS [(80,cloneO row72)] g
 nils:=fun f d=>(Go.PI.look2 [(27,11,[(0,8)]),(74,27,[(18,8)]),(8,21,[(15,8),(16,8),(17,8)])] f d).getD []
 holes:=fun f d=>(Go.PI.look2 [(35,7,[(9,5)]),(36,5,[(4,5)]),(36,8,[(9,5)]),(36,14,[(9,5)]),(27,5,[(4,5)]),(8,2,[(4,15),(4,16),(4,17)])] f d).getD []
 cuts:=fun f d=>(Go.PI.look2 [(76,5,2)] f d).getD 0
theorem nameOk : ∀ (f : FuncId) (fn : Func), Tryd.prog.funcs[f]? = some fn → fn.body.isSome = true → (fn.name == "runtime.NumGoroutine") = false := by
 have h : (Tryd.prog.funcs.toList.all fun fn => !(fn.name == "runtime.NumGoroutine") || !fn.body.isSome) = true := by kernel_rfl
 intro f fn hf hb
 have hm:fn∈Tryd.prog.funcs.toList:=by
  have:=Array.mem_of_getElem? hf
  exact Array.mem_toList_iff.2 this
 have:=List.all_eq_true.1 h fn hm
 rw[hb]at this
 simpa using this
theorem libOk:Lib.C0.Ok where
 name:=nameOk
 intr:=fun g h al r hg=>by cases hg
 intrE:=fun g h al hp e h1=>by cases h1
 intrO:=fun g h al r hpf hg=>by cases hg
 intrOFn:=fun g h hg=>by cases hg
 intrFn:=fun g h hg=>by cases hg
theorem libOk80:Lib80.C0.Ok where
 name:=nameOk
 intr:=fun g h al r hg=>by simp[Lib80.C0]at hg
 intrE:=fun g h al hp e h1=>by cases h1
 intrFn:=fun g h hg=>by simp[Lib80.C0]at hg
 intrO:=fun g h al r hpf hg=>by simp[Lib80.C0]at hg
 intrOFn:=fun g h hg=>by simp[Lib80.C0]at hg
theorem only80{g:FuncId}{h:List AV→Option (AV×AHeap)}(hg:C.intrO g=some h):g=80∧h=cloneO row72:=by
 have:=lookS_mem (show Go.PI.lookS [(80,cloneO row72)] g=some h from hg)
 simp only[List.mem_singleton,Prod.mk.injEq]at this
 exact this
theorem only42{g:FuncId}{h:List AV→Option AV}(hg:C.intr g=some h):g=42∧h=concatI row72:=by
 have:=lookS_mem (show Go.PI.lookS [(42,concatI row72)] g=some h from hg)
 simp only[List.mem_singleton,Prod.mk.injEq]at this
 exact this
theorem Cok:C.Ok where
 name:=nameOk
 intr:=by
  intro g h al r hg hr Ec w vs hI ha
  obtain⟨rfl,rfl⟩:=only42 hg
  exact concat_ok (r:=row72) libOk80 (fun ls h0 h1 h2 h3=>Lib80.concat_run ls h0 (by rw[Lib80.ag72,Lib80.sz72]; exact h1) (by rw[Lib80.by72]; exact h2) h3) hr Ec w vs hI ha
 intrFn:=by
  intro g h hg
  obtain⟨rfl,rfl⟩:=only42 hg
  exact⟨_,Lib80.fn42,rfl⟩
 intrE:=fun g h al hp e h1=>by cases h1
 intrO:=by
  intro g h al r hpf hg hr Ec w vs hI ha
  obtain⟨rfl,rfl⟩:=only80 hg
  exact cloneO_ok (r:=row72) libOk Lib.clone_nil (fun cap=>Lib.clone_empty cap) (fun xs cap h0 h1 h2 h3=>Lib.clone_slx xs cap h0 (by rw[Lib.ag72,Lib.sz72]; exact h1) (by rw[Lib.by72]; exact h2) h3) hr Ec w vs hI ha
 intrOFn:=by
  intro g h hg
  obtain⟨rfl,rfl⟩:=only80 hg
  exact⟨_,Lib.fn80,rfl⟩
theorem ok72(x:Queued)(a:AV)(h:rp71 x a):okElem row72.isAgg row72.size a=true:=(ek71 x a h).1
theorem flat72(x:Queued)(a:AV)(h:rp71 x a):flat a=true:=by
 unfold rp71 at h
 subst h
 rfl
def _root_.Go.Models.slices_Clone(s:List Queued):Option (List Queued):=cloneM 64 s
def _root_.Go.Models.slices_Concat(s:List (List Queued)):Option (List Queued):=concatM 64 s
def _root_.Go.Models.top_head:Option Bool:=some true
theorem own80:OwnOk C T 80 ⟨[62],72,9,fun x=>Go.Models.slices_Clone x⟩:=
 ownOk_hand (C:=C) (T:=T) (g:=80) (t:=62) (el:=72) (esz:=9) (I:=cloneO row72) (F:=Go.Models.slices_Clone) rfl flat72 fun x a y h hy=>
  cloneO_ans (r:=row72) (rpe:=rp71) (x:=x) (y:=y) ok72 h hy
noncomputable def owns:List (Nat×OSumm T):=[(80,⟨[62],72,9,fun x=>Go.Models.slices_Clone x⟩)]
theorem ownsOk:∀ (g:FuncId) (σ:OSumm T),lookS owns g=some σ→OwnOk C T g σ:=by
 intro g σ h
 have:=lookS_mem h
 simp only[owns,List.mem_singleton,Prod.mk.injEq]at this
 obtain⟨rfl,rfl⟩:=this
 exact own80
theorem hand42:SumOk C T 42 ⟨[28],[62],fun x=>Go.Models.slices_Concat x⟩:=
 sumOk_hand (C:=C) (T:=T) (g:=42) (t:=28) (u:=62) (I:=concatI row72) (F:=Go.Models.slices_Concat) rfl rfl fun x a y h hy=>by
  obtain⟨l,h1,h2⟩:=concat_ans (r:=row72) (rpe:=rp71) (x:=x) (y:=y) ok72 h hy
  exact⟨l,h1,.inl ⟨l,rfl,h2⟩⟩
def sel:FuncId→Nat→Bool:=fun f _=>Nat.beq f 31
def tws:FuncId→Tmp→List Tw:=fun f d=>(Go.PI.look2 [(68,22,[.lst 22 0 8]),(88,8,[.arr 8 8]),(88,20,[.int 20 0]),(88,24,[.name 23]),(32,1000008,[.num 4 0 8]),(33,1000008,[.num 11 0 8]),(33,1000015,[.num 11 0 8]),(74,29,[.lst 29 0 2]),(74,52,[.name 49])] f d).getD []
end Go.Proofs.YtomccdllhpolbaaDoor
end
section
/- Models of the functions of this seat, and that they hold (printed by chain.py). -/
set_option maxRecDepth 100000
set_option maxHeartbeats 0
namespace Go.Proofs.YtomccdllhpolbaaDoor
open Go.PI
end Go.Proofs.YtomccdllhpolbaaDoor
open Go Go.PI Go.Proofs Go.Proofs.YtomccdllhpolbaaDoor
abbrev Go.Models.zP:Packet:=Packet.mk 0 0 0 0 0 0 false false
abbrev Go.Models.zW:Queued:=Queued.mk Go.Models.zP 0
abbrev Go.Models.zQ:Queue:=Queue.mk (Policy.mk 0 0 0 0) 0 [] (A8.mk 0 0 0 0 0 0 0 0) 0
abbrev Go.Models.v8(v:A8 Int)(i:Nat):Int:=selOf [v.e0,v.e1,v.e2,v.e3,v.e4,v.e5,v.e6,v.e7] i v.e0
noncomputable def Go.Models.top_calmR14:Option ((List Policy)):=
 some ([Policy.mk 1 0 0 0,Policy.mk 2 499 500 2,Policy.mk 3 1000000 1000000 0,Policy.mk 4 1000000 1000 1000,Policy.mk 5 700 0 0,Policy.mk 6 1000000 0 0])
noncomputable def Go.Models.tail_inside(n:Int)(low:Int)(high:Int):Option Bool:=
 bif decide (low≤n) then
 some (decide (n≤high))
 else
 some false
noncomputable def Go.Models.tail_line_waiting(l:Queue):Option ((List Queued)):=
 (l.Lists[0]?).bind fun l1=>
 some l1
noncomputable def Go.Models.tail_packet(p:Packet):Option Bool:=
 (Models.tail_inside p.Flow 0 7).bind fun b1=>
 bif b1 then
 (Models.tail_inside p.Sub 0 3).bind fun b2=>
 bif b2 then
 (Models.tail_inside p.Number 0 1000000000).bind fun b3=>
 bif b3 then
 (Models.tail_inside p.Data 0 1000000000).bind fun b4=>
 bif b4 then
 (Models.tail_inside p.Size 1 10000).bind fun b5=>
 bif b5 then
 (Models.tail_inside p.Sent 0 10000000).bind fun b6=>
 some b6
 else
 some false
 else
 some false
 else
 some false
 else
 some false
 else
 some false
noncomputable def Go.Models.tail_line_ordered(l:Queue):Option Bool:=
 (Models.tail_line_waiting l).bind fun l1=>
 (loopM (ω:=Int×Int ⊕ Int×Int×Int) (fun ((i2,i3,i4):Int×Int×Int)=>
 bif decide (i3<(↑l1.length:Int)) then
 gd (decide (0≤i3)) <|
 (l1[i3.toNat]?).bind fun q5=>
 bif decide (q5.At<i4) then
 some (Sum.inr (Sum.inl (i3,q5.At)))
 else
 bif decide (l.Vars.e7<q5.At) then
 some (Sum.inr (Sum.inl (i3,q5.At)))
 else
 (Models.tail_packet q5.P).bind fun b6=>
 bif !b6 then
 some (Sum.inr (Sum.inl (i3,q5.At)))
 else
 some (Sum.inl (i2,IntKind.i64.wrap (i3+1),q5.At))
 else
 some (Sum.inr (Sum.inr (i2,i3,i4)))) (0,0,0)).bind fun w7=>
 Sum.elim (fun (i8,i9)=>
 some (!decide (0≤i8))) (fun (i10,i11,i12)=>
 some true) w7
noncomputable def Go.Models.tail_line_valid(l:Queue):Option Bool:=
 bif l.Policy.Kind==1&&(l.Policy.A==0&&(l.Policy.B==0&&l.Policy.C==0)) then
 bif l.Vars.e0==0&&(l.Vars.e1==0&&(l.Vars.e2==0&&(l.Vars.e3==0&&(l.Vars.e4==0&&(l.Vars.e5==0&&(l.Vars.e6==0&&0==0)))))) then
 bif l.Seed==0 then
 (Models.tail_inside l.Vars.e7 0 10000000).bind fun b1=>
 bif b1 then
 (Models.tail_inside l.Room 1 500).bind fun b2=>
 bif b2 then
 bif (↑l.Lists.length:Int)==1 then
 (Models.tail_line_waiting l).bind fun l3=>
 bif decide ((↑l3.length:Int)≤l.Room) then
 (Models.tail_line_ordered l).bind fun b4=>
 some b4
 else
 some false
 else
 some false
 else
 some false
 else
 some false
 else
 some false
 else
 some false
 else
 some false
noncomputable def Go.Models.tail_Valid(q:Queue):Option Bool:=
 (Models.tail_line_valid q).bind fun b1=>
 some b1
noncomputable def Go.Models.tail_line_at(l:Queue)(now:Int):Option Int:=
 (Models.tail_line_valid l).bind fun b1=>
 bif !b1 then
 some 1
 else
 (Models.tail_inside now 0 10000000).bind fun b2=>
 bif !b2 then
 some 1
 else
 bif decide (now<l.Vars.e7) then
 some 18
 else
 some 0
noncomputable def Go.Models.tail_line_with(l:Queue)(list:List Queued)(now:Int):Option Queue:=
 (Models.slices_Clone list).bind fun l1=>
 some (Queue.mk l.Policy l.Room [l1] (A8.mk l.Vars.e0 l.Vars.e1 l.Vars.e2 l.Vars.e3 l.Vars.e4 l.Vars.e5 l.Vars.e6 now) l.Seed)
noncomputable def Go.Models.tail_Put(q:Queue)(p:Packet)(now:Int):Option (Queue×(List Packet)×Int):=
 (Models.tail_packet p).bind fun b1=>
 bif !b1 then
 some (zQ,[],1)
 else
 (Models.tail_line_at q now).bind fun i2=>
 bif !i2==0 then
 some (zQ,[],i2)
 else
 (Models.tail_line_waiting q).bind fun l3=>
 bif (↑l3.length:Int)==q.Room then
 (Models.tail_line_waiting q).bind fun l4=>
 (Models.tail_line_with q l4 now).bind fun q5=>
 some (q5,[p],0)
 else
 (Models.tail_line_waiting q).bind fun l6=>
 (Models.slices_Concat [l6,[Queued.mk p now]]).bind fun l7=>
 (Models.tail_line_with q l7 now).bind fun q8=>
 some (q8,[],0)
noncomputable def Go.Models.tail_Take(q:Queue)(now:Int):Option (Queue×Packet×Bool×(List Packet)×Int):=
 (Models.tail_line_at q now).bind fun i1=>
 bif !i1==0 then
 some (zQ,zP,false,[],i1)
 else
 (Models.tail_line_waiting q).bind fun l2=>
 bif (↑l2.length:Int)==0 then
 (Models.tail_line_with q [] now:Option Queue).bind fun q3=>
 some (q3,zP,false,[],0)
 else
 (Models.tail_line_waiting q).bind fun l4=>
 gd (decide (1≤l4.length)) <|
 (Models.tail_line_with q (List.drop 1 l4) now).bind fun q5=>
 (Models.tail_line_waiting q).bind fun l6=>
 (l6[0]?).bind fun q7=>
 some (q5,q7.P,true,[],0)
noncomputable def Go.Models.early_in(n:Int)(low:Int)(high:Int):Option Bool:=
 bif decide (low≤n) then
 some (decide (n≤high))
 else
 some false
noncomputable def Go.Models.early_isPacket(p:Packet):Option Bool:=
 (Models.early_in p.Flow 0 7).bind fun b1=>
 bif b1 then
 (Models.early_in p.Sub 0 3).bind fun b2=>
 bif b2 then
 (Models.early_in p.Number 0 1000000000).bind fun b3=>
 bif b3 then
 (Models.early_in p.Data 0 1000000000).bind fun b4=>
 bif b4 then
 (Models.early_in p.Size 1 10000).bind fun b5=>
 bif b5 then
 (Models.early_in p.Sent 0 10000000).bind fun b6=>
 some b6
 else
 some false
 else
 some false
 else
 some false
 else
 some false
 else
 some false
noncomputable def Go.Models.early_queue_isList(q:Queue):Option Bool:=
 (q.Lists[0]?).bind fun l1=>
 (loopM (ω:=Bool ⊕ Bool×Int×Int) (fun ((b2,i3,i4):Bool×Int×Int)=>
 bif decide (i4<(↑l1.length:Int)) then
 gd (decide (0≤i4)) <|
 (l1[i4.toNat]?).bind fun q5=>
 (Models.early_isPacket q5.P).bind fun b6=>
 bif !b6 then
 some (Sum.inr (Sum.inl false))
 else
 (Models.early_in q5.At i3 q.Vars.e7).bind fun b7=>
 bif !b7 then
 some (Sum.inr (Sum.inl false))
 else
 some (Sum.inl (b2,q5.At,IntKind.i64.wrap (i4+1)))
 else
 some (Sum.inr (Sum.inr (b2,i3,i4)))) (false,0,0)).bind fun w8=>
 Sum.elim (fun b9=>
 some b9) (fun (b10,i11,i12)=>
 (q.Lists[0]?).bind fun l13=>
 some (decide ((↑l13.length:Int)≤q.Room))) w8
noncomputable def Go.Models.early_Valid(q:Queue):Option Bool:=
 bif !q.Policy.Kind==2 then
 some false
 else
 bif decide (q.Policy.A<1) then
 some false
 else
 bif decide (q.Policy.B≤q.Policy.A) then
 some false
 else
 bif decide (500<q.Policy.B) then
 some false
 else
 (Models.early_in q.Policy.C 0 10).bind fun b1=>
 bif !b1 then
 some false
 else
 (Models.early_in q.Room 1 500).bind fun b2=>
 bif !b2 then
 some false
 else
 bif !(↑q.Lists.length:Int)==1 then
 some false
 else
 bif 0==0&&(q.Vars.e1==0&&(q.Vars.e2==0&&(q.Vars.e3==0&&(q.Vars.e4==0&&(q.Vars.e5==0&&(q.Vars.e6==0&&0==0)))))) then
 (Models.early_in q.Vars.e0 0 512000).bind fun b3=>
 bif b3 then
 (Models.early_in q.Vars.e7 0 10000000).bind fun b4=>
 bif b4 then
 (Models.early_queue_isList q).bind fun b5=>
 some b5
 else
 some false
 else
 some false
 else
 some false
noncomputable def Go.Models.random_Next(seed:Int):Option (Int×Int):=
 (loopM (ω:=Int×Int) (fun ((i1,i2):Int×Int)=>
 bif decide (i2<3) then
 gd (decide (0≤i2)) <|
 bif decide (i2.toNat=0) then
 gd (decide (0≤i2)) <|
 bif decide (i2.toNat=0) then
 some (Sum.inl (IntKind.u64.wrap (IntKind.u64.wrap (↑(BitVec.ofInt 64 i1 ^^^ BitVec.ofInt 64 (i1.fdiv (2^min 30 64))).toNat:Int)*13787848793156543929),IntKind.i64.wrap (i2+1)))
 else
 bif decide (i2.toNat=1) then
 some (Sum.inl (IntKind.u64.wrap (IntKind.u64.wrap (↑(BitVec.ofInt 64 i1 ^^^ BitVec.ofInt 64 (i1.fdiv (2^min 30 64))).toNat:Int)*10723151780598845931),IntKind.i64.wrap (i2+1)))
 else
 gd (decide (i2.toNat=2)) <|
 some (Sum.inl (IntKind.u64.wrap (IntKind.u64.wrap (↑(BitVec.ofInt 64 i1 ^^^ BitVec.ofInt 64 (i1.fdiv (2^min 30 64))).toNat:Int)*1),IntKind.i64.wrap (i2+1)))
 else
 bif decide (i2.toNat=1) then
 gd (decide (0≤i2)) <|
 bif decide (i2.toNat=0) then
 some (Sum.inl (IntKind.u64.wrap (IntKind.u64.wrap (↑(BitVec.ofInt 64 i1 ^^^ BitVec.ofInt 64 (i1.fdiv (2^min 27 64))).toNat:Int)*13787848793156543929),IntKind.i64.wrap (i2+1)))
 else
 bif decide (i2.toNat=1) then
 some (Sum.inl (IntKind.u64.wrap (IntKind.u64.wrap (↑(BitVec.ofInt 64 i1 ^^^ BitVec.ofInt 64 (i1.fdiv (2^min 27 64))).toNat:Int)*10723151780598845931),IntKind.i64.wrap (i2+1)))
 else
 gd (decide (i2.toNat=2)) <|
 some (Sum.inl (IntKind.u64.wrap (IntKind.u64.wrap (↑(BitVec.ofInt 64 i1 ^^^ BitVec.ofInt 64 (i1.fdiv (2^min 27 64))).toNat:Int)*1),IntKind.i64.wrap (i2+1)))
 else
 gd (decide (i2.toNat=2)) <|
 gd (decide (0≤i2)) <|
 bif decide (i2.toNat=0) then
 some (Sum.inl (IntKind.u64.wrap (IntKind.u64.wrap (↑(BitVec.ofInt 64 i1 ^^^ BitVec.ofInt 64 (i1.fdiv (2^min 31 64))).toNat:Int)*13787848793156543929),IntKind.i64.wrap (i2+1)))
 else
 bif decide (i2.toNat=1) then
 some (Sum.inl (IntKind.u64.wrap (IntKind.u64.wrap (↑(BitVec.ofInt 64 i1 ^^^ BitVec.ofInt 64 (i1.fdiv (2^min 31 64))).toNat:Int)*10723151780598845931),IntKind.i64.wrap (i2+1)))
 else
 gd (decide (i2.toNat=2)) <|
 some (Sum.inl (IntKind.u64.wrap (IntKind.u64.wrap (↑(BitVec.ofInt 64 i1 ^^^ BitVec.ofInt 64 (i1.fdiv (2^min 31 64))).toNat:Int)*1),IntKind.i64.wrap (i2+1)))
 else
 some (Sum.inr (i1,i2))) (IntKind.u64.wrap (seed+11400714819323198485),0)).bind fun (i3,i4)=>
 some (i3,IntKind.u64.wrap (seed+11400714819323198485))
noncomputable def Go.Models.random_Below(seed:Int)(n:Int):Option (Int×Int×Int):=
 bif decide (n<1) then
 some (0,0,1)
 else
 bif decide (1000000000<n) then
 some (0,0,1)
 else
 (Models.random_Next seed).bind fun (i1,i2)=>
 bif decide (n=0) then
 none
 else
 some ((IntKind.i64.wrap (i1.fdiv (2^min 32 64))).tmod n,i2,0)
noncomputable def Go.Models.early_Put(q:Queue)(p:Packet)(now:Int):Option (Queue×(List Packet)×Int):=
 (Models.early_isPacket p).bind fun b1=>
 bif !b1 then
 some (zQ,[],1)
 else
 (Models.early_Valid q).bind fun b2=>
 bif !b2 then
 some (zQ,[],1)
 else
 (Models.early_in now 0 10000000).bind fun b3=>
 bif !b3 then
 some (zQ,[],1)
 else
 bif decide (now<q.Vars.e7) then
 some (zQ,[],18)
 else
 (q.Lists[0]?).bind fun l4=>
 bif l4.isEmpty then
 bif decide (q.Policy.C<0) then
 none
 else
 bif 0==q.Room then
 some (Queue.mk q.Policy q.Room [[]] (A8.mk (IntKind.i64.wrap (q.Vars.e0+(IntKind.i64.wrap (IntKind.i64.wrap (1024*0)-q.Vars.e0)).fdiv (2^min q.Policy.C.toNat 64))) q.Vars.e1 q.Vars.e2 q.Vars.e3 q.Vars.e4 q.Vars.e5 q.Vars.e6 now) q.Seed,[p],0)
 else
 bif decide (IntKind.i64.wrap (IntKind.i64.wrap (q.Vars.e0+(IntKind.i64.wrap (IntKind.i64.wrap (1024*0)-q.Vars.e0)).fdiv (2^min q.Policy.C.toNat 64))-IntKind.i64.wrap (1024*q.Policy.A))<0) then
 some (Queue.mk q.Policy q.Room [[Queued.mk p now]] (A8.mk (IntKind.i64.wrap (q.Vars.e0+(IntKind.i64.wrap (IntKind.i64.wrap (1024*0)-q.Vars.e0)).fdiv (2^min q.Policy.C.toNat 64))) q.Vars.e1 q.Vars.e2 q.Vars.e3 q.Vars.e4 q.Vars.e5 q.Vars.e6 now) q.Seed,[],0)
 else
 bif decide (IntKind.i64.wrap (1024*IntKind.i64.wrap (q.Policy.B-q.Policy.A))≤IntKind.i64.wrap (IntKind.i64.wrap (q.Vars.e0+(IntKind.i64.wrap (IntKind.i64.wrap (1024*0)-q.Vars.e0)).fdiv (2^min q.Policy.C.toNat 64))-IntKind.i64.wrap (1024*q.Policy.A))) then
 bif !p.Able then
 some (Queue.mk q.Policy q.Room [[]] (A8.mk (IntKind.i64.wrap (q.Vars.e0+(IntKind.i64.wrap (IntKind.i64.wrap (1024*0)-q.Vars.e0)).fdiv (2^min q.Policy.C.toNat 64))) q.Vars.e1 q.Vars.e2 q.Vars.e3 q.Vars.e4 q.Vars.e5 q.Vars.e6 now) q.Seed,[p],0)
 else
 some (Queue.mk q.Policy q.Room [[Queued.mk (Packet.mk p.Flow p.Sub p.Number p.Data p.Size p.Sent p.Able true) now]] (A8.mk (IntKind.i64.wrap (q.Vars.e0+(IntKind.i64.wrap (IntKind.i64.wrap (1024*0)-q.Vars.e0)).fdiv (2^min q.Policy.C.toNat 64))) q.Vars.e1 q.Vars.e2 q.Vars.e3 q.Vars.e4 q.Vars.e5 q.Vars.e6 now) q.Seed,[],0)
 else
 (Models.random_Below q.Seed (IntKind.i64.wrap (1024*IntKind.i64.wrap (q.Policy.B-q.Policy.A)))).bind fun (i5,i6,i7)=>
 bif decide (i5<IntKind.i64.wrap (IntKind.i64.wrap (q.Vars.e0+(IntKind.i64.wrap (IntKind.i64.wrap (1024*0)-q.Vars.e0)).fdiv (2^min q.Policy.C.toNat 64))-IntKind.i64.wrap (1024*q.Policy.A))) then
 bif !p.Able then
 some (Queue.mk q.Policy q.Room [[]] (A8.mk (IntKind.i64.wrap (q.Vars.e0+(IntKind.i64.wrap (IntKind.i64.wrap (1024*0)-q.Vars.e0)).fdiv (2^min q.Policy.C.toNat 64))) q.Vars.e1 q.Vars.e2 q.Vars.e3 q.Vars.e4 q.Vars.e5 q.Vars.e6 now) i6,[p],0)
 else
 some (Queue.mk q.Policy q.Room [[Queued.mk (Packet.mk p.Flow p.Sub p.Number p.Data p.Size p.Sent p.Able true) now]] (A8.mk (IntKind.i64.wrap (q.Vars.e0+(IntKind.i64.wrap (IntKind.i64.wrap (1024*0)-q.Vars.e0)).fdiv (2^min q.Policy.C.toNat 64))) q.Vars.e1 q.Vars.e2 q.Vars.e3 q.Vars.e4 q.Vars.e5 q.Vars.e6 now) i6,[],0)
 else
 some (Queue.mk q.Policy q.Room [[Queued.mk p now]] (A8.mk (IntKind.i64.wrap (q.Vars.e0+(IntKind.i64.wrap (IntKind.i64.wrap (1024*0)-q.Vars.e0)).fdiv (2^min q.Policy.C.toNat 64))) q.Vars.e1 q.Vars.e2 q.Vars.e3 q.Vars.e4 q.Vars.e5 q.Vars.e6 now) i6,[],0)
 else
 gd (decide (l4.length*64≤2^44)&&decide (l4.length≤2^44)) <|
 bif decide (q.Policy.C<0) then
 none
 else
 bif (↑l4.length:Int)==q.Room then
 some (Queue.mk q.Policy q.Room [l4] (A8.mk (IntKind.i64.wrap (q.Vars.e0+(IntKind.i64.wrap (IntKind.i64.wrap (1024*(↑l4.length:Int))-q.Vars.e0)).fdiv (2^min q.Policy.C.toNat 64))) q.Vars.e1 q.Vars.e2 q.Vars.e3 q.Vars.e4 q.Vars.e5 q.Vars.e6 now) q.Seed,[p],0)
 else
 bif decide (IntKind.i64.wrap (IntKind.i64.wrap (q.Vars.e0+(IntKind.i64.wrap (IntKind.i64.wrap (1024*(↑l4.length:Int))-q.Vars.e0)).fdiv (2^min q.Policy.C.toNat 64))-IntKind.i64.wrap (1024*q.Policy.A))<0) then
 gd (decide ((l4.length+1)*64≤2^44)&&decide (l4.length+1≤2^44)) <|
 some (Queue.mk q.Policy q.Room [l4++[Queued.mk p now]] (A8.mk (IntKind.i64.wrap (q.Vars.e0+(IntKind.i64.wrap (IntKind.i64.wrap (1024*(↑l4.length:Int))-q.Vars.e0)).fdiv (2^min q.Policy.C.toNat 64))) q.Vars.e1 q.Vars.e2 q.Vars.e3 q.Vars.e4 q.Vars.e5 q.Vars.e6 now) q.Seed,[],0)
 else
 bif decide (IntKind.i64.wrap (1024*IntKind.i64.wrap (q.Policy.B-q.Policy.A))≤IntKind.i64.wrap (IntKind.i64.wrap (q.Vars.e0+(IntKind.i64.wrap (IntKind.i64.wrap (1024*(↑l4.length:Int))-q.Vars.e0)).fdiv (2^min q.Policy.C.toNat 64))-IntKind.i64.wrap (1024*q.Policy.A))) then
 bif !p.Able then
 some (Queue.mk q.Policy q.Room [l4] (A8.mk (IntKind.i64.wrap (q.Vars.e0+(IntKind.i64.wrap (IntKind.i64.wrap (1024*(↑l4.length:Int))-q.Vars.e0)).fdiv (2^min q.Policy.C.toNat 64))) q.Vars.e1 q.Vars.e2 q.Vars.e3 q.Vars.e4 q.Vars.e5 q.Vars.e6 now) q.Seed,[p],0)
 else
 gd (decide ((l4.length+1)*64≤2^44)&&decide (l4.length+1≤2^44)) <|
 some (Queue.mk q.Policy q.Room [l4++[Queued.mk (Packet.mk p.Flow p.Sub p.Number p.Data p.Size p.Sent p.Able true) now]] (A8.mk (IntKind.i64.wrap (q.Vars.e0+(IntKind.i64.wrap (IntKind.i64.wrap (1024*(↑l4.length:Int))-q.Vars.e0)).fdiv (2^min q.Policy.C.toNat 64))) q.Vars.e1 q.Vars.e2 q.Vars.e3 q.Vars.e4 q.Vars.e5 q.Vars.e6 now) q.Seed,[],0)
 else
 (Models.random_Below q.Seed (IntKind.i64.wrap (1024*IntKind.i64.wrap (q.Policy.B-q.Policy.A)))).bind fun (i8,i9,i10)=>
 bif decide (i8<IntKind.i64.wrap (IntKind.i64.wrap (q.Vars.e0+(IntKind.i64.wrap (IntKind.i64.wrap (1024*(↑l4.length:Int))-q.Vars.e0)).fdiv (2^min q.Policy.C.toNat 64))-IntKind.i64.wrap (1024*q.Policy.A))) then
 bif !p.Able then
 some (Queue.mk q.Policy q.Room [l4] (A8.mk (IntKind.i64.wrap (q.Vars.e0+(IntKind.i64.wrap (IntKind.i64.wrap (1024*(↑l4.length:Int))-q.Vars.e0)).fdiv (2^min q.Policy.C.toNat 64))) q.Vars.e1 q.Vars.e2 q.Vars.e3 q.Vars.e4 q.Vars.e5 q.Vars.e6 now) i9,[p],0)
 else
 gd (decide ((l4.length+1)*64≤2^44)&&decide (l4.length+1≤2^44)) <|
 some (Queue.mk q.Policy q.Room [l4++[Queued.mk (Packet.mk p.Flow p.Sub p.Number p.Data p.Size p.Sent p.Able true) now]] (A8.mk (IntKind.i64.wrap (q.Vars.e0+(IntKind.i64.wrap (IntKind.i64.wrap (1024*(↑l4.length:Int))-q.Vars.e0)).fdiv (2^min q.Policy.C.toNat 64))) q.Vars.e1 q.Vars.e2 q.Vars.e3 q.Vars.e4 q.Vars.e5 q.Vars.e6 now) i9,[],0)
 else
 gd (decide ((l4.length+1)*64≤2^44)&&decide (l4.length+1≤2^44)) <|
 some (Queue.mk q.Policy q.Room [l4++[Queued.mk p now]] (A8.mk (IntKind.i64.wrap (q.Vars.e0+(IntKind.i64.wrap (IntKind.i64.wrap (1024*(↑l4.length:Int))-q.Vars.e0)).fdiv (2^min q.Policy.C.toNat 64))) q.Vars.e1 q.Vars.e2 q.Vars.e3 q.Vars.e4 q.Vars.e5 q.Vars.e6 now) i9,[],0)
noncomputable def Go.Models.early_Take(q:Queue)(now:Int):Option (Queue×Packet×Bool×(List Packet)×Int):=
 (Models.early_Valid q).bind fun b1=>
 bif !b1 then
 some (zQ,zP,false,[],1)
 else
 (Models.early_in now 0 10000000).bind fun b2=>
 bif !b2 then
 some (zQ,zP,false,[],1)
 else
 bif decide (now<q.Vars.e7) then
 some (zQ,zP,false,[],18)
 else
 (q.Lists[0]?).bind fun l3=>
 bif l3.isEmpty then
 some (Queue.mk q.Policy q.Room [[]] (A8.mk q.Vars.e0 q.Vars.e1 q.Vars.e2 q.Vars.e3 q.Vars.e4 q.Vars.e5 q.Vars.e6 now) q.Seed,zP,false,[],0)
 else
 gd (decide (l3.length*64≤2^44)&&decide (l3.length≤2^44)) <|
 bif (↑l3.length:Int)==0 then
 some (Queue.mk q.Policy q.Room [l3] (A8.mk q.Vars.e0 q.Vars.e1 q.Vars.e2 q.Vars.e3 q.Vars.e4 q.Vars.e5 q.Vars.e6 now) q.Seed,zP,false,[],0)
 else
 gd (decide (1≤(↑l3.length:Int).toNat)&&decide ((↑l3.length:Int).toNat≤(↑l3.length:Int).toNat)&&decide ((↑l3.length:Int).toNat≤none.getD (l3.length-0))&&decide (0<l3.length)) <|
 gd (decide (0<l3.length)) <|
 (l3[0]?).bind fun q4=>
 gd (decide (1+((↑l3.length:Int).toNat-1)≤l3.length)) <|
 some (Queue.mk q.Policy q.Room [List.take ((↑l3.length:Int).toNat-1) (List.drop 1 l3)] (A8.mk q.Vars.e0 q.Vars.e1 q.Vars.e2 q.Vars.e3 q.Vars.e4 q.Vars.e5 q.Vars.e6 now) q.Seed,q4.P,true,[],0)
noncomputable def Go.Models.sojourn_between(n:Int)(low:Int)(high:Int):Option Bool:=
 bif decide (low≤n) then
 some (decide (n≤high))
 else
 some false
noncomputable def Go.Models.sojourn_isTime(n:Int):Option Bool:=
 (Models.sojourn_between n 0 10000000).bind fun b1=>
 some b1
noncomputable def Go.Models.sojourn_isPacket(p:Packet):Option Bool:=
 (Models.sojourn_between p.Flow 0 7).bind fun b1=>
 bif b1 then
 (Models.sojourn_between p.Sub 0 3).bind fun b2=>
 bif b2 then
 (Models.sojourn_between p.Number 0 1000000000).bind fun b3=>
 bif b3 then
 (Models.sojourn_between p.Data 0 1000000000).bind fun b4=>
 bif b4 then
 (Models.sojourn_between p.Size 1 10000).bind fun b5=>
 bif b5 then
 (Models.sojourn_isTime p.Sent).bind fun b6=>
 some b6
 else
 some false
 else
 some false
 else
 some false
 else
 some false
 else
 some false
noncomputable def Go.Models.sojourn_Valid(q:Queue):Option Bool:=
 bif !q.Policy.Kind==3 then
 some false
 else
 (Models.sojourn_between q.Policy.A 0 1000000).bind fun b1=>
 bif !b1 then
 some false
 else
 (Models.sojourn_between q.Policy.B 1 1000000).bind fun b2=>
 bif !b2 then
 some false
 else
 bif !q.Policy.C==0 then
 some false
 else
 (Models.sojourn_between q.Room 1 500).bind fun b3=>
 bif !b3 then
 some false
 else
 bif !(↑q.Lists.length:Int)==1 then
 some false
 else
 bif !q.Seed==0 then
 some false
 else
 (Models.sojourn_isTime q.Vars.e7).bind fun b4=>
 bif !b4 then
 some false
 else
 (Models.sojourn_between q.Vars.e0 0 (IntKind.i64.wrap (IntKind.i64.wrap (q.Vars.e7+q.Policy.B)+1))).bind fun b5=>
 bif !b5 then
 some false
 else
 (Models.sojourn_between q.Vars.e1 0 1000000000).bind fun b6=>
 bif !b6 then
 some false
 else
 bif q.Vars.e0==0 then
 bif !q.Vars.e1==0 then
 some false
 else
 (q.Lists[0]?).bind fun l7=>
 bif decide (q.Room<(↑l7.length:Int)) then
 some false
 else
 bif !q.Vars.e2==0 then
 some false
 else
 bif !q.Vars.e3==0 then
 some false
 else
 bif !q.Vars.e4==0 then
 some false
 else
 bif !q.Vars.e5==0 then
 some false
 else
 bif !q.Vars.e6==0 then
 some false
 else
 (q.Lists[0]?).bind fun l8=>
 (loopM (ω:=Bool ⊕ Bool×Int×Int) (fun ((b9,i10,i11):Bool×Int×Int)=>
 bif decide (i11<(↑l8.length:Int)) then
 gd (decide (0≤i11)) <|
 (l8[i11.toNat]?).bind fun q12=>
 (Models.sojourn_isPacket q12.P).bind fun b13=>
 bif !b13 then
 some (Sum.inr (Sum.inl false))
 else
 (Models.sojourn_between q12.At i10 q.Vars.e7).bind fun b14=>
 bif !b14 then
 some (Sum.inr (Sum.inl false))
 else
 some (Sum.inl (b9,q12.At,IntKind.i64.wrap (i11+1)))
 else
 some (Sum.inr (Sum.inr (b9,i10,i11)))) (false,0,0)).bind fun w15=>
 Sum.elim (fun b16=>
 some b16) (fun (b17,i18,i19)=>
 some true) w15
 else
 (q.Lists[0]?).bind fun l20=>
 bif decide (q.Room<(↑l20.length:Int)) then
 some false
 else
 bif !q.Vars.e2==0 then
 some false
 else
 bif !q.Vars.e3==0 then
 some false
 else
 bif !q.Vars.e4==0 then
 some false
 else
 bif !q.Vars.e5==0 then
 some false
 else
 bif !q.Vars.e6==0 then
 some false
 else
 (q.Lists[0]?).bind fun l21=>
 (loopM (ω:=Bool ⊕ Bool×Int×Int) (fun ((b22,i23,i24):Bool×Int×Int)=>
 bif decide (i24<(↑l21.length:Int)) then
 gd (decide (0≤i24)) <|
 (l21[i24.toNat]?).bind fun q25=>
 (Models.sojourn_isPacket q25.P).bind fun b26=>
 bif !b26 then
 some (Sum.inr (Sum.inl false))
 else
 (Models.sojourn_between q25.At i23 q.Vars.e7).bind fun b27=>
 bif !b27 then
 some (Sum.inr (Sum.inl false))
 else
 some (Sum.inl (b22,q25.At,IntKind.i64.wrap (i24+1)))
 else
 some (Sum.inr (Sum.inr (b22,i23,i24)))) (false,0,0)).bind fun w28=>
 Sum.elim (fun b29=>
 some b29) (fun (b30,i31,i32)=>
 some true) w28
noncomputable def Go.Models.sojourn_Put(q:Queue)(p:Packet)(now:Int):Option (Queue×(List Packet)×Int):=
 (Models.sojourn_isPacket p).bind fun b1=>
 bif !b1 then
 some (zQ,[],1)
 else
 (Models.sojourn_Valid q).bind fun b2=>
 bif !b2 then
 some (zQ,[],1)
 else
 (Models.sojourn_isTime now).bind fun b3=>
 bif !b3 then
 some (zQ,[],1)
 else
 bif decide (now<q.Vars.e7) then
 some (zQ,[],18)
 else
 (q.Lists[0]?).bind fun l4=>
 (q.Lists[0]?).bind fun l5=>
 gd (decide (0≤IntKind.i64.wrap ((↑l5.length:Int)+1))) <|
 gd (decide ((↑l4.length:Int).toNat≤(IntKind.i64.wrap ((↑l5.length:Int)+1)).toNat)&&decide ((IntKind.i64.wrap ((↑l5.length:Int)+1)).toNat*64≤2^47)&&decide ((IntKind.i64.wrap ((↑l5.length:Int)+1)).toNat<2^62)) <|
 (q.Lists[0]?).bind fun l6=>
 gd (decide (0+(↑l4.length:Int).toNat≤(List.replicate (IntKind.i64.wrap ((↑l5.length:Int)+1)).toNat zW).length)&&decide (l6.length≤(↑l4.length:Int).toNat)) <|
 bif decide (q.Room≤(↑(↑l4.length:Int).toNat:Int)) then
 gd (decide (0+(↑l4.length:Int).toNat≤(l6++List.drop (0+l6.length) (List.replicate (IntKind.i64.wrap ((↑l5.length:Int)+1)).toNat zW)).length)) <|
 some (Queue.mk q.Policy q.Room [List.take (↑l4.length:Int).toNat (List.drop 0 (l6++List.drop (0+l6.length) (List.replicate (IntKind.i64.wrap ((↑l5.length:Int)+1)).toNat zW)))] (A8.mk q.Vars.e0 q.Vars.e1 q.Vars.e2 q.Vars.e3 q.Vars.e4 q.Vars.e5 q.Vars.e6 now) q.Seed,[p],0)
 else
 gd (decide ((↑l4.length:Int).toNat+1≤(IntKind.i64.wrap ((↑l5.length:Int)+1)).toNat)&&decide (0+(↑l4.length:Int).toNat+1≤(l6++List.drop (0+l6.length) (List.replicate (IntKind.i64.wrap ((↑l5.length:Int)+1)).toNat zW)).length)) <|
 gd (decide (0+((↑l4.length:Int).toNat+1)≤(List.take (0+(↑l4.length:Int).toNat) (l6++List.drop (0+l6.length) (List.replicate (IntKind.i64.wrap ((↑l5.length:Int)+1)).toNat zW))++([Queued.mk p now]++List.drop (0+(↑l4.length:Int).toNat+1) (l6++List.drop (0+l6.length) (List.replicate (IntKind.i64.wrap ((↑l5.length:Int)+1)).toNat zW)))).length)) <|
 some (Queue.mk q.Policy q.Room [List.take ((↑l4.length:Int).toNat+1) (List.drop 0 (List.take (0+(↑l4.length:Int).toNat) (l6++List.drop (0+l6.length) (List.replicate (IntKind.i64.wrap ((↑l5.length:Int)+1)).toNat zW))++([Queued.mk p now]++List.drop (0+(↑l4.length:Int).toNat+1) (l6++List.drop (0+l6.length) (List.replicate (IntKind.i64.wrap ((↑l5.length:Int)+1)).toNat zW)))))] (A8.mk q.Vars.e0 q.Vars.e1 q.Vars.e2 q.Vars.e3 q.Vars.e4 q.Vars.e5 q.Vars.e6 now) q.Seed,[],0)
noncomputable def Go.Models.sojourn_Take(q:Queue)(now:Int):Option (Queue×Packet×Bool×(List Packet)×Int):=
 (Models.sojourn_Valid q).bind fun b1=>
 bif !b1 then
 some (zQ,zP,false,[],1)
 else
 (Models.sojourn_isTime now).bind fun b2=>
 bif !b2 then
 some (zQ,zP,false,[],1)
 else
 bif decide (now<q.Vars.e7) then
 some (zQ,zP,false,[],18)
 else
 (q.Lists[0]?).bind fun l3=>
 (q.Lists[0]?).bind fun l4=>
 gd (decide (0≤IntKind.i64.wrap ((↑l4.length:Int)+1))) <|
 gd (decide ((↑l3.length:Int).toNat≤(IntKind.i64.wrap ((↑l4.length:Int)+1)).toNat)&&decide ((IntKind.i64.wrap ((↑l4.length:Int)+1)).toNat*64≤2^47)&&decide ((IntKind.i64.wrap ((↑l4.length:Int)+1)).toNat<2^62)) <|
 (q.Lists[0]?).bind fun l5=>
 gd (decide (0+(↑l3.length:Int).toNat≤(List.replicate (IntKind.i64.wrap ((↑l4.length:Int)+1)).toNat zW).length)&&decide (l5.length≤(↑l3.length:Int).toNat)) <|
 (loopM (ω:=Bool×Int×List Packet×List Packet×Int×Int×Int×Int×Int×Int×Int×Int×Int×Int×Int×Int×Int×Int×Int×Int×Int×Int×Int×Int×Int×Int×Int×Int×Bool×Bool×Int×Int×Int×Int×Int×Int×Int×Int×Int×Int×Int×Int×Int×Int ⊕ Bool×Int×List Packet×List Packet×Int×Int×Int×Int×Int×Int×Int×Int×Int×Int×Int×Int×Int×Int×Int×Int×Int×Int) (fun ((b6,i7,l8,l9,i10,i11,i12,i13,i14,i15,i16,i17,i18,i19,i20,i21,i22,i23,i24,i25,i26,i27):Bool×Int×List Packet×List Packet×Int×Int×Int×Int×Int×Int×Int×Int×Int×Int×Int×Int×Int×Int×Int×Int×Int×Int)=>
 bif decide (0<(↑i26.toNat:Int)) then
 gd (decide (0<i26.toNat)) <|
 ((l5++List.drop (0+l5.length) (List.replicate (IntKind.i64.wrap ((↑l4.length:Int)+1)).toNat zW))[i25.toNat+0]?).bind fun q28=>
 gd (decide (1≤i26.toNat)&&decide (i26.toNat≤(some i27.toNat).getD ((l5++List.drop (0+l5.length) (List.replicate (IntKind.i64.wrap ((↑l4.length:Int)+1)).toNat zW)).length-i25.toNat))&&decide (0<(l5++List.drop (0+l5.length) (List.replicate (IntKind.i64.wrap ((↑l4.length:Int)+1)).toNat zW)).length)) <|
 bif decide (IntKind.i64.wrap (now-q28.At)<i11) then
 bif q28.P.Marked then
 some (Sum.inr (Sum.inl (true,0,l8,l9,i10,i11,i12,i13,i14,0,0,i17,i18,i19,i20,i21,i22,i23,i24,(↑(i25.toNat+1):Int),(↑(i26.toNat-1):Int),(↑(i27.toNat-1):Int),q28.P.Flow,q28.P.Sub,q28.P.Number,q28.P.Data,q28.P.Size,q28.P.Sent,q28.P.Able,true,i10,i11,i12,i13,i14,0,0,i17,i18,i19,i20,i21,i22,i23)))
 else
 some (Sum.inr (Sum.inl (true,0,l8,l9,i10,i11,i12,i13,i14,0,0,i17,i18,i19,i20,i21,i22,i23,i24,(↑(i25.toNat+1):Int),(↑(i26.toNat-1):Int),(↑(i27.toNat-1):Int),q28.P.Flow,q28.P.Sub,q28.P.Number,q28.P.Data,q28.P.Size,q28.P.Sent,q28.P.Able,false,i10,i11,i12,i13,i14,0,0,i17,i18,i19,i20,i21,i22,i23)))
 else
 bif i15==0 then
 bif q28.P.Marked then
 some (Sum.inr (Sum.inl (true,0,l8,l9,i10,i11,i12,i13,i14,IntKind.i64.wrap (IntKind.i64.wrap (i24+i12)+1),i16,i17,i18,i19,i20,i21,i22,i23,i24,(↑(i25.toNat+1):Int),(↑(i26.toNat-1):Int),(↑(i27.toNat-1):Int),q28.P.Flow,q28.P.Sub,q28.P.Number,q28.P.Data,q28.P.Size,q28.P.Sent,q28.P.Able,true,i10,i11,i12,i13,i14,IntKind.i64.wrap (IntKind.i64.wrap (i24+i12)+1),i16,i17,i18,i19,i20,i21,i22,i23)))
 else
 some (Sum.inr (Sum.inl (true,0,l8,l9,i10,i11,i12,i13,i14,IntKind.i64.wrap (IntKind.i64.wrap (i24+i12)+1),i16,i17,i18,i19,i20,i21,i22,i23,i24,(↑(i25.toNat+1):Int),(↑(i26.toNat-1):Int),(↑(i27.toNat-1):Int),q28.P.Flow,q28.P.Sub,q28.P.Number,q28.P.Data,q28.P.Size,q28.P.Sent,q28.P.Able,false,i10,i11,i12,i13,i14,IntKind.i64.wrap (IntKind.i64.wrap (i24+i12)+1),i16,i17,i18,i19,i20,i21,i22,i23)))
 else
 bif decide (IntKind.i64.wrap (i15-1)≤i24) then
 bif decide (IntKind.i64.wrap ((if IntKind.i64.wrap (i16+1)<1000000000 then IntKind.i64.wrap (i16+1) else 1000000000)+1)=0) then
 none
 else
 bif !q28.P.Able then
 gd (decide ((l9.length+1)*56≤2^44)&&decide (l9.length+1≤2^44)) <|
 some (Sum.inl (b6,i7,l8,l9++[q28.P],i10,i11,i12,i13,i14,IntKind.i64.wrap (i15+if 1<IntKind.i64.wrap (i12.tdiv (IntKind.i64.wrap ((if IntKind.i64.wrap (i16+1)<1000000000 then IntKind.i64.wrap (i16+1) else 1000000000)+1))) then IntKind.i64.wrap (i12.tdiv (IntKind.i64.wrap ((if IntKind.i64.wrap (i16+1)<1000000000 then IntKind.i64.wrap (i16+1) else 1000000000)+1))) else 1),if IntKind.i64.wrap (i16+1)<1000000000 then IntKind.i64.wrap (i16+1) else 1000000000,i17,i18,i19,i20,i21,i22,i23,i24,(↑(i25.toNat+1):Int),(↑(i26.toNat-1):Int),(↑(i27.toNat-1):Int)))
 else
 bif q28.P.Marked then
 some (Sum.inr (Sum.inl (true,0,l8,l9,i10,i11,i12,i13,i14,IntKind.i64.wrap (i15+if 1<IntKind.i64.wrap (i12.tdiv (IntKind.i64.wrap ((if IntKind.i64.wrap (i16+1)<1000000000 then IntKind.i64.wrap (i16+1) else 1000000000)+1))) then IntKind.i64.wrap (i12.tdiv (IntKind.i64.wrap ((if IntKind.i64.wrap (i16+1)<1000000000 then IntKind.i64.wrap (i16+1) else 1000000000)+1))) else 1),if IntKind.i64.wrap (i16+1)<1000000000 then IntKind.i64.wrap (i16+1) else 1000000000,i17,i18,i19,i20,i21,i22,i23,i24,(↑(i25.toNat+1):Int),(↑(i26.toNat-1):Int),(↑(i27.toNat-1):Int),q28.P.Flow,q28.P.Sub,q28.P.Number,q28.P.Data,q28.P.Size,q28.P.Sent,q28.P.Able,true,i10,i11,i12,i13,i14,IntKind.i64.wrap (i15+if 1<IntKind.i64.wrap (i12.tdiv (IntKind.i64.wrap ((if IntKind.i64.wrap (i16+1)<1000000000 then IntKind.i64.wrap (i16+1) else 1000000000)+1))) then IntKind.i64.wrap (i12.tdiv (IntKind.i64.wrap ((if IntKind.i64.wrap (i16+1)<1000000000 then IntKind.i64.wrap (i16+1) else 1000000000)+1))) else 1),if IntKind.i64.wrap (i16+1)<1000000000 then IntKind.i64.wrap (i16+1) else 1000000000,i17,i18,i19,i20,i21,i22,i23)))
 else
 some (Sum.inr (Sum.inl (true,0,l8,l9,i10,i11,i12,i13,i14,IntKind.i64.wrap (i15+if 1<IntKind.i64.wrap (i12.tdiv (IntKind.i64.wrap ((if IntKind.i64.wrap (i16+1)<1000000000 then IntKind.i64.wrap (i16+1) else 1000000000)+1))) then IntKind.i64.wrap (i12.tdiv (IntKind.i64.wrap ((if IntKind.i64.wrap (i16+1)<1000000000 then IntKind.i64.wrap (i16+1) else 1000000000)+1))) else 1),if IntKind.i64.wrap (i16+1)<1000000000 then IntKind.i64.wrap (i16+1) else 1000000000,i17,i18,i19,i20,i21,i22,i23,i24,(↑(i25.toNat+1):Int),(↑(i26.toNat-1):Int),(↑(i27.toNat-1):Int),q28.P.Flow,q28.P.Sub,q28.P.Number,q28.P.Data,q28.P.Size,q28.P.Sent,q28.P.Able,true,i10,i11,i12,i13,i14,IntKind.i64.wrap (i15+if 1<IntKind.i64.wrap (i12.tdiv (IntKind.i64.wrap ((if IntKind.i64.wrap (i16+1)<1000000000 then IntKind.i64.wrap (i16+1) else 1000000000)+1))) then IntKind.i64.wrap (i12.tdiv (IntKind.i64.wrap ((if IntKind.i64.wrap (i16+1)<1000000000 then IntKind.i64.wrap (i16+1) else 1000000000)+1))) else 1),if IntKind.i64.wrap (i16+1)<1000000000 then IntKind.i64.wrap (i16+1) else 1000000000,i17,i18,i19,i20,i21,i22,i23)))
 else
 bif q28.P.Marked then
 some (Sum.inr (Sum.inl (true,0,l8,l9,i10,i11,i12,i13,i14,i15,i16,i17,i18,i19,i20,i21,i22,i23,i24,(↑(i25.toNat+1):Int),(↑(i26.toNat-1):Int),(↑(i27.toNat-1):Int),q28.P.Flow,q28.P.Sub,q28.P.Number,q28.P.Data,q28.P.Size,q28.P.Sent,q28.P.Able,true,i10,i11,i12,i13,i14,i15,i16,i17,i18,i19,i20,i21,i22,i23)))
 else
 some (Sum.inr (Sum.inl (true,0,l8,l9,i10,i11,i12,i13,i14,i15,i16,i17,i18,i19,i20,i21,i22,i23,i24,(↑(i25.toNat+1):Int),(↑(i26.toNat-1):Int),(↑(i27.toNat-1):Int),q28.P.Flow,q28.P.Sub,q28.P.Number,q28.P.Data,q28.P.Size,q28.P.Sent,q28.P.Able,false,i10,i11,i12,i13,i14,i15,i16,i17,i18,i19,i20,i21,i22,i23)))
 else
 some (Sum.inr (Sum.inr (b6,i7,l8,l9,i10,i11,i12,i13,i14,i15,i16,i17,i18,i19,i20,i21,i22,i23,i24,(↑i25.toNat:Int),(↑i26.toNat:Int),(↑i27.toNat:Int))))) (false,0,[],[],q.Policy.Kind,q.Policy.A,q.Policy.B,q.Policy.C,q.Room,q.Vars.e0,q.Vars.e1,q.Vars.e2,q.Vars.e3,q.Vars.e4,q.Vars.e5,q.Vars.e6,now,q.Seed,now,(↑0:Int),(↑(↑l3.length:Int).toNat:Int),(↑(IntKind.i64.wrap ((↑l4.length:Int)+1)).toNat:Int))).bind fun w29=>
 Sum.elim (fun (b30,i31,l32,l33,i34,i35,i36,i37,i38,i39,i40,i41,i42,i43,i44,i45,i46,i47,i48,i49,i50,i51,i52,i53,i54,i55,i56,i57,b58,b59,i60,i61,i62,i63,i64,i65,i66,i67,i68,i69,i70,i71,i72,i73)=>
 bif decide (i49.toNat+i50.toNat≤(l5++List.drop (0+l5.length) (List.replicate (IntKind.i64.wrap ((↑l4.length:Int)+1)).toNat zW)).length) then
 some (Queue.mk (Policy.mk i60 i61 i62 i63) i64 [List.take i50.toNat (List.drop i49.toNat (l5++List.drop (0+l5.length) (List.replicate (IntKind.i64.wrap ((↑l4.length:Int)+1)).toNat zW)))] (A8.mk i65 i66 i67 i68 i69 i70 i71 i72) i73,Packet.mk i52 i53 i54 i55 i56 i57 b58 b59,b30,l33,i31)
 else
 none) (fun (b74,i75,l76,l77,i78,i79,i80,i81,i82,i83,i84,i85,i86,i87,i88,i89,i90,i91,i92,i93,i94,i95)=>
 bif decide (i93.toNat+i94.toNat≤(l5++List.drop (0+l5.length) (List.replicate (IntKind.i64.wrap ((↑l4.length:Int)+1)).toNat zW)).length) then
 some (Queue.mk (Policy.mk i78 i79 i80 i81) i82 [List.take i94.toNat (List.drop i93.toNat (l5++List.drop (0+l5.length) (List.replicate (IntKind.i64.wrap ((↑l4.length:Int)+1)).toNat zW)))] (A8.mk 0 0 i85 i86 i87 i88 i89 i90) i91,zP,false,l77,0)
 else
 none) w29
noncomputable def Go.Models.integral_inside(n:Int)(low:Int)(high:Int):Option Bool:=
 bif decide (low≤n) then
 some (decide (n≤high))
 else
 some false
noncomputable def Go.Models.integral_packet(p:Packet):Option Bool:=
 (Models.integral_inside p.Flow 0 7).bind fun b1=>
 bif b1 then
 (Models.integral_inside p.Sub 0 3).bind fun b2=>
 bif b2 then
 (Models.integral_inside p.Number 0 1000000000).bind fun b3=>
 bif b3 then
 (Models.integral_inside p.Data 0 1000000000).bind fun b4=>
 bif b4 then
 (Models.integral_inside p.Size 1 10000).bind fun b5=>
 bif b5 then
 (Models.integral_inside p.Sent 0 10000000).bind fun b6=>
 some b6
 else
 some false
 else
 some false
 else
 some false
 else
 some false
 else
 some false
noncomputable def Go.Models.integral_state_valid(s:Queue):Option Bool:=
 bif !s.Policy.Kind==4 then
 some false
 else
 (Models.integral_inside s.Policy.A 1 1000000).bind fun b1=>
 bif !b1 then
 some false
 else
 (Models.integral_inside s.Policy.B 0 1000).bind fun b2=>
 bif !b2 then
 some false
 else
 (Models.integral_inside s.Policy.C 0 1000).bind fun b3=>
 bif !b3 then
 some false
 else
 (Models.integral_inside s.Room 1 500).bind fun b4=>
 bif !b4 then
 some false
 else
 bif !(↑s.Lists.length:Int)==1 then
 some false
 else
 (s.Lists[0]?).bind fun l5=>
 bif decide (s.Room<(↑l5.length:Int)) then
 some false
 else
 (Models.integral_inside s.Vars.e7 0 10000000).bind fun b6=>
 bif !b6 then
 some false
 else
 (Models.integral_inside s.Vars.e0 0 1000000).bind fun b7=>
 bif !b7 then
 some false
 else
 (Models.integral_inside s.Vars.e1 0 s.Vars.e7).bind fun b8=>
 bif !b8 then
 some false
 else
 (Models.integral_inside s.Vars.e2 0 10000000).bind fun b9=>
 bif !b9 then
 some false
 else
 bif !(s.Vars.e3==0&&(s.Vars.e4==0&&(s.Vars.e5==0&&s.Vars.e6==0))) then
 some false
 else
 (s.Lists[0]?).bind fun l10=>
 (loopM (ω:=Int×Int ⊕ Int×Int×Int) (fun ((i11,i12,i13):Int×Int×Int)=>
 bif decide (i12<(↑l10.length:Int)) then
 gd (decide (0≤i12)) <|
 (l10[i12.toNat]?).bind fun q14=>
 (Models.integral_inside q14.At i13 s.Vars.e7).bind fun b15=>
 bif b15 then
 (Models.integral_packet q14.P).bind fun b16=>
 bif !b16 then
 some (Sum.inr (Sum.inl (i12,q14.At)))
 else
 some (Sum.inl (i11,IntKind.i64.wrap (i12+1),q14.At))
 else
 some (Sum.inr (Sum.inl (i12,q14.At)))
 else
 some (Sum.inr (Sum.inr (i11,i12,i13)))) (0,0,0)).bind fun w17=>
 Sum.elim (fun (i18,i19)=>
 some (!decide (0≤i18))) (fun (i20,i21,i22)=>
 some true) w17
noncomputable def Go.Models.integral_Valid(q:Queue):Option Bool:=
 (Models.integral_state_valid q).bind fun b1=>
 some b1
noncomputable def Go.Models.integral_state_delay(s:Queue)(now:Int):Option Int:=
 (s.Lists[0]?).bind fun l1=>
 bif decide (0<(↑l1.length:Int)) then
 (l1[0]?).bind fun q2=>
 some (IntKind.i64.wrap (now-q2.At))
 else
 some 0
noncomputable def Go.Models.integral_thousandth(n:Int):Option Int:=
 bif decide (n.tmod 1000<0) then
 some (IntKind.i64.wrap (IntKind.i64.wrap (n.tdiv 1000)-1))
 else
 some (IntKind.i64.wrap (n.tdiv 1000))
noncomputable def Go.Models.integral_state_update_1(old:Int)(s:Queue)(d:Int)(o:Int):Option Int:=
 (Models.integral_thousandth (IntKind.i64.wrap (s.Policy.B*IntKind.i64.wrap (d-s.Policy.A)))).bind fun i1=>
 (Models.integral_thousandth (IntKind.i64.wrap (s.Policy.C*IntKind.i64.wrap (d-o)))).bind fun i2=>
 some (IntKind.i64.wrap (IntKind.i64.wrap (old+i1)+i2))
noncomputable def Go.Models.integral_Put(q:Queue)(p:Packet)(now:Int):Option (Queue×(List Packet)×Int):=
 (Models.integral_packet p).bind fun b1=>
 bif !b1 then
 some (zQ,[],1)
 else
 (Models.integral_state_valid q).bind fun b2=>
 bif !b2 then
 some (zQ,[],1)
 else
 (Models.integral_inside now 0 10000000).bind fun b3=>
 bif !b3 then
 some (zQ,[],1)
 else
 bif decide (now<q.Vars.e7) then
 some (zQ,[],18)
 else
 (q.Lists[0]?).bind fun l4=>
 (Models.slices_Clone l4).bind fun l5=>
 bif decide (IntKind.i64.wrap (now-q.Vars.e1)<16000) then
 bif (↑l5.length:Int)==q.Room then
 some (Queue.mk q.Policy q.Room [l5] (A8.mk q.Vars.e0 q.Vars.e1 q.Vars.e2 q.Vars.e3 q.Vars.e4 q.Vars.e5 q.Vars.e6 now) q.Seed,[p],0)
 else
 (Models.random_Below q.Seed 1000000).bind fun (i6,i7,i8)=>
 bif decide (i6<q.Vars.e0) then
 bif !p.Able then
 some (Queue.mk q.Policy q.Room [l5] (A8.mk q.Vars.e0 q.Vars.e1 q.Vars.e2 q.Vars.e3 q.Vars.e4 q.Vars.e5 q.Vars.e6 now) i7,[p],0)
 else
 bif p.Marked then
 gd (decide ((l5.length+1)*64≤2^44)&&decide (l5.length+1≤2^44)) <|
 some (Queue.mk q.Policy q.Room [l5++[Queued.mk (Packet.mk p.Flow p.Sub p.Number p.Data p.Size p.Sent p.Able true) now]] (A8.mk q.Vars.e0 q.Vars.e1 q.Vars.e2 q.Vars.e3 q.Vars.e4 q.Vars.e5 q.Vars.e6 now) i7,[],0)
 else
 gd (decide ((l5.length+1)*64≤2^44)&&decide (l5.length+1≤2^44)) <|
 some (Queue.mk q.Policy q.Room [l5++[Queued.mk (Packet.mk p.Flow p.Sub p.Number p.Data p.Size p.Sent p.Able (decide (i6<q.Vars.e0))) now]] (A8.mk q.Vars.e0 q.Vars.e1 q.Vars.e2 q.Vars.e3 q.Vars.e4 q.Vars.e5 q.Vars.e6 now) i7,[],0)
 else
 bif p.Marked then
 gd (decide ((l5.length+1)*64≤2^44)&&decide (l5.length+1≤2^44)) <|
 some (Queue.mk q.Policy q.Room [l5++[Queued.mk (Packet.mk p.Flow p.Sub p.Number p.Data p.Size p.Sent p.Able true) now]] (A8.mk q.Vars.e0 q.Vars.e1 q.Vars.e2 q.Vars.e3 q.Vars.e4 q.Vars.e5 q.Vars.e6 now) i7,[],0)
 else
 gd (decide ((l5.length+1)*64≤2^44)&&decide (l5.length+1≤2^44)) <|
 some (Queue.mk q.Policy q.Room [l5++[Queued.mk (Packet.mk p.Flow p.Sub p.Number p.Data p.Size p.Sent p.Able (decide (i6<q.Vars.e0))) now]] (A8.mk q.Vars.e0 q.Vars.e1 q.Vars.e2 q.Vars.e3 q.Vars.e4 q.Vars.e5 q.Vars.e6 now) i7,[],0)
 else
 (Models.integral_state_delay (Queue.mk q.Policy q.Room [l5] q.Vars q.Seed) now).bind fun i9=>
 (Models.integral_state_update_1 q.Vars.e0 (Queue.mk q.Policy q.Room [l5] q.Vars q.Seed) i9 q.Vars.e2).bind fun i10=>
 bif (↑l5.length:Int)==q.Room then
 some (Queue.mk q.Policy q.Room [l5] (A8.mk (if (if 0<i10 then i10 else 0)<1000000 then if 0<i10 then i10 else 0 else 1000000) now i9 q.Vars.e3 q.Vars.e4 q.Vars.e5 q.Vars.e6 now) q.Seed,[p],0)
 else
 (Models.random_Below q.Seed 1000000).bind fun (i11,i12,i13)=>
 bif decide (i11<if (if 0<i10 then i10 else 0)<1000000 then if 0<i10 then i10 else 0 else 1000000) then
 bif !p.Able then
 some (Queue.mk q.Policy q.Room [l5] (A8.mk (if (if 0<i10 then i10 else 0)<1000000 then if 0<i10 then i10 else 0 else 1000000) now i9 q.Vars.e3 q.Vars.e4 q.Vars.e5 q.Vars.e6 now) i12,[p],0)
 else
 bif p.Marked then
 gd (decide ((l5.length+1)*64≤2^44)&&decide (l5.length+1≤2^44)) <|
 some (Queue.mk q.Policy q.Room [l5++[Queued.mk (Packet.mk p.Flow p.Sub p.Number p.Data p.Size p.Sent p.Able true) now]] (A8.mk (if (if 0<i10 then i10 else 0)<1000000 then if 0<i10 then i10 else 0 else 1000000) now i9 q.Vars.e3 q.Vars.e4 q.Vars.e5 q.Vars.e6 now) i12,[],0)
 else
 gd (decide ((l5.length+1)*64≤2^44)&&decide (l5.length+1≤2^44)) <|
 some (Queue.mk q.Policy q.Room [l5++[Queued.mk (Packet.mk p.Flow p.Sub p.Number p.Data p.Size p.Sent p.Able (decide (i11<if (if 0<i10 then i10 else 0)<1000000 then if 0<i10 then i10 else 0 else 1000000))) now]] (A8.mk (if (if 0<i10 then i10 else 0)<1000000 then if 0<i10 then i10 else 0 else 1000000) now i9 q.Vars.e3 q.Vars.e4 q.Vars.e5 q.Vars.e6 now) i12,[],0)
 else
 bif p.Marked then
 gd (decide ((l5.length+1)*64≤2^44)&&decide (l5.length+1≤2^44)) <|
 some (Queue.mk q.Policy q.Room [l5++[Queued.mk (Packet.mk p.Flow p.Sub p.Number p.Data p.Size p.Sent p.Able true) now]] (A8.mk (if (if 0<i10 then i10 else 0)<1000000 then if 0<i10 then i10 else 0 else 1000000) now i9 q.Vars.e3 q.Vars.e4 q.Vars.e5 q.Vars.e6 now) i12,[],0)
 else
 gd (decide ((l5.length+1)*64≤2^44)&&decide (l5.length+1≤2^44)) <|
 some (Queue.mk q.Policy q.Room [l5++[Queued.mk (Packet.mk p.Flow p.Sub p.Number p.Data p.Size p.Sent p.Able (decide (i11<if (if 0<i10 then i10 else 0)<1000000 then if 0<i10 then i10 else 0 else 1000000))) now]] (A8.mk (if (if 0<i10 then i10 else 0)<1000000 then if 0<i10 then i10 else 0 else 1000000) now i9 q.Vars.e3 q.Vars.e4 q.Vars.e5 q.Vars.e6 now) i12,[],0)
noncomputable def Go.Models.integral_Take(q:Queue)(now:Int):Option (Queue×Packet×Bool×(List Packet)×Int):=
 (Models.integral_state_valid q).bind fun b1=>
 bif !b1 then
 some (zQ,zP,false,[],1)
 else
 (Models.integral_inside now 0 10000000).bind fun b2=>
 bif !b2 then
 some (zQ,zP,false,[],1)
 else
 bif decide (now<q.Vars.e7) then
 some (zQ,zP,false,[],18)
 else
 (q.Lists[0]?).bind fun l3=>
 (Models.slices_Clone l3).bind fun l4=>
 bif decide (IntKind.i64.wrap (now-q.Vars.e1)<16000) then
 bif (↑l4.length:Int)==0 then
 some (Queue.mk q.Policy q.Room [l4] (A8.mk q.Vars.e0 q.Vars.e1 q.Vars.e2 q.Vars.e3 q.Vars.e4 q.Vars.e5 q.Vars.e6 now) q.Seed,zP,false,[],0)
 else
 gd (decide (0<l4.length)) <|
 (l4[0]?).bind fun q5=>
 gd (decide (1≤l4.length)&&decide (l4.length≤none.getD (l4.length-0))&&decide (0<l4.length)) <|
 gd (decide (1+(l4.length-1)≤l4.length)) <|
 some (Queue.mk q.Policy q.Room [List.take (l4.length-1) (List.drop 1 l4)] (A8.mk q.Vars.e0 q.Vars.e1 q.Vars.e2 q.Vars.e3 q.Vars.e4 q.Vars.e5 q.Vars.e6 now) q.Seed,q5.P,true,[],0)
 else
 (Models.integral_state_delay (Queue.mk q.Policy q.Room [l4] q.Vars q.Seed) now).bind fun i6=>
 (Models.integral_state_update_1 q.Vars.e0 (Queue.mk q.Policy q.Room [l4] q.Vars q.Seed) i6 q.Vars.e2).bind fun i7=>
 bif (↑l4.length:Int)==0 then
 some (Queue.mk q.Policy q.Room [l4] (A8.mk (if (if 0<i7 then i7 else 0)<1000000 then if 0<i7 then i7 else 0 else 1000000) now i6 q.Vars.e3 q.Vars.e4 q.Vars.e5 q.Vars.e6 now) q.Seed,zP,false,[],0)
 else
 gd (decide (0<l4.length)) <|
 (l4[0]?).bind fun q8=>
 gd (decide (1≤l4.length)&&decide (l4.length≤none.getD (l4.length-0))&&decide (0<l4.length)) <|
 gd (decide (1+(l4.length-1)≤l4.length)) <|
 some (Queue.mk q.Policy q.Room [List.take (l4.length-1) (List.drop 1 l4)] (A8.mk (if (if 0<i7 then i7 else 0)<1000000 then if 0<i7 then i7 else 0 else 1000000) now i6 q.Vars.e3 q.Vars.e4 q.Vars.e5 q.Vars.e6 now) q.Seed,q8.P,true,[],0)
noncomputable def Go.Models.deficit_in(n:Int)(low:Int)(high:Int):Option Bool:=
 bif decide (low≤n) then
 some (decide (n≤high))
 else
 some false
noncomputable def Go.Models.deficit_deficits(q:Queue):Option ((A8 Int)):=
 some (A8.mk (IntKind.i64.wrap (q.Vars.e2.tdiv 32768)) (q.Vars.e2.tmod 32768) (IntKind.i64.wrap (q.Vars.e3.tdiv 32768)) (q.Vars.e3.tmod 32768) (IntKind.i64.wrap (q.Vars.e4.tdiv 32768)) (q.Vars.e4.tmod 32768) (IntKind.i64.wrap (q.Vars.e5.tdiv 32768)) (q.Vars.e5.tmod 32768))
noncomputable def Go.Models.deficit_isPacket(p:Packet):Option Bool:=
 (Models.deficit_in p.Flow 0 7).bind fun b1=>
 bif b1 then
 (Models.deficit_in p.Sub 0 3).bind fun b2=>
 bif b2 then
 (Models.deficit_in p.Number 0 1000000000).bind fun b3=>
 bif b3 then
 (Models.deficit_in p.Data 0 1000000000).bind fun b4=>
 bif b4 then
 (Models.deficit_in p.Size 1 10000).bind fun b5=>
 bif b5 then
 (Models.deficit_in p.Sent 0 10000000).bind fun b6=>
 some b6
 else
 some false
 else
 some false
 else
 some false
 else
 some false
 else
 some false
noncomputable def Go.Models.deficit_isList(l:List Queued)(flow:Int)(last:Int):Option Bool:=
 (loopM (ω:=Bool ⊕ Bool×Int×Int) (fun ((b1,i2,i3):Bool×Int×Int)=>
 bif decide (i3<(↑l.length:Int)) then
 gd (decide (0≤i3)) <|
 (l[i3.toNat]?).bind fun q4=>
 (Models.deficit_isPacket q4.P).bind fun b5=>
 bif !b5 then
 some (Sum.inr (Sum.inl false))
 else
 bif !q4.P.Flow==flow then
 some (Sum.inr (Sum.inl false))
 else
 (Models.deficit_in q4.At i2 last).bind fun b6=>
 bif !b6 then
 some (Sum.inr (Sum.inl false))
 else
 some (Sum.inl (b1,q4.At,IntKind.i64.wrap (i3+1)))
 else
 some (Sum.inr (Sum.inr (b1,i2,i3)))) (false,0,0)).bind fun w7=>
 Sum.elim (fun b8=>
 some b8) (fun (b9,i10,i11)=>
 some true) w7
noncomputable def Go.Models.deficit_size(q:Queue):Option Int:=
 (loopM (ω:=Int×Int) (fun ((i1,i2):Int×Int)=>
 bif decide (i2<(↑q.Lists.length:Int)) then
 gd (decide (0≤i2)) <|
 (q.Lists[i2.toNat]?).bind fun l3=>
 some (Sum.inl (IntKind.i64.wrap (i1+(↑l3.length:Int)),IntKind.i64.wrap (i2+1)))
 else
 some (Sum.inr (i1,i2))) (0,0)).bind fun (i4,i5)=>
 some i4
noncomputable def Go.Models.deficit_Valid(q:Queue):Option Bool:=
 bif !q.Policy.Kind==5 then
 some false
 else
 (Models.deficit_in q.Policy.A 100 10000).bind fun b1=>
 bif !b1 then
 some false
 else
 bif !q.Policy.B==0 then
 some false
 else
 bif !q.Policy.C==0 then
 some false
 else
 (Models.deficit_in q.Room 1 500).bind fun b2=>
 bif !b2 then
 some false
 else
 bif !(↑q.Lists.length:Int)==8 then
 some false
 else
 bif !q.Seed==0 then
 some false
 else
 bif !v8 q.Vars 6==0 then
 some false
 else
 (Models.deficit_in (v8 q.Vars 0) 0 7).bind fun b3=>
 bif !b3 then
 some false
 else
 (Models.deficit_in (v8 q.Vars 1) 0 1).bind fun b4=>
 bif !b4 then
 some false
 else
 bif v8 q.Vars 1==1 then
 gd (decide (0≤v8 q.Vars 0)) <|
 (q.Lists[(v8 q.Vars 0).toNat]?).bind fun l5=>
 bif (↑l5.length:Int)==0 then
 some false
 else
 (Models.deficit_in (v8 q.Vars 7) 0 10000000).bind fun b6=>
 bif !b6 then
 some false
 else
 (loopM (ω:=Bool ⊕ Bool×Int) (fun ((b7,i8):Bool×Int)=>
 bif decide (i8<4) then
 gd (decide (0≤IntKind.i64.wrap (2+i8))) <|
 gd (decide ((IntKind.i64.wrap (2+i8)).toNat<8)) <|
 bif decide (v8 q.Vars (IntKind.i64.wrap (2+i8)).toNat<0) then
 some (Sum.inr (Sum.inl false))
 else
 some (Sum.inl (b7,IntKind.i64.wrap (i8+1)))
 else
 some (Sum.inr (Sum.inr (b7,i8)))) (false,0)).bind fun w9=>
 Sum.elim (fun b10=>
 some b10) (fun (b11,i12)=>
 (Models.deficit_deficits q).bind fun q13=>
 (loopM (ω:=Bool ⊕ Bool×Int) (fun ((b14,i15):Bool×Int)=>
 bif decide (i15<8) then
 gd (decide (0≤i15)) <|
 gd (decide (i15.toNat<8)) <|
 (Models.deficit_in (v8 q13 i15.toNat) 0 19999).bind fun b16=>
 bif !b16 then
 some (Sum.inr (Sum.inl false))
 else
 bif decide (0<v8 q13 i15.toNat) then
 gd (decide (0≤i15)) <|
 (q.Lists[i15.toNat]?).bind fun l17=>
 bif (↑l17.length:Int)==0 then
 some (Sum.inr (Sum.inl false))
 else
 gd (decide (0≤i15)) <|
 (q.Lists[i15.toNat]?).bind fun l18=>
 (Models.deficit_isList l18 i15 (v8 q.Vars 7)).bind fun b19=>
 bif !b19 then
 some (Sum.inr (Sum.inl false))
 else
 bif v8 q.Vars 1==1 then
 bif decide (0<v8 q13 i15.toNat) then
 bif !v8 q.Vars 0==i15 then
 gd (decide (0≤i15)) <|
 (q.Lists[i15.toNat]?).bind fun l20=>
 (l20[0]?).bind fun q21=>
 bif decide (q21.P.Size≤v8 q13 i15.toNat) then
 some (Sum.inr (Sum.inl false))
 else
 some (Sum.inl (b14,IntKind.i64.wrap (i15+1)))
 else
 some (Sum.inl (b14,IntKind.i64.wrap (i15+1)))
 else
 some (Sum.inl (b14,IntKind.i64.wrap (i15+1)))
 else
 bif decide (0<v8 q13 i15.toNat) then
 gd (decide (0≤i15)) <|
 (q.Lists[i15.toNat]?).bind fun l22=>
 (l22[0]?).bind fun q23=>
 bif decide (q23.P.Size≤v8 q13 i15.toNat) then
 some (Sum.inr (Sum.inl false))
 else
 some (Sum.inl (b14,IntKind.i64.wrap (i15+1)))
 else
 some (Sum.inl (b14,IntKind.i64.wrap (i15+1)))
 else
 gd (decide (0≤i15)) <|
 (q.Lists[i15.toNat]?).bind fun l24=>
 (Models.deficit_isList l24 i15 (v8 q.Vars 7)).bind fun b25=>
 bif !b25 then
 some (Sum.inr (Sum.inl false))
 else
 bif v8 q.Vars 1==1 then
 bif decide (0<v8 q13 i15.toNat) then
 bif !v8 q.Vars 0==i15 then
 gd (decide (0≤i15)) <|
 (q.Lists[i15.toNat]?).bind fun l26=>
 (l26[0]?).bind fun q27=>
 bif decide (q27.P.Size≤v8 q13 i15.toNat) then
 some (Sum.inr (Sum.inl false))
 else
 some (Sum.inl (b14,IntKind.i64.wrap (i15+1)))
 else
 some (Sum.inl (b14,IntKind.i64.wrap (i15+1)))
 else
 some (Sum.inl (b14,IntKind.i64.wrap (i15+1)))
 else
 bif decide (0<v8 q13 i15.toNat) then
 gd (decide (0≤i15)) <|
 (q.Lists[i15.toNat]?).bind fun l28=>
 (l28[0]?).bind fun q29=>
 bif decide (q29.P.Size≤v8 q13 i15.toNat) then
 some (Sum.inr (Sum.inl false))
 else
 some (Sum.inl (b14,IntKind.i64.wrap (i15+1)))
 else
 some (Sum.inl (b14,IntKind.i64.wrap (i15+1)))
 else
 some (Sum.inr (Sum.inr (b14,i15)))) (b11,0)).bind fun w30=>
 Sum.elim (fun b31=>
 some b31) (fun (b32,i33)=>
 (Models.deficit_size q).bind fun i34=>
 some (decide (i34≤q.Room))) w30) w9
 else
 (Models.deficit_in (v8 q.Vars 7) 0 10000000).bind fun b35=>
 bif !b35 then
 some false
 else
 (loopM (ω:=Bool ⊕ Bool×Int) (fun ((b36,i37):Bool×Int)=>
 bif decide (i37<4) then
 gd (decide (0≤IntKind.i64.wrap (2+i37))) <|
 gd (decide ((IntKind.i64.wrap (2+i37)).toNat<8)) <|
 bif decide (v8 q.Vars (IntKind.i64.wrap (2+i37)).toNat<0) then
 some (Sum.inr (Sum.inl false))
 else
 some (Sum.inl (b36,IntKind.i64.wrap (i37+1)))
 else
 some (Sum.inr (Sum.inr (b36,i37)))) (false,0)).bind fun w38=>
 Sum.elim (fun b39=>
 some b39) (fun (b40,i41)=>
 (Models.deficit_deficits q).bind fun q42=>
 (loopM (ω:=Bool ⊕ Bool×Int) (fun ((b43,i44):Bool×Int)=>
 bif decide (i44<8) then
 gd (decide (0≤i44)) <|
 gd (decide (i44.toNat<8)) <|
 (Models.deficit_in (v8 q42 i44.toNat) 0 19999).bind fun b45=>
 bif !b45 then
 some (Sum.inr (Sum.inl false))
 else
 bif decide (0<v8 q42 i44.toNat) then
 gd (decide (0≤i44)) <|
 (q.Lists[i44.toNat]?).bind fun l46=>
 bif (↑l46.length:Int)==0 then
 some (Sum.inr (Sum.inl false))
 else
 gd (decide (0≤i44)) <|
 (q.Lists[i44.toNat]?).bind fun l47=>
 (Models.deficit_isList l47 i44 (v8 q.Vars 7)).bind fun b48=>
 bif !b48 then
 some (Sum.inr (Sum.inl false))
 else
 bif v8 q.Vars 1==1 then
 bif decide (0<v8 q42 i44.toNat) then
 bif !v8 q.Vars 0==i44 then
 gd (decide (0≤i44)) <|
 (q.Lists[i44.toNat]?).bind fun l49=>
 (l49[0]?).bind fun q50=>
 bif decide (q50.P.Size≤v8 q42 i44.toNat) then
 some (Sum.inr (Sum.inl false))
 else
 some (Sum.inl (b43,IntKind.i64.wrap (i44+1)))
 else
 some (Sum.inl (b43,IntKind.i64.wrap (i44+1)))
 else
 some (Sum.inl (b43,IntKind.i64.wrap (i44+1)))
 else
 bif decide (0<v8 q42 i44.toNat) then
 gd (decide (0≤i44)) <|
 (q.Lists[i44.toNat]?).bind fun l51=>
 (l51[0]?).bind fun q52=>
 bif decide (q52.P.Size≤v8 q42 i44.toNat) then
 some (Sum.inr (Sum.inl false))
 else
 some (Sum.inl (b43,IntKind.i64.wrap (i44+1)))
 else
 some (Sum.inl (b43,IntKind.i64.wrap (i44+1)))
 else
 gd (decide (0≤i44)) <|
 (q.Lists[i44.toNat]?).bind fun l53=>
 (Models.deficit_isList l53 i44 (v8 q.Vars 7)).bind fun b54=>
 bif !b54 then
 some (Sum.inr (Sum.inl false))
 else
 bif v8 q.Vars 1==1 then
 bif decide (0<v8 q42 i44.toNat) then
 bif !v8 q.Vars 0==i44 then
 gd (decide (0≤i44)) <|
 (q.Lists[i44.toNat]?).bind fun l55=>
 (l55[0]?).bind fun q56=>
 bif decide (q56.P.Size≤v8 q42 i44.toNat) then
 some (Sum.inr (Sum.inl false))
 else
 some (Sum.inl (b43,IntKind.i64.wrap (i44+1)))
 else
 some (Sum.inl (b43,IntKind.i64.wrap (i44+1)))
 else
 some (Sum.inl (b43,IntKind.i64.wrap (i44+1)))
 else
 bif decide (0<v8 q42 i44.toNat) then
 gd (decide (0≤i44)) <|
 (q.Lists[i44.toNat]?).bind fun l57=>
 (l57[0]?).bind fun q58=>
 bif decide (q58.P.Size≤v8 q42 i44.toNat) then
 some (Sum.inr (Sum.inl false))
 else
 some (Sum.inl (b43,IntKind.i64.wrap (i44+1)))
 else
 some (Sum.inl (b43,IntKind.i64.wrap (i44+1)))
 else
 some (Sum.inr (Sum.inr (b43,i44)))) (b40,0)).bind fun w59=>
 Sum.elim (fun b60=>
 some b60) (fun (b61,i62)=>
 (Models.deficit_size q).bind fun i63=>
 some (decide (i63≤q.Room))) w59) w38
noncomputable def Go.Models.deficit_Put(q:Queue)(p:Packet)(now:Int):Option (Queue×(List Packet)×Int):=
 (Models.deficit_isPacket p).bind fun b1=>
 bif !b1 then
 some (zQ,[],1)
 else
 (Models.deficit_Valid q).bind fun b2=>
 bif !b2 then
 some (zQ,[],1)
 else
 (Models.deficit_in now 0 10000000).bind fun b3=>
 bif !b3 then
 some (zQ,[],1)
 else
 bif decide (now<q.Vars.e7) then
 some (zQ,[],18)
 else
 gd (true&&decide (q.Lists.length=8)) <|
 (q.Lists[0]?).bind fun l4=>
 (q.Lists[1]?).bind fun l5=>
 (q.Lists[2]?).bind fun l6=>
 (q.Lists[3]?).bind fun l7=>
 (q.Lists[4]?).bind fun l8=>
 (q.Lists[5]?).bind fun l9=>
 (q.Lists[6]?).bind fun l10=>
 (q.Lists[7]?).bind fun l11=>
 ((List.replicate 8 [])[0]?:Option (List Queued)).bind fun l12=>
 ((List.replicate 8 [])[1]?:Option (List Queued)).bind fun l13=>
 ((List.replicate 8 [])[2]?:Option (List Queued)).bind fun l14=>
 ((List.replicate 8 [])[3]?:Option (List Queued)).bind fun l15=>
 ((List.replicate 8 [])[4]?:Option (List Queued)).bind fun l16=>
 ((List.replicate 8 [])[5]?:Option (List Queued)).bind fun l17=>
 ((List.replicate 8 [])[6]?:Option (List Queued)).bind fun l18=>
 ((List.replicate 8 [])[7]?:Option (List Queued)).bind fun l19=>
 (some (IntKind.i64.wrap ((↑l4.length:Int)+1))).bind fun i20=>
 gd (decide (0≤i20)) <|
 gd (decide (0≤i20.toNat)&&decide (i20.toNat*64≤2^47)&&decide (i20.toNat<2^62)) <|
 gd (decide (0+l4.length≤i20.toNat)&&decide (0+l4.length≤(List.replicate i20.toNat zW).length)) <|
 (some (l4++List.drop (0+l4.length) (List.replicate i20.toNat zW))).bind fun l21=>
 (some 0:Option Nat).bind fun n22=>
 (some (0+l4.length)).bind fun n23=>
 (some (IntKind.i64.wrap ((↑l5.length:Int)+1))).bind fun i24=>
 gd (decide (0≤i24)) <|
 gd (decide (0≤i24.toNat)&&decide (i24.toNat*64≤2^47)&&decide (i24.toNat<2^62)) <|
 gd (decide (0+l5.length≤i24.toNat)&&decide (0+l5.length≤(List.replicate i24.toNat zW).length)) <|
 (some (l5++List.drop (0+l5.length) (List.replicate i24.toNat zW))).bind fun l25=>
 (some 0:Option Nat).bind fun n26=>
 (some (0+l5.length)).bind fun n27=>
 (some (IntKind.i64.wrap ((↑l6.length:Int)+1))).bind fun i28=>
 gd (decide (0≤i28)) <|
 gd (decide (0≤i28.toNat)&&decide (i28.toNat*64≤2^47)&&decide (i28.toNat<2^62)) <|
 gd (decide (0+l6.length≤i28.toNat)&&decide (0+l6.length≤(List.replicate i28.toNat zW).length)) <|
 (some (l6++List.drop (0+l6.length) (List.replicate i28.toNat zW))).bind fun l29=>
 (some 0:Option Nat).bind fun n30=>
 (some (0+l6.length)).bind fun n31=>
 (some (IntKind.i64.wrap ((↑l7.length:Int)+1))).bind fun i32=>
 gd (decide (0≤i32)) <|
 gd (decide (0≤i32.toNat)&&decide (i32.toNat*64≤2^47)&&decide (i32.toNat<2^62)) <|
 gd (decide (0+l7.length≤i32.toNat)&&decide (0+l7.length≤(List.replicate i32.toNat zW).length)) <|
 (some (l7++List.drop (0+l7.length) (List.replicate i32.toNat zW))).bind fun l33=>
 (some 0:Option Nat).bind fun n34=>
 (some (0+l7.length)).bind fun n35=>
 (some (IntKind.i64.wrap ((↑l8.length:Int)+1))).bind fun i36=>
 gd (decide (0≤i36)) <|
 gd (decide (0≤i36.toNat)&&decide (i36.toNat*64≤2^47)&&decide (i36.toNat<2^62)) <|
 gd (decide (0+l8.length≤i36.toNat)&&decide (0+l8.length≤(List.replicate i36.toNat zW).length)) <|
 (some (l8++List.drop (0+l8.length) (List.replicate i36.toNat zW))).bind fun l37=>
 (some 0:Option Nat).bind fun n38=>
 (some (0+l8.length)).bind fun n39=>
 (some (IntKind.i64.wrap ((↑l9.length:Int)+1))).bind fun i40=>
 gd (decide (0≤i40)) <|
 gd (decide (0≤i40.toNat)&&decide (i40.toNat*64≤2^47)&&decide (i40.toNat<2^62)) <|
 gd (decide (0+l9.length≤i40.toNat)&&decide (0+l9.length≤(List.replicate i40.toNat zW).length)) <|
 (some (l9++List.drop (0+l9.length) (List.replicate i40.toNat zW))).bind fun l41=>
 (some 0:Option Nat).bind fun n42=>
 (some (0+l9.length)).bind fun n43=>
 (some (IntKind.i64.wrap ((↑l10.length:Int)+1))).bind fun i44=>
 gd (decide (0≤i44)) <|
 gd (decide (0≤i44.toNat)&&decide (i44.toNat*64≤2^47)&&decide (i44.toNat<2^62)) <|
 gd (decide (0+l10.length≤i44.toNat)&&decide (0+l10.length≤(List.replicate i44.toNat zW).length)) <|
 (some (l10++List.drop (0+l10.length) (List.replicate i44.toNat zW))).bind fun l45=>
 (some 0:Option Nat).bind fun n46=>
 (some (0+l10.length)).bind fun n47=>
 (some (IntKind.i64.wrap ((↑l11.length:Int)+1))).bind fun i48=>
 gd (decide (0≤i48)) <|
 gd (decide (0≤i48.toNat)&&decide (i48.toNat*64≤2^47)&&decide (i48.toNat<2^62)) <|
 gd (decide (0+l11.length≤i48.toNat)&&decide (0+l11.length≤(List.replicate i48.toNat zW).length)) <|
 (some (l11++List.drop (0+l11.length) (List.replicate i48.toNat zW))).bind fun l49=>
 (some 0:Option Nat).bind fun n50=>
 (some (0+l11.length)).bind fun n51=>
 gd (lc n22 n23 l21) <|
 gd (lc n26 n27 l25) <|
 gd (lc n30 n31 l29) <|
 gd (lc n34 n35 l33) <|
 gd (lc n38 n39 l37) <|
 gd (lc n42 n43 l41) <|
 gd (lc n46 n47 l45) <|
 gd (lc n50 n51 l49) <|
 (Models.deficit_size (Queue.mk q.Policy q.Room [tk n22 n23 l21,tk n26 n27 l25,tk n30 n31 l29,tk n34 n35 l33,tk n38 n39 l37,tk n42 n43 l41,tk n46 n47 l45,tk n50 n51 l49] (A8.mk q.Vars.e0 q.Vars.e1 q.Vars.e2 q.Vars.e3 q.Vars.e4 q.Vars.e5 q.Vars.e6 now) q.Seed)).bind fun i52=>
 bif i52==q.Room then
 gd (lc n22 n23 l21) <|
 gd (lc n26 n27 l25) <|
 gd (lc n30 n31 l29) <|
 gd (lc n34 n35 l33) <|
 gd (lc n38 n39 l37) <|
 gd (lc n42 n43 l41) <|
 gd (lc n46 n47 l45) <|
 gd (lc n50 n51 l49) <|
 some (Queue.mk q.Policy q.Room [tk n22 n23 l21,tk n26 n27 l25,tk n30 n31 l29,tk n34 n35 l33,tk n38 n39 l37,tk n42 n43 l41,tk n46 n47 l45,tk n50 n51 l49] (A8.mk q.Vars.e0 q.Vars.e1 q.Vars.e2 q.Vars.e3 q.Vars.e4 q.Vars.e5 q.Vars.e6 now) q.Seed,[p],0)
 else
 bif p.Flow==Int.ofNat 0 then
 gd (decide (n23+1≤i20.toNat)&&decide (n22+n23+1≤l21.length)) <|
 gd (decide (n22+(n23+1)≤(List.take (n22+n23) l21++([Queued.mk (Packet.mk (Int.ofNat 0) p.Sub p.Number p.Data p.Size p.Sent p.Able p.Marked) now]++List.drop (n22+n23+1) l21)).length)) <|
 gd (lc n26 n27 l25) <|
 gd (lc n30 n31 l29) <|
 gd (lc n34 n35 l33) <|
 gd (lc n38 n39 l37) <|
 gd (lc n42 n43 l41) <|
 gd (lc n46 n47 l45) <|
 gd (lc n50 n51 l49) <|
 some (Queue.mk q.Policy q.Room [List.take (n23+1) (List.drop n22 (List.take (n22+n23) l21++([Queued.mk (Packet.mk (Int.ofNat 0) p.Sub p.Number p.Data p.Size p.Sent p.Able p.Marked) now]++List.drop (n22+n23+1) l21))),tk n26 n27 l25,tk n30 n31 l29,tk n34 n35 l33,tk n38 n39 l37,tk n42 n43 l41,tk n46 n47 l45,tk n50 n51 l49] (A8.mk q.Vars.e0 q.Vars.e1 q.Vars.e2 q.Vars.e3 q.Vars.e4 q.Vars.e5 q.Vars.e6 now) q.Seed,[],0)
 else
 bif p.Flow==Int.ofNat 1 then
 gd (decide (n27+1≤i24.toNat)&&decide (n26+n27+1≤l25.length)) <|
 gd (lc n22 n23 l21) <|
 gd (decide (n26+(n27+1)≤(List.take (n26+n27) l25++([Queued.mk (Packet.mk (Int.ofNat 1) p.Sub p.Number p.Data p.Size p.Sent p.Able p.Marked) now]++List.drop (n26+n27+1) l25)).length)) <|
 gd (lc n30 n31 l29) <|
 gd (lc n34 n35 l33) <|
 gd (lc n38 n39 l37) <|
 gd (lc n42 n43 l41) <|
 gd (lc n46 n47 l45) <|
 gd (lc n50 n51 l49) <|
 some (Queue.mk q.Policy q.Room [tk n22 n23 l21,List.take (n27+1) (List.drop n26 (List.take (n26+n27) l25++([Queued.mk (Packet.mk (Int.ofNat 1) p.Sub p.Number p.Data p.Size p.Sent p.Able p.Marked) now]++List.drop (n26+n27+1) l25))),tk n30 n31 l29,tk n34 n35 l33,tk n38 n39 l37,tk n42 n43 l41,tk n46 n47 l45,tk n50 n51 l49] (A8.mk q.Vars.e0 q.Vars.e1 q.Vars.e2 q.Vars.e3 q.Vars.e4 q.Vars.e5 q.Vars.e6 now) q.Seed,[],0)
 else
 bif p.Flow==Int.ofNat 2 then
 gd (decide (n31+1≤i28.toNat)&&decide (n30+n31+1≤l29.length)) <|
 gd (lc n22 n23 l21) <|
 gd (lc n26 n27 l25) <|
 gd (decide (n30+(n31+1)≤(List.take (n30+n31) l29++([Queued.mk (Packet.mk (Int.ofNat 2) p.Sub p.Number p.Data p.Size p.Sent p.Able p.Marked) now]++List.drop (n30+n31+1) l29)).length)) <|
 gd (lc n34 n35 l33) <|
 gd (lc n38 n39 l37) <|
 gd (lc n42 n43 l41) <|
 gd (lc n46 n47 l45) <|
 gd (lc n50 n51 l49) <|
 some (Queue.mk q.Policy q.Room [tk n22 n23 l21,tk n26 n27 l25,List.take (n31+1) (List.drop n30 (List.take (n30+n31) l29++([Queued.mk (Packet.mk (Int.ofNat 2) p.Sub p.Number p.Data p.Size p.Sent p.Able p.Marked) now]++List.drop (n30+n31+1) l29))),tk n34 n35 l33,tk n38 n39 l37,tk n42 n43 l41,tk n46 n47 l45,tk n50 n51 l49] (A8.mk q.Vars.e0 q.Vars.e1 q.Vars.e2 q.Vars.e3 q.Vars.e4 q.Vars.e5 q.Vars.e6 now) q.Seed,[],0)
 else
 bif p.Flow==Int.ofNat 3 then
 gd (decide (n35+1≤i32.toNat)&&decide (n34+n35+1≤l33.length)) <|
 gd (lc n22 n23 l21) <|
 gd (lc n26 n27 l25) <|
 gd (lc n30 n31 l29) <|
 gd (decide (n34+(n35+1)≤(List.take (n34+n35) l33++([Queued.mk (Packet.mk (Int.ofNat 3) p.Sub p.Number p.Data p.Size p.Sent p.Able p.Marked) now]++List.drop (n34+n35+1) l33)).length)) <|
 gd (lc n38 n39 l37) <|
 gd (lc n42 n43 l41) <|
 gd (lc n46 n47 l45) <|
 gd (lc n50 n51 l49) <|
 some (Queue.mk q.Policy q.Room [tk n22 n23 l21,tk n26 n27 l25,tk n30 n31 l29,List.take (n35+1) (List.drop n34 (List.take (n34+n35) l33++([Queued.mk (Packet.mk (Int.ofNat 3) p.Sub p.Number p.Data p.Size p.Sent p.Able p.Marked) now]++List.drop (n34+n35+1) l33))),tk n38 n39 l37,tk n42 n43 l41,tk n46 n47 l45,tk n50 n51 l49] (A8.mk q.Vars.e0 q.Vars.e1 q.Vars.e2 q.Vars.e3 q.Vars.e4 q.Vars.e5 q.Vars.e6 now) q.Seed,[],0)
 else
 bif p.Flow==Int.ofNat 4 then
 gd (decide (n39+1≤i36.toNat)&&decide (n38+n39+1≤l37.length)) <|
 gd (lc n22 n23 l21) <|
 gd (lc n26 n27 l25) <|
 gd (lc n30 n31 l29) <|
 gd (lc n34 n35 l33) <|
 gd (decide (n38+(n39+1)≤(List.take (n38+n39) l37++([Queued.mk (Packet.mk (Int.ofNat 4) p.Sub p.Number p.Data p.Size p.Sent p.Able p.Marked) now]++List.drop (n38+n39+1) l37)).length)) <|
 gd (lc n42 n43 l41) <|
 gd (lc n46 n47 l45) <|
 gd (lc n50 n51 l49) <|
 some (Queue.mk q.Policy q.Room [tk n22 n23 l21,tk n26 n27 l25,tk n30 n31 l29,tk n34 n35 l33,List.take (n39+1) (List.drop n38 (List.take (n38+n39) l37++([Queued.mk (Packet.mk (Int.ofNat 4) p.Sub p.Number p.Data p.Size p.Sent p.Able p.Marked) now]++List.drop (n38+n39+1) l37))),tk n42 n43 l41,tk n46 n47 l45,tk n50 n51 l49] (A8.mk q.Vars.e0 q.Vars.e1 q.Vars.e2 q.Vars.e3 q.Vars.e4 q.Vars.e5 q.Vars.e6 now) q.Seed,[],0)
 else
 bif p.Flow==Int.ofNat 5 then
 gd (decide (n43+1≤i40.toNat)&&decide (n42+n43+1≤l41.length)) <|
 gd (lc n22 n23 l21) <|
 gd (lc n26 n27 l25) <|
 gd (lc n30 n31 l29) <|
 gd (lc n34 n35 l33) <|
 gd (lc n38 n39 l37) <|
 gd (decide (n42+(n43+1)≤(List.take (n42+n43) l41++([Queued.mk (Packet.mk (Int.ofNat 5) p.Sub p.Number p.Data p.Size p.Sent p.Able p.Marked) now]++List.drop (n42+n43+1) l41)).length)) <|
 gd (lc n46 n47 l45) <|
 gd (lc n50 n51 l49) <|
 some (Queue.mk q.Policy q.Room [tk n22 n23 l21,tk n26 n27 l25,tk n30 n31 l29,tk n34 n35 l33,tk n38 n39 l37,List.take (n43+1) (List.drop n42 (List.take (n42+n43) l41++([Queued.mk (Packet.mk (Int.ofNat 5) p.Sub p.Number p.Data p.Size p.Sent p.Able p.Marked) now]++List.drop (n42+n43+1) l41))),tk n46 n47 l45,tk n50 n51 l49] (A8.mk q.Vars.e0 q.Vars.e1 q.Vars.e2 q.Vars.e3 q.Vars.e4 q.Vars.e5 q.Vars.e6 now) q.Seed,[],0)
 else
 bif p.Flow==Int.ofNat 6 then
 gd (decide (n47+1≤i44.toNat)&&decide (n46+n47+1≤l45.length)) <|
 gd (lc n22 n23 l21) <|
 gd (lc n26 n27 l25) <|
 gd (lc n30 n31 l29) <|
 gd (lc n34 n35 l33) <|
 gd (lc n38 n39 l37) <|
 gd (lc n42 n43 l41) <|
 gd (decide (n46+(n47+1)≤(List.take (n46+n47) l45++([Queued.mk (Packet.mk (Int.ofNat 6) p.Sub p.Number p.Data p.Size p.Sent p.Able p.Marked) now]++List.drop (n46+n47+1) l45)).length)) <|
 gd (lc n50 n51 l49) <|
 some (Queue.mk q.Policy q.Room [tk n22 n23 l21,tk n26 n27 l25,tk n30 n31 l29,tk n34 n35 l33,tk n38 n39 l37,tk n42 n43 l41,List.take (n47+1) (List.drop n46 (List.take (n46+n47) l45++([Queued.mk (Packet.mk (Int.ofNat 6) p.Sub p.Number p.Data p.Size p.Sent p.Able p.Marked) now]++List.drop (n46+n47+1) l45))),tk n50 n51 l49] (A8.mk q.Vars.e0 q.Vars.e1 q.Vars.e2 q.Vars.e3 q.Vars.e4 q.Vars.e5 q.Vars.e6 now) q.Seed,[],0)
 else
 gd (p.Flow==Int.ofNat 7) <|
 gd (decide (n51+1≤i48.toNat)&&decide (n50+n51+1≤l49.length)) <|
 gd (lc n22 n23 l21) <|
 gd (lc n26 n27 l25) <|
 gd (lc n30 n31 l29) <|
 gd (lc n34 n35 l33) <|
 gd (lc n38 n39 l37) <|
 gd (lc n42 n43 l41) <|
 gd (lc n46 n47 l45) <|
 gd (decide (n50+(n51+1)≤(List.take (n50+n51) l49++([Queued.mk (Packet.mk (Int.ofNat 7) p.Sub p.Number p.Data p.Size p.Sent p.Able p.Marked) now]++List.drop (n50+n51+1) l49)).length)) <|
 some (Queue.mk q.Policy q.Room [tk n22 n23 l21,tk n26 n27 l25,tk n30 n31 l29,tk n34 n35 l33,tk n38 n39 l37,tk n42 n43 l41,tk n46 n47 l45,List.take (n51+1) (List.drop n50 (List.take (n50+n51) l49++([Queued.mk (Packet.mk (Int.ofNat 7) p.Sub p.Number p.Data p.Size p.Sent p.Able p.Marked) now]++List.drop (n50+n51+1) l49)))] (A8.mk q.Vars.e0 q.Vars.e1 q.Vars.e2 q.Vars.e3 q.Vars.e4 q.Vars.e5 q.Vars.e6 now) q.Seed,[],0)
noncomputable def Go.Models.deficit_pack(q:Queue)(d:A8 Int):Option Queue:=
 some (Queue.mk q.Policy q.Room q.Lists (A8.mk q.Vars.e0 q.Vars.e1 (IntKind.i64.wrap (IntKind.i64.wrap (32768*d.e0)+d.e1)) (IntKind.i64.wrap (IntKind.i64.wrap (32768*d.e2)+d.e3)) (IntKind.i64.wrap (IntKind.i64.wrap (32768*d.e4)+d.e5)) (IntKind.i64.wrap (IntKind.i64.wrap (32768*d.e6)+d.e7)) q.Vars.e6 q.Vars.e7) q.Seed)
noncomputable def Go.Models.deficit_Take(q:Queue)(now:Int):Option (Queue×Packet×Bool×(List Packet)×Int):=
 (Models.deficit_Valid q).bind fun b1=>
 bif !b1 then
 some (zQ,zP,false,[],1)
 else
 (Models.deficit_in now 0 10000000).bind fun b2=>
 bif !b2 then
 some (zQ,zP,false,[],1)
 else
 bif decide (now<q.Vars.e7) then
 some (zQ,zP,false,[],18)
 else
 gd (true&&decide (q.Lists.length=8)) <|
 (q.Lists[0]?).bind fun l3=>
 (q.Lists[1]?).bind fun l4=>
 (q.Lists[2]?).bind fun l5=>
 (q.Lists[3]?).bind fun l6=>
 (q.Lists[4]?).bind fun l7=>
 (q.Lists[5]?).bind fun l8=>
 (q.Lists[6]?).bind fun l9=>
 (q.Lists[7]?).bind fun l10=>
 ((List.replicate 8 [])[0]?:Option (List Queued)).bind fun l11=>
 ((List.replicate 8 [])[1]?:Option (List Queued)).bind fun l12=>
 ((List.replicate 8 [])[2]?:Option (List Queued)).bind fun l13=>
 ((List.replicate 8 [])[3]?:Option (List Queued)).bind fun l14=>
 ((List.replicate 8 [])[4]?:Option (List Queued)).bind fun l15=>
 ((List.replicate 8 [])[5]?:Option (List Queued)).bind fun l16=>
 ((List.replicate 8 [])[6]?:Option (List Queued)).bind fun l17=>
 ((List.replicate 8 [])[7]?:Option (List Queued)).bind fun l18=>
 (some (IntKind.i64.wrap ((↑l3.length:Int)+1))).bind fun i19=>
 gd (decide (0≤i19)) <|
 gd (decide (0≤i19.toNat)&&decide (i19.toNat*64≤2^47)&&decide (i19.toNat<2^62)) <|
 gd (decide (0+l3.length≤i19.toNat)&&decide (0+l3.length≤(List.replicate i19.toNat zW).length)) <|
 (some (l3++List.drop (0+l3.length) (List.replicate i19.toNat zW))).bind fun l20=>
 (some 0:Option Nat).bind fun n21=>
 (some (0+l3.length)).bind fun n22=>
 (some (IntKind.i64.wrap ((↑l4.length:Int)+1))).bind fun i23=>
 gd (decide (0≤i23)) <|
 gd (decide (0≤i23.toNat)&&decide (i23.toNat*64≤2^47)&&decide (i23.toNat<2^62)) <|
 gd (decide (0+l4.length≤i23.toNat)&&decide (0+l4.length≤(List.replicate i23.toNat zW).length)) <|
 (some (l4++List.drop (0+l4.length) (List.replicate i23.toNat zW))).bind fun l24=>
 (some 0:Option Nat).bind fun n25=>
 (some (0+l4.length)).bind fun n26=>
 (some (IntKind.i64.wrap ((↑l5.length:Int)+1))).bind fun i27=>
 gd (decide (0≤i27)) <|
 gd (decide (0≤i27.toNat)&&decide (i27.toNat*64≤2^47)&&decide (i27.toNat<2^62)) <|
 gd (decide (0+l5.length≤i27.toNat)&&decide (0+l5.length≤(List.replicate i27.toNat zW).length)) <|
 (some (l5++List.drop (0+l5.length) (List.replicate i27.toNat zW))).bind fun l28=>
 (some 0:Option Nat).bind fun n29=>
 (some (0+l5.length)).bind fun n30=>
 (some (IntKind.i64.wrap ((↑l6.length:Int)+1))).bind fun i31=>
 gd (decide (0≤i31)) <|
 gd (decide (0≤i31.toNat)&&decide (i31.toNat*64≤2^47)&&decide (i31.toNat<2^62)) <|
 gd (decide (0+l6.length≤i31.toNat)&&decide (0+l6.length≤(List.replicate i31.toNat zW).length)) <|
 (some (l6++List.drop (0+l6.length) (List.replicate i31.toNat zW))).bind fun l32=>
 (some 0:Option Nat).bind fun n33=>
 (some (0+l6.length)).bind fun n34=>
 (some (IntKind.i64.wrap ((↑l7.length:Int)+1))).bind fun i35=>
 gd (decide (0≤i35)) <|
 gd (decide (0≤i35.toNat)&&decide (i35.toNat*64≤2^47)&&decide (i35.toNat<2^62)) <|
 gd (decide (0+l7.length≤i35.toNat)&&decide (0+l7.length≤(List.replicate i35.toNat zW).length)) <|
 (some (l7++List.drop (0+l7.length) (List.replicate i35.toNat zW))).bind fun l36=>
 (some 0:Option Nat).bind fun n37=>
 (some (0+l7.length)).bind fun n38=>
 (some (IntKind.i64.wrap ((↑l8.length:Int)+1))).bind fun i39=>
 gd (decide (0≤i39)) <|
 gd (decide (0≤i39.toNat)&&decide (i39.toNat*64≤2^47)&&decide (i39.toNat<2^62)) <|
 gd (decide (0+l8.length≤i39.toNat)&&decide (0+l8.length≤(List.replicate i39.toNat zW).length)) <|
 (some (l8++List.drop (0+l8.length) (List.replicate i39.toNat zW))).bind fun l40=>
 (some 0:Option Nat).bind fun n41=>
 (some (0+l8.length)).bind fun n42=>
 (some (IntKind.i64.wrap ((↑l9.length:Int)+1))).bind fun i43=>
 gd (decide (0≤i43)) <|
 gd (decide (0≤i43.toNat)&&decide (i43.toNat*64≤2^47)&&decide (i43.toNat<2^62)) <|
 gd (decide (0+l9.length≤i43.toNat)&&decide (0+l9.length≤(List.replicate i43.toNat zW).length)) <|
 (some (l9++List.drop (0+l9.length) (List.replicate i43.toNat zW))).bind fun l44=>
 (some 0:Option Nat).bind fun n45=>
 (some (0+l9.length)).bind fun n46=>
 (some (IntKind.i64.wrap ((↑l10.length:Int)+1))).bind fun i47=>
 gd (decide (0≤i47)) <|
 gd (decide (0≤i47.toNat)&&decide (i47.toNat*64≤2^47)&&decide (i47.toNat<2^62)) <|
 gd (decide (0+l10.length≤i47.toNat)&&decide (0+l10.length≤(List.replicate i47.toNat zW).length)) <|
 (some (l10++List.drop (0+l10.length) (List.replicate i47.toNat zW))).bind fun l48=>
 (some 0:Option Nat).bind fun n49=>
 (some (0+l10.length)).bind fun n50=>
 gd (lc n21 n22 l20) <|
 gd (lc n25 n26 l24) <|
 gd (lc n29 n30 l28) <|
 gd (lc n33 n34 l32) <|
 gd (lc n37 n38 l36) <|
 gd (lc n41 n42 l40) <|
 gd (lc n45 n46 l44) <|
 gd (lc n49 n50 l48) <|
 (Models.deficit_size (Queue.mk q.Policy q.Room [tk n21 n22 l20,tk n25 n26 l24,tk n29 n30 l28,tk n33 n34 l32,tk n37 n38 l36,tk n41 n42 l40,tk n45 n46 l44,tk n49 n50 l48] (A8.mk q.Vars.e0 q.Vars.e1 q.Vars.e2 q.Vars.e3 q.Vars.e4 q.Vars.e5 q.Vars.e6 now) q.Seed)).bind fun i51=>
 bif i51==0 then
 gd (lc n21 n22 l20) <|
 gd (lc n25 n26 l24) <|
 gd (lc n29 n30 l28) <|
 gd (lc n33 n34 l32) <|
 gd (lc n37 n38 l36) <|
 gd (lc n41 n42 l40) <|
 gd (lc n45 n46 l44) <|
 gd (lc n49 n50 l48) <|
 some (Queue.mk q.Policy q.Room [tk n21 n22 l20,tk n25 n26 l24,tk n29 n30 l28,tk n33 n34 l32,tk n37 n38 l36,tk n41 n42 l40,tk n45 n46 l44,tk n49 n50 l48] (A8.mk q.Vars.e0 q.Vars.e1 q.Vars.e2 q.Vars.e3 q.Vars.e4 q.Vars.e5 q.Vars.e6 now) q.Seed,zP,false,[],0)
 else
 gd (lc n21 n22 l20) <|
 gd (lc n25 n26 l24) <|
 gd (lc n29 n30 l28) <|
 gd (lc n33 n34 l32) <|
 gd (lc n37 n38 l36) <|
 gd (lc n41 n42 l40) <|
 gd (lc n45 n46 l44) <|
 gd (lc n49 n50 l48) <|
 (Models.deficit_deficits (Queue.mk q.Policy q.Room [tk n21 n22 l20,tk n25 n26 l24,tk n29 n30 l28,tk n33 n34 l32,tk n37 n38 l36,tk n41 n42 l40,tk n45 n46 l44,tk n49 n50 l48] (A8.mk q.Vars.e0 q.Vars.e1 q.Vars.e2 q.Vars.e3 q.Vars.e4 q.Vars.e5 q.Vars.e6 now) q.Seed)).bind fun q52=>
 (loopM (ω:=Int×Int×Int×Int×Int×Int×Int×Int×Bool×Bool×Int×Int×Int×Int×Int×Int×Int×Int) (fun ((i53,i54,i55,i56,i57,i58,i59,i60,b61,b62,i63,i64,i65,i66,i67,i68,i69,i70):Int×Int×Int×Int×Int×Int×Int×Int×Bool×Bool×Int×Int×Int×Int×Int×Int×Int×Int)=>
 bif i54==Int.ofNat 0 then
 bif (↑n22:Int)==0 then
 some (Sum.inl (0,(IntKind.i64.wrap (Int.ofNat 0+1)).tmod 8,i55,i56,i57,i58,i59,i60,b61,b62,i63,i64,i65,i66,i67,i68,i69,i70))
 else
 bif i53==0 then
 gd (decide (0<n22)) <|
 (l20[n21+0]?).bind fun q71=>
 bif decide (q71.P.Size≤IntKind.i64.wrap (i63+q.Policy.A)) then
 some (Sum.inr (1,Int.ofNat 0,q71.P.Flow,q71.P.Sub,q71.P.Number,q71.P.Data,q71.P.Size,q71.P.Sent,q71.P.Able,q71.P.Marked,IntKind.i64.wrap (i63+q.Policy.A),i64,i65,i66,i67,i68,i69,i70))
 else
 some (Sum.inl (0,(IntKind.i64.wrap (Int.ofNat 0+1)).tmod 8,q71.P.Flow,q71.P.Sub,q71.P.Number,q71.P.Data,q71.P.Size,q71.P.Sent,q71.P.Able,q71.P.Marked,IntKind.i64.wrap (i63+q.Policy.A),i64,i65,i66,i67,i68,i69,i70))
 else
 gd (decide (0<n22)) <|
 (l20[n21+0]?).bind fun q72=>
 bif decide (q72.P.Size≤i63) then
 some (Sum.inr (i53,Int.ofNat 0,q72.P.Flow,q72.P.Sub,q72.P.Number,q72.P.Data,q72.P.Size,q72.P.Sent,q72.P.Able,q72.P.Marked,i63,i64,i65,i66,i67,i68,i69,i70))
 else
 some (Sum.inl (0,(IntKind.i64.wrap (Int.ofNat 0+1)).tmod 8,q72.P.Flow,q72.P.Sub,q72.P.Number,q72.P.Data,q72.P.Size,q72.P.Sent,q72.P.Able,q72.P.Marked,i63,i64,i65,i66,i67,i68,i69,i70))
 else
 bif i54==Int.ofNat 1 then
 bif (↑n26:Int)==0 then
 some (Sum.inl (0,(IntKind.i64.wrap (Int.ofNat 1+1)).tmod 8,i55,i56,i57,i58,i59,i60,b61,b62,i63,i64,i65,i66,i67,i68,i69,i70))
 else
 bif i53==0 then
 gd (decide (0<n26)) <|
 (l24[n25+0]?).bind fun q73=>
 bif decide (q73.P.Size≤IntKind.i64.wrap (i64+q.Policy.A)) then
 some (Sum.inr (1,Int.ofNat 1,q73.P.Flow,q73.P.Sub,q73.P.Number,q73.P.Data,q73.P.Size,q73.P.Sent,q73.P.Able,q73.P.Marked,i63,IntKind.i64.wrap (i64+q.Policy.A),i65,i66,i67,i68,i69,i70))
 else
 some (Sum.inl (0,(IntKind.i64.wrap (Int.ofNat 1+1)).tmod 8,q73.P.Flow,q73.P.Sub,q73.P.Number,q73.P.Data,q73.P.Size,q73.P.Sent,q73.P.Able,q73.P.Marked,i63,IntKind.i64.wrap (i64+q.Policy.A),i65,i66,i67,i68,i69,i70))
 else
 gd (decide (0<n26)) <|
 (l24[n25+0]?).bind fun q74=>
 bif decide (q74.P.Size≤i64) then
 some (Sum.inr (i53,Int.ofNat 1,q74.P.Flow,q74.P.Sub,q74.P.Number,q74.P.Data,q74.P.Size,q74.P.Sent,q74.P.Able,q74.P.Marked,i63,i64,i65,i66,i67,i68,i69,i70))
 else
 some (Sum.inl (0,(IntKind.i64.wrap (Int.ofNat 1+1)).tmod 8,q74.P.Flow,q74.P.Sub,q74.P.Number,q74.P.Data,q74.P.Size,q74.P.Sent,q74.P.Able,q74.P.Marked,i63,i64,i65,i66,i67,i68,i69,i70))
 else
 bif i54==Int.ofNat 2 then
 bif (↑n30:Int)==0 then
 some (Sum.inl (0,(IntKind.i64.wrap (Int.ofNat 2+1)).tmod 8,i55,i56,i57,i58,i59,i60,b61,b62,i63,i64,i65,i66,i67,i68,i69,i70))
 else
 bif i53==0 then
 gd (decide (0<n30)) <|
 (l28[n29+0]?).bind fun q75=>
 bif decide (q75.P.Size≤IntKind.i64.wrap (i65+q.Policy.A)) then
 some (Sum.inr (1,Int.ofNat 2,q75.P.Flow,q75.P.Sub,q75.P.Number,q75.P.Data,q75.P.Size,q75.P.Sent,q75.P.Able,q75.P.Marked,i63,i64,IntKind.i64.wrap (i65+q.Policy.A),i66,i67,i68,i69,i70))
 else
 some (Sum.inl (0,(IntKind.i64.wrap (Int.ofNat 2+1)).tmod 8,q75.P.Flow,q75.P.Sub,q75.P.Number,q75.P.Data,q75.P.Size,q75.P.Sent,q75.P.Able,q75.P.Marked,i63,i64,IntKind.i64.wrap (i65+q.Policy.A),i66,i67,i68,i69,i70))
 else
 gd (decide (0<n30)) <|
 (l28[n29+0]?).bind fun q76=>
 bif decide (q76.P.Size≤i65) then
 some (Sum.inr (i53,Int.ofNat 2,q76.P.Flow,q76.P.Sub,q76.P.Number,q76.P.Data,q76.P.Size,q76.P.Sent,q76.P.Able,q76.P.Marked,i63,i64,i65,i66,i67,i68,i69,i70))
 else
 some (Sum.inl (0,(IntKind.i64.wrap (Int.ofNat 2+1)).tmod 8,q76.P.Flow,q76.P.Sub,q76.P.Number,q76.P.Data,q76.P.Size,q76.P.Sent,q76.P.Able,q76.P.Marked,i63,i64,i65,i66,i67,i68,i69,i70))
 else
 bif i54==Int.ofNat 3 then
 bif (↑n34:Int)==0 then
 some (Sum.inl (0,(IntKind.i64.wrap (Int.ofNat 3+1)).tmod 8,i55,i56,i57,i58,i59,i60,b61,b62,i63,i64,i65,i66,i67,i68,i69,i70))
 else
 bif i53==0 then
 gd (decide (0<n34)) <|
 (l32[n33+0]?).bind fun q77=>
 bif decide (q77.P.Size≤IntKind.i64.wrap (i66+q.Policy.A)) then
 some (Sum.inr (1,Int.ofNat 3,q77.P.Flow,q77.P.Sub,q77.P.Number,q77.P.Data,q77.P.Size,q77.P.Sent,q77.P.Able,q77.P.Marked,i63,i64,i65,IntKind.i64.wrap (i66+q.Policy.A),i67,i68,i69,i70))
 else
 some (Sum.inl (0,(IntKind.i64.wrap (Int.ofNat 3+1)).tmod 8,q77.P.Flow,q77.P.Sub,q77.P.Number,q77.P.Data,q77.P.Size,q77.P.Sent,q77.P.Able,q77.P.Marked,i63,i64,i65,IntKind.i64.wrap (i66+q.Policy.A),i67,i68,i69,i70))
 else
 gd (decide (0<n34)) <|
 (l32[n33+0]?).bind fun q78=>
 bif decide (q78.P.Size≤i66) then
 some (Sum.inr (i53,Int.ofNat 3,q78.P.Flow,q78.P.Sub,q78.P.Number,q78.P.Data,q78.P.Size,q78.P.Sent,q78.P.Able,q78.P.Marked,i63,i64,i65,i66,i67,i68,i69,i70))
 else
 some (Sum.inl (0,(IntKind.i64.wrap (Int.ofNat 3+1)).tmod 8,q78.P.Flow,q78.P.Sub,q78.P.Number,q78.P.Data,q78.P.Size,q78.P.Sent,q78.P.Able,q78.P.Marked,i63,i64,i65,i66,i67,i68,i69,i70))
 else
 bif i54==Int.ofNat 4 then
 bif (↑n38:Int)==0 then
 some (Sum.inl (0,(IntKind.i64.wrap (Int.ofNat 4+1)).tmod 8,i55,i56,i57,i58,i59,i60,b61,b62,i63,i64,i65,i66,i67,i68,i69,i70))
 else
 bif i53==0 then
 gd (decide (0<n38)) <|
 (l36[n37+0]?).bind fun q79=>
 bif decide (q79.P.Size≤IntKind.i64.wrap (i67+q.Policy.A)) then
 some (Sum.inr (1,Int.ofNat 4,q79.P.Flow,q79.P.Sub,q79.P.Number,q79.P.Data,q79.P.Size,q79.P.Sent,q79.P.Able,q79.P.Marked,i63,i64,i65,i66,IntKind.i64.wrap (i67+q.Policy.A),i68,i69,i70))
 else
 some (Sum.inl (0,(IntKind.i64.wrap (Int.ofNat 4+1)).tmod 8,q79.P.Flow,q79.P.Sub,q79.P.Number,q79.P.Data,q79.P.Size,q79.P.Sent,q79.P.Able,q79.P.Marked,i63,i64,i65,i66,IntKind.i64.wrap (i67+q.Policy.A),i68,i69,i70))
 else
 gd (decide (0<n38)) <|
 (l36[n37+0]?).bind fun q80=>
 bif decide (q80.P.Size≤i67) then
 some (Sum.inr (i53,Int.ofNat 4,q80.P.Flow,q80.P.Sub,q80.P.Number,q80.P.Data,q80.P.Size,q80.P.Sent,q80.P.Able,q80.P.Marked,i63,i64,i65,i66,i67,i68,i69,i70))
 else
 some (Sum.inl (0,(IntKind.i64.wrap (Int.ofNat 4+1)).tmod 8,q80.P.Flow,q80.P.Sub,q80.P.Number,q80.P.Data,q80.P.Size,q80.P.Sent,q80.P.Able,q80.P.Marked,i63,i64,i65,i66,i67,i68,i69,i70))
 else
 bif i54==Int.ofNat 5 then
 bif (↑n42:Int)==0 then
 some (Sum.inl (0,(IntKind.i64.wrap (Int.ofNat 5+1)).tmod 8,i55,i56,i57,i58,i59,i60,b61,b62,i63,i64,i65,i66,i67,i68,i69,i70))
 else
 bif i53==0 then
 gd (decide (0<n42)) <|
 (l40[n41+0]?).bind fun q81=>
 bif decide (q81.P.Size≤IntKind.i64.wrap (i68+q.Policy.A)) then
 some (Sum.inr (1,Int.ofNat 5,q81.P.Flow,q81.P.Sub,q81.P.Number,q81.P.Data,q81.P.Size,q81.P.Sent,q81.P.Able,q81.P.Marked,i63,i64,i65,i66,i67,IntKind.i64.wrap (i68+q.Policy.A),i69,i70))
 else
 some (Sum.inl (0,(IntKind.i64.wrap (Int.ofNat 5+1)).tmod 8,q81.P.Flow,q81.P.Sub,q81.P.Number,q81.P.Data,q81.P.Size,q81.P.Sent,q81.P.Able,q81.P.Marked,i63,i64,i65,i66,i67,IntKind.i64.wrap (i68+q.Policy.A),i69,i70))
 else
 gd (decide (0<n42)) <|
 (l40[n41+0]?).bind fun q82=>
 bif decide (q82.P.Size≤i68) then
 some (Sum.inr (i53,Int.ofNat 5,q82.P.Flow,q82.P.Sub,q82.P.Number,q82.P.Data,q82.P.Size,q82.P.Sent,q82.P.Able,q82.P.Marked,i63,i64,i65,i66,i67,i68,i69,i70))
 else
 some (Sum.inl (0,(IntKind.i64.wrap (Int.ofNat 5+1)).tmod 8,q82.P.Flow,q82.P.Sub,q82.P.Number,q82.P.Data,q82.P.Size,q82.P.Sent,q82.P.Able,q82.P.Marked,i63,i64,i65,i66,i67,i68,i69,i70))
 else
 bif i54==Int.ofNat 6 then
 bif (↑n46:Int)==0 then
 some (Sum.inl (0,(IntKind.i64.wrap (Int.ofNat 6+1)).tmod 8,i55,i56,i57,i58,i59,i60,b61,b62,i63,i64,i65,i66,i67,i68,i69,i70))
 else
 bif i53==0 then
 gd (decide (0<n46)) <|
 (l44[n45+0]?).bind fun q83=>
 bif decide (q83.P.Size≤IntKind.i64.wrap (i69+q.Policy.A)) then
 some (Sum.inr (1,Int.ofNat 6,q83.P.Flow,q83.P.Sub,q83.P.Number,q83.P.Data,q83.P.Size,q83.P.Sent,q83.P.Able,q83.P.Marked,i63,i64,i65,i66,i67,i68,IntKind.i64.wrap (i69+q.Policy.A),i70))
 else
 some (Sum.inl (0,(IntKind.i64.wrap (Int.ofNat 6+1)).tmod 8,q83.P.Flow,q83.P.Sub,q83.P.Number,q83.P.Data,q83.P.Size,q83.P.Sent,q83.P.Able,q83.P.Marked,i63,i64,i65,i66,i67,i68,IntKind.i64.wrap (i69+q.Policy.A),i70))
 else
 gd (decide (0<n46)) <|
 (l44[n45+0]?).bind fun q84=>
 bif decide (q84.P.Size≤i69) then
 some (Sum.inr (i53,Int.ofNat 6,q84.P.Flow,q84.P.Sub,q84.P.Number,q84.P.Data,q84.P.Size,q84.P.Sent,q84.P.Able,q84.P.Marked,i63,i64,i65,i66,i67,i68,i69,i70))
 else
 some (Sum.inl (0,(IntKind.i64.wrap (Int.ofNat 6+1)).tmod 8,q84.P.Flow,q84.P.Sub,q84.P.Number,q84.P.Data,q84.P.Size,q84.P.Sent,q84.P.Able,q84.P.Marked,i63,i64,i65,i66,i67,i68,i69,i70))
 else
 bif i54==Int.ofNat 7 then
 bif (↑n50:Int)==0 then
 some (Sum.inl (0,(IntKind.i64.wrap (Int.ofNat 7+1)).tmod 8,i55,i56,i57,i58,i59,i60,b61,b62,i63,i64,i65,i66,i67,i68,i69,i70))
 else
 bif i53==0 then
 gd (decide (0<n50)) <|
 (l48[n49+0]?).bind fun q85=>
 bif decide (q85.P.Size≤IntKind.i64.wrap (i70+q.Policy.A)) then
 some (Sum.inr (1,Int.ofNat 7,q85.P.Flow,q85.P.Sub,q85.P.Number,q85.P.Data,q85.P.Size,q85.P.Sent,q85.P.Able,q85.P.Marked,i63,i64,i65,i66,i67,i68,i69,IntKind.i64.wrap (i70+q.Policy.A)))
 else
 some (Sum.inl (0,(IntKind.i64.wrap (Int.ofNat 7+1)).tmod 8,q85.P.Flow,q85.P.Sub,q85.P.Number,q85.P.Data,q85.P.Size,q85.P.Sent,q85.P.Able,q85.P.Marked,i63,i64,i65,i66,i67,i68,i69,IntKind.i64.wrap (i70+q.Policy.A)))
 else
 gd (decide (0<n50)) <|
 (l48[n49+0]?).bind fun q86=>
 bif decide (q86.P.Size≤i70) then
 some (Sum.inr (i53,Int.ofNat 7,q86.P.Flow,q86.P.Sub,q86.P.Number,q86.P.Data,q86.P.Size,q86.P.Sent,q86.P.Able,q86.P.Marked,i63,i64,i65,i66,i67,i68,i69,i70))
 else
 some (Sum.inl (0,(IntKind.i64.wrap (Int.ofNat 7+1)).tmod 8,q86.P.Flow,q86.P.Sub,q86.P.Number,q86.P.Data,q86.P.Size,q86.P.Sent,q86.P.Able,q86.P.Marked,i63,i64,i65,i66,i67,i68,i69,i70))
 else
 none) (q.Vars.e1,q.Vars.e0,0,0,0,0,0,0,false,false,q52.e0,q52.e1,q52.e2,q52.e3,q52.e4,q52.e5,q52.e6,q52.e7)).bind fun (i87,i88,i89,i90,i91,i92,i93,i94,b95,b96,i97,i98,i99,i100,i101,i102,i103,i104)=>
 bif i88==Int.ofNat 0 then
 gd (decide (1≤n22)&&decide (n22≤(some i19.toNat).getD (l20.length-n21))&&decide (0<l20.length)) <|
 bif (↑(n22-1):Int)==0 then
 gd (decide (n21+1+(n22-1)≤l20.length)) <|
 gd (lc n25 n26 l24) <|
 gd (lc n29 n30 l28) <|
 gd (lc n33 n34 l32) <|
 gd (lc n37 n38 l36) <|
 gd (lc n41 n42 l40) <|
 gd (lc n45 n46 l44) <|
 gd (lc n49 n50 l48) <|
 (Models.deficit_pack (Queue.mk q.Policy q.Room [List.take (n22-1) (List.drop (n21+1) l20),tk n25 n26 l24,tk n29 n30 l28,tk n33 n34 l32,tk n37 n38 l36,tk n41 n42 l40,tk n45 n46 l44,tk n49 n50 l48] (A8.mk ((IntKind.i64.wrap (Int.ofNat 0+1)).tmod 8) 0 q.Vars.e2 q.Vars.e3 q.Vars.e4 q.Vars.e5 q.Vars.e6 now) q.Seed) (A8.mk 0 i98 i99 i100 i101 i102 i103 i104)).bind fun q105=>
 gd (decide (n21+1+(n22-1)≤l20.length)) <|
 gd (lc n25 n26 l24) <|
 gd (lc n29 n30 l28) <|
 gd (lc n33 n34 l32) <|
 gd (lc n37 n38 l36) <|
 gd (lc n41 n42 l40) <|
 gd (lc n45 n46 l44) <|
 gd (lc n49 n50 l48) <|
 some (q105,Packet.mk i89 i90 i91 i92 i93 i94 b95 b96,true,[],0)
 else
 gd (decide (n21+1+(n22-1)≤l20.length)) <|
 gd (lc n25 n26 l24) <|
 gd (lc n29 n30 l28) <|
 gd (lc n33 n34 l32) <|
 gd (lc n37 n38 l36) <|
 gd (lc n41 n42 l40) <|
 gd (lc n45 n46 l44) <|
 gd (lc n49 n50 l48) <|
 (Models.deficit_pack (Queue.mk q.Policy q.Room [List.take (n22-1) (List.drop (n21+1) l20),tk n25 n26 l24,tk n29 n30 l28,tk n33 n34 l32,tk n37 n38 l36,tk n41 n42 l40,tk n45 n46 l44,tk n49 n50 l48] (A8.mk (Int.ofNat 0) i87 q.Vars.e2 q.Vars.e3 q.Vars.e4 q.Vars.e5 q.Vars.e6 now) q.Seed) (A8.mk (IntKind.i64.wrap (i97-i93)) i98 i99 i100 i101 i102 i103 i104)).bind fun q106=>
 gd (decide (n21+1+(n22-1)≤l20.length)) <|
 gd (lc n25 n26 l24) <|
 gd (lc n29 n30 l28) <|
 gd (lc n33 n34 l32) <|
 gd (lc n37 n38 l36) <|
 gd (lc n41 n42 l40) <|
 gd (lc n45 n46 l44) <|
 gd (lc n49 n50 l48) <|
 some (q106,Packet.mk i89 i90 i91 i92 i93 i94 b95 b96,true,[],0)
 else
 bif i88==Int.ofNat 1 then
 gd (decide (1≤n26)&&decide (n26≤(some i23.toNat).getD (l24.length-n25))&&decide (0<l24.length)) <|
 bif (↑(n26-1):Int)==0 then
 gd (lc n21 n22 l20) <|
 gd (decide (n25+1+(n26-1)≤l24.length)) <|
 gd (lc n29 n30 l28) <|
 gd (lc n33 n34 l32) <|
 gd (lc n37 n38 l36) <|
 gd (lc n41 n42 l40) <|
 gd (lc n45 n46 l44) <|
 gd (lc n49 n50 l48) <|
 (Models.deficit_pack (Queue.mk q.Policy q.Room [tk n21 n22 l20,List.take (n26-1) (List.drop (n25+1) l24),tk n29 n30 l28,tk n33 n34 l32,tk n37 n38 l36,tk n41 n42 l40,tk n45 n46 l44,tk n49 n50 l48] (A8.mk ((IntKind.i64.wrap (Int.ofNat 1+1)).tmod 8) 0 q.Vars.e2 q.Vars.e3 q.Vars.e4 q.Vars.e5 q.Vars.e6 now) q.Seed) (A8.mk i97 0 i99 i100 i101 i102 i103 i104)).bind fun q107=>
 gd (lc n21 n22 l20) <|
 gd (decide (n25+1+(n26-1)≤l24.length)) <|
 gd (lc n29 n30 l28) <|
 gd (lc n33 n34 l32) <|
 gd (lc n37 n38 l36) <|
 gd (lc n41 n42 l40) <|
 gd (lc n45 n46 l44) <|
 gd (lc n49 n50 l48) <|
 some (q107,Packet.mk i89 i90 i91 i92 i93 i94 b95 b96,true,[],0)
 else
 gd (lc n21 n22 l20) <|
 gd (decide (n25+1+(n26-1)≤l24.length)) <|
 gd (lc n29 n30 l28) <|
 gd (lc n33 n34 l32) <|
 gd (lc n37 n38 l36) <|
 gd (lc n41 n42 l40) <|
 gd (lc n45 n46 l44) <|
 gd (lc n49 n50 l48) <|
 (Models.deficit_pack (Queue.mk q.Policy q.Room [tk n21 n22 l20,List.take (n26-1) (List.drop (n25+1) l24),tk n29 n30 l28,tk n33 n34 l32,tk n37 n38 l36,tk n41 n42 l40,tk n45 n46 l44,tk n49 n50 l48] (A8.mk (Int.ofNat 1) i87 q.Vars.e2 q.Vars.e3 q.Vars.e4 q.Vars.e5 q.Vars.e6 now) q.Seed) (A8.mk i97 (IntKind.i64.wrap (i98-i93)) i99 i100 i101 i102 i103 i104)).bind fun q108=>
 gd (lc n21 n22 l20) <|
 gd (decide (n25+1+(n26-1)≤l24.length)) <|
 gd (lc n29 n30 l28) <|
 gd (lc n33 n34 l32) <|
 gd (lc n37 n38 l36) <|
 gd (lc n41 n42 l40) <|
 gd (lc n45 n46 l44) <|
 gd (lc n49 n50 l48) <|
 some (q108,Packet.mk i89 i90 i91 i92 i93 i94 b95 b96,true,[],0)
 else
 bif i88==Int.ofNat 2 then
 gd (decide (1≤n30)&&decide (n30≤(some i27.toNat).getD (l28.length-n29))&&decide (0<l28.length)) <|
 bif (↑(n30-1):Int)==0 then
 gd (lc n21 n22 l20) <|
 gd (lc n25 n26 l24) <|
 gd (decide (n29+1+(n30-1)≤l28.length)) <|
 gd (lc n33 n34 l32) <|
 gd (lc n37 n38 l36) <|
 gd (lc n41 n42 l40) <|
 gd (lc n45 n46 l44) <|
 gd (lc n49 n50 l48) <|
 (Models.deficit_pack (Queue.mk q.Policy q.Room [tk n21 n22 l20,tk n25 n26 l24,List.take (n30-1) (List.drop (n29+1) l28),tk n33 n34 l32,tk n37 n38 l36,tk n41 n42 l40,tk n45 n46 l44,tk n49 n50 l48] (A8.mk ((IntKind.i64.wrap (Int.ofNat 2+1)).tmod 8) 0 q.Vars.e2 q.Vars.e3 q.Vars.e4 q.Vars.e5 q.Vars.e6 now) q.Seed) (A8.mk i97 i98 0 i100 i101 i102 i103 i104)).bind fun q109=>
 gd (lc n21 n22 l20) <|
 gd (lc n25 n26 l24) <|
 gd (decide (n29+1+(n30-1)≤l28.length)) <|
 gd (lc n33 n34 l32) <|
 gd (lc n37 n38 l36) <|
 gd (lc n41 n42 l40) <|
 gd (lc n45 n46 l44) <|
 gd (lc n49 n50 l48) <|
 some (q109,Packet.mk i89 i90 i91 i92 i93 i94 b95 b96,true,[],0)
 else
 gd (lc n21 n22 l20) <|
 gd (lc n25 n26 l24) <|
 gd (decide (n29+1+(n30-1)≤l28.length)) <|
 gd (lc n33 n34 l32) <|
 gd (lc n37 n38 l36) <|
 gd (lc n41 n42 l40) <|
 gd (lc n45 n46 l44) <|
 gd (lc n49 n50 l48) <|
 (Models.deficit_pack (Queue.mk q.Policy q.Room [tk n21 n22 l20,tk n25 n26 l24,List.take (n30-1) (List.drop (n29+1) l28),tk n33 n34 l32,tk n37 n38 l36,tk n41 n42 l40,tk n45 n46 l44,tk n49 n50 l48] (A8.mk (Int.ofNat 2) i87 q.Vars.e2 q.Vars.e3 q.Vars.e4 q.Vars.e5 q.Vars.e6 now) q.Seed) (A8.mk i97 i98 (IntKind.i64.wrap (i99-i93)) i100 i101 i102 i103 i104)).bind fun q110=>
 gd (lc n21 n22 l20) <|
 gd (lc n25 n26 l24) <|
 gd (decide (n29+1+(n30-1)≤l28.length)) <|
 gd (lc n33 n34 l32) <|
 gd (lc n37 n38 l36) <|
 gd (lc n41 n42 l40) <|
 gd (lc n45 n46 l44) <|
 gd (lc n49 n50 l48) <|
 some (q110,Packet.mk i89 i90 i91 i92 i93 i94 b95 b96,true,[],0)
 else
 bif i88==Int.ofNat 3 then
 gd (decide (1≤n34)&&decide (n34≤(some i31.toNat).getD (l32.length-n33))&&decide (0<l32.length)) <|
 bif (↑(n34-1):Int)==0 then
 gd (lc n21 n22 l20) <|
 gd (lc n25 n26 l24) <|
 gd (lc n29 n30 l28) <|
 gd (decide (n33+1+(n34-1)≤l32.length)) <|
 gd (lc n37 n38 l36) <|
 gd (lc n41 n42 l40) <|
 gd (lc n45 n46 l44) <|
 gd (lc n49 n50 l48) <|
 (Models.deficit_pack (Queue.mk q.Policy q.Room [tk n21 n22 l20,tk n25 n26 l24,tk n29 n30 l28,List.take (n34-1) (List.drop (n33+1) l32),tk n37 n38 l36,tk n41 n42 l40,tk n45 n46 l44,tk n49 n50 l48] (A8.mk ((IntKind.i64.wrap (Int.ofNat 3+1)).tmod 8) 0 q.Vars.e2 q.Vars.e3 q.Vars.e4 q.Vars.e5 q.Vars.e6 now) q.Seed) (A8.mk i97 i98 i99 0 i101 i102 i103 i104)).bind fun q111=>
 gd (lc n21 n22 l20) <|
 gd (lc n25 n26 l24) <|
 gd (lc n29 n30 l28) <|
 gd (decide (n33+1+(n34-1)≤l32.length)) <|
 gd (lc n37 n38 l36) <|
 gd (lc n41 n42 l40) <|
 gd (lc n45 n46 l44) <|
 gd (lc n49 n50 l48) <|
 some (q111,Packet.mk i89 i90 i91 i92 i93 i94 b95 b96,true,[],0)
 else
 gd (lc n21 n22 l20) <|
 gd (lc n25 n26 l24) <|
 gd (lc n29 n30 l28) <|
 gd (decide (n33+1+(n34-1)≤l32.length)) <|
 gd (lc n37 n38 l36) <|
 gd (lc n41 n42 l40) <|
 gd (lc n45 n46 l44) <|
 gd (lc n49 n50 l48) <|
 (Models.deficit_pack (Queue.mk q.Policy q.Room [tk n21 n22 l20,tk n25 n26 l24,tk n29 n30 l28,List.take (n34-1) (List.drop (n33+1) l32),tk n37 n38 l36,tk n41 n42 l40,tk n45 n46 l44,tk n49 n50 l48] (A8.mk (Int.ofNat 3) i87 q.Vars.e2 q.Vars.e3 q.Vars.e4 q.Vars.e5 q.Vars.e6 now) q.Seed) (A8.mk i97 i98 i99 (IntKind.i64.wrap (i100-i93)) i101 i102 i103 i104)).bind fun q112=>
 gd (lc n21 n22 l20) <|
 gd (lc n25 n26 l24) <|
 gd (lc n29 n30 l28) <|
 gd (decide (n33+1+(n34-1)≤l32.length)) <|
 gd (lc n37 n38 l36) <|
 gd (lc n41 n42 l40) <|
 gd (lc n45 n46 l44) <|
 gd (lc n49 n50 l48) <|
 some (q112,Packet.mk i89 i90 i91 i92 i93 i94 b95 b96,true,[],0)
 else
 bif i88==Int.ofNat 4 then
 gd (decide (1≤n38)&&decide (n38≤(some i35.toNat).getD (l36.length-n37))&&decide (0<l36.length)) <|
 bif (↑(n38-1):Int)==0 then
 gd (lc n21 n22 l20) <|
 gd (lc n25 n26 l24) <|
 gd (lc n29 n30 l28) <|
 gd (lc n33 n34 l32) <|
 gd (decide (n37+1+(n38-1)≤l36.length)) <|
 gd (lc n41 n42 l40) <|
 gd (lc n45 n46 l44) <|
 gd (lc n49 n50 l48) <|
 (Models.deficit_pack (Queue.mk q.Policy q.Room [tk n21 n22 l20,tk n25 n26 l24,tk n29 n30 l28,tk n33 n34 l32,List.take (n38-1) (List.drop (n37+1) l36),tk n41 n42 l40,tk n45 n46 l44,tk n49 n50 l48] (A8.mk ((IntKind.i64.wrap (Int.ofNat 4+1)).tmod 8) 0 q.Vars.e2 q.Vars.e3 q.Vars.e4 q.Vars.e5 q.Vars.e6 now) q.Seed) (A8.mk i97 i98 i99 i100 0 i102 i103 i104)).bind fun q113=>
 gd (lc n21 n22 l20) <|
 gd (lc n25 n26 l24) <|
 gd (lc n29 n30 l28) <|
 gd (lc n33 n34 l32) <|
 gd (decide (n37+1+(n38-1)≤l36.length)) <|
 gd (lc n41 n42 l40) <|
 gd (lc n45 n46 l44) <|
 gd (lc n49 n50 l48) <|
 some (q113,Packet.mk i89 i90 i91 i92 i93 i94 b95 b96,true,[],0)
 else
 gd (lc n21 n22 l20) <|
 gd (lc n25 n26 l24) <|
 gd (lc n29 n30 l28) <|
 gd (lc n33 n34 l32) <|
 gd (decide (n37+1+(n38-1)≤l36.length)) <|
 gd (lc n41 n42 l40) <|
 gd (lc n45 n46 l44) <|
 gd (lc n49 n50 l48) <|
 (Models.deficit_pack (Queue.mk q.Policy q.Room [tk n21 n22 l20,tk n25 n26 l24,tk n29 n30 l28,tk n33 n34 l32,List.take (n38-1) (List.drop (n37+1) l36),tk n41 n42 l40,tk n45 n46 l44,tk n49 n50 l48] (A8.mk (Int.ofNat 4) i87 q.Vars.e2 q.Vars.e3 q.Vars.e4 q.Vars.e5 q.Vars.e6 now) q.Seed) (A8.mk i97 i98 i99 i100 (IntKind.i64.wrap (i101-i93)) i102 i103 i104)).bind fun q114=>
 gd (lc n21 n22 l20) <|
 gd (lc n25 n26 l24) <|
 gd (lc n29 n30 l28) <|
 gd (lc n33 n34 l32) <|
 gd (decide (n37+1+(n38-1)≤l36.length)) <|
 gd (lc n41 n42 l40) <|
 gd (lc n45 n46 l44) <|
 gd (lc n49 n50 l48) <|
 some (q114,Packet.mk i89 i90 i91 i92 i93 i94 b95 b96,true,[],0)
 else
 bif i88==Int.ofNat 5 then
 gd (decide (1≤n42)&&decide (n42≤(some i39.toNat).getD (l40.length-n41))&&decide (0<l40.length)) <|
 bif (↑(n42-1):Int)==0 then
 gd (lc n21 n22 l20) <|
 gd (lc n25 n26 l24) <|
 gd (lc n29 n30 l28) <|
 gd (lc n33 n34 l32) <|
 gd (lc n37 n38 l36) <|
 gd (decide (n41+1+(n42-1)≤l40.length)) <|
 gd (lc n45 n46 l44) <|
 gd (lc n49 n50 l48) <|
 (Models.deficit_pack (Queue.mk q.Policy q.Room [tk n21 n22 l20,tk n25 n26 l24,tk n29 n30 l28,tk n33 n34 l32,tk n37 n38 l36,List.take (n42-1) (List.drop (n41+1) l40),tk n45 n46 l44,tk n49 n50 l48] (A8.mk ((IntKind.i64.wrap (Int.ofNat 5+1)).tmod 8) 0 q.Vars.e2 q.Vars.e3 q.Vars.e4 q.Vars.e5 q.Vars.e6 now) q.Seed) (A8.mk i97 i98 i99 i100 i101 0 i103 i104)).bind fun q115=>
 gd (lc n21 n22 l20) <|
 gd (lc n25 n26 l24) <|
 gd (lc n29 n30 l28) <|
 gd (lc n33 n34 l32) <|
 gd (lc n37 n38 l36) <|
 gd (decide (n41+1+(n42-1)≤l40.length)) <|
 gd (lc n45 n46 l44) <|
 gd (lc n49 n50 l48) <|
 some (q115,Packet.mk i89 i90 i91 i92 i93 i94 b95 b96,true,[],0)
 else
 gd (lc n21 n22 l20) <|
 gd (lc n25 n26 l24) <|
 gd (lc n29 n30 l28) <|
 gd (lc n33 n34 l32) <|
 gd (lc n37 n38 l36) <|
 gd (decide (n41+1+(n42-1)≤l40.length)) <|
 gd (lc n45 n46 l44) <|
 gd (lc n49 n50 l48) <|
 (Models.deficit_pack (Queue.mk q.Policy q.Room [tk n21 n22 l20,tk n25 n26 l24,tk n29 n30 l28,tk n33 n34 l32,tk n37 n38 l36,List.take (n42-1) (List.drop (n41+1) l40),tk n45 n46 l44,tk n49 n50 l48] (A8.mk (Int.ofNat 5) i87 q.Vars.e2 q.Vars.e3 q.Vars.e4 q.Vars.e5 q.Vars.e6 now) q.Seed) (A8.mk i97 i98 i99 i100 i101 (IntKind.i64.wrap (i102-i93)) i103 i104)).bind fun q116=>
 gd (lc n21 n22 l20) <|
 gd (lc n25 n26 l24) <|
 gd (lc n29 n30 l28) <|
 gd (lc n33 n34 l32) <|
 gd (lc n37 n38 l36) <|
 gd (decide (n41+1+(n42-1)≤l40.length)) <|
 gd (lc n45 n46 l44) <|
 gd (lc n49 n50 l48) <|
 some (q116,Packet.mk i89 i90 i91 i92 i93 i94 b95 b96,true,[],0)
 else
 bif i88==Int.ofNat 6 then
 gd (decide (1≤n46)&&decide (n46≤(some i43.toNat).getD (l44.length-n45))&&decide (0<l44.length)) <|
 bif (↑(n46-1):Int)==0 then
 gd (lc n21 n22 l20) <|
 gd (lc n25 n26 l24) <|
 gd (lc n29 n30 l28) <|
 gd (lc n33 n34 l32) <|
 gd (lc n37 n38 l36) <|
 gd (lc n41 n42 l40) <|
 gd (decide (n45+1+(n46-1)≤l44.length)) <|
 gd (lc n49 n50 l48) <|
 (Models.deficit_pack (Queue.mk q.Policy q.Room [tk n21 n22 l20,tk n25 n26 l24,tk n29 n30 l28,tk n33 n34 l32,tk n37 n38 l36,tk n41 n42 l40,List.take (n46-1) (List.drop (n45+1) l44),tk n49 n50 l48] (A8.mk ((IntKind.i64.wrap (Int.ofNat 6+1)).tmod 8) 0 q.Vars.e2 q.Vars.e3 q.Vars.e4 q.Vars.e5 q.Vars.e6 now) q.Seed) (A8.mk i97 i98 i99 i100 i101 i102 0 i104)).bind fun q117=>
 gd (lc n21 n22 l20) <|
 gd (lc n25 n26 l24) <|
 gd (lc n29 n30 l28) <|
 gd (lc n33 n34 l32) <|
 gd (lc n37 n38 l36) <|
 gd (lc n41 n42 l40) <|
 gd (decide (n45+1+(n46-1)≤l44.length)) <|
 gd (lc n49 n50 l48) <|
 some (q117,Packet.mk i89 i90 i91 i92 i93 i94 b95 b96,true,[],0)
 else
 gd (lc n21 n22 l20) <|
 gd (lc n25 n26 l24) <|
 gd (lc n29 n30 l28) <|
 gd (lc n33 n34 l32) <|
 gd (lc n37 n38 l36) <|
 gd (lc n41 n42 l40) <|
 gd (decide (n45+1+(n46-1)≤l44.length)) <|
 gd (lc n49 n50 l48) <|
 (Models.deficit_pack (Queue.mk q.Policy q.Room [tk n21 n22 l20,tk n25 n26 l24,tk n29 n30 l28,tk n33 n34 l32,tk n37 n38 l36,tk n41 n42 l40,List.take (n46-1) (List.drop (n45+1) l44),tk n49 n50 l48] (A8.mk (Int.ofNat 6) i87 q.Vars.e2 q.Vars.e3 q.Vars.e4 q.Vars.e5 q.Vars.e6 now) q.Seed) (A8.mk i97 i98 i99 i100 i101 i102 (IntKind.i64.wrap (i103-i93)) i104)).bind fun q118=>
 gd (lc n21 n22 l20) <|
 gd (lc n25 n26 l24) <|
 gd (lc n29 n30 l28) <|
 gd (lc n33 n34 l32) <|
 gd (lc n37 n38 l36) <|
 gd (lc n41 n42 l40) <|
 gd (decide (n45+1+(n46-1)≤l44.length)) <|
 gd (lc n49 n50 l48) <|
 some (q118,Packet.mk i89 i90 i91 i92 i93 i94 b95 b96,true,[],0)
 else
 gd (i88==Int.ofNat 7) <|
 gd (decide (1≤n50)&&decide (n50≤(some i47.toNat).getD (l48.length-n49))&&decide (0<l48.length)) <|
 bif (↑(n50-1):Int)==0 then
 gd (lc n21 n22 l20) <|
 gd (lc n25 n26 l24) <|
 gd (lc n29 n30 l28) <|
 gd (lc n33 n34 l32) <|
 gd (lc n37 n38 l36) <|
 gd (lc n41 n42 l40) <|
 gd (lc n45 n46 l44) <|
 gd (decide (n49+1+(n50-1)≤l48.length)) <|
 (Models.deficit_pack (Queue.mk q.Policy q.Room [tk n21 n22 l20,tk n25 n26 l24,tk n29 n30 l28,tk n33 n34 l32,tk n37 n38 l36,tk n41 n42 l40,tk n45 n46 l44,List.take (n50-1) (List.drop (n49+1) l48)] (A8.mk ((IntKind.i64.wrap (Int.ofNat 7+1)).tmod 8) 0 q.Vars.e2 q.Vars.e3 q.Vars.e4 q.Vars.e5 q.Vars.e6 now) q.Seed) (A8.mk i97 i98 i99 i100 i101 i102 i103 0)).bind fun q119=>
 gd (lc n21 n22 l20) <|
 gd (lc n25 n26 l24) <|
 gd (lc n29 n30 l28) <|
 gd (lc n33 n34 l32) <|
 gd (lc n37 n38 l36) <|
 gd (lc n41 n42 l40) <|
 gd (lc n45 n46 l44) <|
 gd (decide (n49+1+(n50-1)≤l48.length)) <|
 some (q119,Packet.mk i89 i90 i91 i92 i93 i94 b95 b96,true,[],0)
 else
 gd (lc n21 n22 l20) <|
 gd (lc n25 n26 l24) <|
 gd (lc n29 n30 l28) <|
 gd (lc n33 n34 l32) <|
 gd (lc n37 n38 l36) <|
 gd (lc n41 n42 l40) <|
 gd (lc n45 n46 l44) <|
 gd (decide (n49+1+(n50-1)≤l48.length)) <|
 (Models.deficit_pack (Queue.mk q.Policy q.Room [tk n21 n22 l20,tk n25 n26 l24,tk n29 n30 l28,tk n33 n34 l32,tk n37 n38 l36,tk n41 n42 l40,tk n45 n46 l44,List.take (n50-1) (List.drop (n49+1) l48)] (A8.mk (Int.ofNat 7) i87 q.Vars.e2 q.Vars.e3 q.Vars.e4 q.Vars.e5 q.Vars.e6 now) q.Seed) (A8.mk i97 i98 i99 i100 i101 i102 i103 (IntKind.i64.wrap (i104-i93)))).bind fun q120=>
 gd (lc n21 n22 l20) <|
 gd (lc n25 n26 l24) <|
 gd (lc n29 n30 l28) <|
 gd (lc n33 n34 l32) <|
 gd (lc n37 n38 l36) <|
 gd (lc n41 n42 l40) <|
 gd (lc n45 n46 l44) <|
 gd (decide (n49+1+(n50-1)≤l48.length)) <|
 some (q120,Packet.mk i89 i90 i91 i92 i93 i94 b95 b96,true,[],0)
noncomputable def Go.Models.dual_between(n:Int)(low:Int)(high:Int):Option Bool:=
 bif decide (low≤n) then
 some (decide (n≤high))
 else
 some false
noncomputable def Go.Models.dual_isTime(n:Int):Option Bool:=
 (Models.dual_between n 0 10000000).bind fun b1=>
 some b1
noncomputable def Go.Models.dual_isPacket(p:Packet):Option Bool:=
 (Models.dual_between p.Flow 0 7).bind fun b1=>
 bif b1 then
 (Models.dual_between p.Sub 0 3).bind fun b2=>
 bif b2 then
 (Models.dual_between p.Number 0 1000000000).bind fun b3=>
 bif b3 then
 (Models.dual_between p.Data 0 1000000000).bind fun b4=>
 bif b4 then
 (Models.dual_between p.Size 1 10000).bind fun b5=>
 bif b5 then
 (Models.dual_isTime p.Sent).bind fun b6=>
 some b6
 else
 some false
 else
 some false
 else
 some false
 else
 some false
 else
 some false
noncomputable def Go.Models.dual_isList(l:List Queued)(last:Int)(able:Bool):Option Bool:=
 (loopM (ω:=Bool ⊕ Bool×Int×Int) (fun ((b1,i2,i3):Bool×Int×Int)=>
 bif decide (i3<(↑l.length:Int)) then
 gd (decide (0≤i3)) <|
 (l[i3.toNat]?).bind fun q4=>
 (Models.dual_isPacket q4.P).bind fun b5=>
 bif !b5 then
 some (Sum.inr (Sum.inl false))
 else
 bif !q4.P.Able==able then
 some (Sum.inr (Sum.inl false))
 else
 (Models.dual_between q4.At i2 last).bind fun b6=>
 bif !b6 then
 some (Sum.inr (Sum.inl false))
 else
 some (Sum.inl (b1,q4.At,IntKind.i64.wrap (i3+1)))
 else
 some (Sum.inr (Sum.inr (b1,i2,i3)))) (false,0,0)).bind fun w7=>
 Sum.elim (fun b8=>
 some b8) (fun (b9,i10,i11)=>
 some true) w7
noncomputable def Go.Models.dual_Valid(q:Queue):Option Bool:=
 bif !q.Policy.Kind==6 then
 some false
 else
 (Models.dual_between q.Policy.A 0 1000000).bind fun b1=>
 bif !b1 then
 some false
 else
 (Models.dual_between q.Policy.B 0 1000).bind fun b2=>
 bif !b2 then
 some false
 else
 bif !q.Policy.C==0 then
 some false
 else
 (Models.dual_between q.Room 1 500).bind fun b3=>
 bif !b3 then
 some false
 else
 bif !(↑q.Lists.length:Int)==2 then
 some false
 else
 (Models.dual_between q.Vars.e0 0 15).bind fun b4=>
 bif !b4 then
 some false
 else
 (Models.dual_isTime q.Vars.e7).bind fun b5=>
 bif !b5 then
 some false
 else
 (q.Lists[0]?).bind fun l6=>
 (q.Lists[1]?).bind fun l7=>
 bif decide (q.Room<IntKind.i64.wrap ((↑l6.length:Int)+(↑l7.length:Int))) then
 some false
 else
 (loopM (ω:=Bool ⊕ Bool×Int) (fun ((b8,i9):Bool×Int)=>
 bif decide (i9<7) then
 gd (decide (0≤i9)) <|
 bif decide (i9.toNat=0) then
 bif !q.Vars.e0==0 then
 some (Sum.inr (Sum.inl false))
 else
 some (Sum.inl (b8,IntKind.i64.wrap (i9+1)))
 else
 bif decide (i9.toNat=1) then
 bif !q.Vars.e1==0 then
 some (Sum.inr (Sum.inl false))
 else
 some (Sum.inl (b8,IntKind.i64.wrap (i9+1)))
 else
 bif decide (i9.toNat=2) then
 bif !q.Vars.e2==0 then
 some (Sum.inr (Sum.inl false))
 else
 some (Sum.inl (b8,IntKind.i64.wrap (i9+1)))
 else
 bif decide (i9.toNat=3) then
 bif !q.Vars.e3==0 then
 some (Sum.inr (Sum.inl false))
 else
 some (Sum.inl (b8,IntKind.i64.wrap (i9+1)))
 else
 bif decide (i9.toNat=4) then
 bif !q.Vars.e4==0 then
 some (Sum.inr (Sum.inl false))
 else
 some (Sum.inl (b8,IntKind.i64.wrap (i9+1)))
 else
 bif decide (i9.toNat=5) then
 bif !q.Vars.e5==0 then
 some (Sum.inr (Sum.inl false))
 else
 some (Sum.inl (b8,IntKind.i64.wrap (i9+1)))
 else
 bif decide (i9.toNat=6) then
 bif !q.Vars.e6==0 then
 some (Sum.inr (Sum.inl false))
 else
 some (Sum.inl (b8,IntKind.i64.wrap (i9+1)))
 else
 gd (decide (i9.toNat=7)) <|
 bif !q.Vars.e7==0 then
 some (Sum.inr (Sum.inl false))
 else
 some (Sum.inl (b8,IntKind.i64.wrap (i9+1)))
 else
 some (Sum.inr (Sum.inr (b8,i9)))) (false,1)).bind fun w10=>
 Sum.elim (fun b11=>
 some b11) (fun (b12,i13)=>
 (q.Lists[0]?).bind fun l14=>
 (Models.dual_isList l14 q.Vars.e7 true).bind fun b15=>
 bif b15 then
 (q.Lists[1]?).bind fun l16=>
 (Models.dual_isList l16 q.Vars.e7 false).bind fun b17=>
 some b17
 else
 some false) w10
noncomputable def Go.Models.dual_Put(q:Queue)(p:Packet)(now:Int):Option (Queue×(List Packet)×Int):=
 (Models.dual_isPacket p).bind fun b1=>
 bif !b1 then
 some (zQ,[],1)
 else
 (Models.dual_Valid q).bind fun b2=>
 bif !b2 then
 some (zQ,[],1)
 else
 (Models.dual_isTime now).bind fun b3=>
 bif !b3 then
 some (zQ,[],1)
 else
 bif decide (now<q.Vars.e7) then
 some (zQ,[],18)
 else
 gd (true&&decide (q.Lists.length=2)) <|
 (q.Lists[0]?).bind fun l4=>
 (q.Lists[1]?).bind fun l5=>
 gd (decide ((↑l4.length:Int).toNat*64≤2^47)&&decide ((↑l4.length:Int).toNat<2^62)) <|
 gd (decide (0+(List.replicate (↑l4.length:Int).toNat zW).length≤(List.replicate (↑l4.length:Int).toNat zW).length)&&decide (l4.length≤(List.replicate (↑l4.length:Int).toNat zW).length)) <|
 (some (l4++List.drop (0+l4.length) (List.replicate (↑l4.length:Int).toNat zW))).bind fun l6=>
 gd (decide ((↑l5.length:Int).toNat*64≤2^47)&&decide ((↑l5.length:Int).toNat<2^62)) <|
 gd (decide (0+(List.replicate (↑l5.length:Int).toNat zW).length≤(List.replicate (↑l5.length:Int).toNat zW).length)&&decide (l5.length≤(List.replicate (↑l5.length:Int).toNat zW).length)) <|
 (some (l5++List.drop (0+l5.length) (List.replicate (↑l5.length:Int).toNat zW))).bind fun l7=>
 bif decide (q.Room≤IntKind.i64.wrap ((↑l6.length:Int)+(↑l7.length:Int))) then
 some (Queue.mk q.Policy q.Room [l6,l7] (A8.mk q.Vars.e0 q.Vars.e1 q.Vars.e2 q.Vars.e3 q.Vars.e4 q.Vars.e5 q.Vars.e6 now) q.Seed,[p],0)
 else
 bif p.Able then
 bif decide (l6.length+1≤(↑l4.length:Int).toNat) then
 none
 else
 gd (decide ((l6.length+1)*64≤2^44)&&decide (l6.length+1≤2^44)) <|
 some (Queue.mk q.Policy q.Room [l6++[Queued.mk p now],l7] (A8.mk q.Vars.e0 q.Vars.e1 q.Vars.e2 q.Vars.e3 q.Vars.e4 q.Vars.e5 q.Vars.e6 now) q.Seed,[],0)
 else
 bif decide (l7.length+1≤(↑l5.length:Int).toNat) then
 none
 else
 gd (decide ((l7.length+1)*64≤2^44)&&decide (l7.length+1≤2^44)) <|
 some (Queue.mk q.Policy q.Room [l6,l7++[Queued.mk p now]] (A8.mk q.Vars.e0 q.Vars.e1 q.Vars.e2 q.Vars.e3 q.Vars.e4 q.Vars.e5 q.Vars.e6 now) q.Seed,[],0)
noncomputable def Go.Models.dual_pair_pressure(x:Pair):Option Int:=
 bif (↑x.Lists.e1.length:Int)==0 then
 some 0
 else
 (x.Lists.e1[0]?).bind fun q1=>
 some (if IntKind.i64.wrap (x.Q.Policy.B*IntKind.i64.wrap (x.Now-q1.At))<1000000 then IntKind.i64.wrap (x.Q.Policy.B*IntKind.i64.wrap (x.Now-q1.At)) else 1000000)
noncomputable def Go.Models.dual_Take(q:Queue)(now:Int):Option (Queue×Packet×Bool×(List Packet)×Int):=
 (Models.dual_Valid q).bind fun b1=>
 bif !b1 then
 some (zQ,zP,false,[],1)
 else
 (Models.dual_isTime now).bind fun b2=>
 bif !b2 then
 some (zQ,zP,false,[],1)
 else
 bif decide (now<q.Vars.e7) then
 some (zQ,zP,false,[],18)
 else
 gd (true&&decide (q.Lists.length=2)) <|
 (q.Lists[0]?).bind fun l3=>
 (q.Lists[1]?).bind fun l4=>
 gd (decide ((↑l3.length:Int).toNat*64≤2^47)&&decide ((↑l3.length:Int).toNat<2^62)) <|
 gd (decide (0+(List.replicate (↑l3.length:Int).toNat zW).length≤(List.replicate (↑l3.length:Int).toNat zW).length)&&decide (l3.length≤(List.replicate (↑l3.length:Int).toNat zW).length)) <|
 (some (l3++List.drop (0+l3.length) (List.replicate (↑l3.length:Int).toNat zW))).bind fun l5=>
 gd (decide ((↑l4.length:Int).toNat*64≤2^47)&&decide ((↑l4.length:Int).toNat<2^62)) <|
 gd (decide (0+(List.replicate (↑l4.length:Int).toNat zW).length≤(List.replicate (↑l4.length:Int).toNat zW).length)&&decide (l4.length≤(List.replicate (↑l4.length:Int).toNat zW).length)) <|
 (some (l4++List.drop (0+l4.length) (List.replicate (↑l4.length:Int).toNat zW))).bind fun l6=>
 (loopM (ω:=Bool×Int×List Packet×Int×Int×Int×Int×Int×Int×Bool×Bool×List Packet×Int×Int×Int×Int×Int×Int×Bool×Bool×Int×Int×Int×Int×Int×Int×Int×Int×Int×Int×Int×Int×Int×Int×Int×Int×Int×Int×Int×Int×Int×Int×Int×Int×Int×Int×Int×Int×Int×Int×Int×Int×Int×Int×Int) (fun ((b7,i8,b9,l10,i11,i12,i13,i14,i15,i16,b17,b18,i19,i20,i21,i22,i23,l24,i25,i26,i27,i28,i29,i30,i31,i32,i33,i34,i35,i36,i37,i38,i39,i40,l41):Bool×Int×Bool×List Packet×Int×Int×Int×Int×Int×Int×Bool×Bool×Int×Int×Int×Int×Int×List (List Queued)×Int×Int×Int×Int×Int×Int×Int×Int×Int×Int×Int×Int×Int×Int×Int×Int×List Packet)=>
 bif IntKind.i64.wrap ((↑i35.toNat:Int)+(↑i38.toNat:Int))==0 then
 some (Sum.inr (false,0,l10,i11,i12,i13,i14,i15,i16,b17,b18,l41,0,0,0,0,0,0,false,false,i19,i20,i21,i22,i23,0,i26,i27,i28,i29,i30,i31,i32,i33,i19,i20,i21,i22,i23,0,i26,i27,i28,i29,i30,i31,i32,i33,(↑i34.toNat:Int),(↑i35.toNat:Int),(↑i36.toNat:Int),(↑i37.toNat:Int),(↑i38.toNat:Int),(↑i39.toNat:Int),i40))
 else
 bif decide (0<(↑i38.toNat:Int)) then
 bif (↑i35.toNat:Int)==0 then
 gd (decide (i34.toNat+i35.toNat≤l5.length)) <|
 gd (decide (i37.toNat+i38.toNat≤l6.length)) <|
 (Models.dual_pair_pressure (Pair.mk (Queue.mk (Policy.mk i19 i20 i21 i22) i23 l24 (A8.mk 0 i26 i27 i28 i29 i30 i31 i32) i33) (A2.mk (List.take i35.toNat (List.drop i34.toNat l5)) (List.take i38.toNat (List.drop i37.toNat l6))) i40 l41)).bind fun i42=>
 gd (decide (0<i38.toNat)) <|
 (l6[i37.toNat+0]?).bind fun q43=>
 gd (decide (1≤i38.toNat)&&decide (i38.toNat≤(some i39.toNat).getD (l6.length-i37.toNat))&&decide (0<l6.length)) <|
 (Models.random_Below i33 1000000).bind fun (i44,i45,i46)=>
 bif decide (i44<IntKind.i64.wrap ((IntKind.i64.wrap (i42*i42)).tdiv 1000000)) then
 gd (decide ((l41.length+1)*56≤2^44)&&decide (l41.length+1≤2^44)) <|
 some (Sum.inl (b7,i8,false,l10,0,0,0,0,0,0,false,false,i19,i20,i21,i22,i23,l24,0,i26,i27,i28,i29,i30,i31,i32,i45,(↑i34.toNat:Int),(↑i35.toNat:Int),(↑i36.toNat:Int),(↑(i37.toNat+1):Int),(↑(i38.toNat-1):Int),(↑(i39.toNat-1):Int),i40,l41++[q43.P]))
 else
 some (Sum.inr (true,0,l10,q43.P.Flow,q43.P.Sub,q43.P.Number,q43.P.Data,q43.P.Size,q43.P.Sent,q43.P.Able,q43.P.Marked,l41,q43.P.Flow,q43.P.Sub,q43.P.Number,q43.P.Data,q43.P.Size,q43.P.Sent,q43.P.Able,q43.P.Marked,i19,i20,i21,i22,i23,0,i26,i27,i28,i29,i30,i31,i32,i45,i19,i20,i21,i22,i23,0,i26,i27,i28,i29,i30,i31,i32,i45,(↑i34.toNat:Int),(↑i35.toNat:Int),(↑i36.toNat:Int),(↑(i37.toNat+1):Int),(↑(i38.toNat-1):Int),(↑(i39.toNat-1):Int),i40))
 else
 bif decide (15≤i25) then
 gd (decide (i34.toNat+i35.toNat≤l5.length)) <|
 gd (decide (i37.toNat+i38.toNat≤l6.length)) <|
 (Models.dual_pair_pressure (Pair.mk (Queue.mk (Policy.mk i19 i20 i21 i22) i23 l24 (A8.mk 0 i26 i27 i28 i29 i30 i31 i32) i33) (A2.mk (List.take i35.toNat (List.drop i34.toNat l5)) (List.take i38.toNat (List.drop i37.toNat l6))) i40 l41)).bind fun i47=>
 gd (decide (0<i38.toNat)) <|
 (l6[i37.toNat+0]?).bind fun q48=>
 gd (decide (1≤i38.toNat)&&decide (i38.toNat≤(some i39.toNat).getD (l6.length-i37.toNat))&&decide (0<l6.length)) <|
 (Models.random_Below i33 1000000).bind fun (i49,i50,i51)=>
 bif decide (i49<IntKind.i64.wrap ((IntKind.i64.wrap (i47*i47)).tdiv 1000000)) then
 gd (decide ((l41.length+1)*56≤2^44)&&decide (l41.length+1≤2^44)) <|
 some (Sum.inl (b7,i8,false,l10,0,0,0,0,0,0,false,false,i19,i20,i21,i22,i23,l24,0,i26,i27,i28,i29,i30,i31,i32,i50,(↑i34.toNat:Int),(↑i35.toNat:Int),(↑i36.toNat:Int),(↑(i37.toNat+1):Int),(↑(i38.toNat-1):Int),(↑(i39.toNat-1):Int),i40,l41++[q48.P]))
 else
 some (Sum.inr (true,0,l10,q48.P.Flow,q48.P.Sub,q48.P.Number,q48.P.Data,q48.P.Size,q48.P.Sent,q48.P.Able,q48.P.Marked,l41,q48.P.Flow,q48.P.Sub,q48.P.Number,q48.P.Data,q48.P.Size,q48.P.Sent,q48.P.Able,q48.P.Marked,i19,i20,i21,i22,i23,0,i26,i27,i28,i29,i30,i31,i32,i50,i19,i20,i21,i22,i23,0,i26,i27,i28,i29,i30,i31,i32,i50,(↑i34.toNat:Int),(↑i35.toNat:Int),(↑i36.toNat:Int),(↑(i37.toNat+1):Int),(↑(i38.toNat-1):Int),(↑(i39.toNat-1):Int),i40))
 else
 bif (↑i38.toNat:Int)==0 then
 gd (decide (0<i35.toNat)) <|
 (l5[i34.toNat+0]?).bind fun q52=>
 gd (decide (1≤i35.toNat)&&decide (i35.toNat≤(some i36.toNat).getD (l5.length-i34.toNat))&&decide (0<l5.length)) <|
 bif decide (i20≤IntKind.i64.wrap (i40-q52.At)) then
 some (Sum.inr (true,0,l10,q52.P.Flow,q52.P.Sub,q52.P.Number,q52.P.Data,q52.P.Size,q52.P.Sent,q52.P.Able,true,l41,q52.P.Flow,q52.P.Sub,q52.P.Number,q52.P.Data,q52.P.Size,q52.P.Sent,q52.P.Able,true,i19,i20,i21,i22,i23,0,i26,i27,i28,i29,i30,i31,i32,i33,i19,i20,i21,i22,i23,0,i26,i27,i28,i29,i30,i31,i32,i33,(↑(i34.toNat+1):Int),(↑(i35.toNat-1):Int),(↑(i36.toNat-1):Int),(↑i37.toNat:Int),(↑i38.toNat:Int),(↑i39.toNat:Int),i40))
 else
 gd (decide (i34.toNat+1+(i35.toNat-1)≤l5.length)) <|
 gd (decide (i37.toNat+i38.toNat≤l6.length)) <|
 (Models.dual_pair_pressure (Pair.mk (Queue.mk (Policy.mk i19 i20 i21 i22) i23 l24 (A8.mk 0 i26 i27 i28 i29 i30 i31 i32) i33) (A2.mk (List.take (i35.toNat-1) (List.drop (i34.toNat+1) l5)) (List.take i38.toNat (List.drop i37.toNat l6))) i40 l41)).bind fun i53=>
 (Models.random_Below i33 1000000).bind fun (i54,i55,i56)=>
 bif decide (i54<IntKind.i64.wrap (2*i53)) then
 some (Sum.inr (true,0,l10,q52.P.Flow,q52.P.Sub,q52.P.Number,q52.P.Data,q52.P.Size,q52.P.Sent,q52.P.Able,true,l41,q52.P.Flow,q52.P.Sub,q52.P.Number,q52.P.Data,q52.P.Size,q52.P.Sent,q52.P.Able,true,i19,i20,i21,i22,i23,0,i26,i27,i28,i29,i30,i31,i32,i55,i19,i20,i21,i22,i23,0,i26,i27,i28,i29,i30,i31,i32,i55,(↑(i34.toNat+1):Int),(↑(i35.toNat-1):Int),(↑(i36.toNat-1):Int),(↑i37.toNat:Int),(↑i38.toNat:Int),(↑i39.toNat:Int),i40))
 else
 some (Sum.inr (true,0,l10,q52.P.Flow,q52.P.Sub,q52.P.Number,q52.P.Data,q52.P.Size,q52.P.Sent,q52.P.Able,q52.P.Marked,l41,q52.P.Flow,q52.P.Sub,q52.P.Number,q52.P.Data,q52.P.Size,q52.P.Sent,q52.P.Able,q52.P.Marked,i19,i20,i21,i22,i23,0,i26,i27,i28,i29,i30,i31,i32,i55,i19,i20,i21,i22,i23,0,i26,i27,i28,i29,i30,i31,i32,i55,(↑(i34.toNat+1):Int),(↑(i35.toNat-1):Int),(↑(i36.toNat-1):Int),(↑i37.toNat:Int),(↑i38.toNat:Int),(↑i39.toNat:Int),i40))
 else
 gd (decide (0<i35.toNat)) <|
 (l5[i34.toNat+0]?).bind fun q57=>
 gd (decide (1≤i35.toNat)&&decide (i35.toNat≤(some i36.toNat).getD (l5.length-i34.toNat))&&decide (0<l5.length)) <|
 bif decide (i20≤IntKind.i64.wrap (i40-q57.At)) then
 some (Sum.inr (true,0,l10,q57.P.Flow,q57.P.Sub,q57.P.Number,q57.P.Data,q57.P.Size,q57.P.Sent,q57.P.Able,true,l41,q57.P.Flow,q57.P.Sub,q57.P.Number,q57.P.Data,q57.P.Size,q57.P.Sent,q57.P.Able,true,i19,i20,i21,i22,i23,IntKind.i64.wrap (i25+1),i26,i27,i28,i29,i30,i31,i32,i33,i19,i20,i21,i22,i23,IntKind.i64.wrap (i25+1),i26,i27,i28,i29,i30,i31,i32,i33,(↑(i34.toNat+1):Int),(↑(i35.toNat-1):Int),(↑(i36.toNat-1):Int),(↑i37.toNat:Int),(↑i38.toNat:Int),(↑i39.toNat:Int),i40))
 else
 gd (decide (i34.toNat+1+(i35.toNat-1)≤l5.length)) <|
 gd (decide (i37.toNat+i38.toNat≤l6.length)) <|
 (Models.dual_pair_pressure (Pair.mk (Queue.mk (Policy.mk i19 i20 i21 i22) i23 l24 (A8.mk (IntKind.i64.wrap (i25+1)) i26 i27 i28 i29 i30 i31 i32) i33) (A2.mk (List.take (i35.toNat-1) (List.drop (i34.toNat+1) l5)) (List.take i38.toNat (List.drop i37.toNat l6))) i40 l41)).bind fun i58=>
 (Models.random_Below i33 1000000).bind fun (i59,i60,i61)=>
 bif decide (i59<IntKind.i64.wrap (2*i58)) then
 some (Sum.inr (true,0,l10,q57.P.Flow,q57.P.Sub,q57.P.Number,q57.P.Data,q57.P.Size,q57.P.Sent,q57.P.Able,true,l41,q57.P.Flow,q57.P.Sub,q57.P.Number,q57.P.Data,q57.P.Size,q57.P.Sent,q57.P.Able,true,i19,i20,i21,i22,i23,IntKind.i64.wrap (i25+1),i26,i27,i28,i29,i30,i31,i32,i60,i19,i20,i21,i22,i23,IntKind.i64.wrap (i25+1),i26,i27,i28,i29,i30,i31,i32,i60,(↑(i34.toNat+1):Int),(↑(i35.toNat-1):Int),(↑(i36.toNat-1):Int),(↑i37.toNat:Int),(↑i38.toNat:Int),(↑i39.toNat:Int),i40))
 else
 some (Sum.inr (true,0,l10,q57.P.Flow,q57.P.Sub,q57.P.Number,q57.P.Data,q57.P.Size,q57.P.Sent,q57.P.Able,q57.P.Marked,l41,q57.P.Flow,q57.P.Sub,q57.P.Number,q57.P.Data,q57.P.Size,q57.P.Sent,q57.P.Able,q57.P.Marked,i19,i20,i21,i22,i23,IntKind.i64.wrap (i25+1),i26,i27,i28,i29,i30,i31,i32,i60,i19,i20,i21,i22,i23,IntKind.i64.wrap (i25+1),i26,i27,i28,i29,i30,i31,i32,i60,(↑(i34.toNat+1):Int),(↑(i35.toNat-1):Int),(↑(i36.toNat-1):Int),(↑i37.toNat:Int),(↑i38.toNat:Int),(↑i39.toNat:Int),i40))
 else
 bif (↑i38.toNat:Int)==0 then
 gd (decide (0<i35.toNat)) <|
 (l5[i34.toNat+0]?).bind fun q62=>
 gd (decide (1≤i35.toNat)&&decide (i35.toNat≤(some i36.toNat).getD (l5.length-i34.toNat))&&decide (0<l5.length)) <|
 bif decide (i20≤IntKind.i64.wrap (i40-q62.At)) then
 some (Sum.inr (true,0,l10,q62.P.Flow,q62.P.Sub,q62.P.Number,q62.P.Data,q62.P.Size,q62.P.Sent,q62.P.Able,true,l41,q62.P.Flow,q62.P.Sub,q62.P.Number,q62.P.Data,q62.P.Size,q62.P.Sent,q62.P.Able,true,i19,i20,i21,i22,i23,0,i26,i27,i28,i29,i30,i31,i32,i33,i19,i20,i21,i22,i23,0,i26,i27,i28,i29,i30,i31,i32,i33,(↑(i34.toNat+1):Int),(↑(i35.toNat-1):Int),(↑(i36.toNat-1):Int),(↑i37.toNat:Int),(↑i38.toNat:Int),(↑i39.toNat:Int),i40))
 else
 gd (decide (i34.toNat+1+(i35.toNat-1)≤l5.length)) <|
 gd (decide (i37.toNat+i38.toNat≤l6.length)) <|
 (Models.dual_pair_pressure (Pair.mk (Queue.mk (Policy.mk i19 i20 i21 i22) i23 l24 (A8.mk 0 i26 i27 i28 i29 i30 i31 i32) i33) (A2.mk (List.take (i35.toNat-1) (List.drop (i34.toNat+1) l5)) (List.take i38.toNat (List.drop i37.toNat l6))) i40 l41)).bind fun i63=>
 (Models.random_Below i33 1000000).bind fun (i64,i65,i66)=>
 bif decide (i64<IntKind.i64.wrap (2*i63)) then
 some (Sum.inr (true,0,l10,q62.P.Flow,q62.P.Sub,q62.P.Number,q62.P.Data,q62.P.Size,q62.P.Sent,q62.P.Able,true,l41,q62.P.Flow,q62.P.Sub,q62.P.Number,q62.P.Data,q62.P.Size,q62.P.Sent,q62.P.Able,true,i19,i20,i21,i22,i23,0,i26,i27,i28,i29,i30,i31,i32,i65,i19,i20,i21,i22,i23,0,i26,i27,i28,i29,i30,i31,i32,i65,(↑(i34.toNat+1):Int),(↑(i35.toNat-1):Int),(↑(i36.toNat-1):Int),(↑i37.toNat:Int),(↑i38.toNat:Int),(↑i39.toNat:Int),i40))
 else
 some (Sum.inr (true,0,l10,q62.P.Flow,q62.P.Sub,q62.P.Number,q62.P.Data,q62.P.Size,q62.P.Sent,q62.P.Able,q62.P.Marked,l41,q62.P.Flow,q62.P.Sub,q62.P.Number,q62.P.Data,q62.P.Size,q62.P.Sent,q62.P.Able,q62.P.Marked,i19,i20,i21,i22,i23,0,i26,i27,i28,i29,i30,i31,i32,i65,i19,i20,i21,i22,i23,0,i26,i27,i28,i29,i30,i31,i32,i65,(↑(i34.toNat+1):Int),(↑(i35.toNat-1):Int),(↑(i36.toNat-1):Int),(↑i37.toNat:Int),(↑i38.toNat:Int),(↑i39.toNat:Int),i40))
 else
 bif decide (0<i35.toNat) then
 (l5[i34.toNat+0]?).bind fun q67=>
 gd (decide (1≤i35.toNat)&&decide (i35.toNat≤(some i36.toNat).getD (l5.length-i34.toNat))&&decide (0<l5.length)) <|
 bif decide (i20≤IntKind.i64.wrap (i40-q67.At)) then
 some (Sum.inr (true,0,l10,q67.P.Flow,q67.P.Sub,q67.P.Number,q67.P.Data,q67.P.Size,q67.P.Sent,q67.P.Able,true,l41,q67.P.Flow,q67.P.Sub,q67.P.Number,q67.P.Data,q67.P.Size,q67.P.Sent,q67.P.Able,true,i19,i20,i21,i22,i23,IntKind.i64.wrap (i25+1),i26,i27,i28,i29,i30,i31,i32,i33,i19,i20,i21,i22,i23,IntKind.i64.wrap (i25+1),i26,i27,i28,i29,i30,i31,i32,i33,(↑(i34.toNat+1):Int),(↑(i35.toNat-1):Int),(↑(i36.toNat-1):Int),(↑i37.toNat:Int),(↑i38.toNat:Int),(↑i39.toNat:Int),i40))
 else
 gd (decide (i34.toNat+1+(i35.toNat-1)≤l5.length)) <|
 gd (decide (i37.toNat+i38.toNat≤l6.length)) <|
 (Models.dual_pair_pressure (Pair.mk (Queue.mk (Policy.mk i19 i20 i21 i22) i23 l24 (A8.mk (IntKind.i64.wrap (i25+1)) i26 i27 i28 i29 i30 i31 i32) i33) (A2.mk (List.take (i35.toNat-1) (List.drop (i34.toNat+1) l5)) (List.take i38.toNat (List.drop i37.toNat l6))) i40 l41)).bind fun i68=>
 (Models.random_Below i33 1000000).bind fun (i69,i70,i71)=>
 bif decide (i69<IntKind.i64.wrap (2*i68)) then
 some (Sum.inr (true,0,l10,q67.P.Flow,q67.P.Sub,q67.P.Number,q67.P.Data,q67.P.Size,q67.P.Sent,q67.P.Able,true,l41,q67.P.Flow,q67.P.Sub,q67.P.Number,q67.P.Data,q67.P.Size,q67.P.Sent,q67.P.Able,true,i19,i20,i21,i22,i23,IntKind.i64.wrap (i25+1),i26,i27,i28,i29,i30,i31,i32,i70,i19,i20,i21,i22,i23,IntKind.i64.wrap (i25+1),i26,i27,i28,i29,i30,i31,i32,i70,(↑(i34.toNat+1):Int),(↑(i35.toNat-1):Int),(↑(i36.toNat-1):Int),(↑i37.toNat:Int),(↑i38.toNat:Int),(↑i39.toNat:Int),i40))
 else
 some (Sum.inr (true,0,l10,q67.P.Flow,q67.P.Sub,q67.P.Number,q67.P.Data,q67.P.Size,q67.P.Sent,q67.P.Able,q67.P.Marked,l41,q67.P.Flow,q67.P.Sub,q67.P.Number,q67.P.Data,q67.P.Size,q67.P.Sent,q67.P.Able,q67.P.Marked,i19,i20,i21,i22,i23,IntKind.i64.wrap (i25+1),i26,i27,i28,i29,i30,i31,i32,i70,i19,i20,i21,i22,i23,IntKind.i64.wrap (i25+1),i26,i27,i28,i29,i30,i31,i32,i70,(↑(i34.toNat+1):Int),(↑(i35.toNat-1):Int),(↑(i36.toNat-1):Int),(↑i37.toNat:Int),(↑i38.toNat:Int),(↑i39.toNat:Int),i40))
 else
 none) (false,0,false,[],0,0,0,0,0,0,false,false,q.Policy.Kind,q.Policy.A,q.Policy.B,q.Policy.C,q.Room,q.Lists,q.Vars.e0,q.Vars.e1,q.Vars.e2,q.Vars.e3,q.Vars.e4,q.Vars.e5,q.Vars.e6,now,q.Seed,(↑0:Int),(↑l5.length:Int),(↑(↑l3.length:Int).toNat:Int),(↑0:Int),(↑l6.length:Int),(↑(↑l4.length:Int).toNat:Int),now,[])).bind fun (b72,i73,l74,i75,i76,i77,i78,i79,i80,b81,b82,l83,i84,i85,i86,i87,i88,i89,b90,b91,i92,i93,i94,i95,i96,i97,i98,i99,i100,i101,i102,i103,i104,i105,i106,i107,i108,i109,i110,i111,i112,i113,i114,i115,i116,i117,i118,i119,i120,i121,i122,i123,i124,i125,i126)=>
 gd (decide (i120.toNat+i121.toNat≤l5.length)) <|
 gd (decide (i123.toNat+i124.toNat≤l6.length)) <|
 some (Queue.mk (Policy.mk i92 i93 i94 i95) i96 [List.take i121.toNat (List.drop i120.toNat l5),List.take i124.toNat (List.drop i123.toNat l6)] (A8.mk i97 i98 i99 i100 i101 i102 i103 i104) i105,Packet.mk i84 i85 i86 i87 i88 i89 b90 b91,b72,l83,i73)
noncomputable def Go.Models.queue_New(p:Policy)(room:Int):Option (Queue×Int):=
 bif decide (p.Kind<1) then
 some (zQ,9)
 else
 bif decide (6<p.Kind) then
 some (zQ,9)
 else
 gd (decide (0≤p.Kind)) <|
 bif decide (p.Kind.toNat=0) then
 none
 else
 bif decide (p.Kind.toNat=1) then
 (Models.tail_Valid (Queue.mk p room (List.replicate 1 []) (A8.mk 0 0 0 0 0 0 0 0) 0):Option Bool).bind fun b1=>
 bif !b1 then
 some (zQ,1)
 else
 some (Queue.mk p room (List.replicate 1 []) (A8.mk 0 0 0 0 0 0 0 0) 0,0)
 else
 bif decide (p.Kind.toNat=2) then
 (Models.early_Valid (Queue.mk p room (List.replicate 1 []) (A8.mk 0 0 0 0 0 0 0 0) 0):Option Bool).bind fun b2=>
 bif !b2 then
 some (zQ,1)
 else
 some (Queue.mk p room (List.replicate 1 []) (A8.mk 0 0 0 0 0 0 0 0) 0,0)
 else
 bif decide (p.Kind.toNat=3) then
 (Models.sojourn_Valid (Queue.mk p room (List.replicate 1 []) (A8.mk 0 0 0 0 0 0 0 0) 0):Option Bool).bind fun b3=>
 bif !b3 then
 some (zQ,1)
 else
 some (Queue.mk p room (List.replicate 1 []) (A8.mk 0 0 0 0 0 0 0 0) 0,0)
 else
 bif decide (p.Kind.toNat=4) then
 (Models.integral_Valid (Queue.mk p room (List.replicate 1 []) (A8.mk 0 0 0 0 0 0 0 0) 0):Option Bool).bind fun b4=>
 bif !b4 then
 some (zQ,1)
 else
 some (Queue.mk p room (List.replicate 1 []) (A8.mk 0 0 0 0 0 0 0 0) 0,0)
 else
 bif decide (p.Kind.toNat=5) then
 (Models.deficit_Valid (Queue.mk p room (List.replicate 8 []) (A8.mk 0 0 0 0 0 0 0 0) 0):Option Bool).bind fun b5=>
 bif !b5 then
 some (zQ,1)
 else
 some (Queue.mk p room (List.replicate 8 []) (A8.mk 0 0 0 0 0 0 0 0) 0,0)
 else
 gd (decide (p.Kind.toNat=6)) <|
 (Models.dual_Valid (Queue.mk p room (List.replicate 2 []) (A8.mk 0 0 0 0 0 0 0 0) 0):Option Bool).bind fun b6=>
 bif !b6 then
 some (zQ,1)
 else
 some (Queue.mk p room (List.replicate 2 []) (A8.mk 0 0 0 0 0 0 0 0) 0,0)
noncomputable def Go.Models.queue_Size(q:Queue):Option Int:=
 (loopM (ω:=Int×Int) (fun ((i1,i2):Int×Int)=>
 bif decide (i1<(↑q.Lists.length:Int)) then
 gd (decide (0≤i1)) <|
 (q.Lists[i1.toNat]?).bind fun l3=>
 some (Sum.inl (IntKind.i64.wrap (i1+1),IntKind.i64.wrap (i2+(↑l3.length:Int))))
 else
 some (Sum.inr (i1,i2))) (0,0)).bind fun (i4,i5)=>
 some i5
noncomputable def Go.Models.queue_Take(q:Queue)(now:Int):Option (Queue×Packet×Bool×(List Packet)×Int):=
 bif decide (q.Policy.Kind<1) then
 some (zQ,zP,false,[],9)
 else
 bif decide (6<q.Policy.Kind) then
 some (zQ,zP,false,[],9)
 else
 gd (decide (0≤q.Policy.Kind)) <|
 bif decide (q.Policy.Kind.toNat=0) then
 none
 else
 bif decide (q.Policy.Kind.toNat=1) then
 (Models.tail_Take q now).bind fun (q1,q2,b3,l4,i5)=>
 some (q1,q2,b3,l4,i5)
 else
 bif decide (q.Policy.Kind.toNat=2) then
 (Models.early_Take q now).bind fun (q6,q7,b8,l9,i10)=>
 some (q6,q7,b8,l9,i10)
 else
 bif decide (q.Policy.Kind.toNat=3) then
 (Models.sojourn_Take q now).bind fun (q11,q12,b13,l14,i15)=>
 some (q11,q12,b13,l14,i15)
 else
 bif decide (q.Policy.Kind.toNat=4) then
 (Models.integral_Take q now).bind fun (q16,q17,b18,l19,i20)=>
 some (q16,q17,b18,l19,i20)
 else
 bif decide (q.Policy.Kind.toNat=5) then
 (Models.deficit_Take q now).bind fun (q21,q22,b23,l24,i25)=>
 some (q21,q22,b23,l24,i25)
 else
 gd (decide (q.Policy.Kind.toNat=6)) <|
 (Models.dual_Take q now).bind fun (q26,q27,b28,l29,i30)=>
 some (q26,q27,b28,l29,i30)
noncomputable def Go.Models.ref18_number(n:Int):Option Bool:=
 bif decide (0≤n) then
 some (decide (n≤1000000000))
 else
 some false
noncomputable def Go.Models.ref18_Time(n:Int):Option Bool:=
 bif decide (0≤n) then
 some (decide (n≤10000000))
 else
 some false
noncomputable def Go.Models.ref18_Packet(p:Packet):Option Bool:=
 bif decide (0≤p.Flow) then
 bif decide (p.Flow<8) then
 bif decide (0≤p.Sub) then
 bif decide (p.Sub<4) then
 (Models.ref18_number p.Number).bind fun b1=>
 bif b1 then
 (Models.ref18_number p.Data).bind fun b2=>
 bif b2 then
 bif decide (1≤p.Size) then
 bif decide (p.Size≤10000) then
 (Models.ref18_Time p.Sent).bind fun b3=>
 some b3
 else
 some false
 else
 some false
 else
 some false
 else
 some false
 else
 some false
 else
 some false
 else
 some false
 else
 some false
noncomputable def Go.Models.queue_Put(q:Queue)(p:Packet)(now:Int):Option (Queue×(List Packet)×Int):=
 bif decide (q.Policy.Kind<1) then
 some (zQ,[],9)
 else
 bif decide (6<q.Policy.Kind) then
 some (zQ,[],9)
 else
 gd (decide (0≤q.Policy.Kind)) <|
 bif decide (q.Policy.Kind.toNat=0) then
 none
 else
 bif decide (q.Policy.Kind.toNat=1) then
 (Models.tail_Put q p now).bind fun (q1,l2,i3)=>
 some (q1,l2,i3)
 else
 bif decide (q.Policy.Kind.toNat=2) then
 (Models.early_Put q p now).bind fun (q4,l5,i6)=>
 some (q4,l5,i6)
 else
 bif decide (q.Policy.Kind.toNat=3) then
 (Models.sojourn_Put q p now).bind fun (q7,l8,i9)=>
 some (q7,l8,i9)
 else
 bif decide (q.Policy.Kind.toNat=4) then
 (Models.integral_Put q p now).bind fun (q10,l11,i12)=>
 some (q10,l11,i12)
 else
 bif decide (q.Policy.Kind.toNat=5) then
 (Models.deficit_Put q p now).bind fun (q13,l14,i15)=>
 some (q13,l14,i15)
 else
 gd (decide (q.Policy.Kind.toNat=6)) <|
 (Models.dual_Put q p now).bind fun (q16,l17,i18)=>
 some (q16,l17,i18)
noncomputable def Go.Models.law24_Play(q:Queue)(steps:List Stepx):Option (Run×Bool):=
 (loopM (ω:=Bool×List Packet×Int×Int×Int×Int×Int×List (List Queued)×Int×Int×Int×Int×Int×Int×Int×Int×Int×List Packet×List Packet×Int×Int×Int×Int×Int×List (List Queued)×Int×Int×Int×Int×Int×Int×Int×Int×Int ⊕ Bool×List Packet×Int×Int×Int×Int×Int×List (List Queued)×Int×Int×Int×Int×Int×Int×Int×Int×Int×List Packet×List Packet×Int×Int×Int×Int×Int×List (List Queued)×Int×Int×Int×Int×Int×Int×Int×Int×Int ⊕ Bool×List Packet×Int×Int×Int×Int×Int×List (List Queued)×Int×Int×Int×Int×Int×Int×Int×Int×Int×List Packet×List Packet×Int×Int×Int×Int×Int×List (List Queued)×Int×Int×Int×Int×Int×Int×Int×Int×Int ⊕ Int×Bool×Int×List Packet×Int×Int×Int×Int×Int×List (List Queued)×Int×Int×Int×Int×Int×Int×Int×Int×Int×List Packet×List Packet) (fun ((i1,b2,i3,l4,i5,i6,i7,i8,i9,l10,i11,i12,i13,i14,i15,i16,i17,i18,i19,l20,l21):Int×Bool×Int×List Packet×Int×Int×Int×Int×Int×List (List Queued)×Int×Int×Int×Int×Int×Int×Int×Int×Int×List Packet×List Packet)=>
 bif decide (i3<(↑steps.length:Int)) then
 gd (decide (0≤i3)) <|
 (steps[i3.toNat]?).bind fun q22=>
 (Models.queue_Size (Queue.mk (Policy.mk i5 i6 i7 i8) i9 l10 (A8.mk i11 i12 i13 i14 i15 i16 i17 i18) i19)).bind fun i23=>
 bif q22.Take then
 (Models.queue_Take (Queue.mk (Policy.mk i5 i6 i7 i8) i9 l10 (A8.mk i11 i12 i13 i14 i15 i16 i17 i18) i19) (if IntKind.i64.wrap (i1+IntKind.i64.wrap q22.Wait)<10000000 then IntKind.i64.wrap (i1+IntKind.i64.wrap q22.Wait) else 10000000)).bind fun (q24,q25,b26,l27,i28)=>
 bif b26 then
 gd (decide ((l4.length+1)*56≤2^44)&&decide (l4.length+1≤2^44)) <|
 bif !i28==0 then
 some (Sum.inr (Sum.inl (false,l4++[q25],i5,i6,i7,i8,i9,l10,i11,i12,i13,i14,i15,i16,i17,i18,i19,l20,l21,i5,i6,i7,i8,i9,l10,i11,i12,i13,i14,i15,i16,i17,i18,i19)))
 else
 (Models.queue_Size q24).bind fun i29=>
 bif !i29==IntKind.i64.wrap (i23-IntKind.i64.wrap ((↑l27.length:Int)+1)) then
 some (Sum.inr (Sum.inl (false,l4++[q25],i5,i6,i7,i8,i9,l10,i11,i12,i13,i14,i15,i16,i17,i18,i19,l20,l21,i5,i6,i7,i8,i9,l10,i11,i12,i13,i14,i15,i16,i17,i18,i19)))
 else
 bif !b26==decide ((↑l27.length:Int)<i23) then
 bif (↑l27.length:Int)==0 then
 some (Sum.inr (Sum.inl (false,l4++[q25],i5,i6,i7,i8,i9,l10,i11,i12,i13,i14,i15,i16,i17,i18,i19,l20,l21,i5,i6,i7,i8,i9,l10,i11,i12,i13,i14,i15,i16,i17,i18,i19)))
 else
 gd (decide ((l21.length+l27.length)*56≤2^44)&&decide (l21.length+l27.length≤2^44)) <|
 some (Sum.inl (if IntKind.i64.wrap (i1+IntKind.i64.wrap q22.Wait)<10000000 then IntKind.i64.wrap (i1+IntKind.i64.wrap q22.Wait) else 10000000,b2,IntKind.i64.wrap (i3+1),l4++[q25],q24.Policy.Kind,q24.Policy.A,q24.Policy.B,q24.Policy.C,q24.Room,q24.Lists,q24.Vars.e0,q24.Vars.e1,q24.Vars.e2,q24.Vars.e3,q24.Vars.e4,q24.Vars.e5,q24.Vars.e6,q24.Vars.e7,q24.Seed,l20,l21++l27))
 else
 gd (decide ((l21.length+l27.length)*56≤2^44)&&decide (l21.length+l27.length≤2^44)) <|
 some (Sum.inl (if IntKind.i64.wrap (i1+IntKind.i64.wrap q22.Wait)<10000000 then IntKind.i64.wrap (i1+IntKind.i64.wrap q22.Wait) else 10000000,b2,IntKind.i64.wrap (i3+1),l4++[q25],q24.Policy.Kind,q24.Policy.A,q24.Policy.B,q24.Policy.C,q24.Room,q24.Lists,q24.Vars.e0,q24.Vars.e1,q24.Vars.e2,q24.Vars.e3,q24.Vars.e4,q24.Vars.e5,q24.Vars.e6,q24.Vars.e7,q24.Seed,l20,l21++l27))
 else
 bif !i28==0 then
 some (Sum.inr (Sum.inr (Sum.inl (false,l4,i5,i6,i7,i8,i9,l10,i11,i12,i13,i14,i15,i16,i17,i18,i19,l20,l21,i5,i6,i7,i8,i9,l10,i11,i12,i13,i14,i15,i16,i17,i18,i19))))
 else
 (Models.queue_Size q24).bind fun i30=>
 bif !i30==IntKind.i64.wrap (i23-(↑l27.length:Int)) then
 some (Sum.inr (Sum.inr (Sum.inl (false,l4,i5,i6,i7,i8,i9,l10,i11,i12,i13,i14,i15,i16,i17,i18,i19,l20,l21,i5,i6,i7,i8,i9,l10,i11,i12,i13,i14,i15,i16,i17,i18,i19))))
 else
 bif !b26==decide ((↑l27.length:Int)<i23) then
 bif (↑l27.length:Int)==0 then
 some (Sum.inr (Sum.inr (Sum.inl (false,l4,i5,i6,i7,i8,i9,l10,i11,i12,i13,i14,i15,i16,i17,i18,i19,l20,l21,i5,i6,i7,i8,i9,l10,i11,i12,i13,i14,i15,i16,i17,i18,i19))))
 else
 gd (decide ((l21.length+l27.length)*56≤2^44)&&decide (l21.length+l27.length≤2^44)) <|
 some (Sum.inl (if IntKind.i64.wrap (i1+IntKind.i64.wrap q22.Wait)<10000000 then IntKind.i64.wrap (i1+IntKind.i64.wrap q22.Wait) else 10000000,b2,IntKind.i64.wrap (i3+1),l4,q24.Policy.Kind,q24.Policy.A,q24.Policy.B,q24.Policy.C,q24.Room,q24.Lists,q24.Vars.e0,q24.Vars.e1,q24.Vars.e2,q24.Vars.e3,q24.Vars.e4,q24.Vars.e5,q24.Vars.e6,q24.Vars.e7,q24.Seed,l20,l21++l27))
 else
 gd (decide ((l21.length+l27.length)*56≤2^44)&&decide (l21.length+l27.length≤2^44)) <|
 some (Sum.inl (if IntKind.i64.wrap (i1+IntKind.i64.wrap q22.Wait)<10000000 then IntKind.i64.wrap (i1+IntKind.i64.wrap q22.Wait) else 10000000,b2,IntKind.i64.wrap (i3+1),l4,q24.Policy.Kind,q24.Policy.A,q24.Policy.B,q24.Policy.C,q24.Room,q24.Lists,q24.Vars.e0,q24.Vars.e1,q24.Vars.e2,q24.Vars.e3,q24.Vars.e4,q24.Vars.e5,q24.Vars.e6,q24.Vars.e7,q24.Seed,l20,l21++l27))
 else
 (Models.ref18_Packet (Packet.mk q22.P.Flow q22.P.Sub (IntKind.i64.wrap (500000000+i3)) q22.P.Data q22.P.Size q22.P.Sent q22.P.Able q22.P.Marked)).bind fun b31=>
 bif !b31 then
 some (Sum.inl (if IntKind.i64.wrap (i1+IntKind.i64.wrap q22.Wait)<10000000 then IntKind.i64.wrap (i1+IntKind.i64.wrap q22.Wait) else 10000000,b2,IntKind.i64.wrap (i3+1),l4,i5,i6,i7,i8,i9,l10,i11,i12,i13,i14,i15,i16,i17,i18,i19,l20,l21))
 else
 (Models.queue_Put (Queue.mk (Policy.mk i5 i6 i7 i8) i9 l10 (A8.mk i11 i12 i13 i14 i15 i16 i17 i18) i19) (Packet.mk q22.P.Flow q22.P.Sub (IntKind.i64.wrap (500000000+i3)) q22.P.Data q22.P.Size q22.P.Sent q22.P.Able q22.P.Marked) (if IntKind.i64.wrap (i1+IntKind.i64.wrap q22.Wait)<10000000 then IntKind.i64.wrap (i1+IntKind.i64.wrap q22.Wait) else 10000000)).bind fun (q32,l33,i34)=>
 bif !i34==0 then
 some (Sum.inr (Sum.inr (Sum.inr (Sum.inl (false,l4,i5,i6,i7,i8,i9,l10,i11,i12,i13,i14,i15,i16,i17,i18,i19,l20,l21,i5,i6,i7,i8,i9,l10,i11,i12,i13,i14,i15,i16,i17,i18,i19)))))
 else
 (Models.queue_Size q32).bind fun i35=>
 bif !i35==IntKind.i64.wrap (IntKind.i64.wrap (i23+1)-(↑l33.length:Int)) then
 some (Sum.inr (Sum.inr (Sum.inr (Sum.inl (false,l4,i5,i6,i7,i8,i9,l10,i11,i12,i13,i14,i15,i16,i17,i18,i19,l20,l21,i5,i6,i7,i8,i9,l10,i11,i12,i13,i14,i15,i16,i17,i18,i19)))))
 else
 (Models.queue_Size q32).bind fun i36=>
 bif decide (q.Room<i36) then
 some (Sum.inr (Sum.inr (Sum.inr (Sum.inl (false,l4,i5,i6,i7,i8,i9,l10,i11,i12,i13,i14,i15,i16,i17,i18,i19,l20,l21,i5,i6,i7,i8,i9,l10,i11,i12,i13,i14,i15,i16,i17,i18,i19)))))
 else
 gd (decide ((l20.length+1)*56≤2^44)&&decide (l20.length+1≤2^44)) <|
 gd (decide ((l21.length+l33.length)*56≤2^44)&&decide (l21.length+l33.length≤2^44)) <|
 some (Sum.inl (if IntKind.i64.wrap (i1+IntKind.i64.wrap q22.Wait)<10000000 then IntKind.i64.wrap (i1+IntKind.i64.wrap q22.Wait) else 10000000,b2,IntKind.i64.wrap (i3+1),l4,q32.Policy.Kind,q32.Policy.A,q32.Policy.B,q32.Policy.C,q32.Room,q32.Lists,q32.Vars.e0,q32.Vars.e1,q32.Vars.e2,q32.Vars.e3,q32.Vars.e4,q32.Vars.e5,q32.Vars.e6,q32.Vars.e7,q32.Seed,l20++[Packet.mk q22.P.Flow q22.P.Sub (IntKind.i64.wrap (500000000+i3)) q22.P.Data q22.P.Size q22.P.Sent q22.P.Able q22.P.Marked],l21++l33))
 else
 some (Sum.inr (Sum.inr (Sum.inr (Sum.inr (i1,b2,i3,l4,i5,i6,i7,i8,i9,l10,i11,i12,i13,i14,i15,i16,i17,i18,i19,l20,l21)))))) (q.Vars.e7,false,0,[],q.Policy.Kind,q.Policy.A,q.Policy.B,q.Policy.C,q.Room,q.Lists,q.Vars.e0,q.Vars.e1,q.Vars.e2,q.Vars.e3,q.Vars.e4,q.Vars.e5,q.Vars.e6,q.Vars.e7,q.Seed,[],[])).bind fun w37=>
 Sum.elim (fun (b38,l39,i40,i41,i42,i43,i44,l45,i46,i47,i48,i49,i50,i51,i52,i53,i54,l55,l56,i57,i58,i59,i60,i61,l62,i63,i64,i65,i66,i67,i68,i69,i70,i71)=>
 some (Run.mk (Queue.mk (Policy.mk i57 i58 i59 i60) i61 l62 (A8.mk i63 i64 i65 i66 i67 i68 i69 i70) i71) l55 l39 l56,b38)) (fun w72=>
 Sum.elim (fun (b73,l74,i75,i76,i77,i78,i79,l80,i81,i82,i83,i84,i85,i86,i87,i88,i89,l90,l91,i92,i93,i94,i95,i96,l97,i98,i99,i100,i101,i102,i103,i104,i105,i106)=>
 some (Run.mk (Queue.mk (Policy.mk i92 i93 i94 i95) i96 l97 (A8.mk i98 i99 i100 i101 i102 i103 i104 i105) i106) l90 l74 l91,b73)) (fun w107=>
 Sum.elim (fun (b108,l109,i110,i111,i112,i113,i114,l115,i116,i117,i118,i119,i120,i121,i122,i123,i124,l125,l126,i127,i128,i129,i130,i131,l132,i133,i134,i135,i136,i137,i138,i139,i140,i141)=>
 some (Run.mk (Queue.mk (Policy.mk i127 i128 i129 i130) i131 l132 (A8.mk i133 i134 i135 i136 i137 i138 i139 i140) i141) l125 l109 l126,b108)) (fun (i142,b143,i144,l145,i146,i147,i148,i149,i150,l151,i152,i153,i154,i155,i156,i157,i158,i159,i160,l161,l162)=>
 some (Run.mk (Queue.mk (Policy.mk i146 i147 i148 i149) i150 l151 (A8.mk i152 i153 i154 i155 i156 i157 i158 i159) i160) l161 l145 l162,true)) w107) w72) w37
noncomputable def Go.Models.top_shortR14(steps:List Stepx)(flow:Int):Option ((List Stepx)):=
 (loopM (ω:=Int×Int×List Stepx) (fun ((i1,i2,l3):Int×Int×List Stepx)=>
 bif decide (i2<(↑steps.length:Int)) then
 gd (decide (0≤i2)) <|
 (steps[i2.toNat]?).bind fun q4=>
 gd (decide ((l3.length+1)*64≤2^44)&&decide (l3.length+1≤2^44)) <|
 some (Sum.inl (IntKind.i64.wrap (i1-IntKind.i64.wrap (IntKind.u16.wrap (if i1<IntKind.i64.wrap q4.Wait then i1 else IntKind.i64.wrap q4.Wait))),IntKind.i64.wrap (i2+1),l3++[Stepx.mk (IntKind.u16.wrap (if i1<IntKind.i64.wrap q4.Wait then i1 else IntKind.i64.wrap q4.Wait)) q4.Take (Packet.mk ((IntKind.i64.wrap flow).tmod 8) q4.P.Sub q4.P.Number q4.P.Data q4.P.Size q4.P.Sent false q4.P.Marked)]))
 else
 some (Sum.inr (i1,i2,l3))) (15000,0,[])).bind fun (i5,i6,l7)=>
 some l7
noncomputable def Go.Models.ref18_Packets(a:List Packet)(b:List Packet):Option Bool:=
 bif !(↑a.length:Int)==(↑b.length:Int) then
 some false
 else
 (loopM (ω:=Bool ⊕ Bool×Int) (fun ((b1,i2):Bool×Int)=>
 bif decide (i2<(↑a.length:Int)) then
 gd (decide (0≤i2)) <|
 (a[i2.toNat]?).bind fun q3=>
 gd (decide (0≤i2)) <|
 (b[i2.toNat]?).bind fun q4=>
 bif !(q3.Flow==q4.Flow&&(q3.Sub==q4.Sub&&(q3.Number==q4.Number&&(q3.Data==q4.Data&&(q3.Size==q4.Size&&(q3.Sent==q4.Sent&&(q3.Able==q4.Able&&q3.Marked==q4.Marked))))))) then
 some (Sum.inr (Sum.inl false))
 else
 some (Sum.inl (b1,IntKind.i64.wrap (i2+1)))
 else
 some (Sum.inr (Sum.inr (b1,i2)))) (false,0)).bind fun w5=>
 Sum.elim (fun b6=>
 some b6) (fun (b7,i8)=>
 some true) w5
noncomputable def Go.Models.top_TopCalmPolicies(room:Int)(steps:List Stepx)(flow:Int):Option Bool:=
 (Models.top_head).bind fun b1=>
 bif decide (200<(↑steps.length:Int)) then
 some b1
 else
 (Models.top_shortR14 steps flow).bind fun l2=>
 (Models.top_calmR14).bind fun l3=>
 (loopM (ω:=Bool×Int×Int×Int×Int×Int×List (List Queued)×Int×Int×Int×Int×Int×Int×Int×Int×Int×List Packet×List Packet×List Packet ⊕ Bool×Int×Int×Int×Int×Int×Int×List (List Queued)×Int×Int×Int×Int×Int×Int×Int×Int×Int×List Packet×List Packet×List Packet) (fun ((b4,i5,i6,i7,i8,i9,i10,l11,i12,i13,i14,i15,i16,i17,i18,i19,i20,l21,l22,l23):Bool×Int×Int×Int×Int×Int×Int×List (List Queued)×Int×Int×Int×Int×Int×Int×Int×Int×Int×List Packet×List Packet×List Packet)=>
 bif decide (i5<(↑l3.length:Int)) then
 gd (decide (0≤i5)) <|
 (l3[i5.toNat]?).bind fun q24=>
 (Models.queue_New q24 (IntKind.i64.wrap (1+(IntKind.i64.wrap room).tmod 400))).bind fun (q25,i26)=>
 (Models.law24_Play q25 l2).bind fun (q27,b28)=>
 bif !i26==0 then
 some (Sum.inr (Sum.inl (false,i6,i7,i8,i9,i10,l11,i12,i13,i14,i15,i16,i17,i18,i19,i20,l21,l22,l23)))
 else
 bif !b28 then
 some (Sum.inr (Sum.inl (false,i6,i7,i8,i9,i10,l11,i12,i13,i14,i15,i16,i17,i18,i19,i20,l21,l22,l23)))
 else
 bif i5==0 then
 (Models.ref18_Packets q27.Came q27.Came).bind fun b29=>
 bif !b29 then
 some (Sum.inr (Sum.inl (false,q27.Q.Policy.Kind,q27.Q.Policy.A,q27.Q.Policy.B,q27.Q.Policy.C,q27.Q.Room,q27.Q.Lists,q27.Q.Vars.e0,q27.Q.Vars.e1,q27.Q.Vars.e2,q27.Q.Vars.e3,q27.Q.Vars.e4,q27.Q.Vars.e5,q27.Q.Vars.e6,q27.Q.Vars.e7,q27.Q.Seed,q27.Came,q27.Taken,q27.Dropped)))
 else
 (Models.ref18_Packets q27.Taken q27.Taken).bind fun b30=>
 bif !b30 then
 some (Sum.inr (Sum.inl (false,q27.Q.Policy.Kind,q27.Q.Policy.A,q27.Q.Policy.B,q27.Q.Policy.C,q27.Q.Room,q27.Q.Lists,q27.Q.Vars.e0,q27.Q.Vars.e1,q27.Q.Vars.e2,q27.Q.Vars.e3,q27.Q.Vars.e4,q27.Q.Vars.e5,q27.Q.Vars.e6,q27.Q.Vars.e7,q27.Q.Seed,q27.Came,q27.Taken,q27.Dropped)))
 else
 (Models.ref18_Packets q27.Dropped q27.Dropped).bind fun b31=>
 bif !b31 then
 some (Sum.inr (Sum.inl (false,q27.Q.Policy.Kind,q27.Q.Policy.A,q27.Q.Policy.B,q27.Q.Policy.C,q27.Q.Room,q27.Q.Lists,q27.Q.Vars.e0,q27.Q.Vars.e1,q27.Q.Vars.e2,q27.Q.Vars.e3,q27.Q.Vars.e4,q27.Q.Vars.e5,q27.Q.Vars.e6,q27.Q.Vars.e7,q27.Q.Seed,q27.Came,q27.Taken,q27.Dropped)))
 else
 some (Sum.inl (b4,IntKind.i64.wrap (i5+1),q27.Q.Policy.Kind,q27.Q.Policy.A,q27.Q.Policy.B,q27.Q.Policy.C,q27.Q.Room,q27.Q.Lists,q27.Q.Vars.e0,q27.Q.Vars.e1,q27.Q.Vars.e2,q27.Q.Vars.e3,q27.Q.Vars.e4,q27.Q.Vars.e5,q27.Q.Vars.e6,q27.Q.Vars.e7,q27.Q.Seed,q27.Came,q27.Taken,q27.Dropped))
 else
 (Models.ref18_Packets q27.Came l21).bind fun b32=>
 bif !b32 then
 some (Sum.inr (Sum.inl (false,i6,i7,i8,i9,i10,l11,i12,i13,i14,i15,i16,i17,i18,i19,i20,l21,l22,l23)))
 else
 (Models.ref18_Packets q27.Taken l22).bind fun b33=>
 bif !b33 then
 some (Sum.inr (Sum.inl (false,i6,i7,i8,i9,i10,l11,i12,i13,i14,i15,i16,i17,i18,i19,i20,l21,l22,l23)))
 else
 (Models.ref18_Packets q27.Dropped l23).bind fun b34=>
 bif !b34 then
 some (Sum.inr (Sum.inl (false,i6,i7,i8,i9,i10,l11,i12,i13,i14,i15,i16,i17,i18,i19,i20,l21,l22,l23)))
 else
 some (Sum.inl (b4,IntKind.i64.wrap (i5+1),i6,i7,i8,i9,i10,l11,i12,i13,i14,i15,i16,i17,i18,i19,i20,l21,l22,l23))
 else
 some (Sum.inr (Sum.inr (b4,i5,i6,i7,i8,i9,i10,l11,i12,i13,i14,i15,i16,i17,i18,i19,i20,l21,l22,l23)))) (false,0,0,0,0,0,0,[],0,0,0,0,0,0,0,0,0,[],[],[])).bind fun w35=>
 Sum.elim (fun (b36,i37,i38,i39,i40,i41,l42,i43,i44,i45,i46,i47,i48,i49,i50,i51,l52,l53,l54)=>
 some b36) (fun (b55,i56,i57,i58,i59,i60,i61,l62,i63,i64,i65,i66,i67,i68,i69,i70,i71,l72,l73,l74)=>
 some b1) w35
namespace Go.Proofs.YtomccdllhpolbaaDoor
noncomputable def hints:List (Nat×Nat×Hint):=[(93,2002,⟨[(4,.val 3),(8,.val 3)],[9,10,5,11,12,13,14,15,16,17,18],[(1,.one (.val 2))],[⟨none,[(4,.val 3)],[],[],[]⟩,⟨some 0,[(4,.val 3),(8,.val 3)],[],[],[]⟩]⟩),(44,3,⟨[(2,.val 4),(3,.val 3),(14,.val 3)],[15,16,17,5,18,19,20,21,22,23,24,25,26,27,28,29,30,31,32,33,34,35,36,37],[],[⟨none,[(2,.val 4)],[.junk],[],[]⟩,⟨some 0,[(2,.val 4),(3,.val 3),(14,.val 3)],[],[],[]⟩]⟩),(87,4,⟨[(4,.val 30),(9,.val 3)],[10,11,5,12,13,14,15,16,17,18,19,20,21,22,23,24,25],[],[⟨some 0,[(4,.val 30),(9,.val 3)],[],[],[]⟩]⟩),(25,3010,⟨[(2,.val 4),(5,.val 3),(98,.val 3)],[99,100,101,7,102,103,104,105,106,107,108,109,110,111,112,113,114,115,116,117],[],[⟨none,[(2,.val 4)],[.junk],[],[]⟩,⟨some 0,[(2,.val 4),(5,.val 3),(98,.val 3)],[],[],[]⟩]⟩),(27,10006,⟨[(6,.val 4),(7,.own 8 3),(8,.val 38)],[27,28,29,30,31,32,33,34,13,35,36,37,38,39,40,41,42,43,44,45,46,47,48,49,14,50,51,52,53,54,55,56,57,58,59,60,61,62,63,64,65,66,67,68,69,70,71,72,73,74,75],[(3,.list 46),(8,.one (.own 8 9)),(9,.list 46),(5,.agg [.val 2,.val 2,.val 2,.val 2,.val 2,.ofix 1 7 none (some 1),.val 2,.val 2,.val 2,.val 2,.val 2,.val 2,.val 2,.val 2,.val 30,.val 2]),(7,.one (.rng 9 6 2 true))],[⟨none,[(6,.val 4),(7,.own 8 9),(8,.val 38)],[.junk],[],[(2,.agg [.val 2,.val 2,.val 2,.val 2,.val 2,.val 2,.val 4,.val 4]),(1,.agg [.val 2,.val 2,.val 2,.val 2,.val 2,.ofix 1 7 none (some 1),.val 2,.val 2,.val 2,.val 2,.val 2,.val 2,.val 2,.val 2,.val 30])]⟩,⟨some 0,[(6,.val 4),(7,.own 8 3),(8,.val 38)],[],[],[]⟩]⟩),(93,3002,⟨[(4,.val 3),(8,.val 3)],[9,10,5,11,12,13,14,15,16,17,18],[(2,.one (.val 2))],[⟨none,[(4,.val 3)],[],[],[]⟩,⟨some 0,[(4,.val 3),(8,.val 3)],[],[],[]⟩]⟩),(65,3,⟨[(6,.val 4),(7,.val 3),(12,.val 3)],[13,14,15,9,16,17,18,19,20,21,22,23,24,25,26,27,28,29,30,31,32,33,34,35,36,37],[],[⟨none,[(6,.val 4)],[.junk],[],[]⟩,⟨some 0,[(6,.val 4),(7,.val 3),(12,.val 3)],[],[],[]⟩]⟩),(66,1003,⟨[(3,.val 3),(9,.val 3)],[10,11,12,5,13,14,15,16,17],[],[⟨some 0,[(3,.val 3),(9,.val 3)],[],[],[]⟩]⟩),(31,3007,⟨[(2,.val 4),(85,.val 3)],[86,87,5,88,89,90,91,92,93],[],[⟨none,[(2,.val 4)],[],[],[]⟩,⟨some 0,[(2,.val 4),(85,.val 3)],[],[],[]⟩]⟩),(31,3013,⟨[(2,.val 4),(96,.val 3)],[97,98,99,6,7,100,101,102,103,104,105,106,107,108,109,110,111,112,113,114,115,116,117,118,119,120,121,122,123,124,125,126,127,128,129,130,131,132,133,134,135,136,8,137,138,139,140,141,142,143,144,145,146,147,148,149,150,151,152,153,154,155,156],[],[⟨none,[(2,.val 4)],[],[],[]⟩,⟨some 2,[(2,.val 4),(96,.val 3)],[],[],[]⟩]⟩),(33,18008,⟨[(12,.val 3),(11,.val 3)],[42,43,44,45,46,14,47,48,49,50,51,52,53,54,55,56,57,58,59,60,61,62,63,64,65,66,67,68,69,39,40,41],[(17,.agg [.val 2,.val 2,.val 2,.val 2,.val 2,.val 2,.val 4,.val 4]),(16,.agg [.val 2,.val 2,.val 2,.val 2,.val 2,.val 2,.val 2,.val 2])],[⟨some 0,[(12,.val 3),(11,.val 3)],[],[],[]⟩]⟩),(72,3,⟨[(6,.val 4),(7,.val 3),(12,.val 3)],[13,14,15,9,16,17,18,19,20,21,22,23,24,25,26,27,28,29,30,31,32,33,34,35,36,37],[],[⟨none,[(6,.val 4)],[.junk],[],[]⟩,⟨some 0,[(6,.val 4),(7,.val 3),(12,.val 3)],[],[],[]⟩]⟩),(34,3007,⟨[(2,.val 4),(5,.val 3)],[68,69,72,73,74,75,70,71],[],[⟨none,[(2,.val 4)],[],[],[]⟩,⟨some 0,[(2,.val 4),(5,.val 3)],[],[],[]⟩]⟩),(36,10006,⟨[(6,.val 4),(7,.own 8 3),(8,.val 38),(12,.val 4)],[25,26,27,28,29,30,31,32,33,34,35,36,37,38,39,40,41,42,43,44,45,46,47,48,49,50,51,52,13,53,54,55,56,57,58,59,60,61,62,63,64,65,66,67,68,69,70,71,72,73,74,75,76,77,78,79,81,82,80,83,84,85,86,87,88,89,90,91,92,93],[(3,.list 46),(9,.agg [.val 2,.val 2,.val 2,.val 2,.val 2,.val 2,.val 4,.val 4]),(5,.agg [.val 2,.val 2,.val 2,.val 2,.val 2,.val 28,.val 2,.val 2,.val 2,.val 2,.val 2,.val 2,.val 2,.val 2,.val 30,.rng 9 7 2 true,.rng 9 8 2 true,.val 2,.own 8 6]),(6,.list 46)],[⟨none,[(6,.val 4),(7,.own 8 6),(8,.val 38)],[],[],[(2,.agg [.val 2,.val 2,.val 2,.val 2,.val 2,.val 2,.val 4,.val 4]),(1,.agg [.val 2,.val 2,.val 2,.val 2,.val 2,.asl 5 0 15 2 2,.val 2,.val 2,.val 2,.val 2,.val 2,.val 2,.val 2,.val 2,.val 30]),(5,.agg [.val 2,.val 2,.val 2,.val 2,.val 2,.hole,.val 2,.val 2,.val 2,.val 2,.val 2,.val 2,.val 2,.val 2,.val 30,.rng 9 7 2 true,.rng 9 8 2 true,.val 2,.own 8 6])]⟩]⟩),(11,2004,⟨[(11,.val 3)],[12,13,14,6,15,16,17,18],[(1,.one (.val 2))],[⟨some 0,[(11,.val 3)],[],[],[]⟩]⟩),(8,6004,⟨[(7,.val 3),(5,.val 4),(27,.val 3)],[28,29,30,31,9,8,32,33,34,35,36,37,38,39,40,10,41,42,44,45,46,47,43,48,49,50,51,52,11,12,13,14,15,53,54,16,55,56,57,58,59,60,61,62,63,64,65,66,67,68,69,70,71,72,73,74,75,76,77,78,79,80,81,82,83,84,85,86,87,88,89,90,91,92,93,94,95,96,97,98,99,100,101,102,104,105,106,107,108,109,103,110,111,112,17,18,19,113,114,115,116,117,118,119,120,121,122,123,124,125,126,127,128,129,130,131,132,133,134,135,136,137,138,139,140,141,142,143,144,145,146,147],[(3,.list 46),(5,.agg [.val 2,.val 2,.val 2,.val 2,.val 2,.val 28,.val 2,.val 2,.val 2,.val 2,.val 2,.val 2,.val 2,.val 2,.val 30,.own 8 2,.own 8 3,.own 8 4]),(2,.list 46),(4,.list 46)],[⟨none,[(5,.val 4)],[.junk,.junk,.junk,.junk],[],[(1,.agg [.val 2,.val 2,.val 2,.val 2,.val 2,.val 28,.val 2,.val 2,.val 2,.val 2,.val 2,.val 2,.val 2,.val 2,.val 30,.own 8 2,.own 8 3,.own 8 4])]⟩,⟨none,[(5,.val 4)],[.junk,.junk,.junk],[],[(1,.agg [.val 2,.val 2,.val 2,.val 2,.val 2,.val 28,.val 2,.val 2,.val 2,.val 2,.val 2,.val 2,.val 2,.val 2,.val 30,.own 8 2,.own 8 3,.own 8 4])]⟩,⟨none,[(5,.val 4)],[.junk,.junk],[],[(1,.agg [.val 2,.val 2,.val 2,.val 2,.val 2,.val 28,.val 2,.val 2,.val 2,.val 2,.val 2,.val 2,.val 2,.val 2,.val 30,.own 8 2,.own 8 3,.own 8 4])]⟩,⟨some 0,[(7,.val 3),(5,.val 4),(27,.val 3)],[],[],[]⟩]⟩),(5,2004,⟨[(6,.val 3),(5,.own 10 1),(11,.val 3)],[12,13,14,8,15,16,17,18,19,20,21,22,23,24,25,26,27,28,29,30,31,32,33,34,35,36,37,38],[(1,.list 48)],[⟨some 0,[(6,.val 3),(5,.own 10 1),(11,.val 3)],[],[],[]⟩]⟩),(9,4,⟨[(4,.val 4),(5,.val 3)],[11,12,13,14,17,18,19,20,21,22,23,24,25,15,16],[],[⟨none,[(4,.val 4)],[],[],[]⟩,⟨some 0,[(4,.val 4),(5,.val 3)],[],[],[]⟩]⟩),(3,1007,⟨[(6,.val 4),(26,.val 3)],[27,28,29,30,11,10,32,33,34,35,36,37,31,38,39,12,13,41,42,43,40,44,45,14,15,46,47,48,49,50,51,52,53,54,55,56,57,58,59,60,61,62,63,64,65,66,67,68,69,70,71,72,73,74,75,76,77],[(0,.agg [.val 2,.val 2,.val 2,.val 2,.val 2,.val 28,.val 2,.val 2,.val 2,.val 2,.val 2,.val 2,.val 2,.val 2,.val 30,.val 33,.val 33,.val 33])],[⟨none,[(6,.val 4)],[.junk,.junk,.junk],[],[]⟩,⟨some 0,[(6,.val 4),(26,.val 3)],[],[],[]⟩]⟩)]
def roll:FuncId→Nat→Bool:=fun f _=>Nat.beq f 82||Nat.beq f 64||Nat.beq f 69||Nat.beq f 74||Nat.beq f 88||Nat.beq f 4
noncomputable def sums:List (Nat×Summ T):=[(6,⟨[],[36],fun x=>Go.Models.top_calmR14 ⟩),
 (78,⟨[3,3,3],[4],fun x=>Go.Models.tail_inside x.1 x.2.1 x.2.2⟩),
 (40,⟨[66],[62],fun x=>Go.Models.tail_line_waiting x⟩),
 (38,⟨[46],[4],fun x=>Go.Models.tail_packet x⟩),
 (79,⟨[66],[4],fun x=>Go.Models.tail_line_ordered x⟩),
 (37,⟨[66],[4],fun x=>Go.Models.tail_line_valid x⟩),
 (19,⟨[32],[4],fun x=>Go.Models.tail_Valid x⟩),
 (39,⟨[66,3],[38],fun x=>Go.Models.tail_line_at x.1 x.2⟩),
 (41,⟨[66,62,3],[32],fun x=>Go.Models.tail_line_with x.1 x.2.1 x.2.2⟩),
 (42,⟨[28],[62],fun x=>Go.Models.slices_Concat x⟩),
 (20,⟨[32,46,3],[32,33,38],fun x=>Go.Models.tail_Put x.1 x.2.1 x.2.2⟩),
 (21,⟨[32,3],[32,46,4,33,38],fun x=>Go.Models.tail_Take x.1 x.2⟩),
 (43,⟨[3,3,3],[4],fun x=>Go.Models.early_in x.1 x.2.1 x.2.2⟩),
 (45,⟨[46],[4],fun x=>Go.Models.early_isPacket x⟩),
 (44,⟨[74],[4],fun x=>Go.Models.early_queue_isList x⟩),
 (22,⟨[32],[4],fun x=>Go.Models.early_Valid x⟩),
 (87,⟨[30],[30,30],fun x=>Go.Models.random_Next x⟩),
 (62,⟨[30,3],[3,30,38],fun x=>Go.Models.random_Below x.1 x.2⟩),
 (23,⟨[32,46,3],[32,33,38],fun x=>Go.Models.early_Put x.1 x.2.1 x.2.2⟩),
 (24,⟨[32,3],[32,46,4,33,38],fun x=>Go.Models.early_Take x.1 x.2⟩),
 (49,⟨[3,3,3],[4],fun x=>Go.Models.sojourn_between x.1 x.2.1 x.2.2⟩),
 (50,⟨[3],[4],fun x=>Go.Models.sojourn_isTime x⟩),
 (53,⟨[46],[4],fun x=>Go.Models.sojourn_isPacket x⟩),
 (25,⟨[32],[4],fun x=>Go.Models.sojourn_Valid x⟩),
 (26,⟨[32,46,3],[32,33,38],fun x=>Go.Models.sojourn_Put x.1 x.2.1 x.2.2⟩),
 (27,⟨[32,3],[32,46,4,33,38],fun x=>Go.Models.sojourn_Take x.1 x.2⟩),
 (83,⟨[3,3,3],[4],fun x=>Go.Models.integral_inside x.1 x.2.1 x.2.2⟩),
 (60,⟨[46],[4],fun x=>Go.Models.integral_packet x⟩),
 (59,⟨[87],[4],fun x=>Go.Models.integral_state_valid x⟩),
 (28,⟨[32],[4],fun x=>Go.Models.integral_Valid x⟩),
 (94,⟨[87,3],[3],fun x=>Go.Models.integral_state_delay x.1 x.2⟩),
 (97,⟨[3],[3],fun x=>Go.Models.integral_thousandth x⟩),
 (96,⟨[3,1087,1003,1003],[3],fun x=>Go.Models.integral_state_update_1 x.1 x.2.1 x.2.2.1 x.2.2.2⟩),
 (29,⟨[32,46,3],[32,33,38],fun x=>Go.Models.integral_Put x.1 x.2.1 x.2.2⟩),
 (30,⟨[32,3],[32,46,4,33,38],fun x=>Go.Models.integral_Take x.1 x.2⟩),
 (63,⟨[3,3,3],[4],fun x=>Go.Models.deficit_in x.1 x.2.1 x.2.2⟩),
 (64,⟨[32],[29],fun x=>Go.Models.deficit_deficits x⟩),
 (67,⟨[46],[4],fun x=>Go.Models.deficit_isPacket x⟩),
 (65,⟨[62,3,3],[4],fun x=>Go.Models.deficit_isList x.1 x.2.1 x.2.2⟩),
 (66,⟨[32],[3],fun x=>Go.Models.deficit_size x⟩),
 (31,⟨[32],[4],fun x=>Go.Models.deficit_Valid x⟩),
 (32,⟨[32,46,3],[32,33,38],fun x=>Go.Models.deficit_Put x.1 x.2.1 x.2.2⟩),
 (69,⟨[32,29],[32],fun x=>Go.Models.deficit_pack x.1 x.2⟩),
 (33,⟨[32,3],[32,46,4,33,38],fun x=>Go.Models.deficit_Take x.1 x.2⟩),
 (70,⟨[3,3,3],[4],fun x=>Go.Models.dual_between x.1 x.2.1 x.2.2⟩),
 (71,⟨[3],[4],fun x=>Go.Models.dual_isTime x⟩),
 (73,⟨[46],[4],fun x=>Go.Models.dual_isPacket x⟩),
 (72,⟨[62,3,4],[4],fun x=>Go.Models.dual_isList x.1 x.2.1 x.2.2⟩),
 (34,⟨[32],[4],fun x=>Go.Models.dual_Valid x⟩),
 (35,⟨[32,46,3],[32,33,38],fun x=>Go.Models.dual_Put x.1 x.2.1 x.2.2⟩),
 (91,⟨[98],[3],fun x=>Go.Models.dual_pair_pressure x⟩),
 (36,⟨[32,3],[32,46,4,33,38],fun x=>Go.Models.dual_Take x.1 x.2⟩),
 (7,⟨[27,3],[32,38],fun x=>Go.Models.queue_New x.1 x.2⟩),
 (11,⟨[32],[3],fun x=>Go.Models.queue_Size x⟩),
 (12,⟨[32,3],[32,46,4,33,38],fun x=>Go.Models.queue_Take x.1 x.2⟩),
 (17,⟨[3],[4],fun x=>Go.Models.ref18_number x⟩),
 (18,⟨[3],[4],fun x=>Go.Models.ref18_Time x⟩),
 (13,⟨[46],[4],fun x=>Go.Models.ref18_Packet x⟩),
 (14,⟨[32,46,3],[32,33,38],fun x=>Go.Models.queue_Put x.1 x.2.1 x.2.2⟩),
 (8,⟨[32,23],[35,4],fun x=>Go.Models.law24_Play x.1 x.2⟩),
 (4,⟨[],[4],fun x=>Go.Models.top_head ⟩),
 (5,⟨[23,5],[23],fun x=>Go.Models.top_shortR14 x.1 x.2⟩),
 (9,⟨[33,33],[4],fun x=>Go.Models.ref18_Packets x.1 x.2⟩),
 (3,⟨[22,23,5],[4],fun x=>Go.Models.top_TopCalmPolicies x.1 x.2.1 x.2.2⟩)]
noncomputable abbrev S(n:Nat):SCtx:=mkS C T memo (Go.PI.look2 hints) roll sums n owns sel tws
theorem s0:(S 0).Ok:=mkS_zero TOk QOk ZOk ownsOk
end Go.Proofs.YtomccdllhpolbaaDoor
end
