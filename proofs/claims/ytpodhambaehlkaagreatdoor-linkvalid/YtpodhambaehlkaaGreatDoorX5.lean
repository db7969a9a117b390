/- Part 5 of the proof: texts of this session laid one behind the other. -/
import Derived.Test.YtpodhambaehlkaaGreatDoorProg
import Derived.KernelRfl
import Derived.Test.YtpodhambaehlkaaGreatDoorX4
set_option linter.unusedVariables false
set_option linter.unusedSimpArgs false
section
/- The types of this seat: what must hold of them (printed by gen_tys.py out of the dump). -/
set_option maxRecDepth 100000
namespace Go.Proofs.YtpodhambaehlkaaGreatDoor
open Go.PI
theorem cm{H:aq den}{v:V}{vs:List V}{l:List AV}:RL T H (v::vs) l↔∃ c cs,l=c::cs∧R T H v c∧RL T H vs cs:=He (T:=T)
theorem Pb{H:aq den}{l:List AV}:RL T H [] l↔l=[]:=Jg (T:=T)
theorem Y5(x:af)(a:AV)(H:aq den)(h:Hh x a):R T H (R4 x) a:=by
 unfold Hh at h; subst h
 unfold R4
 simp only[R]
 refine⟨_,rfl,?_⟩
 simp only[RL,R,and_true,true_and]
theorem Y6(v:V)(x:af)(a:AV)(H:aq den)(h:R5 v=some x)(hr:R T H v a):Hh x a:=by
 unfold R5 at h
 split at h
 ·simp only[Option.bind_eq_some_iff,Option.some.injEq]at h
  obtain⟨b0,g0,b1,g1,b2,g2,b3,g3,rfl⟩:=h
  simp only[R]at hr
  obtain⟨_,rfl,hl⟩:=hr
  obtain⟨c0,_,rfl,r0,hl⟩:=cm.1 hl
  obtain⟨c1,_,rfl,r1,hl⟩:=cm.1 hl
  obtain⟨c2,_,rfl,r2,hl⟩:=cm.1 hl
  obtain⟨c3,_,rfl,r3,hl⟩:=cm.1 hl
  cases Pb.1 hl
  cases aB (T:=T) g0 r0
  cases aB (T:=T) g1 r1
  cases aB (T:=T) g2 r2
  cases aB (T:=T) g3 r3
  exact rfl
 ·simp at h
theorem Y7(x:af)(a:AV)(h:Hh x a):aF true 4 a=true∧closed a=true:=by
 unfold Hh at h; subst h
 exact⟨by simp[aF,ik,fV,il],by simp[closed,bf]⟩
theorem Y8(x:an)(a:AV)(H:aq den)(h:EU x a):R T H (R6 x) a:=by
 unfold EU at h; subst h
 unfold R6
 simp only[R]
 refine⟨_,rfl,?_⟩
 simp only[RL,R,and_true,true_and]
theorem Pc(v:V)(x:an)(a:AV)(H:aq den)(h:O5 v=some x)(hr:R T H v a):EU x a:=by
 unfold O5 at h
 split at h
 ·simp only[Option.bind_eq_some_iff,Option.some.injEq]at h
  obtain⟨b0,g0,b1,g1,b2,g2,b3,g3,b4,g4,b5,g5,b6,g6,b7,g7,rfl⟩:=h
  simp only[R]at hr
  obtain⟨_,rfl,hl⟩:=hr
  obtain⟨c0,_,rfl,r0,hl⟩:=cm.1 hl
  obtain⟨c1,_,rfl,r1,hl⟩:=cm.1 hl
  obtain⟨c2,_,rfl,r2,hl⟩:=cm.1 hl
  obtain⟨c3,_,rfl,r3,hl⟩:=cm.1 hl
  obtain⟨c4,_,rfl,r4,hl⟩:=cm.1 hl
  obtain⟨c5,_,rfl,r5,hl⟩:=cm.1 hl
  obtain⟨c6,_,rfl,r6,hl⟩:=cm.1 hl
  obtain⟨c7,_,rfl,r7,hl⟩:=cm.1 hl
  cases Pb.1 hl
  cases aB (T:=T) g0 r0
  cases aB (T:=T) g1 r1
  cases aB (T:=T) g2 r2
  cases aB (T:=T) g3 r3
  cases aB (T:=T) g4 r4
  cases aB (T:=T) g5 r5
  cases sM (T:=T) g6 r6
  cases sM (T:=T) g7 r7
  exact rfl
 ·simp at h
theorem Y9(x:an)(a:AV)(h:EU x a):aF true 8 a=true∧closed a=true:=by
 unfold EU at h; subst h
 exact⟨by simp[aF,ik,fV,il],by simp[closed,bf]⟩
theorem Za(x:ai)(a:AV)(H:aq den)(h:u3 x a):R T H (R7 x) a:=by
 unfold u3 at h; subst h
 unfold R7
 simp only[R]
 refine⟨_,rfl,?_⟩
 simp only[RL,R,and_true,true_and]
theorem wN(v:V)(x:ai)(a:AV)(H:aq den)(h:O6 v=some x)(hr:R T H v a):u3 x a:=by
 unfold O6 at h
 split at h
 ·simp only[Option.bind_eq_some_iff,Option.some.injEq]at h
  obtain⟨b0,g0,b1,g1,b2,g2,b3,g3,b4,g4,b5,g5,b6,g6,b7,g7,b8,g8,rfl⟩:=h
  simp only[R]at hr
  obtain⟨_,rfl,hl⟩:=hr
  obtain⟨c0,_,rfl,r0,hl⟩:=cm.1 hl
  obtain⟨c1,_,rfl,r1,hl⟩:=cm.1 hl
  obtain⟨c2,_,rfl,r2,hl⟩:=cm.1 hl
  obtain⟨c3,_,rfl,r3,hl⟩:=cm.1 hl
  obtain⟨c4,_,rfl,r4,hl⟩:=cm.1 hl
  obtain⟨c5,_,rfl,r5,hl⟩:=cm.1 hl
  obtain⟨c6,_,rfl,r6,hl⟩:=cm.1 hl
  obtain⟨c7,_,rfl,r7,hl⟩:=cm.1 hl
  obtain⟨c8,_,rfl,r8,hl⟩:=cm.1 hl
  cases Pb.1 hl
  cases aB (T:=T) g0 r0
  cases aB (T:=T) g1 r1
  cases aB (T:=T) g2 r2
  cases aB (T:=T) g3 r3
  cases aB (T:=T) g4 r4
  cases aB (T:=T) g5 r5
  cases sM (T:=T) g6 r6
  cases sM (T:=T) g7 r7
  cases aB (T:=T) g8 r8
  exact rfl
 ·simp at h
theorem Vr(x:ai)(a:AV)(h:u3 x a):aF true 9 a=true∧closed a=true:=by
 unfold u3 at h; subst h
 exact⟨by simp[aF,ik,fV,il],by simp[closed,bf]⟩
theorem adA(x:A8 Int)(a:AV)(H:aq den)(h:Ji x a):R T H (Vz x) a:=by
 unfold Ji at h; subst h
 unfold Vz
 simp only[R]
 refine⟨_,rfl,?_⟩
 simp only[RL,R,and_true,true_and]
theorem adB(v:V)(x:A8 Int)(a:AV)(H:aq den)(h:VA v=some x)(hr:R T H v a):Ji x a:=by
 unfold VA at h
 split at h
 ·simp only[Option.bind_eq_some_iff,Option.some.injEq]at h
  obtain⟨b0,g0,b1,g1,b2,g2,b3,g3,b4,g4,b5,g5,b6,g6,b7,g7,rfl⟩:=h
  simp only[R]at hr
  obtain⟨_,rfl,hl⟩:=hr
  obtain⟨c0,_,rfl,r0,hl⟩:=cm.1 hl
  obtain⟨c1,_,rfl,r1,hl⟩:=cm.1 hl
  obtain⟨c2,_,rfl,r2,hl⟩:=cm.1 hl
  obtain⟨c3,_,rfl,r3,hl⟩:=cm.1 hl
  obtain⟨c4,_,rfl,r4,hl⟩:=cm.1 hl
  obtain⟨c5,_,rfl,r5,hl⟩:=cm.1 hl
  obtain⟨c6,_,rfl,r6,hl⟩:=cm.1 hl
  obtain⟨c7,_,rfl,r7,hl⟩:=cm.1 hl
  cases Pb.1 hl
  cases aB (T:=T) g0 r0
  cases aB (T:=T) g1 r1
  cases aB (T:=T) g2 r2
  cases aB (T:=T) g3 r3
  cases aB (T:=T) g4 r4
  cases aB (T:=T) g5 r5
  cases aB (T:=T) g6 r6
  cases aB (T:=T) g7 r7
  exact rfl
 ·simp at h
theorem adC(x:A8 Int)(a:AV)(h:Ji x a):aF true 8 a=true∧closed a=true:=by
 unfold Ji at h; subst h
 exact⟨by simp[aF,ik,fV,il],by simp[closed,bf]⟩
theorem Zb(x:Queue)(a:AV)(H:aq den)(h:LO x a):R T H (R8 x) a:=by
 obtain⟨a5,h5,rfl⟩:=h
 unfold R8
 simp only[R]
 refine⟨_,rfl,?_⟩
 simp only[RL,R,and_true,true_and]
 exact h5
theorem Zc(v:V)(x:Queue)(a:AV)(H:aq den)(h:R9 v=some x)(hr:R T H v a):LO x a:=by
 unfold R9 at h
 split at h
 ·simp only[Option.bind_eq_some_iff,Option.some.injEq]at h
  obtain⟨b0,g0,b1,g1,b2,g2,b3,g3,b4,g4,b5,g5,b6,g6,b7,g7,b8,g8,b9,g9,yz,Lf,vf,Pd,EC,Pe,uA,Pf,lA,Pg,rfl⟩:=h
  simp only[R]at hr
  obtain⟨_,rfl,hl⟩:=hr
  obtain⟨c0,_,rfl,r0,hl⟩:=cm.1 hl
  obtain⟨c1,_,rfl,r1,hl⟩:=cm.1 hl
  obtain⟨c2,_,rfl,r2,hl⟩:=cm.1 hl
  obtain⟨c3,_,rfl,r3,hl⟩:=cm.1 hl
  obtain⟨c4,_,rfl,r4,hl⟩:=cm.1 hl
  obtain⟨c5,_,rfl,r5,hl⟩:=cm.1 hl
  obtain⟨c6,_,rfl,r6,hl⟩:=cm.1 hl
  obtain⟨c7,_,rfl,r7,hl⟩:=cm.1 hl
  obtain⟨c8,_,rfl,r8,hl⟩:=cm.1 hl
  obtain⟨c9,_,rfl,r9,hl⟩:=cm.1 hl
  obtain⟨Zd,_,rfl,Ph,hl⟩:=cm.1 hl
  obtain⟨Ze,_,rfl,Pj,hl⟩:=cm.1 hl
  obtain⟨Zf,_,rfl,Pk,hl⟩:=cm.1 hl
  obtain⟨Zg,_,rfl,Pm,hl⟩:=cm.1 hl
  obtain⟨Zh,_,rfl,Pn,hl⟩:=cm.1 hl
  cases Pb.1 hl
  cases aB (T:=T) g0 r0
  cases aB (T:=T) g1 r1
  cases aB (T:=T) g2 r2
  cases aB (T:=T) g3 r3
  cases aB (T:=T) g4 r4
  have e5:=eV (T:=T) (e:=57) (fun _ _ _ h hr=>eV (T:=T) (e:=83) (fun _ _ _ h hr=>wN _ _ _ H h hr) h hr) g5 r5
  cases aB (T:=T) g6 r6
  cases aB (T:=T) g7 r7
  cases aB (T:=T) g8 r8
  cases aB (T:=T) g9 r9
  cases aB (T:=T) Lf Ph
  cases aB (T:=T) Pd Pj
  cases aB (T:=T) Pe Pk
  cases aB (T:=T) Pf Pm
  cases aB (T:=T) Pg Pn
  exact⟨_,e5,rfl⟩
 ·simp at h
theorem Zi(x:Queue)(a:AV)(h:LO x a):aF true 15 a=true∧closed a=true:=by
 obtain⟨a5,h5,rfl⟩:=h
 have k5:=eG h5
 exact⟨by simp[aF,ik,fV,il,k5.2.2],by simp[closed,bf,k5.2.1]⟩
theorem Zj(x:bc)(a:AV)(H:aq den)(h:LP x a):R T H (Sa x) a:=by
 obtain⟨a7,h7,rfl⟩:=h
 unfold Sa
 simp only[R]
 refine⟨_,rfl,?_⟩
 simp only[RL,R,and_true,true_and]
 exact h7
theorem Zk(v:V)(x:bc)(a:AV)(H:aq den)(h:Sb v=some x)(hr:R T H v a):LP x a:=by
 unfold Sb at h
 split at h
 ·simp only[Option.bind_eq_some_iff,Option.some.injEq]at h
  obtain⟨b0,g0,b1,g1,b2,g2,b3,g3,b4,g4,b5,g5,b6,g6,b7,g7,b8,g8,b9,g9,yz,Lf,vf,Pd,EC,Pe,uA,Pf,lA,Pg,Db,VP,B7,Zl,Gg,Zm,L9,Zn,NW,g19,U1,g20,U2,g21,Kh,g22,Qq,g23,YN,g24,Ri,g25,UX,g26,rfl⟩:=h
  simp only[R]at hr
  obtain⟨_,rfl,hl⟩:=hr
  obtain⟨c0,_,rfl,r0,hl⟩:=cm.1 hl
  obtain⟨c1,_,rfl,r1,hl⟩:=cm.1 hl
  obtain⟨c2,_,rfl,r2,hl⟩:=cm.1 hl
  obtain⟨c3,_,rfl,r3,hl⟩:=cm.1 hl
  obtain⟨c4,_,rfl,r4,hl⟩:=cm.1 hl
  obtain⟨c5,_,rfl,r5,hl⟩:=cm.1 hl
  obtain⟨c6,_,rfl,r6,hl⟩:=cm.1 hl
  obtain⟨c7,_,rfl,r7,hl⟩:=cm.1 hl
  obtain⟨c8,_,rfl,r8,hl⟩:=cm.1 hl
  obtain⟨c9,_,rfl,r9,hl⟩:=cm.1 hl
  obtain⟨Zd,_,rfl,Ph,hl⟩:=cm.1 hl
  obtain⟨Ze,_,rfl,Pj,hl⟩:=cm.1 hl
  obtain⟨Zf,_,rfl,Pk,hl⟩:=cm.1 hl
  obtain⟨Zg,_,rfl,Pm,hl⟩:=cm.1 hl
  obtain⟨Zh,_,rfl,Pn,hl⟩:=cm.1 hl
  obtain⟨c15,_,rfl,VQ,hl⟩:=cm.1 hl
  obtain⟨c16,_,rfl,Zo,hl⟩:=cm.1 hl
  obtain⟨c17,_,rfl,Zp,hl⟩:=cm.1 hl
  obtain⟨c18,_,rfl,Zq,hl⟩:=cm.1 hl
  obtain⟨c19,_,rfl,r19,hl⟩:=cm.1 hl
  obtain⟨c20,_,rfl,r20,hl⟩:=cm.1 hl
  obtain⟨c21,_,rfl,r21,hl⟩:=cm.1 hl
  obtain⟨c22,_,rfl,r22,hl⟩:=cm.1 hl
  obtain⟨c23,_,rfl,r23,hl⟩:=cm.1 hl
  obtain⟨c24,_,rfl,r24,hl⟩:=cm.1 hl
  obtain⟨c25,_,rfl,r25,hl⟩:=cm.1 hl
  obtain⟨c26,_,rfl,r26,hl⟩:=cm.1 hl
  cases Pb.1 hl
  cases aB (T:=T) g0 r0
  cases aB (T:=T) g1 r1
  cases aB (T:=T) g2 r2
  cases aB (T:=T) g3 r3
  cases aB (T:=T) g4 r4
  cases aB (T:=T) g5 r5
  cases aB (T:=T) g6 r6
  have e7:=eV (T:=T) (e:=57) (fun _ _ _ h hr=>eV (T:=T) (e:=83) (fun _ _ _ h hr=>wN _ _ _ H h hr) h hr) g7 r7
  cases aB (T:=T) g8 r8
  cases aB (T:=T) g9 r9
  cases aB (T:=T) Lf Ph
  cases aB (T:=T) Pd Pj
  cases aB (T:=T) Pe Pk
  cases aB (T:=T) Pf Pm
  cases aB (T:=T) Pg Pn
  cases aB (T:=T) VP VQ
  cases aB (T:=T) Zl Zo
  cases sM (T:=T) Zm Zp
  cases aB (T:=T) Zn Zq
  cases aB (T:=T) g19 r19
  cases aB (T:=T) g20 r20
  cases aB (T:=T) g21 r21
  cases aB (T:=T) g22 r22
  cases aB (T:=T) g23 r23
  cases sM (T:=T) g24 r24
  cases sM (T:=T) g25 r25
  cases aB (T:=T) g26 r26
  exact⟨_,e7,rfl⟩
 ·simp at h
theorem Zr(x:bc)(a:AV)(h:LP x a):aF true 27 a=true∧closed a=true:=by
 obtain⟨a7,h7,rfl⟩:=h
 have k7:=eG h7
 exact⟨by simp[aF,ik,fV,il,k7.2.2],by simp[closed,bf,k7.2.1]⟩
theorem VR(x:wK)(a:AV)(H:aq den)(h:LQ x a):R T H (O7 x) a:=by
 obtain⟨a7,a27,h7,h27,rfl⟩:=h
 unfold O7
 simp only[R]
 refine⟨_,rfl,?_⟩
 simp only[RL,R,and_true,true_and]
 exact⟨h7,h27⟩
theorem VU(v:V)(x:wK)(a:AV)(H:aq den)(h:O8 v=some x)(hr:R T H v a):LQ x a:=by
 unfold O8 at h
 split at h
 ·simp only[Option.bind_eq_some_iff,Option.some.injEq]at h
  obtain⟨b0,g0,b1,g1,b2,g2,b3,g3,b4,g4,b5,g5,b6,g6,b7,g7,b8,g8,b9,g9,yz,Lf,vf,Pd,EC,Pe,uA,Pf,lA,Pg,Db,VP,B7,Zl,Gg,Zm,L9,Zn,NW,g19,U1,g20,U2,g21,Kh,g22,Qq,g23,YN,g24,Ri,g25,UX,g26,Qo,g27,rfl⟩:=h
  simp only[R]at hr
  obtain⟨_,rfl,hl⟩:=hr
  obtain⟨c0,_,rfl,r0,hl⟩:=cm.1 hl
  obtain⟨c1,_,rfl,r1,hl⟩:=cm.1 hl
  obtain⟨c2,_,rfl,r2,hl⟩:=cm.1 hl
  obtain⟨c3,_,rfl,r3,hl⟩:=cm.1 hl
  obtain⟨c4,_,rfl,r4,hl⟩:=cm.1 hl
  obtain⟨c5,_,rfl,r5,hl⟩:=cm.1 hl
  obtain⟨c6,_,rfl,r6,hl⟩:=cm.1 hl
  obtain⟨c7,_,rfl,r7,hl⟩:=cm.1 hl
  obtain⟨c8,_,rfl,r8,hl⟩:=cm.1 hl
  obtain⟨c9,_,rfl,r9,hl⟩:=cm.1 hl
  obtain⟨Zd,_,rfl,Ph,hl⟩:=cm.1 hl
  obtain⟨Ze,_,rfl,Pj,hl⟩:=cm.1 hl
  obtain⟨Zf,_,rfl,Pk,hl⟩:=cm.1 hl
  obtain⟨Zg,_,rfl,Pm,hl⟩:=cm.1 hl
  obtain⟨Zh,_,rfl,Pn,hl⟩:=cm.1 hl
  obtain⟨c15,_,rfl,VQ,hl⟩:=cm.1 hl
  obtain⟨c16,_,rfl,Zo,hl⟩:=cm.1 hl
  obtain⟨c17,_,rfl,Zp,hl⟩:=cm.1 hl
  obtain⟨c18,_,rfl,Zq,hl⟩:=cm.1 hl
  obtain⟨c19,_,rfl,r19,hl⟩:=cm.1 hl
  obtain⟨c20,_,rfl,r20,hl⟩:=cm.1 hl
  obtain⟨c21,_,rfl,r21,hl⟩:=cm.1 hl
  obtain⟨c22,_,rfl,r22,hl⟩:=cm.1 hl
  obtain⟨c23,_,rfl,r23,hl⟩:=cm.1 hl
  obtain⟨c24,_,rfl,r24,hl⟩:=cm.1 hl
  obtain⟨c25,_,rfl,r25,hl⟩:=cm.1 hl
  obtain⟨c26,_,rfl,r26,hl⟩:=cm.1 hl
  obtain⟨c27,_,rfl,r27,hl⟩:=cm.1 hl
  cases Pb.1 hl
  cases aB (T:=T) g0 r0
  cases aB (T:=T) g1 r1
  cases aB (T:=T) g2 r2
  cases aB (T:=T) g3 r3
  cases aB (T:=T) g4 r4
  cases aB (T:=T) g5 r5
  cases aB (T:=T) g6 r6
  have e7:=eV (T:=T) (e:=57) (fun _ _ _ h hr=>eV (T:=T) (e:=83) (fun _ _ _ h hr=>wN _ _ _ H h hr) h hr) g7 r7
  cases aB (T:=T) g8 r8
  cases aB (T:=T) g9 r9
  cases aB (T:=T) Lf Ph
  cases aB (T:=T) Pd Pj
  cases aB (T:=T) Pe Pk
  cases aB (T:=T) Pf Pm
  cases aB (T:=T) Pg Pn
  cases aB (T:=T) VP VQ
  cases aB (T:=T) Zl Zo
  cases sM (T:=T) Zm Zp
  cases aB (T:=T) Zn Zq
  cases aB (T:=T) g19 r19
  cases aB (T:=T) g20 r20
  cases aB (T:=T) g21 r21
  cases aB (T:=T) g22 r22
  cases aB (T:=T) g23 r23
  cases sM (T:=T) g24 r24
  cases sM (T:=T) g25 r25
  cases aB (T:=T) g26 r26
  have e27:=eV (T:=T) (e:=30) (fun _ _ _ h hr=>Pc _ _ _ H h hr) g27 r27
  exact⟨_,_,e7,e27,rfl⟩
 ·simp at h
theorem Zs(x:wK)(a:AV)(h:LQ x a):aF true 28 a=true∧closed a=true:=by
 obtain⟨a7,a27,h7,h27,rfl⟩:=h
 have k7:=eG h7
 have k27:=eG h27
 exact⟨by simp[aF,ik,fV,il,k7.2.2,k27.2.2],by simp[closed,bf,k7.2.1,k27.2.1]⟩
theorem BN(x:Queue)(a:AV)(H:aq den)(h:wL x a):R T H (yW x) a:=by
 obtain⟨a5,h5,rfl⟩:=h
 unfold yW
 simp only[R]
 refine⟨_,rfl,?_⟩
 simp only[RL,R,and_true,true_and]
 exact h5
theorem BO(v:V)(x:Queue)(a:AV)(H:aq den)(h:yX v=some x)(hr:R T H v a):wL x a:=by
 unfold yX at h
 split at h
 ·simp only[Option.bind_eq_some_iff,Option.some.injEq]at h
  obtain⟨b0,g0,b1,g1,b2,g2,b3,g3,b4,g4,b5,g5,b6,g6,b7,g7,b8,g8,b9,g9,yz,Lf,vf,Pd,EC,Pe,uA,Pf,lA,Pg,rfl⟩:=h
  simp only[R]at hr
  obtain⟨_,rfl,hl⟩:=hr
  obtain⟨c0,_,rfl,r0,hl⟩:=cm.1 hl
  obtain⟨c1,_,rfl,r1,hl⟩:=cm.1 hl
  obtain⟨c2,_,rfl,r2,hl⟩:=cm.1 hl
  obtain⟨c3,_,rfl,r3,hl⟩:=cm.1 hl
  obtain⟨c4,_,rfl,r4,hl⟩:=cm.1 hl
  obtain⟨c5,_,rfl,r5,hl⟩:=cm.1 hl
  obtain⟨c6,_,rfl,r6,hl⟩:=cm.1 hl
  obtain⟨c7,_,rfl,r7,hl⟩:=cm.1 hl
  obtain⟨c8,_,rfl,r8,hl⟩:=cm.1 hl
  obtain⟨c9,_,rfl,r9,hl⟩:=cm.1 hl
  obtain⟨Zd,_,rfl,Ph,hl⟩:=cm.1 hl
  obtain⟨Ze,_,rfl,Pj,hl⟩:=cm.1 hl
  obtain⟨Zf,_,rfl,Pk,hl⟩:=cm.1 hl
  obtain⟨Zg,_,rfl,Pm,hl⟩:=cm.1 hl
  obtain⟨Zh,_,rfl,Pn,hl⟩:=cm.1 hl
  cases Pb.1 hl
  cases aB (T:=T) g0 r0
  cases aB (T:=T) g1 r1
  cases aB (T:=T) g2 r2
  cases aB (T:=T) g3 r3
  cases aB (T:=T) g4 r4
  have e5:=eV (T:=T) (e:=57) (fun _ _ _ h hr=>eV (T:=T) (e:=83) (fun _ _ _ h hr=>wN _ _ _ H h hr) h hr) g5 r5
  cases aB (T:=T) g6 r6
  cases aB (T:=T) g7 r7
  cases aB (T:=T) g8 r8
  cases aB (T:=T) g9 r9
  cases aB (T:=T) Lf Ph
  cases aB (T:=T) Pd Pj
  cases aB (T:=T) Pe Pk
  cases aB (T:=T) Pf Pm
  cases aB (T:=T) Pg Pn
  exact⟨_,e5,rfl⟩
 ·simp at h
theorem KB(x:Queue)(a:AV)(h:wL x a):aF true 15 a=true∧closed a=true:=by
 obtain⟨a5,h5,rfl⟩:=h
 have k5:=eG h5
 exact⟨by simp[aF,ik,fV,il,k5.2.2],by simp[closed,bf,k5.2.1]⟩
theorem Po(x:oT)(a:AV)(H:aq den)(h:DA x a):R T H (Hk x) a:=by
 obtain⟨a5,h5,rfl⟩:=h
 unfold Hk
 simp only[R]
 refine⟨_,rfl,?_⟩
 simp only[RL,R,and_true,true_and]
 exact h5
theorem Pp(v:V)(x:oT)(a:AV)(H:aq den)(h:Hl v=some x)(hr:R T H v a):DA x a:=by
 unfold Hl at h
 split at h
 ·simp only[Option.bind_eq_some_iff,Option.some.injEq]at h
  obtain⟨b0,g0,b1,g1,b2,g2,b3,g3,b4,g4,b5,g5,b6,g6,b7,g7,b8,g8,b9,g9,yz,Lf,vf,Pd,EC,Pe,uA,Pf,lA,Pg,Db,VP,rfl⟩:=h
  simp only[R]at hr
  obtain⟨_,rfl,hl⟩:=hr
  obtain⟨c0,_,rfl,r0,hl⟩:=cm.1 hl
  obtain⟨c1,_,rfl,r1,hl⟩:=cm.1 hl
  obtain⟨c2,_,rfl,r2,hl⟩:=cm.1 hl
  obtain⟨c3,_,rfl,r3,hl⟩:=cm.1 hl
  obtain⟨c4,_,rfl,r4,hl⟩:=cm.1 hl
  obtain⟨c5,_,rfl,r5,hl⟩:=cm.1 hl
  obtain⟨c6,_,rfl,r6,hl⟩:=cm.1 hl
  obtain⟨c7,_,rfl,r7,hl⟩:=cm.1 hl
  obtain⟨c8,_,rfl,r8,hl⟩:=cm.1 hl
  obtain⟨c9,_,rfl,r9,hl⟩:=cm.1 hl
  obtain⟨Zd,_,rfl,Ph,hl⟩:=cm.1 hl
  obtain⟨Ze,_,rfl,Pj,hl⟩:=cm.1 hl
  obtain⟨Zf,_,rfl,Pk,hl⟩:=cm.1 hl
  obtain⟨Zg,_,rfl,Pm,hl⟩:=cm.1 hl
  obtain⟨Zh,_,rfl,Pn,hl⟩:=cm.1 hl
  obtain⟨c15,_,rfl,VQ,hl⟩:=cm.1 hl
  cases Pb.1 hl
  cases aB (T:=T) g0 r0
  cases aB (T:=T) g1 r1
  cases aB (T:=T) g2 r2
  cases aB (T:=T) g3 r3
  cases aB (T:=T) g4 r4
  have e5:=eV (T:=T) (e:=57) (fun _ _ _ h hr=>eV (T:=T) (e:=83) (fun _ _ _ h hr=>wN _ _ _ H h hr) h hr) g5 r5
  cases aB (T:=T) g6 r6
  cases aB (T:=T) g7 r7
  cases aB (T:=T) g8 r8
  cases aB (T:=T) g9 r9
  cases aB (T:=T) Lf Ph
  cases aB (T:=T) Pd Pj
  cases aB (T:=T) Pe Pk
  cases aB (T:=T) Pf Pm
  cases aB (T:=T) Pg Pn
  cases aB (T:=T) VP VQ
  exact⟨_,e5,rfl⟩
 ·simp at h
theorem Tj(x:oT)(a:AV)(h:DA x a):aF true 16 a=true∧closed a=true:=by
 obtain⟨a5,h5,rfl⟩:=h
 have k5:=eG h5
 exact⟨by simp[aF,ik,fV,il,k5.2.2],by simp[closed,bf,k5.2.1]⟩
theorem Zt(x:A2 (List ai))(a:AV)(H:aq den)(h:KA x a):R T H (O9 x) a:=by
 obtain⟨a0,a1,h0,h1,rfl⟩:=h
 unfold O9
 simp only[R]
 refine⟨_,rfl,?_⟩
 simp only[RL,R,and_true,true_and]
 exact⟨h0,h1⟩
theorem Zu(v:V)(x:A2 (List ai))(a:AV)(H:aq den)(h:Pa v=some x)(hr:R T H v a):KA x a:=by
 unfold Pa at h
 split at h
 ·simp only[Option.bind_eq_some_iff,Option.some.injEq]at h
  obtain⟨b0,g0,b1,g1,rfl⟩:=h
  simp only[R]at hr
  obtain⟨_,rfl,hl⟩:=hr
  obtain⟨c0,_,rfl,r0,hl⟩:=cm.1 hl
  obtain⟨c1,_,rfl,r1,hl⟩:=cm.1 hl
  cases Pb.1 hl
  have e0:=eV (T:=T) (e:=83) (fun _ _ _ h hr=>wN _ _ _ H h hr) g0 r0
  have e1:=eV (T:=T) (e:=83) (fun _ _ _ h hr=>wN _ _ _ H h hr) g1 r1
  exact⟨_,_,e0,e1,rfl⟩
 ·simp at h
theorem Zv(x:A2 (List ai))(a:AV)(h:KA x a):aF true 2 a=true∧closed a=true:=by
 obtain⟨a0,a1,h0,h1,rfl⟩:=h
 have k0:=eG h0
 have k1:=eG h1
 exact⟨by simp[aF,ik,fV,il,k0.2.2,k1.2.2],by simp[closed,bf,k0.2.1,k1.2.1]⟩
theorem Pq(x:lV)(a:AV)(H:aq den)(h:DB x a):R T H (Hm x) a:=by
 obtain⟨a5,a15,a16,a18,h5,h15,h16,h18,rfl⟩:=h
 unfold Hm
 simp only[R]
 refine⟨_,rfl,?_⟩
 simp only[RL,R,and_true,true_and]
 exact⟨h5,h15,h16,h18⟩
theorem Pr(v:V)(x:lV)(a:AV)(H:aq den)(h:Hn v=some x)(hr:R T H v a):DB x a:=by
 unfold Hn at h
 split at h
 ·simp only[Option.bind_eq_some_iff,Option.some.injEq]at h
  obtain⟨b0,g0,b1,g1,b2,g2,b3,g3,b4,g4,b5,g5,b6,g6,b7,g7,b8,g8,b9,g9,yz,Lf,vf,Pd,EC,Pe,uA,Pf,lA,Pg,Db,VP,B7,Zl,Gg,Zm,L9,Zn,rfl⟩:=h
  simp only[R]at hr
  obtain⟨_,rfl,hl⟩:=hr
  obtain⟨c0,_,rfl,r0,hl⟩:=cm.1 hl
  obtain⟨c1,_,rfl,r1,hl⟩:=cm.1 hl
  obtain⟨c2,_,rfl,r2,hl⟩:=cm.1 hl
  obtain⟨c3,_,rfl,r3,hl⟩:=cm.1 hl
  obtain⟨c4,_,rfl,r4,hl⟩:=cm.1 hl
  obtain⟨c5,_,rfl,r5,hl⟩:=cm.1 hl
  obtain⟨c6,_,rfl,r6,hl⟩:=cm.1 hl
  obtain⟨c7,_,rfl,r7,hl⟩:=cm.1 hl
  obtain⟨c8,_,rfl,r8,hl⟩:=cm.1 hl
  obtain⟨c9,_,rfl,r9,hl⟩:=cm.1 hl
  obtain⟨Zd,_,rfl,Ph,hl⟩:=cm.1 hl
  obtain⟨Ze,_,rfl,Pj,hl⟩:=cm.1 hl
  obtain⟨Zf,_,rfl,Pk,hl⟩:=cm.1 hl
  obtain⟨Zg,_,rfl,Pm,hl⟩:=cm.1 hl
  obtain⟨Zh,_,rfl,Pn,hl⟩:=cm.1 hl
  obtain⟨c15,_,rfl,VQ,hl⟩:=cm.1 hl
  obtain⟨c16,_,rfl,Zo,hl⟩:=cm.1 hl
  obtain⟨c17,_,rfl,Zp,hl⟩:=cm.1 hl
  obtain⟨c18,_,rfl,Zq,hl⟩:=cm.1 hl
  cases Pb.1 hl
  cases aB (T:=T) g0 r0
  cases aB (T:=T) g1 r1
  cases aB (T:=T) g2 r2
  cases aB (T:=T) g3 r3
  cases aB (T:=T) g4 r4
  have e5:=eV (T:=T) (e:=57) (fun _ _ _ h hr=>eV (T:=T) (e:=83) (fun _ _ _ h hr=>wN _ _ _ H h hr) h hr) g5 r5
  cases aB (T:=T) g6 r6
  cases aB (T:=T) g7 r7
  cases aB (T:=T) g8 r8
  cases aB (T:=T) g9 r9
  cases aB (T:=T) Lf Ph
  cases aB (T:=T) Pd Pj
  cases aB (T:=T) Pe Pk
  cases aB (T:=T) Pf Pm
  cases aB (T:=T) Pg Pn
  have e15:=eV (T:=T) (e:=83) (fun _ _ _ h hr=>wN _ _ _ H h hr) VP VQ
  have e16:=eV (T:=T) (e:=83) (fun _ _ _ h hr=>wN _ _ _ H h hr) Zl Zo
  cases aB (T:=T) Zm Zp
  have e18:=eV (T:=T) (e:=30) (fun _ _ _ h hr=>Pc _ _ _ H h hr) Zn Zq
  exact⟨_,_,_,_,e5,e15,e16,e18,rfl⟩
 ·simp at h
theorem Tk(x:lV)(a:AV)(h:DB x a):aF true 19 a=true∧closed a=true:=by
 obtain⟨a5,a15,a16,a18,h5,h15,h16,h18,rfl⟩:=h
 have k5:=eG h5
 have k15:=eG h15
 have k16:=eG h16
 have k18:=eG h18
 exact⟨by simp[aF,ik,fV,il,k5.2.2,k15.2.2,k16.2.2,k18.2.2],by simp[closed,bf,k5.2.1,k15.2.1,k16.2.1,k18.2.1]⟩
theorem adU(t:Nat)(x:den t)(a:AV)(H:aq den)(h:rp t x a):R T H (up t x) a:=by
 unfold rp at h
 split at h
 ·exact uL (T:=T) h
 ·exact uL (T:=T) h
 ·exact uL (T:=T) h
 ·exact uL (T:=T) h
 ·exact Y5 _ _ H h
 ·exact Y5 _ _ H h
 ·exact uG (T:=T) (e:=57) h
 ·exact adA _ _ H h
 ·exact uL (T:=T) h
 ·exact Zb _ _ H h
 ·exact Zb _ _ H h
 ·exact Y8 _ _ H h
 ·exact Y8 _ _ H h
 ·exact Zj _ _ H h
 ·exact Zj _ _ H h
 ·exact uG (T:=T) (e:=30) h
 ·exact uL (T:=T) h
 ·exact uG (T:=T) (e:=83) h
 ·exact VR _ _ H h
 ·exact VR _ _ H h
 ·exact Za _ _ H h
 ·exact Za _ _ H h
 ·exact BN _ _ H h
 ·exact BN _ _ H h
 ·exact BN _ _ H h
 ·exact uG (T:=T) (e:=3) h
 ·exact Po _ _ H h
 ·exact Po _ _ H h
 ·exact BN _ _ H h
 ·exact Zt _ _ H h
 ·exact Pq _ _ H h
 ·exact Pq _ _ H h
 ·exact uP (T:=T) (fun b hb=>VR _ _ H hb) rfl h
 ·exact uP (T:=T) (fun b hb=>BN _ _ H hb) rfl h
 ·exact uP (T:=T) (fun b hb=>Po _ _ H hb) rfl h
 ·exact uP (T:=T) (fun b hb=>BN _ _ H hb) rfl h
 ·exact uP (T:=T) (fun b hb=>Pq _ _ H hb) rfl h
 ·exact uP (T:=T) (fun b hb=>uP (T:=T) (fun b hb=>BN _ _ H hb) rfl hb) rfl h
 ·exact uP (T:=T) (fun b hb=>uL (T:=T) hb) rfl h
 ·exact h.elim
theorem adV(t:Nat)(v:V)(x:den t)(a:AV)(H:aq den)(h:dn t v=some x)(hr:R T H v a):rp t x a:=by
 revert x h hr
 refine dn.fun_cases_unfolding (motive:=fun t v r=>∀ (x:den t),r=some x→R T H v a→rp t x a) ?_ ?_ ?_ ?_ ?_ ?_ ?_ ?_ ?_ ?_ ?_ ?_ ?_ ?_ ?_ ?_ ?_ ?_ ?_ ?_ ?_ ?_ ?_ ?_ ?_ ?_ ?_ ?_ ?_ ?_ ?_ ?_ ?_ ?_ ?_ ?_ ?_ ?_ ?_ ?_ t v
 ·intro v x h hr; exact aB (T:=T) h hr
 ·intro v x h hr; exact aB (T:=T) h hr
 ·intro v x h hr; exact sM (T:=T) h hr
 ·intro v x h hr; exact YL (T:=T) h hr
 ·intro v x h hr; exact Y6 _ _ _ H h hr
 ·intro v x h hr; exact Y6 _ _ _ H h hr
 ·intro v x h hr; exact eV (T:=T) (e:=57) (fun _ _ _ h hr=>eV (T:=T) (e:=83) (fun _ _ _ h hr=>wN _ _ _ H h hr) h hr) h hr
 ·intro v x h hr; exact adB _ _ _ H h hr
 ·intro v x h hr; exact aB (T:=T) h hr
 ·intro v x h hr; exact Zc _ _ _ H h hr
 ·intro v x h hr; exact Zc _ _ _ H h hr
 ·intro v x h hr; exact Pc _ _ _ H h hr
 ·intro v x h hr; exact Pc _ _ _ H h hr
 ·intro v x h hr; exact Zk _ _ _ H h hr
 ·intro v x h hr; exact Zk _ _ _ H h hr
 ·intro v x h hr; exact eV (T:=T) (e:=30) (fun _ _ _ h hr=>Pc _ _ _ H h hr) h hr
 ·intro v x h hr; exact aB (T:=T) h hr
 ·intro v x h hr; exact eV (T:=T) (e:=83) (fun _ _ _ h hr=>wN _ _ _ H h hr) h hr
 ·intro v x h hr; exact VU _ _ _ H h hr
 ·intro v x h hr; exact VU _ _ _ H h hr
 ·intro v x h hr; exact wN _ _ _ H h hr
 ·intro v x h hr; exact wN _ _ _ H h hr
 ·intro v x h hr; exact BO _ _ _ H h hr
 ·intro v x h hr; exact BO _ _ _ H h hr
 ·intro v x h hr; exact BO _ _ _ H h hr
 ·intro v x h hr; exact eV (T:=T) (e:=3) (fun _ _ _ h hr=>aB (T:=T) h hr) h hr
 ·intro v x h hr; exact Pp _ _ _ H h hr
 ·intro v x h hr; exact Pp _ _ _ H h hr
 ·intro v x h hr; exact BO _ _ _ H h hr
 ·intro v x h hr; exact Zu _ _ _ H h hr
 ·intro v x h hr; exact Pr _ _ _ H h hr
 ·intro v x h hr; exact Pr _ _ _ H h hr
 ·intro v x h hr; exact sN (T:=T) (fun _ _ h hr=>VU _ _ _ H h hr) h hr
 ·intro v x h hr; exact sN (T:=T) (fun _ _ h hr=>BO _ _ _ H h hr) h hr
 ·intro v x h hr; exact sN (T:=T) (fun _ _ h hr=>Pp _ _ _ H h hr) h hr
 ·intro v x h hr; exact sN (T:=T) (fun _ _ h hr=>BO _ _ _ H h hr) h hr
 ·intro v x h hr; exact sN (T:=T) (fun _ _ h hr=>Pr _ _ _ H h hr) h hr
 ·intro v x h hr; exact sN (T:=T) (fun _ _ h hr=>sN (T:=T) (fun _ _ h hr=>BO _ _ _ H h hr) h hr) h hr
 ·intro v x h hr; exact sN (T:=T) (fun _ _ h hr=>aB (T:=T) h hr) h hr
 ·intros; rename_i h _; cases h
theorem Zw(t:Nat)(x:den t)(a:AV)(h:rp t x a):aF (Y0 t) (Th t) a=true∧closed a=true:=by
 unfold rp at h
 split at h
 ·exact Hg (eI h)
 ·exact Hg (eI h)
 ·exact Hg (eB h)
 ·exact Hg (eS h)
 ·exact Y7 _ _ h
 ·exact Y7 _ _ h
 ·exact Hg (eG h)
 ·exact adC _ _ h
 ·exact Hg (eI h)
 ·exact Zi _ _ h
 ·exact Zi _ _ h
 ·exact Y9 _ _ h
 ·exact Y9 _ _ h
 ·exact Zr _ _ h
 ·exact Zr _ _ h
 ·exact Hg (eG h)
 ·exact Hg (eI h)
 ·exact Hg (eG h)
 ·exact Zs _ _ h
 ·exact Zs _ _ h
 ·exact Vr _ _ h
 ·exact Vr _ _ h
 ·exact KB _ _ h
 ·exact KB _ _ h
 ·exact KB _ _ h
 ·exact Hg (eG h)
 ·exact Tj _ _ h
 ·exact Tj _ _ h
 ·exact KB _ _ h
 ·exact Zv _ _ h
 ·exact Tk _ _ h
 ·exact Tk _ _ h
 ·exact Hg (eP h)
 ·exact Hg (eP h)
 ·exact Hg (eP h)
 ·exact Hg (eP h)
 ·exact Hg (eP h)
 ·exact Hg (eP h)
 ·exact Hg (eP h)
 ·exact h.elim
theorem TOk:T.Ok:=⟨fun t x a H h=>adU t x a H h,fun t v x a H h hr=>adV t v x a H h hr,fun t x a h=>(Zw t x a h).1,fun t x a h=>(Zw t x a h).2⟩
theorem nW:iM.Ok ⟨Tryz.prog,Oo,fun _=>false⟩:=iM.Ok.of (by kernel_rfl) (by kernel_rfl) (by kernel_rfl) (by kernel_rfl) (by kernel_rfl)
def ZP(q:Nat×jS):Prop:=∀ z za,Ti q.1=some z→q.2.zero=some za→rp q.1 z za
theorem ZOk:T.wz ⟨Tryz.prog,Oo,fun _=>false⟩:=by
 intro t m z za h1 h2 h3
 have hm:=fS h1
 have all:∀ q,q∈Oo→ZP q:=by
  unfold Oo
  intro q hq
  simp only[List.mem_cons,List.not_mem_nil,or_false]at hq
  rcases hq with rfl|rfl|rfl|rfl|rfl|rfl|rfl|rfl|rfl|rfl|rfl|rfl|rfl|rfl|rfl|rfl|rfl|rfl|rfl|rfl|rfl|rfl|rfl|rfl|rfl|rfl|rfl|rfl|rfl|rfl|rfl|rfl|rfl|rfl|rfl|rfl|rfl|rfl|rfl|rfl|rfl|rfl|rfl|rfl|rfl|rfl|rfl|rfl|rfl|rfl|rfl|rfl|rfl|rfl|rfl|rfl|rfl|rfl|rfl|rfl|rfl|rfl|rfl|rfl|rfl|rfl|rfl|rfl|rfl|rfl|rfl|rfl|rfl|rfl|rfl|rfl|rfl|rfl|rfl|rfl|rfl|rfl|rfl|rfl|rfl|rfl|rfl|rfl|rfl|rfl|rfl|rfl|rfl|rfl|rfl|rfl|rfl|rfl|rfl|rfl|rfl|rfl|rfl|rfl|rfl|rfl|rfl|rfl|rfl|rfl|rfl|rfl|rfl|rfl|rfl|rfl|rfl|rfl|rfl|rfl|rfl|rfl|rfl|rfl|rfl|rfl|rfl|rfl|rfl|rfl|rfl|rfl|rfl|rfl|rfl|rfl|rfl|rfl|rfl|rfl|rfl|rfl|rfl|rfl|rfl|rfl|rfl|rfl|rfl
  ·exact fun _ _ h _=>zn h
  ·exact fun _ _ h1 h2=>zz h1 h2 (rfl)
  ·exact fun _ _ h1 h2=>zz h1 h2 (rfl)
  ·exact fun _ _ h1 h2=>zz h1 h2 (rfl)
  ·exact fun _ _ h _=>zn h
  ·exact fun _ _ h _=>zn h
  ·exact fun _ _ h _=>zn h
  ·exact fun _ _ h _=>zn h
  ·exact fun _ _ h1 h2=>zz h1 h2 (rfl)
  ·exact fun _ _ h _=>zn h
  ·exact fun _ _ h _=>zn h
  ·exact fun _ _ h _=>zn h
  ·exact fun _ _ h _=>zn h
  ·exact fun _ _ h _=>zn h
  ·exact fun _ _ h _=>zn h
  ·exact fun _ _ h _=>zn h
  ·exact fun _ _ h _=>zn h
  ·exact fun _ _ h _=>zn h
  ·exact fun _ _ h _=>zn h
  ·exact fun _ _ h _=>zn h
  ·exact fun _ _ h _=>zn h
  ·exact fun _ _ h1 h2=>zz h1 h2 (rfl)
  ·exact fun _ _ h1 h2=>zz h1 h2 (rfl)
  ·exact fun _ _ h1 h2=>zz h1 h2 (.inr ⟨rfl,rfl⟩)
  ·exact fun _ _ h1 h2=>zz h1 h2 (rfl)
  ·exact fun _ _ h1 h2=>zz h1 h2 (rfl)
  ·exact fun _ _ h1 h2=>zz h1 h2 (⟨_,.inr ⟨rfl,rfl⟩,rfl⟩)
  ·exact fun _ _ h1 h2=>zz h1 h2 (⟨_,.inr ⟨rfl,rfl⟩,rfl⟩)
  ·exact fun _ _ h1 h2=>zz h1 h2 (rfl)
  ·exact fun _ _ h1 h2=>zz h1 h2 (rfl)
  ·exact fun _ _ h1 h2=>zz h1 h2 (⟨_,.inr ⟨rfl,rfl⟩,rfl⟩)
  ·exact fun _ _ h1 h2=>zz h1 h2 (⟨_,.inr ⟨rfl,rfl⟩,rfl⟩)
  ·exact fun _ _ h _=>zn h
  ·exact fun _ _ h _=>zn h
  ·exact fun _ _ h _=>zn h
  ·exact fun _ _ h1 h2=>zz h1 h2 (.inr ⟨rfl,rfl⟩)
  ·exact fun _ _ h1 h2=>zz h1 h2 (rfl)
  ·exact fun _ _ h _=>zn h
  ·exact fun _ _ h _=>zn h
  ·exact fun _ _ h _=>zn h
  ·exact fun _ _ h _=>zn h
  ·exact fun _ _ h _=>zn h
  ·exact fun _ _ h _=>zn h
  ·exact fun _ _ h _=>zn h
  ·exact fun _ _ h _=>zn h
  ·exact fun _ _ h _=>zn h
  ·exact fun _ _ h _=>zn h
  ·exact fun _ _ h _=>zn h
  ·exact fun _ _ h _=>zn h
  ·exact fun _ _ h _=>zn h
  ·exact fun _ _ h _=>zn h
  ·exact fun _ _ h _=>zn h
  ·exact fun _ _ h1 h2=>zz h1 h2 (.inr ⟨rfl,rfl⟩)
  ·exact fun _ _ h _=>zn h
  ·exact fun _ _ h _=>zn h
  ·exact fun _ _ h1 h2=>zz h1 h2 (⟨_,_,.inr ⟨rfl,rfl⟩,.inr ⟨rfl,rfl⟩,rfl⟩)
  ·exact fun _ _ h1 h2=>zz h1 h2 (⟨_,_,.inr ⟨rfl,rfl⟩,.inr ⟨rfl,rfl⟩,rfl⟩)
  ·exact fun _ _ h _=>zn h
  ·exact fun _ _ h _=>zn h
  ·exact fun _ _ h _=>zn h
  ·exact fun _ _ h _=>zn h
  ·exact fun _ _ h _=>zn h
  ·exact fun _ _ h _=>zn h
  ·exact fun _ _ h _=>zn h
  ·exact fun _ _ h _=>zn h
  ·exact fun _ _ h _=>zn h
  ·exact fun _ _ h _=>zn h
  ·exact fun _ _ h _=>zn h
  ·exact fun _ _ h _=>zn h
  ·exact fun _ _ h _=>zn h
  ·exact fun _ _ h _=>zn h
  ·exact fun _ _ h _=>zn h
  ·exact fun _ _ h1 h2=>zz h1 h2 (rfl)
  ·exact fun _ _ h1 h2=>zz h1 h2 (rfl)
  ·exact fun _ _ h _=>zn h
  ·exact fun _ _ h _=>zn h
  ·exact fun _ _ h _=>zn h
  ·exact fun _ _ h _=>zn h
  ·exact fun _ _ h _=>zn h
  ·exact fun _ _ h _=>zn h
  ·exact fun _ _ h _=>zn h
  ·exact fun _ _ h _=>zn h
  ·exact fun _ _ h _=>zn h
  ·exact fun _ _ h _=>zn h
  ·exact fun _ _ h _=>zn h
  ·exact fun _ _ h _=>zn h
  ·exact fun _ _ h _=>zn h
  ·exact fun _ _ h _=>zn h
  ·exact fun _ _ h _=>zn h
  ·exact fun _ _ h _=>zn h
  ·exact fun _ _ h _=>zn h
  ·exact fun _ _ h1 h2=>zz h1 h2 (⟨_,.inr ⟨rfl,rfl⟩,rfl⟩)
  ·exact fun _ _ h1 h2=>zz h1 h2 (⟨_,.inr ⟨rfl,rfl⟩,rfl⟩)
  ·exact fun _ _ h _=>zn h
  ·exact fun _ _ h _=>zn h
  ·exact fun _ _ h _=>zn h
  ·exact fun _ _ h _=>zn h
  ·exact fun _ _ h _=>zn h
  ·exact fun _ _ h1 h2=>zz h1 h2 (⟨_,.inr ⟨rfl,rfl⟩,rfl⟩)
  ·exact fun _ _ h _=>zn h
  ·exact fun _ _ h _=>zn h
  ·exact fun _ _ h _=>zn h
  ·exact fun _ _ h1 h2=>zz h1 h2 (.inr ⟨rfl,rfl⟩)
  ·exact fun _ _ h _=>zn h
  ·exact fun _ _ h _=>zn h
  ·exact fun _ _ h1 h2=>zz h1 h2 (⟨_,.inr ⟨rfl,rfl⟩,rfl⟩)
  ·exact fun _ _ h1 h2=>zz h1 h2 (⟨_,.inr ⟨rfl,rfl⟩,rfl⟩)
  ·exact fun _ _ h _=>zn h
  ·exact fun _ _ h _=>zn h
  ·exact fun _ _ h1 h2=>zz h1 h2 (⟨_,.inr ⟨rfl,rfl⟩,rfl⟩)
  ·exact fun _ _ h _=>zn h
  ·exact fun _ _ h _=>zn h
  ·exact fun _ _ h _=>zn h
  ·exact fun _ _ h _=>zn h
  ·exact fun _ _ h _=>zn h
  ·exact fun _ _ h _=>zn h
  ·exact fun _ _ h _=>zn h
  ·exact fun _ _ h _=>zn h
  ·exact fun _ _ h1 h2=>zz h1 h2 (⟨_,_,.inr ⟨rfl,rfl⟩,.inr ⟨rfl,rfl⟩,rfl⟩)
  ·exact fun _ _ h1 h2=>zz h1 h2 (⟨_,_,_,_,.inr ⟨rfl,rfl⟩,.inr ⟨rfl,rfl⟩,.inr ⟨rfl,rfl⟩,.inr ⟨rfl,rfl⟩,rfl⟩)
  ·exact fun _ _ h1 h2=>zz h1 h2 (⟨_,_,_,_,.inr ⟨rfl,rfl⟩,.inr ⟨rfl,rfl⟩,.inr ⟨rfl,rfl⟩,.inr ⟨rfl,rfl⟩,rfl⟩)
  ·exact fun _ _ h _=>zn h
  ·exact fun _ _ h _=>zn h
  ·exact fun _ _ h _=>zn h
  ·exact fun _ _ h _=>zn h
  ·exact fun _ _ h _=>zn h
  ·exact fun _ _ h _=>zn h
  ·exact fun _ _ h _=>zn h
  ·exact fun _ _ h _=>zn h
  ·exact fun _ _ h _=>zn h
  ·exact fun _ _ h _=>zn h
  ·exact fun _ _ h _=>zn h
  ·exact fun _ _ h _=>zn h
  ·exact fun _ _ h _=>zn h
  ·exact fun _ _ h _=>zn h
  ·exact fun _ _ h _=>zn h
  ·exact fun _ _ h _=>zn h
  ·exact fun _ _ h _=>zn h
  ·exact fun _ _ h _=>zn h
  ·exact fun _ _ h _=>zn h
  ·exact fun _ _ h _=>zn h
  ·exact fun _ _ h _=>zn h
  ·exact fun _ _ h _=>zn h
  ·exact fun _ _ h _=>zn h
  ·exact fun _ _ h _=>zn h
  ·exact fun _ _ h _=>zn h
  ·exact fun _ _ h _=>zn h
  ·exact fun _ _ h _=>zn h
  ·exact fun _ _ h _=>zn h
 exact all _ hm z za h3 h2
theorem un3:Tryz.prog.underlying 3=some (.int .i64):=by kernel_rfl
def y8(x:Int):Prop:=IntKind.min .i64≤x∧x≤IntKind.max .i64
theorem BP{n:Nat}{l:List AV}(h:Shape Tryz.prog n 3 l):∃ x,y8 x∧∃ a,l=[a]∧wP x a:=by
 obtain⟨m,rfl,h1⟩:=Dz un3 h
 exact⟨m,h1,_,rfl,rfl⟩
theorem un4:Tryz.prog.underlying 4=some .bool:=by kernel_rfl
def wf4(_:Bool):Prop:=True
theorem sh4{n:Nat}{l:List AV}(h:Shape Tryz.prog n 4 l):∃ x,wf4 x∧∃ a,l=[a]∧YM x a:=by
 obtain⟨m,rfl⟩:=Jf un4 h
 exact⟨m,trivial,_,rfl,rfl⟩
def Zx(x:af):Prop:=y8 x.Kind∧y8 x.A∧y8 x.B∧y8 x.C
theorem VV:Tryz.prog.underlying 3=Tryz.prog.underlying 3:=by kernel_rfl
theorem VW:Tryz.prog.underlying 3=Tryz.prog.underlying 3:=by kernel_rfl
theorem VX:Tryz.prog.underlying 3=Tryz.prog.underlying 3:=by kernel_rfl
theorem VY:Tryz.prog.underlying 3=Tryz.prog.underlying 3:=by kernel_rfl
theorem adY{n:Nat}{l:List AV}(h:Shape Tryz.prog n 22 l):∃ x,Zx x∧Hh x (.agg l):=by
 obtain⟨hl,k,hf⟩:=kC nW (t:=22) rfl rfl h
 rw[aJ nW (t:=22) rfl]at hl
 have h0:=hf (0,3) (by simp)
 rw[aJ nW (t:=3) rfl]at h0
 replace h0:=aL (VV) h0
 have h1:=hf (1,3) (by simp)
 rw[aJ nW (t:=3) rfl]at h1
 replace h1:=aL (VW) h1
 have h2:=hf (2,3) (by simp)
 rw[aJ nW (t:=3) rfl]at h2
 replace h2:=aL (VX) h2
 have h3:=hf (3,3) (by simp)
 rw[aJ nW (t:=3) rfl]at h3
 replace h3:=aL (VY) h3
 match l,hl with
 |[a0,a1,a2,a3],_=>
  replace h0:Shape Tryz.prog k 3 [a0]:=h0
  obtain⟨x0,w0,b0,e0,r0⟩:=BP h0
  simp only[List.cons.injEq,and_true]at e0
  subst e0
  unfold wP at r0; subst r0
  replace h1:Shape Tryz.prog k 3 [a1]:=h1
  obtain⟨x1,w1,b1,e1,r1⟩:=BP h1
  simp only[List.cons.injEq,and_true]at e1
  subst e1
  unfold wP at r1; subst r1
  replace h2:Shape Tryz.prog k 3 [a2]:=h2
  obtain⟨x2,w2,b2,e2,r2⟩:=BP h2
  simp only[List.cons.injEq,and_true]at e2
  subst e2
  unfold wP at r2; subst r2
  replace h3:Shape Tryz.prog k 3 [a3]:=h3
  obtain⟨x3,w3,b3,e3,r3⟩:=BP h3
  simp only[List.cons.injEq,and_true]at e3
  subst e3
  unfold wP at r3; subst r3
  exact⟨⟨x0,x1,x2,x3⟩,⟨w0,w1,w2,w3⟩,rfl⟩
def VZ(x:an):Prop:=y8 x.aG∧y8 x.Sub∧y8 x.Number∧y8 x.Data∧y8 x.aA∧y8 x.aQ∧wf4 x.aI∧wf4 x.ay
theorem V0:Tryz.prog.underlying 3=Tryz.prog.underlying 3:=by kernel_rfl
theorem V1:Tryz.prog.underlying 3=Tryz.prog.underlying 3:=by kernel_rfl
theorem V2:Tryz.prog.underlying 3=Tryz.prog.underlying 3:=by kernel_rfl
theorem V3:Tryz.prog.underlying 3=Tryz.prog.underlying 3:=by kernel_rfl
theorem V4:Tryz.prog.underlying 3=Tryz.prog.underlying 3:=by kernel_rfl
theorem V5:Tryz.prog.underlying 3=Tryz.prog.underlying 3:=by kernel_rfl
theorem V6:Tryz.prog.underlying 4=Tryz.prog.underlying 4:=by kernel_rfl
theorem V7:Tryz.prog.underlying 4=Tryz.prog.underlying 4:=by kernel_rfl
theorem Vy{n:Nat}{l:List AV}(h:Shape Tryz.prog n 29 l):∃ x,VZ x∧EU x (.agg l):=by
 obtain⟨hl,k,hf⟩:=kC nW (t:=29) rfl rfl h
 rw[aJ nW (t:=29) rfl]at hl
 have h0:=hf (0,3) (by simp)
 rw[aJ nW (t:=3) rfl]at h0
 replace h0:=aL (V0) h0
 have h1:=hf (1,3) (by simp)
 rw[aJ nW (t:=3) rfl]at h1
 replace h1:=aL (V1) h1
 have h2:=hf (2,3) (by simp)
 rw[aJ nW (t:=3) rfl]at h2
 replace h2:=aL (V2) h2
 have h3:=hf (3,3) (by simp)
 rw[aJ nW (t:=3) rfl]at h3
 replace h3:=aL (V3) h3
 have h4:=hf (4,3) (by simp)
 rw[aJ nW (t:=3) rfl]at h4
 replace h4:=aL (V4) h4
 have h5:=hf (5,3) (by simp)
 rw[aJ nW (t:=3) rfl]at h5
 replace h5:=aL (V5) h5
 have h6:=hf (6,4) (by simp)
 rw[aJ nW (t:=4) rfl]at h6
 replace h6:=aL (V6) h6
 have h7:=hf (7,4) (by simp)
 rw[aJ nW (t:=4) rfl]at h7
 replace h7:=aL (V7) h7
 match l,hl with
 |[a0,a1,a2,a3,a4,a5,a6,a7],_=>
  replace h0:Shape Tryz.prog k 3 [a0]:=h0
  obtain⟨x0,w0,b0,e0,r0⟩:=BP h0
  simp only[List.cons.injEq,and_true]at e0
  subst e0
  unfold wP at r0; subst r0
  replace h1:Shape Tryz.prog k 3 [a1]:=h1
  obtain⟨x1,w1,b1,e1,r1⟩:=BP h1
  simp only[List.cons.injEq,and_true]at e1
  subst e1
  unfold wP at r1; subst r1
  replace h2:Shape Tryz.prog k 3 [a2]:=h2
  obtain⟨x2,w2,b2,e2,r2⟩:=BP h2
  simp only[List.cons.injEq,and_true]at e2
  subst e2
  unfold wP at r2; subst r2
  replace h3:Shape Tryz.prog k 3 [a3]:=h3
  obtain⟨x3,w3,b3,e3,r3⟩:=BP h3
  simp only[List.cons.injEq,and_true]at e3
  subst e3
  unfold wP at r3; subst r3
  replace h4:Shape Tryz.prog k 3 [a4]:=h4
  obtain⟨x4,w4,b4,e4,r4⟩:=BP h4
  simp only[List.cons.injEq,and_true]at e4
  subst e4
  unfold wP at r4; subst r4
  replace h5:Shape Tryz.prog k 3 [a5]:=h5
  obtain⟨x5,w5,b5,e5,r5⟩:=BP h5
  simp only[List.cons.injEq,and_true]at e5
  subst e5
  unfold wP at r5; subst r5
  replace h6:Shape Tryz.prog k 4 [a6]:=h6
  obtain⟨x6,w6,b6,e6,r6⟩:=sh4 h6
  simp only[List.cons.injEq,and_true]at e6
  subst e6
  unfold YM at r6; subst r6
  replace h7:Shape Tryz.prog k 4 [a7]:=h7
  obtain⟨x7,w7,b7,e7,r7⟩:=sh4 h7
  simp only[List.cons.injEq,and_true]at e7
  subst e7
  unfold YM at r7; subst r7
  exact⟨⟨x0,x1,x2,x3,x4,x5,x6,x7⟩,⟨w0,w1,w2,w3,w4,w5,w6,w7⟩,rfl⟩
def V8(x:ai):Prop:=VZ x.P∧y8 x.At
theorem V9:Tryz.prog.underlying 30=Tryz.prog.underlying 29:=by kernel_rfl
theorem Wa:Tryz.prog.underlying 3=Tryz.prog.underlying 3:=by kernel_rfl
theorem adZ{n:Nat}{l:List AV}(h:Shape Tryz.prog n 82 l):∃ x,V8 x∧u3 x (.agg l):=by
 obtain⟨hl,k,hf⟩:=kC nW (t:=82) rfl rfl h
 rw[aJ nW (t:=82) rfl]at hl
 have h0:=hf (0,30) (by simp)
 rw[aJ nW (t:=30) rfl]at h0
 replace h0:=aL (V9) h0
 have h1:=hf (8,3) (by simp)
 rw[aJ nW (t:=3) rfl]at h1
 replace h1:=aL (Wa) h1
 match l,hl with
 |[a0,a1,a2,a3,a4,a5,a6,a7,a8],_=>
  replace h0:Shape Tryz.prog k 29 [a0,a1,a2,a3,a4,a5,a6,a7]:=h0
  obtain⟨x0,w0,r0⟩:=Vy h0
  have e0:_=_:=r0
  simp only[AV.agg.injEq,List.cons.injEq,and_true]at e0
  obtain⟨rfl,rfl,rfl,rfl,rfl,rfl,rfl,rfl⟩:=e0
  replace h1:Shape Tryz.prog k 3 [a8]:=h1
  obtain⟨x1,w1,b1,e1,r1⟩:=BP h1
  simp only[List.cons.injEq,and_true]at e1
  subst e1
  unfold wP at r1; subst r1
  exact⟨⟨x0,x1⟩,⟨w0,w1⟩,rfl⟩
theorem ad0:Tryz.prog.underlying 57=some (.slice 83):=by kernel_rfl
theorem ad1:(Tryz.prog.underlying 83).isSome=true:=by kernel_rfl
theorem ad2:(Tryz.prog.underlying 83).map fK=some true:=by kernel_rfl
theorem ad3:Tryz.prog.underlying 83=Tryz.prog.underlying 82:=by kernel_rfl
def Wb(x:List ai):Prop:=x.length≤maxLen∧∀ y,y∈x→V8 y
theorem ad4{n:Nat}{l:List AV}(h:Shape Tryz.prog n 57 l):∃ x,Wb x∧∃ a,l=[a]∧Hi x a:=by
 obtain⟨d,hd⟩:=Option.isSome_iff_exists.1 ad1
 have sP:fK d=true:=by have:=ad2; rw[hd]at this; simpa using this
 obtain⟨ys,xs,rfl,h1,h2⟩:=yV (Q:=fun y x=>V8 y∧u3 y x) ad0 hd h (by
  rintro k x ⟨cl,h1,h2⟩
  rw[sP]at h1
  simp only[if_true]at h1
  replace h2:=aL ad3 h2
  subst h1
  obtain⟨y,hy,r⟩:=adZ h2
  exact⟨y,hy,r⟩)
 refine⟨ys,⟨h2,?_⟩,_,rfl,.inl ⟨xs,rfl,h1.mono fun _ _ h=>h.2⟩⟩
 intro y hy
 obtain⟨i,hi⟩:=List.getElem?_of_mem hy
 obtain⟨_,_,h3⟩:=h1.get hi
 exact h3.1
theorem ad5:Tryz.prog.underlying 24=some (.slice 57):=by kernel_rfl
theorem ad6:(Tryz.prog.underlying 57).isSome=true:=by kernel_rfl
theorem ad7:(Tryz.prog.underlying 57).map fK=some false:=by kernel_rfl
theorem ad8:Tryz.prog.underlying 57=Tryz.prog.underlying 57:=by kernel_rfl
def Zy(x:List (List ai)):Prop:=x.length≤maxLen∧∀ y,y∈x→Wb y
theorem ad9{n:Nat}{l:List AV}(h:Shape Tryz.prog n 24 l):∃ x,Zy x∧∃ a,l=[a]∧Hj x a:=by
 obtain⟨d,hd⟩:=Option.isSome_iff_exists.1 ad6
 have sP:fK d=false:=by have:=ad7; rw[hd]at this; simpa using this
 obtain⟨ys,xs,rfl,h1,h2⟩:=yV (Q:=fun y x=>Wb y∧Hi y x) ad5 hd h (by
  rintro k x ⟨cl,h1,h2⟩
  rw[sP]at h1
  simp only[Bool.false_eq_true,if_false]at h1
  replace h2:=aL ad8 h2
  subst h1
  obtain⟨y,hy,a,ha,r⟩:=ad4 h2
  simp only[List.cons.injEq,and_true]at ha
  subst ha
  exact⟨y,hy,r⟩)
 refine⟨ys,⟨h2,?_⟩,_,rfl,.inl ⟨xs,rfl,h1.mono fun _ _ h=>h.2⟩⟩
 intro y hy
 obtain⟨i,hi⟩:=List.getElem?_of_mem hy
 obtain⟨_,_,h3⟩:=h1.get hi
 exact h3.1
def Zz(x:A8 Int):Prop:=y8 x.e0∧y8 x.e1∧y8 x.e2∧y8 x.e3∧y8 x.e4∧y8 x.e5∧y8 x.e6∧y8 x.e7
theorem Wc:Tryz.prog.underlying 3=Tryz.prog.underlying 3:=by kernel_rfl
theorem Wd:Tryz.prog.underlying 3=Tryz.prog.underlying 3:=by kernel_rfl
theorem We:Tryz.prog.underlying 3=Tryz.prog.underlying 3:=by kernel_rfl
theorem Wf:Tryz.prog.underlying 3=Tryz.prog.underlying 3:=by kernel_rfl
theorem Wg:Tryz.prog.underlying 3=Tryz.prog.underlying 3:=by kernel_rfl
theorem Wh:Tryz.prog.underlying 3=Tryz.prog.underlying 3:=by kernel_rfl
theorem Wi:Tryz.prog.underlying 3=Tryz.prog.underlying 3:=by kernel_rfl
theorem Wj:Tryz.prog.underlying 3=Tryz.prog.underlying 3:=by kernel_rfl
theorem aea{n:Nat}{l:List AV}(h:Shape Tryz.prog n 25 l):∃ x,Zz x∧Ji x (.agg l):=by
 obtain⟨hl,k,hf⟩:=Hd nW (t:=25) rfl rfl h
 rw[aJ nW (t:=25) rfl]at hl
 have h0:=hf 0 (by omega)
 rw[aJ nW (t:=3) rfl]at h0
 replace h0:=aL (Wc) h0
 have h1:=hf 1 (by omega)
 rw[aJ nW (t:=3) rfl]at h1
 replace h1:=aL (Wd) h1
 have h2:=hf 2 (by omega)
 rw[aJ nW (t:=3) rfl]at h2
 replace h2:=aL (We) h2
 have h3:=hf 3 (by omega)
 rw[aJ nW (t:=3) rfl]at h3
 replace h3:=aL (Wf) h3
 have h4:=hf 4 (by omega)
 rw[aJ nW (t:=3) rfl]at h4
 replace h4:=aL (Wg) h4
 have h5:=hf 5 (by omega)
 rw[aJ nW (t:=3) rfl]at h5
 replace h5:=aL (Wh) h5
 have h6:=hf 6 (by omega)
 rw[aJ nW (t:=3) rfl]at h6
 replace h6:=aL (Wi) h6
 have h7:=hf 7 (by omega)
 rw[aJ nW (t:=3) rfl]at h7
 replace h7:=aL (Wj) h7
 match l,hl with
 |[a0,a1,a2,a3,a4,a5,a6,a7],_=>
  replace h0:Shape Tryz.prog k 3 [a0]:=h0
  obtain⟨x0,w0,b0,e0,r0⟩:=BP h0
  simp only[List.cons.injEq,and_true]at e0
  subst e0
  unfold wP at r0; subst r0
  replace h1:Shape Tryz.prog k 3 [a1]:=h1
  obtain⟨x1,w1,b1,e1,r1⟩:=BP h1
  simp only[List.cons.injEq,and_true]at e1
  subst e1
  unfold wP at r1; subst r1
  replace h2:Shape Tryz.prog k 3 [a2]:=h2
  obtain⟨x2,w2,b2,e2,r2⟩:=BP h2
  simp only[List.cons.injEq,and_true]at e2
  subst e2
  unfold wP at r2; subst r2
  replace h3:Shape Tryz.prog k 3 [a3]:=h3
  obtain⟨x3,w3,b3,e3,r3⟩:=BP h3
  simp only[List.cons.injEq,and_true]at e3
  subst e3
  unfold wP at r3; subst r3
  replace h4:Shape Tryz.prog k 3 [a4]:=h4
  obtain⟨x4,w4,b4,e4,r4⟩:=BP h4
  simp only[List.cons.injEq,and_true]at e4
  subst e4
  unfold wP at r4; subst r4
  replace h5:Shape Tryz.prog k 3 [a5]:=h5
  obtain⟨x5,w5,b5,e5,r5⟩:=BP h5
  simp only[List.cons.injEq,and_true]at e5
  subst e5
  unfold wP at r5; subst r5
  replace h6:Shape Tryz.prog k 3 [a6]:=h6
  obtain⟨x6,w6,b6,e6,r6⟩:=BP h6
  simp only[List.cons.injEq,and_true]at e6
  subst e6
  unfold wP at r6; subst r6
  replace h7:Shape Tryz.prog k 3 [a7]:=h7
  obtain⟨x7,w7,b7,e7,r7⟩:=BP h7
  simp only[List.cons.injEq,and_true]at e7
  subst e7
  unfold wP at r7; subst r7
  exact⟨⟨x0,x1,x2,x3,x4,x5,x6,x7⟩,⟨w0,w1,w2,w3,w4,w5,w6,w7⟩,rfl⟩
theorem aeb:Tryz.prog.underlying 26=some (.int .u64):=by kernel_rfl
def ZA(x:Int):Prop:=IntKind.min .u64≤x∧x≤IntKind.max .u64
theorem aec{n:Nat}{l:List AV}(h:Shape Tryz.prog n 26 l):∃ x,ZA x∧∃ a,l=[a]∧VB x a:=by
 obtain⟨m,rfl,h1⟩:=Dz aeb h
 exact⟨m,h1,_,rfl,rfl⟩
def UI(x:Queue):Prop:=Zx x.af∧y8 x.Room∧Zy x.ag∧Zz x.ae∧ZA x.aY
theorem Wk:Tryz.prog.underlying 23=Tryz.prog.underlying 22:=by kernel_rfl
theorem Wl:Tryz.prog.underlying 3=Tryz.prog.underlying 3:=by kernel_rfl
theorem Wm:Tryz.prog.underlying 24=Tryz.prog.underlying 24:=by kernel_rfl
theorem Wn:Tryz.prog.underlying 25=Tryz.prog.underlying 25:=by kernel_rfl
theorem Wo:Tryz.prog.underlying 26=Tryz.prog.underlying 26:=by kernel_rfl
theorem aed{n:Nat}{l:List AV}(h:Shape Tryz.prog n 27 l):∃ x,UI x∧LO x (.agg l):=by
 obtain⟨hl,k,hf⟩:=kC nW (t:=27) rfl rfl h
 rw[aJ nW (t:=27) rfl]at hl
 have h0:=hf (0,23) (by simp)
 rw[aJ nW (t:=23) rfl]at h0
 replace h0:=aL (Wk) h0
 have h1:=hf (4,3) (by simp)
 rw[aJ nW (t:=3) rfl]at h1
 replace h1:=aL (Wl) h1
 have h2:=hf (5,24) (by simp)
 rw[aJ nW (t:=24) rfl]at h2
 replace h2:=aL (Wm) h2
 have h3:=hf (6,25) (by simp)
 rw[aJ nW (t:=25) rfl]at h3
 replace h3:=aL (Wn) h3
 have h4:=hf (14,26) (by simp)
 rw[aJ nW (t:=26) rfl]at h4
 replace h4:=aL (Wo) h4
 match l,hl with
 |[a0,a1,a2,a3,a4,a5,a6,a7,a8,a9,a10,a11,a12,a13,a14],_=>
  replace h0:Shape Tryz.prog k 22 [a0,a1,a2,a3]:=h0
  obtain⟨x0,w0,r0⟩:=adY h0
  have e0:_=_:=r0
  simp only[AV.agg.injEq,List.cons.injEq,and_true]at e0
  obtain⟨rfl,rfl,rfl,rfl⟩:=e0
  replace h1:Shape Tryz.prog k 3 [a4]:=h1
  obtain⟨x1,w1,b1,e1,r1⟩:=BP h1
  simp only[List.cons.injEq,and_true]at e1
  subst e1
  unfold wP at r1; subst r1
  replace h2:Shape Tryz.prog k 24 [a5]:=h2
  obtain⟨x2,w2,b2,e2,r2⟩:=ad9 h2
  simp only[List.cons.injEq,and_true]at e2
  subst e2
  have s5:=r2
  replace h3:Shape Tryz.prog k 25 [a6,a7,a8,a9,a10,a11,a12,a13]:=h3
  obtain⟨x3,w3,r3⟩:=aea h3
  have e3:_=_:=r3
  simp only[AV.agg.injEq,List.cons.injEq,and_true]at e3
  obtain⟨rfl,rfl,rfl,rfl,rfl,rfl,rfl,rfl⟩:=e3
  replace h4:Shape Tryz.prog k 26 [a14]:=h4
  obtain⟨x4,w4,b4,e4,r4⟩:=aec h4
  simp only[List.cons.injEq,and_true]at e4
  subst e4
  unfold VB at r4; subst r4
  exact⟨⟨x0,x1,x2,x3,x4⟩,⟨w0,w1,w2,w3,w4⟩,⟨_,s5,rfl⟩⟩
def aee(x:bc):Prop:=y8 x.dq∧y8 x.di∧UI x.Queue∧wf4 x.iX∧VZ x.dr∧y8 x.cO
theorem Wp:Tryz.prog.underlying 3=Tryz.prog.underlying 3:=by kernel_rfl
theorem Wq:Tryz.prog.underlying 3=Tryz.prog.underlying 3:=by kernel_rfl
theorem Wr:Tryz.prog.underlying 28=Tryz.prog.underlying 27:=by kernel_rfl
theorem Ws:Tryz.prog.underlying 4=Tryz.prog.underlying 4:=by kernel_rfl
theorem Wt:Tryz.prog.underlying 30=Tryz.prog.underlying 29:=by kernel_rfl
theorem Wu:Tryz.prog.underlying 3=Tryz.prog.underlying 3:=by kernel_rfl
theorem adn{n:Nat}{l:List AV}(h:Shape Tryz.prog n 31 l):∃ x,aee x∧LP x (.agg l):=by
 obtain⟨hl,k,hf⟩:=kC nW (t:=31) rfl rfl h
 rw[aJ nW (t:=31) rfl]at hl
 have h0:=hf (0,3) (by simp)
 rw[aJ nW (t:=3) rfl]at h0
 replace h0:=aL (Wp) h0
 have h1:=hf (1,3) (by simp)
 rw[aJ nW (t:=3) rfl]at h1
 replace h1:=aL (Wq) h1
 have h2:=hf (2,28) (by simp)
 rw[aJ nW (t:=28) rfl]at h2
 replace h2:=aL (Wr) h2
 have h3:=hf (17,4) (by simp)
 rw[aJ nW (t:=4) rfl]at h3
 replace h3:=aL (Ws) h3
 have h4:=hf (18,30) (by simp)
 rw[aJ nW (t:=30) rfl]at h4
 replace h4:=aL (Wt) h4
 have h5:=hf (26,3) (by simp)
 rw[aJ nW (t:=3) rfl]at h5
 replace h5:=aL (Wu) h5
 match l,hl with
 |[a0,a1,a2,a3,a4,a5,a6,a7,a8,a9,a10,a11,a12,a13,a14,a15,a16,a17,a18,a19,a20,a21,a22,a23,a24,a25,a26],_=>
  replace h0:Shape Tryz.prog k 3 [a0]:=h0
  obtain⟨x0,w0,b0,e0,r0⟩:=BP h0
  simp only[List.cons.injEq,and_true]at e0
  subst e0
  unfold wP at r0; subst r0
  replace h1:Shape Tryz.prog k 3 [a1]:=h1
  obtain⟨x1,w1,b1,e1,r1⟩:=BP h1
  simp only[List.cons.injEq,and_true]at e1
  subst e1
  unfold wP at r1; subst r1
  replace h2:Shape Tryz.prog k 27 [a2,a3,a4,a5,a6,a7,a8,a9,a10,a11,a12,a13,a14,a15,a16]:=h2
  obtain⟨x2,w2,r2⟩:=aed h2
  obtain⟨aj7,s7,e2⟩:=r2
  simp only[AV.agg.injEq,List.cons.injEq,and_true]at e2
  obtain⟨rfl,rfl,rfl,rfl,rfl,rfl,rfl,rfl,rfl,rfl,rfl,rfl,rfl,rfl,rfl⟩:=e2
  replace h3:Shape Tryz.prog k 4 [a17]:=h3
  obtain⟨x3,w3,b3,e3,r3⟩:=sh4 h3
  simp only[List.cons.injEq,and_true]at e3
  subst e3
  unfold YM at r3; subst r3
  replace h4:Shape Tryz.prog k 29 [a18,a19,a20,a21,a22,a23,a24,a25]:=h4
  obtain⟨x4,w4,r4⟩:=Vy h4
  have e4:_=_:=r4
  simp only[AV.agg.injEq,List.cons.injEq,and_true]at e4
  obtain⟨rfl,rfl,rfl,rfl,rfl,rfl,rfl,rfl⟩:=e4
  replace h5:Shape Tryz.prog k 3 [a26]:=h5
  obtain⟨x5,w5,b5,e5,r5⟩:=BP h5
  simp only[List.cons.injEq,and_true]at e5
  subst e5
  unfold wP at r5; subst r5
  exact⟨⟨x0,x1,x2,x3,x4,x5⟩,⟨w0,w1,w2,w3,w4,w5⟩,⟨_,s7,rfl⟩⟩
end Go.Proofs.YtpodhambaehlkaaGreatDoor
end
section
/- Copies of slices in this seat: what the library's functions come to (printed by gen_lib.py). -/
namespace Go.Proofs.YtpodhambaehlkaaGreatDoor.nV
open Go.PI
noncomputable def C0:Ctx where
 P:=Tryz.prog
 kind:=fun f=>if f=155 then .imp else .pure
 kZ:=fun _=>none
 acc:=fun _ _=>false
instance:jw C0:=⟨rfl,rfl⟩
noncomputable def R(t:Nat):bO:=(gb Tryz.prog t).getD ⟨.bool,0,0,none,false⟩
theorem EV:aU C0.P 57=some (R 83):=by kernel_rfl
theorem Hr:cf C0.P 57=true:=by kernel_rfl
theorem LX:(cq (R 83)).isSome=true:=by kernel_rfl
theorem I8:(R 83).size=9:=by kernel_rfl
theorem Vp:(R 83).isAgg=true:=by kernel_rfl
theorem Vq:(R 83).bytes=64:=by kernel_rfl
theorem ZB:C0.P.funcs[155]?=some Tryz.f155:=by kernel_rfl
theorem ZC:cf C0.P 24=true:=by kernel_rfl
theorem st3:cf C0.P 3=false:=by kernel_rfl
theorem un3:C0.P.underlying 3=some (.int .i64):=by kernel_rfl
noncomputable def sO:AV:=(cq (R 83)).getD .undef
theorem aeg:cq (R 83)=some sO:=by kernel_rfl
theorem aeh:aF (R 83).isAgg (R 83).size sO=true:=by kernel_rfl
theorem LY:jt C0 155 [.lit cz,int 0] []=some (.val (.lit cz),[]):=
 (bl (kV C0 155 [.lit cz,int 0] [])).2 ⟨100,by kernel_rfl⟩
theorem Pv(n:Nat)(hn:0<n)(h1:n*(R 83).bytes≤2^44)(h2:n≤2^44):jt C0 155 [.lit cz,int n] []=some (.val (.bw (R 83).size 0 n 0 0 none),[some (.arr true true false (List.replicate n sO))]):=by
 rw[zm (fn:=Tryz.f155) ZB rfl]
 have zj:∀ f d,C0.acc f d=false:=fun _ _=>rfl
 have hr:0<(R 83).size:=by rw[I8]; decide
 have hw:IntKind.i64.wrap ((n:Int)-0)=(n:Int):=by rw[IntWalk.i64_in _ (by omega)]; omega
 have ZL:IntKind.i64.wrap (0-0)=(0:Int):=by decide
 have Wv:¬((n:Int)<0):=by omega
 have jb:(0:Int)<(n:Int):=by omega
 have K3:Option.map (aP [AV.lit cz]) none=(none:Option AV):=rfl
 simp (decide:=true) only [Tryz.f155,BQ,zj,Sd Hr,Se Hr,Pt,Sf,Sg EV,Sh EV hn,Jk,Pu EV st3 un3 aeg hr aeh hn h1 h2,hw,ZL,Wv,jb,bol,Option.map_none,gT,jc,qU,fL,List.map_cons,List.map_nil,eA,kb,ow,pP,M5,lu,pQ,ou,lr,xh,aP,oV,iJ,gI,bZ,fm,H8,Az,kc,Ay,sV,JL,JM,dE,vH,AA,D0,D1,DZ,List.getElem?_toArray,List.replicate_succ,List.replicate_zero,Nat.reduceSub,Nat.reduceAdd,Option.bind_some,Option.map_some,decide_true,decide_false,um,List.length_nil,List.length_cons,List.nil_append,List.cons_append,Nat.zero_add,P0,P3,P4,P5,ll,pJ]
theorem Ta:C0.P.funcs[116]?=some Tryz.f116:=by kernel_rfl
theorem aei:gb C0.P 57=some (R 57):=by kernel_rfl
theorem ZD:(R 57).isAgg=false:=by kernel_rfl
theorem ZE:(R 57).size=1:=by kernel_rfl
theorem aej:aU C0.P 24=some (R 57):=by kernel_rfl
theorem aek:arrayElem C0.P 24=none:=by kernel_rfl
theorem ZF{nm:Nat}{ev:Operand→AV}{dst:Option Tmp}{type:TypeId}{pos:String}{after:Array Edge}{guard:Option (Nat×Bool)}{hp:ak}{x:Operand}:
  (aV C0.P nm ev ⟨dst,.load 57 x,type,pos,after,guard⟩).run hp=M7 (JP false 1 hp (ev x)):=by rw[QQ aei,QS ZD ZE]
theorem ZG(x ix:AV):gh C0.P 24 x ix=(asNat ix).bind fun i=>pR false 1 i x:=by rw[Nb aej aek,ZD,ZE]
def I1(ls:List (List AV))(k:Nat)(s:St):Prop:=
 ∃ (i:Nat) (j1 j4 j5 j6 j7 j8 Pw Px Py Pz PA PB PC PG PH PJ PK PL PM ZH ZI Tm PN PO PQ PS PT PU PV PW:AV),k=ls.length-i∧i≤ls.length∧s=⟨116,[.sl (ls.map .sl),j1,.lit cz,int ((ls.take i).flatten.length:Nat),j4,j5,j6,j7,j8,.sl (ls.map .sl),int ls.length,int i,Pw,Px,Py,Pz,PA,PB,PC,PG,PH,PJ,PK,PL,PM,ZH,ZI,Tm,PN,PO,PQ,PS,PT,PU,PV,PW],[]⟩
def P1(ls:List (List AV))(o:Out):Prop:=
 ∃ (Tn j1 j4 j5 j6 j7 j8 Pw Px Py Pz PA PB PC PG PH PJ PK PL PM ZH ZI Tm PN PO PQ PS PT PU PV PW:AV),o=.exit 0 ⟨116,[.sl (ls.map .sl),j1,.lit cz,int (ls.flatten.length:Nat),j4,j5,j6,j7,j8,.sl (ls.map .sl),int ls.length,Tn,Pw,Px,Py,Pz,PA,PB,PC,PG,PH,PJ,PK,PL,PM,ZH,ZI,Tm,PN,PO,PQ,PS,PT,PU,PV,PW],[]⟩
theorem KD{α:Type}(ls:List (List α))(i:Nat):(ls.take i).flatten.length≤ls.flatten.length:=by
 have h:ls.flatten.length=(ls.take i).flatten.length+(ls.drop i).flatten.length:=by
  rw[←List.length_append,←List.flatten_append,List.take_append_drop]
 omega
theorem DE{α:Type}(ls:List (List α))(i:Nat)(h:i<ls.length):(ls.take (i+1)).flatten=(ls.take i).flatten++ls[i]:=by
 rw[List.take_succ_eq_append_getElem h,List.flatten_append]; simp only[List.flatten_cons,List.flatten_nil,List.append_nil]
noncomputable def cur(ls:List (List AV))(i:Nat):AV:=if ls.flatten.length=0 then .lit cz else .bw (R 83).size 0 ls.flatten.length 0 (ls.take i).flatten.length none
noncomputable def u6(ls:List (List AV))(i:Nat):ak:=if ls.flatten.length=0 then [] else [some (.arr true true false ((ls.take i).flatten++List.replicate (ls.flatten.length-(ls.take i).flatten.length) sO))]
theorem PX(ls:List (List AV))(h1:ls.flatten.length*(R 83).bytes≤2^44)(h2:ls.flatten.length≤2^44):jt C0 155 [.lit (.slice none 0 0),int ls.flatten.length] []=some (.val (cur ls 0),u6 ls 0):=by
 unfold cur u6
 by_cases h:ls.flatten.length=0
 ·rw[if_pos h,if_pos h,h]; exact LY
 ·rw[if_neg h,if_neg h]
  simpa using Pv _ (by omega) h1 h2
theorem LZ(ls:List (List AV))(i:Nat):jW 0 (cur ls i) (u6 ls i)=u6 ls i:=by
 unfold cur u6 jW
 by_cases h:ls.flatten.length=0
 ·rw[if_pos h,if_pos h]; simp
 ·rw[if_neg h,if_neg h]; simp[below]
theorem Jm(ls:List (List AV))(i:Nat):forget (u6 ls i).length (cur ls (i+1))=cur ls (i+1):=by
 apply KX
 unfold cur u6
 by_cases h:ls.flatten.length=0
 ·rw[if_pos h,if_pos h]; rfl
 ·rw[if_neg h,if_neg h]; simp[below]
theorem L0(ls:List (List AV))(i:Nat)(f:Nat)(fr:List AV):iT (u6 ls i).length ⟨f,fr,u6 ls (i+1)⟩=⟨f,fr.map (forget (u6 ls i).length),u6 ls (i+1)⟩:=by
 have hl:(u6 ls i).length=(u6 ls (i+1)).length:=by
  unfold u6
  by_cases h:ls.flatten.length=0
  ·rw[if_pos h,if_pos h]
  ·rw[if_neg h,if_neg h]; rfl
 have ht:(u6 ls (i+1)).take (u6 ls i).length=u6 ls (i+1):=by rw[hl]; exact List.take_length
 rw[FA]
 ·simp only[ht]
 ·simp only[ht]
  unfold u6
  by_cases h:ls.flatten.length=0
  ·rw[if_pos h]; rfl
  ·rw[if_neg h]; rfl
theorem EW(a ys:List AV)(k:Nat)(z:AV)(h:ys.length≤k):bP (a++List.replicate k z) a.length ys=a++ys++List.replicate (k-ys.length) z:=by
 induction ys generalizing a k with
 |nil=>simp[bP]
 |cons y ys ih=>
  obtain⟨k,rfl⟩:∃ m,k=m+1:=⟨k-1,by simp at h; omega⟩
  have:=ih (a++[y]) k (by simp at h; omega)
  simp only[bP,List.replicate_succ]
  simp only[List.length_append,List.length_cons,List.length_nil]at this
  rw[List.set_append_right _ _ (Nat.le_refl _),Nat.sub_self,List.set_cons_zero]
  simpa[List.append_assoc] using this
theorem Sj(ls:List (List AV))(i:Nat)(hi:i<ls.length)(bK:ls[i].all (aF (R 83).isAgg (R 83).size)=true):
  ∃ wr,(∀ nm,(fJ C0.P nm 57 57 (cur ls i) (.sl ls[i])).run (u6 ls i)=some ⟨cur ls (i+1),wr⟩)∧av (u6 ls i) wr=u6 ls (i+1):=by
 have hr:0<(R 83).size:=by rw[I8]; decide
 have hf:=DE ls i hi
 have hle:=KD ls (i+1)
 have hlen:(ls.take (i+1)).flatten.length=(ls.take i).flatten.length+ls[i].length:=by rw[hf,List.length_append]
 by_cases h:ls.flatten.length=0
 ·have he:ls[i]=[]:=List.length_eq_zero_iff.1 (by omega)
  refine⟨[],fun nm=>?_,?_⟩
  ·unfold cur u6
   rw[if_pos h,if_pos h,if_pos h,he]
   simp[fJ,EV,wS,Hr,gA,RM.run_bind,RM.run_pure,LX,hr]
  ·unfold u6; rw[if_pos h,if_pos h]; rfl
 ·by_cases he:ls[i]=[]
  ·have Cp:ls[i].length=0:=by rw[he]; rfl
   rw[Cp]at hlen
   have nB:(ls.take (i+1)).flatten=(ls.take i).flatten:=by rw[hf,he,List.append_nil]
   refine⟨[],fun nm=>?_,?_⟩
   ·unfold cur u6
    rw[if_neg h,if_neg h,if_neg h,he,nB]
    simp[fJ,EV,wS,Hr,gA,RM.run_bind,RM.run_pure,LX,hr]
   ·unfold u6; rw[if_neg h,if_neg h,nB]; rfl
  ·have dP:ls[i].isEmpty=false:=by cases hq:ls[i]<;>simp_all
   have cZ:((ls.take i).flatten++List.replicate (ls.flatten.length-(ls.take i).flatten.length) sO).length=ls.flatten.length:=by
    rw[List.length_append,List.length_replicate]; omega
   refine⟨[(0,.arr true true false ((ls.take (i+1)).flatten++List.replicate (ls.flatten.length-(ls.take (i+1)).flatten.length) sO))],fun nm=>?_,?_⟩
   ·unfold cur u6
    rw[if_neg h,if_neg h,if_neg h]
    have ho:=RM.AF (hp:=[some (.arr true true false ((ls.take i).flatten++List.replicate (ls.flatten.length-(ls.take i).flatten.length) sO))]) (n:=0) rfl
    rw[cZ]at ho
    have GK:=EW (ls.take i).flatten ls[i] (ls.flatten.length-(ls.take i).flatten.length) sO (by omega)
    simp only[fJ,EV,wS,Hr,gA,RM.run_bind,RM.run_pure,Option.bind_some,LX,hr,bK,decide_true,Bool.and_self,dP,ho]
    rw[if_neg (by rintro (h1|h1|h1); (exact absurd h1 (by decide)); (rw[cZ]at h1; omega); (exact h1 rfl)),if_pos (by simp only[Option.getD_none]; omega),if_pos (by rw[cZ]; omega)]
    simp only[RM.run_pure,Nat.zero_add,GK,hlen,←hf]
    rw[Nat.sub_sub]
   ·unfold u6; rw[if_neg h,if_neg h]; rfl
def I2(ls:List (List AV))(k:Nat)(s:St):Prop:=
 ∃ (i:Nat) (j1 j4 j5 j7 j8 j9 ZJ Tn Pw Px Py Pz PA PB PC PG PH PJ PK PL PM PN PO PQ PS PT PU PV PW:AV),k=ls.length-i∧i≤ls.length∧s=⟨116,[.sl (ls.map .sl),j1,.lit cz,int (ls.flatten.length:Nat),j4,j5,cur ls i,j7,j8,j9,ZJ,Tn,Pw,Px,Py,Pz,PA,PB,PC,PG,PH,PJ,PK,PL,PM,.sl (ls.map .sl),int ls.length,int i,PN,PO,PQ,PS,PT,PU,PV,PW],u6 ls i⟩
def P2(ls:List (List AV))(o:Out):Prop:=
 ∃ (Tm j1 j4 j5 j7 j8 j9 ZJ Tn Pw Px Py Pz PA PB PC PG PH PJ PK PL PM PN PO PQ PS PT PU PV PW:AV),o=.exit 2 ⟨116,[.sl (ls.map .sl),j1,.lit cz,int (ls.flatten.length:Nat),j4,j5,cur ls ls.length,j7,j8,j9,ZJ,Tn,Pw,Px,Py,Pz,PA,PB,PC,PG,PH,PJ,PK,PL,PM,.sl (ls.map .sl),int ls.length,Tm,PN,PO,PQ,PS,PT,PU,PV,PW],u6 ls ls.length⟩
theorem I7(ls:List (List AV))(hn:ls.length≤2^44)(bK:∀ l∈ls,l.all (aF (R 83).isAgg (R 83).size)=true)(Ym:ls.flatten.length*(R 83).bytes≤2^44)(hT:ls.flatten.length≤2^44):∃ res eX,jt C0 116 [.sl (ls.map .sl)] []=some (.val res,eX)∧(bn 1000 res).run eX=some (.sl ls.flatten):=by
 have key:jt C0 116 [.sl (ls.map .sl)] []=some (.val (cur ls ls.length),u6 ls ls.length):=by
  rw[zm (fn:=Tryz.f116) Ta rfl]
  have zj:∀ f d,C0.acc f d=false:=fun _ _=>rfl
  have hr:0<(R 83).size:=by rw[I8]; decide
  simp (decide:=true) only [Tryz.f116,BQ,zj,H9 ZC,List.length_map,gT,jc,qU,fL,List.map_cons,List.map_nil,eA,kb,ow,lu,M6,ou,lr,aP,oV,iJ,gI,bZ,fm,kc,dE,List.getElem?_toArray,List.replicate_succ,List.replicate_zero,Nat.reduceSub,Option.bind_some,List.length_nil,List.length_cons,List.nil_append,List.cons_append,Nat.zero_add,P0,P3,P4,P5,nr,Option.bind_assoc,D2]
  refine CH (I1 ls) (P1 ls) ls.length ?_ ?_ ?_
  ·exact⟨0,_,_,_,_,_,_,_,_,_,_,_,_,_,_,_,_,_,_,_,_,_,_,_,_,_,_,_,_,_,_,rfl,Nat.zero_le _,rfl⟩
  ·rintro k s ⟨i,j1,j4,j5,j6,j7,j8,Pw,Px,Py,Pz,PA,PB,PC,PG,PH,PJ,PK,PL,PM,ZH,ZI,Tm,PN,PO,PQ,PS,PT,PU,PV,PW,hk,hi,rfl⟩
   have PY:IntKind.i64.wrap ((i:Int)+1)=((i+1:Nat):Int):=by
    rw[IntWalk.i64_in _ (by omega)]; omega
   by_cases cr:i<ls.length
   ·have nZ:(ls.map AV.sl)[i]?=some (.sl ls[i]):=by simp[cr]
    have cj:aF false 1 (.sl ls[i])=true:=by simp[aF,bt]
    have hp0:fX false 1 (.sl ls[i]) 0=some (.sl ls[i]):=by simp[fX,bt]
    have Ee:((i:Int)<(ls.length:Int)):=by omega
    have hf:=DE ls i cr
    have hle:=KD ls (i+1)
    have hlen:(ls.take (i+1)).flatten.length=(ls.take i).flatten.length+ls[i].length:=by rw[hf,List.length_append]
    have mE:IntKind.i64.wrap (((ls.take i).flatten.length:Int)+(ls[i].length:Int))=(((ls.take (i+1)).flatten.length:Nat):Int):=by
     rw[IntWalk.i64_in _ (by omega)]; omega
    have Wv:¬(((ls.take (i+1)).flatten.length:Int)<0):=by omega
    left
    refine⟨_,by simp (decide:=true) only [nZ,cj,Ee,PY,mE,Wv,ZF,ZG,H9 Hr,bol,gT,jc,qU,fL,List.map_cons,List.map_nil,eA,kb,ow,JN,pP,vP,lu,pQ,ou,lr,xh,aP,oV,iJ,gI,bZ,fm,H8,Az,kc,sV,DX,dE,List.getElem?_toArray,Option.bind_some,Option.map_some,decide_true,decide_false,List.length_nil,bt,M7,fX,if_true,P0,P3,P4,P5,nr,ll,yi,vQ,uo,pR,JP,pJ,D2]; rfl,ls.length-(i+1),by omega,?_⟩
    rw[FA (by simp)]
    exact⟨i+1,_,_,_,_,_,_,_,_,_,_,_,_,_,_,_,_,_,_,_,_,_,_,_,_,_,_,_,_,_,_,rfl,by omega,rfl⟩
   ·have Ee:¬((i:Int)<(ls.length:Int)):=by omega
    have Vl:i=ls.length:=by omega
    right
    refine⟨_,by simp (decide:=true) only [Ee,bol,gT,jc,qU,fL,List.map_cons,List.map_nil,eA,kb,pP,xh,aP,gI,bZ,fm,Az,kc,sV,dE,vR,List.getElem?_toArray,Option.bind_some,Option.map_some,decide_false,List.length_nil,P0,P3,P4,P5,ll,xb]; rfl,by simp,?_⟩
    have:ls.take i=ls:=by rw[Vl]; exact List.take_length
    rw[this]
    exact⟨_,_,_,_,_,_,_,_,_,_,_,_,_,_,_,_,_,_,_,_,_,_,_,_,_,_,_,_,_,_,_,rfl⟩
  ·rintro o ⟨Tn,j1,j4,j5,j6,j7,j8,Pw,Px,Py,Pz,PA,PB,PC,PG,PH,PJ,PK,PL,PM,ZH,ZI,Tm,PN,PO,PQ,PS,PT,PU,PV,PW,rfl⟩
   simp (decide:=true) only [gT,jc,qU,fL,List.map_cons,List.map_nil,eA,ow,ou,aP,oV,iJ,gI,bZ,fm,kc,dE,List.getElem?_toArray,Option.bind_some,List.length_nil,pN,H7,P0,P3,P4,P5,CI,Option.bind_assoc]
   have ael:C0.kind 155=.imp:=rfl
   have ZK:∀ a t,aC (Op.call ⟨.value (.func 155),a,t⟩)=false:=fun _ _=>rfl
   simp only[qo,CB,ZK,ael]
   rw[PX ls Ym hT]
   simp only[Option.bind_some,MI,List.length_nil,LZ]
   simp (decide:=true) only [H9 ZC,List.length_map,gT,jc,qU,fL,List.map_cons,List.map_nil,eA,kb,ow,lu,pQ,ou,lr,aP,oV,iJ,gI,bZ,fm,kc,dE,List.getElem?_toArray,Option.bind_some,P0,P3,P4,P5,nr,Option.bind_assoc,D2]
   refine CH (I2 ls) (P2 ls) ls.length ?_ ?_ ?_
   ·exact⟨0,_,_,_,_,_,_,_,_,_,_,_,_,_,_,_,_,_,_,_,_,_,_,_,_,_,_,_,_,_,rfl,Nat.zero_le _,rfl⟩
   ·rintro k s ⟨i,j1,j4,j5,j7,j8,j9,ZJ,Tn,Pw,Px,Py,Pz,PA,PB,PC,PG,PH,PJ,PK,PL,PM,PN,PO,PQ,PS,PT,PU,PV,PW,hk,hi,rfl⟩
    have PY:IntKind.i64.wrap ((i:Int)+1)=((i+1:Nat):Int):=by
     rw[IntWalk.i64_in _ (by omega)]; omega
    by_cases cr:i<ls.length
    ·have nZ:(ls.map AV.sl)[i]?=some (.sl ls[i]):=by simp[cr]
     have cj:aF false 1 (.sl ls[i])=true:=by simp[aF,bt]
     have hp0:fX false 1 (.sl ls[i]) 0=some (.sl ls[i]):=by simp[fX,bt]
     have Ee:((i:Int)<(ls.length:Int)):=by omega
     obtain⟨wr,hap,Hz⟩:=Sj ls i cr (bK _ (List.getElem_mem cr))
     left
     refine⟨_,by simp (decide:=true) only [nZ,cj,Ee,PY,Jk,hap,Hz,ZF,ZG,bol,gT,jc,qU,fL,List.map_cons,List.map_nil,eA,kb,ow,JN,pP,vP,lu,pQ,ou,lr,xh,aP,oV,iJ,gI,bZ,fm,H8,kc,sV,DX,dE,List.getElem?_toArray,Option.bind_some,Option.map_some,decide_true,bt,M7,fX,if_true,P0,P3,P4,P5,nr,ll,yi,vQ,uo,pR,JP,pJ]; rfl,ls.length-(i+1),by omega,?_⟩
     rw[L0]
     simp only[List.map_cons,List.map_nil,Jm]
     exact⟨i+1,_,_,_,_,_,_,_,_,_,_,_,_,_,_,_,_,_,_,_,_,_,_,_,_,_,_,_,_,_,rfl,by omega,rfl⟩
    ·have Ee:¬((i:Int)<(ls.length:Int)):=by omega
     have Vl:i=ls.length:=by omega
     right
     refine⟨_,by simp (decide:=true) only [Ee,bol,gT,jc,qU,fL,List.map_cons,List.map_nil,eA,kb,pP,xh,aP,gI,bZ,fm,Az,kc,sV,dE,vR,List.getElem?_toArray,Option.bind_some,Option.map_some,decide_false,P0,P3,P4,P5,ll,xb]; rfl,by simp,?_⟩
     subst Vl
     exact⟨_,_,_,_,_,_,_,_,_,_,_,_,_,_,_,_,_,_,_,_,_,_,_,_,_,_,_,_,_,_,rfl⟩
   ·rintro o ⟨Tm,j1,j4,j5,j7,j8,j9,ZJ,Tn,Pw,Px,Py,Pz,PA,PB,PC,PG,PH,PJ,PK,PL,PM,PN,PO,PQ,PS,PT,PU,PV,PW,rfl⟩
    simp (decide:=true) only [gT,jc,qU,fL,List.map_cons,List.map_nil,eA,kb,ow,pQ,ou,lr,aP,gI,bZ,fm,kc,dE,vH,AA,D0,D1,DZ,List.getElem?_toArray,Option.bind_some,Option.map_some,P0,P3,P4,P5,CI]
 refine⟨_,_,key,?_⟩
 unfold cur u6
 by_cases h:ls.flatten.length=0
 ·rw[if_pos h,if_pos h,List.length_eq_zero_iff.1 h]; rfl
 ·rw[if_neg h,if_neg h]
  simp only[List.take_length,Nat.sub_self,List.replicate_zero,List.append_nil]
  exact Jl (RM.AF rfl)
end Go.Proofs.YtpodhambaehlkaaGreatDoor.nV
end
section
namespace Go.Proofs.YtpodhambaehlkaaGreatDoor.Lib
open Go.PI
noncomputable def C0:Ctx where
 P:=Tryz.prog
 kind:=fun f=>if f=155 then .imp else .pure
 kZ:=fun _=>none
 acc:=fun _ _=>false
instance:jw C0:=⟨rfl,rfl⟩
theorem Tb:C0.P.funcs[154]?=some Tryz.f154:=by kernel_rfl
noncomputable def R(t:Nat):bO:=(gb Tryz.prog t).getD ⟨.bool,0,0,none,false⟩
theorem EV:aU C0.P 57=some (R 83):=by kernel_rfl
theorem Hr:cf C0.P 57=true:=by kernel_rfl
theorem LX:(cq (R 83)).isSome=true:=by kernel_rfl
theorem I8:(R 83).size=9:=by kernel_rfl
theorem Vp:(R 83).isAgg=true:=by kernel_rfl
theorem Vq:(R 83).bytes=64:=by kernel_rfl
theorem nil_eq(xs:List AV)(c:Nat)(x y:Operand):gf C0.P .eql 57 x y (.mB xs c) (.lit (.slice none 0 0))=some (bol false):=by
 unfold gf
 have h:fj C0.P .eql 57 (.mB xs c) (.lit (.slice none 0 0))=none:=by kernel_rfl
 rw[h]
 show oU C0.P .eql 57 (.mB xs c) (.slice none 0 0)=_
 kernel_rfl
theorem LJ:jt C0 154 [.lit cz] []=some (.val (.lit cz),[]):=
 (bl (kV C0 154 [.lit cz] [])).2 ⟨100,by kernel_rfl⟩
theorem G7(cap:Nat):∃ n cl eX,jt C0 154 [.mB [] cap] []=some (.val (.bw (R 83).size n 0 0 0 (some 0)),eX)∧eX[n]?=some (some (.arr false cl false [])):=
 ⟨0,true,[some (.arr false true false [])],(bl (kV C0 154 [.mB [] cap] [])).2 ⟨100,by kernel_rfl⟩,rfl⟩
theorem LK(xs:List AV)(cap:Nat)(hx:xs≠[])(bK:xs.all (aF (R 83).isAgg (R 83).size)=true)(h1:xs.length*(R 83).bytes≤2^44)(h2:xs.length≤2^44):∃ n cl eX,jt C0 154 [.mB xs cap] []=some (.val (.bw (R 83).size n xs.length 0 xs.length none),eX)∧eX[n]?=some (some (.arr true cl false xs)):=by
 rw[zm (fn:=Tryz.f154) Tb rfl]
 have zj:∀ f d,C0.acc f d=false:=fun _ _=>rfl
 have hr:0<(R 83).size:=by rw[I8]; decide
 simp (decide:=true) only [Tryz.f154,BQ,zj,LS EV LX hr,Jk,nil_eq,bol,gT,jc,qU,fL,List.map_cons,List.map_nil,eA,kb,ow,B4,pP,lu,pQ,ou,lr,xh,aP,oV,iJ,gI,bZ,fm,Az,kc,Ay,dE,vH,AA,D0,D1,DZ,List.getElem?_toArray,List.replicate_succ,List.replicate_zero,Nat.reduceSub,Option.bind_some,Option.map_some,um,List.length_nil,List.length_cons,List.nil_append,List.cons_append,Nat.zero_add,P0,P3,P4,P5,ll,Option.bind_assoc,pJ]
 rw[LU EV Hr LX hr bK hx rfl h1 h2]
 simp (decide:=true) only [kc,Ay,Option.bind_some,um,List.length_nil,List.length_cons,List.nil_append,List.cons_append,Nat.zero_add]
 exact⟨_,_,_,rfl,rfl⟩
end Go.Proofs.YtpodhambaehlkaaGreatDoor.Lib
end
section
/- The context of this seat, contracts of library functions, the example. -/
set_option maxRecDepth 100000
set_option maxHeartbeats 0
namespace Go.Proofs.YtpodhambaehlkaaGreatDoor
open Go.PI
def oQ:bO:=⟨.struct #[],9,64,none,false⟩
noncomputable def C:Ctx where
 P:=Tryz.prog
 kind:=fun f=>match Go.PI.cQ [(29,()),(30,()),(31,()),(36,()),(37,()),(42,()),(46,()),(56,()),(82,()),(120,()),(121,()),(122,()),(125,()),(126,()),(128,()),(129,()),(130,()),(131,()),(132,()),(135,()),(142,()),(148,()),(149,()),(150,()),(151,()),(154,()),(156,()),(158,()),(159,()),(160,()),(162,()),(163,()),(164,()),(166,()),(167,()),(169,()),(184,()),(185,()),(186,()),(188,()),(189,()),(190,()),(191,()),(192,())] f with|some _=>.imp|none=>.pure
 kZ:=fun g=>Go.PI.cQ [(116,oS oQ)] g
 acc:=fun _ _=>true
 gP:=fun g=>Go.PI.cQ [(154,sL oQ)] g
 tB:=fun f d=>(Go.PI.C8 [(101,11,[(0,8)]),(148,27,[(18,8)])] f d).getD []
 ja:=fun f d=>(Go.PI.C8 [(109,7,[(9,5)]),(110,5,[(4,5)]),(110,8,[(9,5)]),(110,14,[(9,5)]),(101,5,[(4,5)])] f d).getD []
 WU:=fun f d=>(Go.PI.C8 [(150,5,2)] f d).getD 0
theorem I6 : ∀ (f : FuncId) (fn : Func), Tryz.prog.funcs[f]? = some fn → fn.body.isSome = true → (fn.name == "runtime.NumGoroutine") = false := by
 have h : (Tryz.prog.funcs.toList.all fun fn => !(fn.name == "runtime.NumGoroutine") || !fn.body.isSome) = true := by kernel_rfl
 intro f fn hf hb
 have hm:fn∈Tryz.prog.funcs.toList:=by
  have:=Array.mem_of_getElem? hf
  exact Array.mem_toList_iff.2 this
 have:=List.all_eq_true.1 h fn hm
 rw[hb]at this
 simpa using this
theorem YE:Lib.C0.Ok where
 name:=I6
 kZ:=fun g h al r hg=>by cases hg
 rB:=fun g h al hp e h1=>by cases h1
 gP:=fun g h al r eX hg=>by cases hg
 zr:=fun g h hg=>by cases hg
 D7:=fun g h hg=>by cases hg
theorem OX:nV.C0.Ok where
 name:=I6
 kZ:=fun g h al r hg=>by simp[nV.C0]at hg
 rB:=fun g h al hp e h1=>by cases h1
 D7:=fun g h hg=>by simp[nV.C0]at hg
 gP:=fun g h al r eX hg=>by simp[nV.C0]at hg
 zr:=fun g h hg=>by simp[nV.C0]at hg
theorem Kv{g:FuncId}{h:List AV→Option (AV×ak)}(hg:C.gP g=some h):g=154∧h=sL oQ:=by
 have:=fS (show Go.PI.cQ [(154,sL oQ)] g=some h from hg)
 simp only[List.mem_singleton,Prod.mk.injEq]at this
 exact this
theorem Kw{g:FuncId}{h:List AV→Option AV}(hg:C.kZ g=some h):g=116∧h=oS oQ:=by
 have:=fS (show Go.PI.cQ [(116,oS oQ)] g=some h from hg)
 simp only[List.mem_singleton,Prod.mk.injEq]at this
 exact this
theorem Cok:C.Ok where
 name:=I6
 kZ:=by
  intro g h al r hg hr Ec w vs hI ha
  obtain⟨rfl,rfl⟩:=Kw hg
  exact LH (r:=oQ) OX (fun ls h0 h1 h2 h3=>nV.I7 ls h0 (by rw[nV.Vp,nV.I8]; exact h1) (by rw[nV.Vq]; exact h2) h3) hr Ec w vs hI ha
 D7:=by
  intro g h hg
  obtain⟨rfl,rfl⟩:=Kw hg
  exact⟨_,nV.Ta,rfl⟩
 rB:=fun g h al hp e h1=>by cases h1
 gP:=by
  intro g h al r eX hg hr Ec w vs hI ha
  obtain⟨rfl,rfl⟩:=Kv hg
  exact LI (r:=oQ) YE Lib.LJ (fun cap=>Lib.G7 cap) (fun xs cap h0 h1 h2 h3=>Lib.LK xs cap h0 (by rw[Lib.Vp,Lib.I8]; exact h1) (by rw[Lib.Vq]; exact h2) h3) hr Ec w vs hI ha
 zr:=by
  intro g h hg
  obtain⟨rfl,rfl⟩:=Kv hg
  exact⟨_,Lib.Tb,rfl⟩
theorem YF(x:ai)(a:AV)(h:u3 x a):aF oQ.isAgg oQ.size a=true:=(Vr x a h).1
theorem Vs(x:ai)(a:AV)(h:u3 x a):flat a=true:=by
 unfold u3 at h
 subst h
 rfl
def _root_.Go.aa.fh(s:List ai):Option (List ai):=Ek 64 s
def _root_.Go.aa.gv(s:List (List ai)):Option (List ai):=zw 64 s
def _root_.Go.aa.uO:Option Bool:=some true
theorem Vt:Dj C T 154 ⟨[57],83,9,fun x=>Go.aa.fh x⟩:=
 I9 (C:=C) (T:=T) (g:=154) (t:=57) (el:=83) (esz:=9) (I:=sL oQ) (F:=Go.aa.fh) rfl Vs fun x a y h hy=>
  Ja (r:=oQ) (rpe:=u3) (x:=x) (y:=y) YF h hy
noncomputable def n5:List (Nat×yB T):=[(154,⟨[57],83,9,fun x=>Go.aa.fh x⟩)]
theorem xF:∀ (g:FuncId) (σ:yB T),cQ n5 g=some σ→Dj C T g σ:=by
 intro g σ h
 have:=fS h
 simp only[n5,List.mem_singleton,Prod.mk.injEq]at this
 obtain⟨rfl,rfl⟩:=this
 exact Vt
theorem RF:wC C T 116 ⟨[24],[57],fun x=>Go.aa.gv x⟩:=
 Jb (C:=C) (T:=T) (g:=116) (t:=24) (u:=57) (I:=oS oQ) (F:=Go.aa.gv) rfl rfl fun x a y h hy=>by
  obtain⟨l,h1,h2⟩:=Jc (r:=oQ) (rpe:=u3) (x:=x) (y:=y) YF h hy
  exact⟨l,h1,.inl ⟨l,rfl,h2⟩⟩
def zb:FuncId→Nat→Bool:=fun f _=>Nat.beq f 105||Nat.beq f 61||Nat.beq f 85||Nat.beq f 57||Nat.beq f 58||Nat.beq f 59||Nat.beq f 60||Nat.beq f 62
def tws:FuncId→Tmp→List Tw:=fun f d=>(Go.PI.C8 [(142,22,[.lst 22 0 8]),(162,8,[.arr 8 8]),(162,20,[.int 20 0]),(162,24,[.name 23]),(106,1000008,[.num 4 0 8]),(107,1000008,[.num 11 0 8]),(107,1000015,[.num 11 0 8]),(148,29,[.lst 29 0 2]),(148,52,[.name 49])] f d).getD []
end Go.Proofs.YtpodhambaehlkaaGreatDoor
end
section
/- Models of the functions of this seat, and that they hold (printed by chain.py). -/
set_option maxRecDepth 100000
set_option maxHeartbeats 0
namespace Go.Proofs.YtpodhambaehlkaaGreatDoor
open Go.PI
end Go.Proofs.YtpodhambaehlkaaGreatDoor
open Go Go.PI Go.Proofs Go.Proofs.YtpodhambaehlkaaGreatDoor
abbrev Go.aa.zP:an:=an.mk 0 0 0 0 0 0 false false
abbrev Go.aa.zW:ai:=ai.mk Go.aa.zP 0
abbrev Go.aa.zQ:Queue:=Queue.mk (af.mk 0 0 0 0) 0 [] (A8.mk 0 0 0 0 0 0 0 0) 0
abbrev Go.aa.v8(v:A8 Int)(i:Nat):Int:=sn [v.e0,v.e1,v.e2,v.e3,v.e4,v.e5,v.e6,v.e7] i v.e0
noncomputable def Go.aa.dL(n:Int)(low:Int)(high:Int):Option Bool:=
 bif decide (low≤n) then
 some (decide (n≤high))
 else
 some false
noncomputable def Go.aa.bH(l:Queue):Option ((List ai)):=
 (l.ag[0]?).bind fun l1=>
 some l1
noncomputable def Go.aa.lT(p:an):Option Bool:=
 (aa.dL p.aG 0 7).bind fun b1=>
 bif b1 then
 (aa.dL p.Sub 0 3).bind fun b2=>
 bif b2 then
 (aa.dL p.Number 0 1000000000).bind fun b3=>
 bif b3 then
 (aa.dL p.Data 0 1000000000).bind fun b4=>
 bif b4 then
 (aa.dL p.aA 1 10000).bind fun b5=>
 bif b5 then
 (aa.dL p.aQ 0 10000000).bind fun b6=>
 some b6
 else
 some false
 else
 some false
 else
 some false
 else
 some false
 else
 some false
noncomputable def Go.aa.gJ(l:Queue):Option Bool:=
 (aa.bH l).bind fun l1=>
 (aX (ω:=Int×Int ⊕ Int×Int×Int) (fun ((i2,i3,i4):Int×Int×Int)=>
 bif decide (i3<(↑l1.length:Int)) then
 gd (decide (0≤i3)) <|
 (l1[i3.toNat]?).bind fun q5=>
 bif decide (q5.At<i4) then
 some (Sum.inr (Sum.inl (i3,q5.At)))
 else
 bif decide (l.ae.e7<q5.At) then
 some (Sum.inr (Sum.inl (i3,q5.At)))
 else
 (aa.lT q5.P).bind fun b6=>
 bif !b6 then
 some (Sum.inr (Sum.inl (i3,q5.At)))
 else
 some (Sum.inl (i2,IntKind.i64.wrap (i3+1),q5.At))
 else
 some (Sum.inr (Sum.inr (i2,i3,i4)))) (0,0,0)).bind fun w7=>
 Sum.elim (fun (i8,i9)=>
 some (!decide (0≤i8))) (fun (i10,i11,i12)=>
 some true) w7
noncomputable def Go.aa.eZ(l:Queue):Option Bool:=
 bif l.af.Kind==1&&(l.af.A==0&&(l.af.B==0&&l.af.C==0)) then
 bif l.ae.e0==0&&(l.ae.e1==0&&(l.ae.e2==0&&(l.ae.e3==0&&(l.ae.e4==0&&(l.ae.e5==0&&(l.ae.e6==0&&0==0)))))) then
 bif l.aY==0 then
 (aa.dL l.ae.e7 0 10000000).bind fun b1=>
 bif b1 then
 (aa.dL l.Room 1 500).bind fun b2=>
 bif b2 then
 bif (↑l.ag.length:Int)==1 then
 (aa.bH l).bind fun l3=>
 bif decide ((↑l3.length:Int)≤l.Room) then
 (aa.gJ l).bind fun b4=>
 some b4
 else
 some false
 else
 some false
 else
 some false
 else
 some false
 else
 some false
 else
 some false
 else
 some false
noncomputable def Go.aa.lz(q:Queue):Option Bool:=
 (aa.eZ q).bind fun b1=>
 some b1
noncomputable def Go.aa.kh(l:Queue)(now:Int):Option Int:=
 (aa.eZ l).bind fun b1=>
 bif !b1 then
 some 1
 else
 (aa.dL now 0 10000000).bind fun b2=>
 bif !b2 then
 some 1
 else
 bif decide (now<l.ae.e7) then
 some 18
 else
 some 0
noncomputable def Go.aa.eR(l:Queue)(list:List ai)(now:Int):Option Queue:=
 (aa.fh list).bind fun l1=>
 some (Queue.mk l.af l.Room [l1] (A8.mk l.ae.e0 l.ae.e1 l.ae.e2 l.ae.e3 l.ae.e4 l.ae.e5 l.ae.e6 now) l.aY)
noncomputable def Go.aa.nF(q:Queue)(p:an)(now:Int):Option (Queue×(List an)×Int):=
 (aa.lT p).bind fun b1=>
 bif !b1 then
 some (zQ,[],1)
 else
 (aa.kh q now).bind fun i2=>
 bif !i2==0 then
 some (zQ,[],i2)
 else
 (aa.bH q).bind fun l3=>
 bif (↑l3.length:Int)==q.Room then
 (aa.bH q).bind fun l4=>
 (aa.eR q l4 now).bind fun q5=>
 some (q5,[p],0)
 else
 (aa.bH q).bind fun l6=>
 (aa.gv [l6,[ai.mk p now]]).bind fun l7=>
 (aa.eR q l7 now).bind fun q8=>
 some (q8,[],0)
noncomputable def Go.aa.p7(q:Queue)(now:Int):Option (Queue×an×Bool×(List an)×Int):=
 (aa.kh q now).bind fun i1=>
 bif !i1==0 then
 some (zQ,zP,false,[],i1)
 else
 (aa.bH q).bind fun l2=>
 bif (↑l2.length:Int)==0 then
 (aa.eR q [] now:Option Queue).bind fun q3=>
 some (q3,zP,false,[],0)
 else
 (aa.bH q).bind fun l4=>
 gd (decide (1≤l4.length)) <|
 (aa.eR q (List.drop 1 l4) now).bind fun q5=>
 (aa.bH q).bind fun l6=>
 (l6[0]?).bind fun q7=>
 some (q5,q7.P,true,[],0)
noncomputable def Go.aa.eT(n:Int)(low:Int)(high:Int):Option Bool:=
 bif decide (low≤n) then
 some (decide (n≤high))
 else
 some false
noncomputable def Go.aa.gV(p:an):Option Bool:=
 (aa.eT p.aG 0 7).bind fun b1=>
 bif b1 then
 (aa.eT p.Sub 0 3).bind fun b2=>
 bif b2 then
 (aa.eT p.Number 0 1000000000).bind fun b3=>
 bif b3 then
 (aa.eT p.Data 0 1000000000).bind fun b4=>
 bif b4 then
 (aa.eT p.aA 1 10000).bind fun b5=>
 bif b5 then
 (aa.eT p.aQ 0 10000000).bind fun b6=>
 some b6
 else
 some false
 else
 some false
 else
 some false
 else
 some false
 else
 some false
noncomputable def Go.aa.gl(q:Queue):Option Bool:=
 (q.ag[0]?).bind fun l1=>
 (aX (ω:=Bool ⊕ Bool×Int×Int) (fun ((b2,i3,i4):Bool×Int×Int)=>
 bif decide (i4<(↑l1.length:Int)) then
 gd (decide (0≤i4)) <|
 (l1[i4.toNat]?).bind fun q5=>
 (aa.gV q5.P).bind fun b6=>
 bif !b6 then
 some (Sum.inr (Sum.inl false))
 else
 (aa.eT q5.At i3 q.ae.e7).bind fun b7=>
 bif !b7 then
 some (Sum.inr (Sum.inl false))
 else
 some (Sum.inl (b2,q5.At,IntKind.i64.wrap (i4+1)))
 else
 some (Sum.inr (Sum.inr (b2,i3,i4)))) (false,0,0)).bind fun w8=>
 Sum.elim (fun b9=>
 some b9) (fun (yz,i11,i12)=>
 (q.ag[0]?).bind fun l13=>
 some (decide ((↑l13.length:Int)≤q.Room))) w8
noncomputable def Go.aa.fY(q:Queue):Option Bool:=
 bif !q.af.Kind==2 then
 some false
 else
 bif decide (q.af.A<1) then
 some false
 else
 bif decide (q.af.B≤q.af.A) then
 some false
 else
 bif decide (500<q.af.B) then
 some false
 else
 (aa.eT q.af.C 0 10).bind fun b1=>
 bif !b1 then
 some false
 else
 (aa.eT q.Room 1 500).bind fun b2=>
 bif !b2 then
 some false
 else
 bif !(↑q.ag.length:Int)==1 then
 some false
 else
 bif 0==0&&(q.ae.e1==0&&(q.ae.e2==0&&(q.ae.e3==0&&(q.ae.e4==0&&(q.ae.e5==0&&(q.ae.e6==0&&0==0)))))) then
 (aa.eT q.ae.e0 0 512000).bind fun b3=>
 bif b3 then
 (aa.eT q.ae.e7 0 10000000).bind fun b4=>
 bif b4 then
 (aa.gl q).bind fun b5=>
 some b5
 else
 some false
 else
 some false
 else
 some false
noncomputable def Go.aa.oy(Ej:Int):Option (Int×Int):=
 (aX (ω:=Int×Int) (fun ((i1,i2):Int×Int)=>
 bif decide (i2<3) then
 gd (decide (0≤i2)) <|
 bif decide (i2.toNat=0) then
 gd (decide (0≤i2)) <|
 bif decide (i2.toNat=0) then
 some (Sum.inl (IntKind.u64.wrap (IntKind.u64.wrap (↑(BitVec.ofInt 64 i1 ^^^ BitVec.ofInt 64 (i1.fdiv (2^min 30 64))).toNat:Int)*13787848793156543929),IntKind.i64.wrap (i2+1)))
 else
 bif decide (i2.toNat=1) then
 some (Sum.inl (IntKind.u64.wrap (IntKind.u64.wrap (↑(BitVec.ofInt 64 i1 ^^^ BitVec.ofInt 64 (i1.fdiv (2^min 30 64))).toNat:Int)*10723151780598845931),IntKind.i64.wrap (i2+1)))
 else
 gd (decide (i2.toNat=2)) <|
 some (Sum.inl (IntKind.u64.wrap (IntKind.u64.wrap (↑(BitVec.ofInt 64 i1 ^^^ BitVec.ofInt 64 (i1.fdiv (2^min 30 64))).toNat:Int)*1),IntKind.i64.wrap (i2+1)))
 else
 bif decide (i2.toNat=1) then
 gd (decide (0≤i2)) <|
 bif decide (i2.toNat=0) then
 some (Sum.inl (IntKind.u64.wrap (IntKind.u64.wrap (↑(BitVec.ofInt 64 i1 ^^^ BitVec.ofInt 64 (i1.fdiv (2^min 27 64))).toNat:Int)*13787848793156543929),IntKind.i64.wrap (i2+1)))
 else
 bif decide (i2.toNat=1) then
 some (Sum.inl (IntKind.u64.wrap (IntKind.u64.wrap (↑(BitVec.ofInt 64 i1 ^^^ BitVec.ofInt 64 (i1.fdiv (2^min 27 64))).toNat:Int)*10723151780598845931),IntKind.i64.wrap (i2+1)))
 else
 gd (decide (i2.toNat=2)) <|
 some (Sum.inl (IntKind.u64.wrap (IntKind.u64.wrap (↑(BitVec.ofInt 64 i1 ^^^ BitVec.ofInt 64 (i1.fdiv (2^min 27 64))).toNat:Int)*1),IntKind.i64.wrap (i2+1)))
 else
 gd (decide (i2.toNat=2)) <|
 gd (decide (0≤i2)) <|
 bif decide (i2.toNat=0) then
 some (Sum.inl (IntKind.u64.wrap (IntKind.u64.wrap (↑(BitVec.ofInt 64 i1 ^^^ BitVec.ofInt 64 (i1.fdiv (2^min 31 64))).toNat:Int)*13787848793156543929),IntKind.i64.wrap (i2+1)))
 else
 bif decide (i2.toNat=1) then
 some (Sum.inl (IntKind.u64.wrap (IntKind.u64.wrap (↑(BitVec.ofInt 64 i1 ^^^ BitVec.ofInt 64 (i1.fdiv (2^min 31 64))).toNat:Int)*10723151780598845931),IntKind.i64.wrap (i2+1)))
 else
 gd (decide (i2.toNat=2)) <|
 some (Sum.inl (IntKind.u64.wrap (IntKind.u64.wrap (↑(BitVec.ofInt 64 i1 ^^^ BitVec.ofInt 64 (i1.fdiv (2^min 31 64))).toNat:Int)*1),IntKind.i64.wrap (i2+1)))
 else
 some (Sum.inr (i1,i2))) (IntKind.u64.wrap (Ej+11400714819323198485),0)).bind fun (i3,i4)=>
 some (i3,IntKind.u64.wrap (Ej+11400714819323198485))
noncomputable def Go.aa.cJ(Ej:Int)(n:Int):Option (Int×Int×Int):=
 bif decide (n<1) then
 some (0,0,1)
 else
 bif decide (1000000000<n) then
 some (0,0,1)
 else
 (aa.oy Ej).bind fun (i1,i2)=>
 bif decide (n=0) then
 none
 else
 some ((IntKind.i64.wrap (i1.fdiv (2^min 32 64))).tmod n,i2,0)
noncomputable def Go.aa.p6(q:Queue)(p:an)(now:Int):Option (Queue×(List an)×Int):=
 (aa.gV p).bind fun b1=>
 bif !b1 then
 some (zQ,[],1)
 else
 (aa.fY q).bind fun b2=>
 bif !b2 then
 some (zQ,[],1)
 else
 (aa.eT now 0 10000000).bind fun b3=>
 bif !b3 then
 some (zQ,[],1)
 else
 bif decide (now<q.ae.e7) then
 some (zQ,[],18)
 else
 (q.ag[0]?).bind fun l4=>
 bif l4.isEmpty then
 bif decide (q.af.C<0) then
 none
 else
 bif 0==q.Room then
 some (Queue.mk q.af q.Room [[]] (A8.mk (IntKind.i64.wrap (q.ae.e0+(IntKind.i64.wrap (IntKind.i64.wrap (1024*0)-q.ae.e0)).fdiv (2^min q.af.C.toNat 64))) q.ae.e1 q.ae.e2 q.ae.e3 q.ae.e4 q.ae.e5 q.ae.e6 now) q.aY,[p],0)
 else
 bif decide (IntKind.i64.wrap (IntKind.i64.wrap (q.ae.e0+(IntKind.i64.wrap (IntKind.i64.wrap (1024*0)-q.ae.e0)).fdiv (2^min q.af.C.toNat 64))-IntKind.i64.wrap (1024*q.af.A))<0) then
 some (Queue.mk q.af q.Room [[ai.mk p now]] (A8.mk (IntKind.i64.wrap (q.ae.e0+(IntKind.i64.wrap (IntKind.i64.wrap (1024*0)-q.ae.e0)).fdiv (2^min q.af.C.toNat 64))) q.ae.e1 q.ae.e2 q.ae.e3 q.ae.e4 q.ae.e5 q.ae.e6 now) q.aY,[],0)
 else
 bif decide (IntKind.i64.wrap (1024*IntKind.i64.wrap (q.af.B-q.af.A))≤IntKind.i64.wrap (IntKind.i64.wrap (q.ae.e0+(IntKind.i64.wrap (IntKind.i64.wrap (1024*0)-q.ae.e0)).fdiv (2^min q.af.C.toNat 64))-IntKind.i64.wrap (1024*q.af.A))) then
 bif !p.aI then
 some (Queue.mk q.af q.Room [[]] (A8.mk (IntKind.i64.wrap (q.ae.e0+(IntKind.i64.wrap (IntKind.i64.wrap (1024*0)-q.ae.e0)).fdiv (2^min q.af.C.toNat 64))) q.ae.e1 q.ae.e2 q.ae.e3 q.ae.e4 q.ae.e5 q.ae.e6 now) q.aY,[p],0)
 else
 some (Queue.mk q.af q.Room [[ai.mk (an.mk p.aG p.Sub p.Number p.Data p.aA p.aQ p.aI true) now]] (A8.mk (IntKind.i64.wrap (q.ae.e0+(IntKind.i64.wrap (IntKind.i64.wrap (1024*0)-q.ae.e0)).fdiv (2^min q.af.C.toNat 64))) q.ae.e1 q.ae.e2 q.ae.e3 q.ae.e4 q.ae.e5 q.ae.e6 now) q.aY,[],0)
 else
 (aa.cJ q.aY (IntKind.i64.wrap (1024*IntKind.i64.wrap (q.af.B-q.af.A)))).bind fun (i5,i6,i7)=>
 bif decide (i5<IntKind.i64.wrap (IntKind.i64.wrap (q.ae.e0+(IntKind.i64.wrap (IntKind.i64.wrap (1024*0)-q.ae.e0)).fdiv (2^min q.af.C.toNat 64))-IntKind.i64.wrap (1024*q.af.A))) then
 bif !p.aI then
 some (Queue.mk q.af q.Room [[]] (A8.mk (IntKind.i64.wrap (q.ae.e0+(IntKind.i64.wrap (IntKind.i64.wrap (1024*0)-q.ae.e0)).fdiv (2^min q.af.C.toNat 64))) q.ae.e1 q.ae.e2 q.ae.e3 q.ae.e4 q.ae.e5 q.ae.e6 now) i6,[p],0)
 else
 some (Queue.mk q.af q.Room [[ai.mk (an.mk p.aG p.Sub p.Number p.Data p.aA p.aQ p.aI true) now]] (A8.mk (IntKind.i64.wrap (q.ae.e0+(IntKind.i64.wrap (IntKind.i64.wrap (1024*0)-q.ae.e0)).fdiv (2^min q.af.C.toNat 64))) q.ae.e1 q.ae.e2 q.ae.e3 q.ae.e4 q.ae.e5 q.ae.e6 now) i6,[],0)
 else
 some (Queue.mk q.af q.Room [[ai.mk p now]] (A8.mk (IntKind.i64.wrap (q.ae.e0+(IntKind.i64.wrap (IntKind.i64.wrap (1024*0)-q.ae.e0)).fdiv (2^min q.af.C.toNat 64))) q.ae.e1 q.ae.e2 q.ae.e3 q.ae.e4 q.ae.e5 q.ae.e6 now) i6,[],0)
 else
 gd (decide (l4.length*64≤2^44)&&decide (l4.length≤2^44)) <|
 bif decide (q.af.C<0) then
 none
 else
 bif (↑l4.length:Int)==q.Room then
 some (Queue.mk q.af q.Room [l4] (A8.mk (IntKind.i64.wrap (q.ae.e0+(IntKind.i64.wrap (IntKind.i64.wrap (1024*(↑l4.length:Int))-q.ae.e0)).fdiv (2^min q.af.C.toNat 64))) q.ae.e1 q.ae.e2 q.ae.e3 q.ae.e4 q.ae.e5 q.ae.e6 now) q.aY,[p],0)
 else
 bif decide (IntKind.i64.wrap (IntKind.i64.wrap (q.ae.e0+(IntKind.i64.wrap (IntKind.i64.wrap (1024*(↑l4.length:Int))-q.ae.e0)).fdiv (2^min q.af.C.toNat 64))-IntKind.i64.wrap (1024*q.af.A))<0) then
 gd (decide ((l4.length+1)*64≤2^44)&&decide (l4.length+1≤2^44)) <|
 some (Queue.mk q.af q.Room [l4++[ai.mk p now]] (A8.mk (IntKind.i64.wrap (q.ae.e0+(IntKind.i64.wrap (IntKind.i64.wrap (1024*(↑l4.length:Int))-q.ae.e0)).fdiv (2^min q.af.C.toNat 64))) q.ae.e1 q.ae.e2 q.ae.e3 q.ae.e4 q.ae.e5 q.ae.e6 now) q.aY,[],0)
 else
 bif decide (IntKind.i64.wrap (1024*IntKind.i64.wrap (q.af.B-q.af.A))≤IntKind.i64.wrap (IntKind.i64.wrap (q.ae.e0+(IntKind.i64.wrap (IntKind.i64.wrap (1024*(↑l4.length:Int))-q.ae.e0)).fdiv (2^min q.af.C.toNat 64))-IntKind.i64.wrap (1024*q.af.A))) then
 bif !p.aI then
 some (Queue.mk q.af q.Room [l4] (A8.mk (IntKind.i64.wrap (q.ae.e0+(IntKind.i64.wrap (IntKind.i64.wrap (1024*(↑l4.length:Int))-q.ae.e0)).fdiv (2^min q.af.C.toNat 64))) q.ae.e1 q.ae.e2 q.ae.e3 q.ae.e4 q.ae.e5 q.ae.e6 now) q.aY,[p],0)
 else
 gd (decide ((l4.length+1)*64≤2^44)&&decide (l4.length+1≤2^44)) <|
 some (Queue.mk q.af q.Room [l4++[ai.mk (an.mk p.aG p.Sub p.Number p.Data p.aA p.aQ p.aI true) now]] (A8.mk (IntKind.i64.wrap (q.ae.e0+(IntKind.i64.wrap (IntKind.i64.wrap (1024*(↑l4.length:Int))-q.ae.e0)).fdiv (2^min q.af.C.toNat 64))) q.ae.e1 q.ae.e2 q.ae.e3 q.ae.e4 q.ae.e5 q.ae.e6 now) q.aY,[],0)
 else
 (aa.cJ q.aY (IntKind.i64.wrap (1024*IntKind.i64.wrap (q.af.B-q.af.A)))).bind fun (i8,i9,i10)=>
 bif decide (i8<IntKind.i64.wrap (IntKind.i64.wrap (q.ae.e0+(IntKind.i64.wrap (IntKind.i64.wrap (1024*(↑l4.length:Int))-q.ae.e0)).fdiv (2^min q.af.C.toNat 64))-IntKind.i64.wrap (1024*q.af.A))) then
 bif !p.aI then
 some (Queue.mk q.af q.Room [l4] (A8.mk (IntKind.i64.wrap (q.ae.e0+(IntKind.i64.wrap (IntKind.i64.wrap (1024*(↑l4.length:Int))-q.ae.e0)).fdiv (2^min q.af.C.toNat 64))) q.ae.e1 q.ae.e2 q.ae.e3 q.ae.e4 q.ae.e5 q.ae.e6 now) i9,[p],0)
 else
 gd (decide ((l4.length+1)*64≤2^44)&&decide (l4.length+1≤2^44)) <|
 some (Queue.mk q.af q.Room [l4++[ai.mk (an.mk p.aG p.Sub p.Number p.Data p.aA p.aQ p.aI true) now]] (A8.mk (IntKind.i64.wrap (q.ae.e0+(IntKind.i64.wrap (IntKind.i64.wrap (1024*(↑l4.length:Int))-q.ae.e0)).fdiv (2^min q.af.C.toNat 64))) q.ae.e1 q.ae.e2 q.ae.e3 q.ae.e4 q.ae.e5 q.ae.e6 now) i9,[],0)
 else
 gd (decide ((l4.length+1)*64≤2^44)&&decide (l4.length+1≤2^44)) <|
 some (Queue.mk q.af q.Room [l4++[ai.mk p now]] (A8.mk (IntKind.i64.wrap (q.ae.e0+(IntKind.i64.wrap (IntKind.i64.wrap (1024*(↑l4.length:Int))-q.ae.e0)).fdiv (2^min q.af.C.toNat 64))) q.ae.e1 q.ae.e2 q.ae.e3 q.ae.e4 q.ae.e5 q.ae.e6 now) i9,[],0)
noncomputable def Go.aa.nE(q:Queue)(now:Int):Option (Queue×an×Bool×(List an)×Int):=
 (aa.fY q).bind fun b1=>
 bif !b1 then
 some (zQ,zP,false,[],1)
 else
 (aa.eT now 0 10000000).bind fun b2=>
 bif !b2 then
 some (zQ,zP,false,[],1)
 else
 bif decide (now<q.ae.e7) then
 some (zQ,zP,false,[],18)
 else
 (q.ag[0]?).bind fun l3=>
 bif l3.isEmpty then
 some (Queue.mk q.af q.Room [[]] (A8.mk q.ae.e0 q.ae.e1 q.ae.e2 q.ae.e3 q.ae.e4 q.ae.e5 q.ae.e6 now) q.aY,zP,false,[],0)
 else
 gd (decide (l3.length*64≤2^44)&&decide (l3.length≤2^44)) <|
 bif (↑l3.length:Int)==0 then
 some (Queue.mk q.af q.Room [l3] (A8.mk q.ae.e0 q.ae.e1 q.ae.e2 q.ae.e3 q.ae.e4 q.ae.e5 q.ae.e6 now) q.aY,zP,false,[],0)
 else
 gd (decide (1≤(↑l3.length:Int).toNat)&&decide ((↑l3.length:Int).toNat≤(↑l3.length:Int).toNat)&&decide ((↑l3.length:Int).toNat≤none.getD (l3.length-0))&&decide (0<l3.length)) <|
 gd (decide (0<l3.length)) <|
 (l3[0]?).bind fun q4=>
 gd (decide (1+((↑l3.length:Int).toNat-1)≤l3.length)) <|
 some (Queue.mk q.af q.Room [List.take ((↑l3.length:Int).toNat-1) (List.drop 1 l3)] (A8.mk q.ae.e0 q.ae.e1 q.ae.e2 q.ae.e3 q.ae.e4 q.ae.e5 q.ae.e6 now) q.aY,q4.P,true,[],0)
noncomputable def Go.aa.bo(n:Int)(low:Int)(high:Int):Option Bool:=
 bif decide (low≤n) then
 some (decide (n≤high))
 else
 some false
noncomputable def Go.aa.eU(n:Int):Option Bool:=
 (aa.bo n 0 10000000).bind fun b1=>
 some b1
noncomputable def Go.aa.eH(p:an):Option Bool:=
 (aa.bo p.aG 0 7).bind fun b1=>
 bif b1 then
 (aa.bo p.Sub 0 3).bind fun b2=>
 bif b2 then
 (aa.bo p.Number 0 1000000000).bind fun b3=>
 bif b3 then
 (aa.bo p.Data 0 1000000000).bind fun b4=>
 bif b4 then
 (aa.bo p.aA 1 10000).bind fun b5=>
 bif b5 then
 (aa.eU p.aQ).bind fun b6=>
 some b6
 else
 some false
 else
 some false
 else
 some false
 else
 some false
 else
 some false
noncomputable def Go.aa.eC(q:Queue):Option Bool:=
 bif !q.af.Kind==3 then
 some false
 else
 (aa.bo q.af.A 0 1000000).bind fun b1=>
 bif !b1 then
 some false
 else
 (aa.bo q.af.B 1 1000000).bind fun b2=>
 bif !b2 then
 some false
 else
 bif !q.af.C==0 then
 some false
 else
 (aa.bo q.Room 1 500).bind fun b3=>
 bif !b3 then
 some false
 else
 bif !(↑q.ag.length:Int)==1 then
 some false
 else
 bif !q.aY==0 then
 some false
 else
 (aa.eU q.ae.e7).bind fun b4=>
 bif !b4 then
 some false
 else
 (aa.bo q.ae.e0 0 (IntKind.i64.wrap (IntKind.i64.wrap (q.ae.e7+q.af.B)+1))).bind fun b5=>
 bif !b5 then
 some false
 else
 (aa.bo q.ae.e1 0 1000000000).bind fun b6=>
 bif !b6 then
 some false
 else
 bif q.ae.e0==0 then
 bif !q.ae.e1==0 then
 some false
 else
 (q.ag[0]?).bind fun l7=>
 bif decide (q.Room<(↑l7.length:Int)) then
 some false
 else
 bif !q.ae.e2==0 then
 some false
 else
 bif !q.ae.e3==0 then
 some false
 else
 bif !q.ae.e4==0 then
 some false
 else
 bif !q.ae.e5==0 then
 some false
 else
 bif !q.ae.e6==0 then
 some false
 else
 (q.ag[0]?).bind fun l8=>
 (aX (ω:=Bool ⊕ Bool×Int×Int) (fun ((b9,i10,i11):Bool×Int×Int)=>
 bif decide (i11<(↑l8.length:Int)) then
 gd (decide (0≤i11)) <|
 (l8[i11.toNat]?).bind fun BU=>
 (aa.eH BU.P).bind fun uA=>
 bif !uA then
 some (Sum.inr (Sum.inl false))
 else
 (aa.bo BU.At i10 q.ae.e7).bind fun lA=>
 bif !lA then
 some (Sum.inr (Sum.inl false))
 else
 some (Sum.inl (b9,BU.At,IntKind.i64.wrap (i11+1)))
 else
 some (Sum.inr (Sum.inr (b9,i10,i11)))) (false,0,0)).bind fun w15=>
 Sum.elim (fun B7=>
 some B7) (fun (Gg,i18,i19)=>
 some true) w15
 else
 (q.ag[0]?).bind fun jm=>
 bif decide (q.Room<(↑jm.length:Int)) then
 some false
 else
 bif !q.ae.e2==0 then
 some false
 else
 bif !q.ae.e3==0 then
 some false
 else
 bif !q.ae.e4==0 then
 some false
 else
 bif !q.ae.e5==0 then
 some false
 else
 bif !q.ae.e6==0 then
 some false
 else
 (q.ag[0]?).bind fun yD=>
 (aX (ω:=Bool ⊕ Bool×Int×Int) (fun ((Kh,i23,i24):Bool×Int×Int)=>
 bif decide (i24<(↑yD.length:Int)) then
 gd (decide (0≤i24)) <|
 (yD[i24.toNat]?).bind fun SR=>
 (aa.eH SR.P).bind fun UX=>
 bif !UX then
 some (Sum.inr (Sum.inl false))
 else
 (aa.bo SR.At i23 q.ae.e7).bind fun Qo=>
 bif !Qo then
 some (Sum.inr (Sum.inl false))
 else
 some (Sum.inl (Kh,SR.At,IntKind.i64.wrap (i24+1)))
 else
 some (Sum.inr (Sum.inr (Kh,i23,i24)))) (false,0,0)).bind fun w28=>
 Sum.elim (fun b29=>
 some b29) (fun (b30,i31,i32)=>
 some true) w28
noncomputable def Go.aa.gW(q:Queue)(p:an)(now:Int):Option (Queue×(List an)×Int):=
 (aa.eH p).bind fun b1=>
 bif !b1 then
 some (zQ,[],1)
 else
 (aa.eC q).bind fun b2=>
 bif !b2 then
 some (zQ,[],1)
 else
 (aa.eU now).bind fun b3=>
 bif !b3 then
 some (zQ,[],1)
 else
 bif decide (now<q.ae.e7) then
 some (zQ,[],18)
 else
 (q.ag[0]?).bind fun l4=>
 (q.ag[0]?).bind fun l5=>
 gd (decide (0≤IntKind.i64.wrap ((↑l5.length:Int)+1))) <|
 gd (decide ((↑l4.length:Int).toNat≤(IntKind.i64.wrap ((↑l5.length:Int)+1)).toNat)&&decide ((IntKind.i64.wrap ((↑l5.length:Int)+1)).toNat*64≤2^47)&&decide ((IntKind.i64.wrap ((↑l5.length:Int)+1)).toNat<2^62)) <|
 (q.ag[0]?).bind fun l6=>
 gd (decide (0+(↑l4.length:Int).toNat≤(List.replicate (IntKind.i64.wrap ((↑l5.length:Int)+1)).toNat zW).length)&&decide (l6.length≤(↑l4.length:Int).toNat)) <|
 bif decide (q.Room≤(↑(↑l4.length:Int).toNat:Int)) then
 gd (decide (0+(↑l4.length:Int).toNat≤(l6++List.drop (0+l6.length) (List.replicate (IntKind.i64.wrap ((↑l5.length:Int)+1)).toNat zW)).length)) <|
 some (Queue.mk q.af q.Room [List.take (↑l4.length:Int).toNat (List.drop 0 (l6++List.drop (0+l6.length) (List.replicate (IntKind.i64.wrap ((↑l5.length:Int)+1)).toNat zW)))] (A8.mk q.ae.e0 q.ae.e1 q.ae.e2 q.ae.e3 q.ae.e4 q.ae.e5 q.ae.e6 now) q.aY,[p],0)
 else
 gd (decide ((↑l4.length:Int).toNat+1≤(IntKind.i64.wrap ((↑l5.length:Int)+1)).toNat)&&decide (0+(↑l4.length:Int).toNat+1≤(l6++List.drop (0+l6.length) (List.replicate (IntKind.i64.wrap ((↑l5.length:Int)+1)).toNat zW)).length)) <|
 gd (decide (0+((↑l4.length:Int).toNat+1)≤(List.take (0+(↑l4.length:Int).toNat) (l6++List.drop (0+l6.length) (List.replicate (IntKind.i64.wrap ((↑l5.length:Int)+1)).toNat zW))++([ai.mk p now]++List.drop (0+(↑l4.length:Int).toNat+1) (l6++List.drop (0+l6.length) (List.replicate (IntKind.i64.wrap ((↑l5.length:Int)+1)).toNat zW)))).length)) <|
 some (Queue.mk q.af q.Room [List.take ((↑l4.length:Int).toNat+1) (List.drop 0 (List.take (0+(↑l4.length:Int).toNat) (l6++List.drop (0+l6.length) (List.replicate (IntKind.i64.wrap ((↑l5.length:Int)+1)).toNat zW))++([ai.mk p now]++List.drop (0+(↑l4.length:Int).toNat+1) (l6++List.drop (0+l6.length) (List.replicate (IntKind.i64.wrap ((↑l5.length:Int)+1)).toNat zW)))))] (A8.mk q.ae.e0 q.ae.e1 q.ae.e2 q.ae.e3 q.ae.e4 q.ae.e5 q.ae.e6 now) q.aY,[],0)
noncomputable def Go.aa.kj(q:Queue)(now:Int):Option (Queue×an×Bool×(List an)×Int):=
 (aa.eC q).bind fun b1=>
 bif !b1 then
 some (zQ,zP,false,[],1)
 else
 (aa.eU now).bind fun b2=>
 bif !b2 then
 some (zQ,zP,false,[],1)
 else
 bif decide (now<q.ae.e7) then
 some (zQ,zP,false,[],18)
 else
 (q.ag[0]?).bind fun l3=>
 (q.ag[0]?).bind fun l4=>
 gd (decide (0≤IntKind.i64.wrap ((↑l4.length:Int)+1))) <|
 gd (decide ((↑l3.length:Int).toNat≤(IntKind.i64.wrap ((↑l4.length:Int)+1)).toNat)&&decide ((IntKind.i64.wrap ((↑l4.length:Int)+1)).toNat*64≤2^47)&&decide ((IntKind.i64.wrap ((↑l4.length:Int)+1)).toNat<2^62)) <|
 (q.ag[0]?).bind fun l5=>
 gd (decide (0+(↑l3.length:Int).toNat≤(List.replicate (IntKind.i64.wrap ((↑l4.length:Int)+1)).toNat zW).length)&&decide (l5.length≤(↑l3.length:Int).toNat)) <|
 (aX (ω:=Bool×Int×List an×List an×Int×Int×Int×Int×Int×Int×Int×Int×Int×Int×Int×Int×Int×Int×Int×Int×Int×Int×Int×Int×Int×Int×Int×Int×Bool×Bool×Int×Int×Int×Int×Int×Int×Int×Int×Int×Int×Int×Int×Int×Int ⊕ Bool×Int×List an×List an×Int×Int×Int×Int×Int×Int×Int×Int×Int×Int×Int×Int×Int×Int×Int×Int×Int×Int) (fun ((b6,i7,l8,l9,i10,i11,i12,i13,i14,i15,i16,i17,i18,i19,i20,i21,i22,i23,i24,i25,i26,i27):Bool×Int×List an×List an×Int×Int×Int×Int×Int×Int×Int×Int×Int×Int×Int×Int×Int×Int×Int×Int×Int×Int)=>
 bif decide (0<(↑i26.toNat:Int)) then
 gd (decide (0<i26.toNat)) <|
 ((l5++List.drop (0+l5.length) (List.replicate (IntKind.i64.wrap ((↑l4.length:Int)+1)).toNat zW))[i25.toNat+0]?).bind fun jB=>
 gd (decide (1≤i26.toNat)&&decide (i26.toNat≤(some i27.toNat).getD ((l5++List.drop (0+l5.length) (List.replicate (IntKind.i64.wrap ((↑l4.length:Int)+1)).toNat zW)).length-i25.toNat))&&decide (0<(l5++List.drop (0+l5.length) (List.replicate (IntKind.i64.wrap ((↑l4.length:Int)+1)).toNat zW)).length)) <|
 bif decide (IntKind.i64.wrap (now-jB.At)<i11) then
 bif jB.P.ay then
 some (Sum.inr (Sum.inl (true,0,l8,l9,i10,i11,i12,i13,i14,0,0,i17,i18,i19,i20,i21,i22,i23,i24,(↑(i25.toNat+1):Int),(↑(i26.toNat-1):Int),(↑(i27.toNat-1):Int),jB.P.aG,jB.P.Sub,jB.P.Number,jB.P.Data,jB.P.aA,jB.P.aQ,jB.P.aI,true,i10,i11,i12,i13,i14,0,0,i17,i18,i19,i20,i21,i22,i23)))
 else
 some (Sum.inr (Sum.inl (true,0,l8,l9,i10,i11,i12,i13,i14,0,0,i17,i18,i19,i20,i21,i22,i23,i24,(↑(i25.toNat+1):Int),(↑(i26.toNat-1):Int),(↑(i27.toNat-1):Int),jB.P.aG,jB.P.Sub,jB.P.Number,jB.P.Data,jB.P.aA,jB.P.aQ,jB.P.aI,false,i10,i11,i12,i13,i14,0,0,i17,i18,i19,i20,i21,i22,i23)))
 else
 bif i15==0 then
 bif jB.P.ay then
 some (Sum.inr (Sum.inl (true,0,l8,l9,i10,i11,i12,i13,i14,IntKind.i64.wrap (IntKind.i64.wrap (i24+i12)+1),i16,i17,i18,i19,i20,i21,i22,i23,i24,(↑(i25.toNat+1):Int),(↑(i26.toNat-1):Int),(↑(i27.toNat-1):Int),jB.P.aG,jB.P.Sub,jB.P.Number,jB.P.Data,jB.P.aA,jB.P.aQ,jB.P.aI,true,i10,i11,i12,i13,i14,IntKind.i64.wrap (IntKind.i64.wrap (i24+i12)+1),i16,i17,i18,i19,i20,i21,i22,i23)))
 else
 some (Sum.inr (Sum.inl (true,0,l8,l9,i10,i11,i12,i13,i14,IntKind.i64.wrap (IntKind.i64.wrap (i24+i12)+1),i16,i17,i18,i19,i20,i21,i22,i23,i24,(↑(i25.toNat+1):Int),(↑(i26.toNat-1):Int),(↑(i27.toNat-1):Int),jB.P.aG,jB.P.Sub,jB.P.Number,jB.P.Data,jB.P.aA,jB.P.aQ,jB.P.aI,false,i10,i11,i12,i13,i14,IntKind.i64.wrap (IntKind.i64.wrap (i24+i12)+1),i16,i17,i18,i19,i20,i21,i22,i23)))
 else
 bif decide (IntKind.i64.wrap (i15-1)≤i24) then
 bif decide (IntKind.i64.wrap ((if IntKind.i64.wrap (i16+1)<1000000000 then IntKind.i64.wrap (i16+1) else 1000000000)+1)=0) then
 none
 else
 bif !jB.P.aI then
 gd (decide ((l9.length+1)*56≤2^44)&&decide (l9.length+1≤2^44)) <|
 some (Sum.inl (b6,i7,l8,l9++[jB.P],i10,i11,i12,i13,i14,IntKind.i64.wrap (i15+if 1<IntKind.i64.wrap (i12.tdiv (IntKind.i64.wrap ((if IntKind.i64.wrap (i16+1)<1000000000 then IntKind.i64.wrap (i16+1) else 1000000000)+1))) then IntKind.i64.wrap (i12.tdiv (IntKind.i64.wrap ((if IntKind.i64.wrap (i16+1)<1000000000 then IntKind.i64.wrap (i16+1) else 1000000000)+1))) else 1),if IntKind.i64.wrap (i16+1)<1000000000 then IntKind.i64.wrap (i16+1) else 1000000000,i17,i18,i19,i20,i21,i22,i23,i24,(↑(i25.toNat+1):Int),(↑(i26.toNat-1):Int),(↑(i27.toNat-1):Int)))
 else
 bif jB.P.ay then
 some (Sum.inr (Sum.inl (true,0,l8,l9,i10,i11,i12,i13,i14,IntKind.i64.wrap (i15+if 1<IntKind.i64.wrap (i12.tdiv (IntKind.i64.wrap ((if IntKind.i64.wrap (i16+1)<1000000000 then IntKind.i64.wrap (i16+1) else 1000000000)+1))) then IntKind.i64.wrap (i12.tdiv (IntKind.i64.wrap ((if IntKind.i64.wrap (i16+1)<1000000000 then IntKind.i64.wrap (i16+1) else 1000000000)+1))) else 1),if IntKind.i64.wrap (i16+1)<1000000000 then IntKind.i64.wrap (i16+1) else 1000000000,i17,i18,i19,i20,i21,i22,i23,i24,(↑(i25.toNat+1):Int),(↑(i26.toNat-1):Int),(↑(i27.toNat-1):Int),jB.P.aG,jB.P.Sub,jB.P.Number,jB.P.Data,jB.P.aA,jB.P.aQ,jB.P.aI,true,i10,i11,i12,i13,i14,IntKind.i64.wrap (i15+if 1<IntKind.i64.wrap (i12.tdiv (IntKind.i64.wrap ((if IntKind.i64.wrap (i16+1)<1000000000 then IntKind.i64.wrap (i16+1) else 1000000000)+1))) then IntKind.i64.wrap (i12.tdiv (IntKind.i64.wrap ((if IntKind.i64.wrap (i16+1)<1000000000 then IntKind.i64.wrap (i16+1) else 1000000000)+1))) else 1),if IntKind.i64.wrap (i16+1)<1000000000 then IntKind.i64.wrap (i16+1) else 1000000000,i17,i18,i19,i20,i21,i22,i23)))
 else
 some (Sum.inr (Sum.inl (true,0,l8,l9,i10,i11,i12,i13,i14,IntKind.i64.wrap (i15+if 1<IntKind.i64.wrap (i12.tdiv (IntKind.i64.wrap ((if IntKind.i64.wrap (i16+1)<1000000000 then IntKind.i64.wrap (i16+1) else 1000000000)+1))) then IntKind.i64.wrap (i12.tdiv (IntKind.i64.wrap ((if IntKind.i64.wrap (i16+1)<1000000000 then IntKind.i64.wrap (i16+1) else 1000000000)+1))) else 1),if IntKind.i64.wrap (i16+1)<1000000000 then IntKind.i64.wrap (i16+1) else 1000000000,i17,i18,i19,i20,i21,i22,i23,i24,(↑(i25.toNat+1):Int),(↑(i26.toNat-1):Int),(↑(i27.toNat-1):Int),jB.P.aG,jB.P.Sub,jB.P.Number,jB.P.Data,jB.P.aA,jB.P.aQ,jB.P.aI,true,i10,i11,i12,i13,i14,IntKind.i64.wrap (i15+if 1<IntKind.i64.wrap (i12.tdiv (IntKind.i64.wrap ((if IntKind.i64.wrap (i16+1)<1000000000 then IntKind.i64.wrap (i16+1) else 1000000000)+1))) then IntKind.i64.wrap (i12.tdiv (IntKind.i64.wrap ((if IntKind.i64.wrap (i16+1)<1000000000 then IntKind.i64.wrap (i16+1) else 1000000000)+1))) else 1),if IntKind.i64.wrap (i16+1)<1000000000 then IntKind.i64.wrap (i16+1) else 1000000000,i17,i18,i19,i20,i21,i22,i23)))
 else
 bif jB.P.ay then
 some (Sum.inr (Sum.inl (true,0,l8,l9,i10,i11,i12,i13,i14,i15,i16,i17,i18,i19,i20,i21,i22,i23,i24,(↑(i25.toNat+1):Int),(↑(i26.toNat-1):Int),(↑(i27.toNat-1):Int),jB.P.aG,jB.P.Sub,jB.P.Number,jB.P.Data,jB.P.aA,jB.P.aQ,jB.P.aI,true,i10,i11,i12,i13,i14,i15,i16,i17,i18,i19,i20,i21,i22,i23)))
 else
 some (Sum.inr (Sum.inl (true,0,l8,l9,i10,i11,i12,i13,i14,i15,i16,i17,i18,i19,i20,i21,i22,i23,i24,(↑(i25.toNat+1):Int),(↑(i26.toNat-1):Int),(↑(i27.toNat-1):Int),jB.P.aG,jB.P.Sub,jB.P.Number,jB.P.Data,jB.P.aA,jB.P.aQ,jB.P.aI,false,i10,i11,i12,i13,i14,i15,i16,i17,i18,i19,i20,i21,i22,i23)))
 else
 some (Sum.inr (Sum.inr (b6,i7,l8,l9,i10,i11,i12,i13,i14,i15,i16,i17,i18,i19,i20,i21,i22,i23,i24,(↑i25.toNat:Int),(↑i26.toNat:Int),(↑i27.toNat:Int))))) (false,0,[],[],q.af.Kind,q.af.A,q.af.B,q.af.C,q.Room,q.ae.e0,q.ae.e1,q.ae.e2,q.ae.e3,q.ae.e4,q.ae.e5,q.ae.e6,now,q.aY,now,(↑0:Int),(↑(↑l3.length:Int).toNat:Int),(↑(IntKind.i64.wrap ((↑l4.length:Int)+1)).toNat:Int))).bind fun w29=>
 Sum.elim (fun (b30,i31,kx,zf,i34,i35,i36,i37,i38,i39,i40,i41,i42,i43,i44,i45,i46,i47,i48,i49,i50,i51,i52,i53,i54,i55,i56,i57,b58,b59,i60,i61,i62,i63,i64,i65,i66,i67,i68,i69,i70,i71,i72,i73)=>
 bif decide (i49.toNat+i50.toNat≤(l5++List.drop (0+l5.length) (List.replicate (IntKind.i64.wrap ((↑l4.length:Int)+1)).toNat zW)).length) then
 some (Queue.mk (af.mk i60 i61 i62 i63) i64 [List.take i50.toNat (List.drop i49.toNat (l5++List.drop (0+l5.length) (List.replicate (IntKind.i64.wrap ((↑l4.length:Int)+1)).toNat zW)))] (A8.mk i65 i66 i67 i68 i69 i70 i71 i72) i73,an.mk i52 i53 i54 i55 i56 i57 b58 b59,b30,zf,i31)
 else
 none) (fun (b74,i75,l76,l77,i78,i79,i80,i81,i82,i83,i84,i85,i86,i87,i88,i89,i90,i91,i92,i93,i94,i95)=>
 bif decide (i93.toNat+i94.toNat≤(l5++List.drop (0+l5.length) (List.replicate (IntKind.i64.wrap ((↑l4.length:Int)+1)).toNat zW)).length) then
 some (Queue.mk (af.mk i78 i79 i80 i81) i82 [List.take i94.toNat (List.drop i93.toNat (l5++List.drop (0+l5.length) (List.replicate (IntKind.i64.wrap ((↑l4.length:Int)+1)).toNat zW)))] (A8.mk 0 0 i85 i86 i87 i88 i89 i90) i91,zP,false,l77,0)
 else
 none) w29
noncomputable def Go.aa.aR(n:Int)(low:Int)(high:Int):Option Bool:=
 bif decide (low≤n) then
 some (decide (n≤high))
 else
 some false
noncomputable def Go.aa.gr(p:an):Option Bool:=
 (aa.aR p.aG 0 7).bind fun b1=>
 bif b1 then
 (aa.aR p.Sub 0 3).bind fun b2=>
 bif b2 then
 (aa.aR p.Number 0 1000000000).bind fun b3=>
 bif b3 then
 (aa.aR p.Data 0 1000000000).bind fun b4=>
 bif b4 then
 (aa.aR p.aA 1 10000).bind fun b5=>
 bif b5 then
 (aa.aR p.aQ 0 10000000).bind fun b6=>
 some b6
 else
 some false
 else
 some false
 else
 some false
 else
 some false
 else
 some false
noncomputable def Go.aa.cC(s:Queue):Option Bool:=
 bif !s.af.Kind==4 then
 some false
 else
 (aa.aR s.af.A 1 1000000).bind fun b1=>
 bif !b1 then
 some false
 else
 (aa.aR s.af.B 0 1000).bind fun b2=>
 bif !b2 then
 some false
 else
 (aa.aR s.af.C 0 1000).bind fun b3=>
 bif !b3 then
 some false
 else
 (aa.aR s.Room 1 500).bind fun b4=>
 bif !b4 then
 some false
 else
 bif !(↑s.ag.length:Int)==1 then
 some false
 else
 (s.ag[0]?).bind fun l5=>
 bif decide (s.Room<(↑l5.length:Int)) then
 some false
 else
 (aa.aR s.ae.e7 0 10000000).bind fun b6=>
 bif !b6 then
 some false
 else
 (aa.aR s.ae.e0 0 1000000).bind fun b7=>
 bif !b7 then
 some false
 else
 (aa.aR s.ae.e1 0 s.ae.e7).bind fun b8=>
 bif !b8 then
 some false
 else
 (aa.aR s.ae.e2 0 10000000).bind fun b9=>
 bif !b9 then
 some false
 else
 bif !(s.ae.e3==0&&(s.ae.e4==0&&(s.ae.e5==0&&s.ae.e6==0))) then
 some false
 else
 (s.ag[0]?).bind fun mW=>
 (aX (ω:=Int×Int ⊕ Int×Int×Int) (fun ((i11,i12,i13):Int×Int×Int)=>
 bif decide (i12<(↑mW.length:Int)) then
 gd (decide (0≤i12)) <|
 (mW[i12.toNat]?).bind fun X2=>
 (aa.aR X2.At i13 s.ae.e7).bind fun Db=>
 bif Db then
 (aa.gr X2.P).bind fun B7=>
 bif !B7 then
 some (Sum.inr (Sum.inl (i12,X2.At)))
 else
 some (Sum.inl (i11,IntKind.i64.wrap (i12+1),X2.At))
 else
 some (Sum.inr (Sum.inl (i12,X2.At)))
 else
 some (Sum.inr (Sum.inr (i11,i12,i13)))) (0,0,0)).bind fun w17=>
 Sum.elim (fun (i18,i19)=>
 some (!decide (0≤i18))) (fun (i20,i21,i22)=>
 some true) w17
noncomputable def Go.aa.fR(q:Queue):Option Bool:=
 (aa.cC q).bind fun b1=>
 some b1
noncomputable def Go.aa.dJ(s:Queue)(now:Int):Option Int:=
 (s.ag[0]?).bind fun l1=>
 bif decide (0<(↑l1.length:Int)) then
 (l1[0]?).bind fun q2=>
 some (IntKind.i64.wrap (now-q2.At))
 else
 some 0
noncomputable def Go.aa.ef(n:Int):Option Int:=
 bif decide (n.tmod 1000<0) then
 some (IntKind.i64.wrap (IntKind.i64.wrap (n.tdiv 1000)-1))
 else
 some (IntKind.i64.wrap (n.tdiv 1000))
noncomputable def Go.aa.db(MB:Int)(s:Queue)(d:Int)(o:Int):Option Int:=
 (aa.ef (IntKind.i64.wrap (s.af.B*IntKind.i64.wrap (d-s.af.A)))).bind fun i1=>
 (aa.ef (IntKind.i64.wrap (s.af.C*IntKind.i64.wrap (d-o)))).bind fun i2=>
 some (IntKind.i64.wrap (IntKind.i64.wrap (MB+i1)+i2))
noncomputable def Go.aa.ki(q:Queue)(p:an)(now:Int):Option (Queue×(List an)×Int):=
 (aa.gr p).bind fun b1=>
 bif !b1 then
 some (zQ,[],1)
 else
 (aa.cC q).bind fun b2=>
 bif !b2 then
 some (zQ,[],1)
 else
 (aa.aR now 0 10000000).bind fun b3=>
 bif !b3 then
 some (zQ,[],1)
 else
 bif decide (now<q.ae.e7) then
 some (zQ,[],18)
 else
 (q.ag[0]?).bind fun l4=>
 (aa.fh l4).bind fun l5=>
 bif decide (IntKind.i64.wrap (now-q.ae.e1)<16000) then
 bif (↑l5.length:Int)==q.Room then
 some (Queue.mk q.af q.Room [l5] (A8.mk q.ae.e0 q.ae.e1 q.ae.e2 q.ae.e3 q.ae.e4 q.ae.e5 q.ae.e6 now) q.aY,[p],0)
 else
 (aa.cJ q.aY 1000000).bind fun (i6,i7,i8)=>
 bif decide (i6<q.ae.e0) then
 bif !p.aI then
 some (Queue.mk q.af q.Room [l5] (A8.mk q.ae.e0 q.ae.e1 q.ae.e2 q.ae.e3 q.ae.e4 q.ae.e5 q.ae.e6 now) i7,[p],0)
 else
 bif p.ay then
 gd (decide ((l5.length+1)*64≤2^44)&&decide (l5.length+1≤2^44)) <|
 some (Queue.mk q.af q.Room [l5++[ai.mk (an.mk p.aG p.Sub p.Number p.Data p.aA p.aQ p.aI true) now]] (A8.mk q.ae.e0 q.ae.e1 q.ae.e2 q.ae.e3 q.ae.e4 q.ae.e5 q.ae.e6 now) i7,[],0)
 else
 gd (decide ((l5.length+1)*64≤2^44)&&decide (l5.length+1≤2^44)) <|
 some (Queue.mk q.af q.Room [l5++[ai.mk (an.mk p.aG p.Sub p.Number p.Data p.aA p.aQ p.aI (decide (i6<q.ae.e0))) now]] (A8.mk q.ae.e0 q.ae.e1 q.ae.e2 q.ae.e3 q.ae.e4 q.ae.e5 q.ae.e6 now) i7,[],0)
 else
 bif p.ay then
 gd (decide ((l5.length+1)*64≤2^44)&&decide (l5.length+1≤2^44)) <|
 some (Queue.mk q.af q.Room [l5++[ai.mk (an.mk p.aG p.Sub p.Number p.Data p.aA p.aQ p.aI true) now]] (A8.mk q.ae.e0 q.ae.e1 q.ae.e2 q.ae.e3 q.ae.e4 q.ae.e5 q.ae.e6 now) i7,[],0)
 else
 gd (decide ((l5.length+1)*64≤2^44)&&decide (l5.length+1≤2^44)) <|
 some (Queue.mk q.af q.Room [l5++[ai.mk (an.mk p.aG p.Sub p.Number p.Data p.aA p.aQ p.aI (decide (i6<q.ae.e0))) now]] (A8.mk q.ae.e0 q.ae.e1 q.ae.e2 q.ae.e3 q.ae.e4 q.ae.e5 q.ae.e6 now) i7,[],0)
 else
 (aa.dJ (Queue.mk q.af q.Room [l5] q.ae q.aY) now).bind fun i9=>
 (aa.db q.ae.e0 (Queue.mk q.af q.Room [l5] q.ae q.aY) i9 q.ae.e2).bind fun i10=>
 bif (↑l5.length:Int)==q.Room then
 some (Queue.mk q.af q.Room [l5] (A8.mk (if (if 0<i10 then i10 else 0)<1000000 then if 0<i10 then i10 else 0 else 1000000) now i9 q.ae.e3 q.ae.e4 q.ae.e5 q.ae.e6 now) q.aY,[p],0)
 else
 (aa.cJ q.aY 1000000).bind fun (i11,i12,i13)=>
 bif decide (i11<if (if 0<i10 then i10 else 0)<1000000 then if 0<i10 then i10 else 0 else 1000000) then
 bif !p.aI then
 some (Queue.mk q.af q.Room [l5] (A8.mk (if (if 0<i10 then i10 else 0)<1000000 then if 0<i10 then i10 else 0 else 1000000) now i9 q.ae.e3 q.ae.e4 q.ae.e5 q.ae.e6 now) i12,[p],0)
 else
 bif p.ay then
 gd (decide ((l5.length+1)*64≤2^44)&&decide (l5.length+1≤2^44)) <|
 some (Queue.mk q.af q.Room [l5++[ai.mk (an.mk p.aG p.Sub p.Number p.Data p.aA p.aQ p.aI true) now]] (A8.mk (if (if 0<i10 then i10 else 0)<1000000 then if 0<i10 then i10 else 0 else 1000000) now i9 q.ae.e3 q.ae.e4 q.ae.e5 q.ae.e6 now) i12,[],0)
 else
 gd (decide ((l5.length+1)*64≤2^44)&&decide (l5.length+1≤2^44)) <|
 some (Queue.mk q.af q.Room [l5++[ai.mk (an.mk p.aG p.Sub p.Number p.Data p.aA p.aQ p.aI (decide (i11<if (if 0<i10 then i10 else 0)<1000000 then if 0<i10 then i10 else 0 else 1000000))) now]] (A8.mk (if (if 0<i10 then i10 else 0)<1000000 then if 0<i10 then i10 else 0 else 1000000) now i9 q.ae.e3 q.ae.e4 q.ae.e5 q.ae.e6 now) i12,[],0)
 else
 bif p.ay then
 gd (decide ((l5.length+1)*64≤2^44)&&decide (l5.length+1≤2^44)) <|
 some (Queue.mk q.af q.Room [l5++[ai.mk (an.mk p.aG p.Sub p.Number p.Data p.aA p.aQ p.aI true) now]] (A8.mk (if (if 0<i10 then i10 else 0)<1000000 then if 0<i10 then i10 else 0 else 1000000) now i9 q.ae.e3 q.ae.e4 q.ae.e5 q.ae.e6 now) i12,[],0)
 else
 gd (decide ((l5.length+1)*64≤2^44)&&decide (l5.length+1≤2^44)) <|
 some (Queue.mk q.af q.Room [l5++[ai.mk (an.mk p.aG p.Sub p.Number p.Data p.aA p.aQ p.aI (decide (i11<if (if 0<i10 then i10 else 0)<1000000 then if 0<i10 then i10 else 0 else 1000000))) now]] (A8.mk (if (if 0<i10 then i10 else 0)<1000000 then if 0<i10 then i10 else 0 else 1000000) now i9 q.ae.e3 q.ae.e4 q.ae.e5 q.ae.e6 now) i12,[],0)
noncomputable def Go.aa.jf(q:Queue)(now:Int):Option (Queue×an×Bool×(List an)×Int):=
 (aa.cC q).bind fun b1=>
 bif !b1 then
 some (zQ,zP,false,[],1)
 else
 (aa.aR now 0 10000000).bind fun b2=>
 bif !b2 then
 some (zQ,zP,false,[],1)
 else
 bif decide (now<q.ae.e7) then
 some (zQ,zP,false,[],18)
 else
 (q.ag[0]?).bind fun l3=>
 (aa.fh l3).bind fun l4=>
 bif decide (IntKind.i64.wrap (now-q.ae.e1)<16000) then
 bif (↑l4.length:Int)==0 then
 some (Queue.mk q.af q.Room [l4] (A8.mk q.ae.e0 q.ae.e1 q.ae.e2 q.ae.e3 q.ae.e4 q.ae.e5 q.ae.e6 now) q.aY,zP,false,[],0)
 else
 gd (decide (0<l4.length)) <|
 (l4[0]?).bind fun q5=>
 gd (decide (1≤l4.length)&&decide (l4.length≤none.getD (l4.length-0))&&decide (0<l4.length)) <|
 gd (decide (1+(l4.length-1)≤l4.length)) <|
 some (Queue.mk q.af q.Room [List.take (l4.length-1) (List.drop 1 l4)] (A8.mk q.ae.e0 q.ae.e1 q.ae.e2 q.ae.e3 q.ae.e4 q.ae.e5 q.ae.e6 now) q.aY,q5.P,true,[],0)
 else
 (aa.dJ (Queue.mk q.af q.Room [l4] q.ae q.aY) now).bind fun i6=>
 (aa.db q.ae.e0 (Queue.mk q.af q.Room [l4] q.ae q.aY) i6 q.ae.e2).bind fun i7=>
 bif (↑l4.length:Int)==0 then
 some (Queue.mk q.af q.Room [l4] (A8.mk (if (if 0<i7 then i7 else 0)<1000000 then if 0<i7 then i7 else 0 else 1000000) now i6 q.ae.e3 q.ae.e4 q.ae.e5 q.ae.e6 now) q.aY,zP,false,[],0)
 else
 gd (decide (0<l4.length)) <|
 (l4[0]?).bind fun q8=>
 gd (decide (1≤l4.length)&&decide (l4.length≤none.getD (l4.length-0))&&decide (0<l4.length)) <|
 gd (decide (1+(l4.length-1)≤l4.length)) <|
 some (Queue.mk q.af q.Room [List.take (l4.length-1) (List.drop 1 l4)] (A8.mk (if (if 0<i7 then i7 else 0)<1000000 then if 0<i7 then i7 else 0 else 1000000) now i6 q.ae.e3 q.ae.e4 q.ae.e5 q.ae.e6 now) q.aY,q8.P,true,[],0)
noncomputable def Go.aa.bL(n:Int)(low:Int)(high:Int):Option Bool:=
 bif decide (low≤n) then
 some (decide (n≤high))
 else
 some false
noncomputable def Go.aa.eJ(q:Queue):Option ((A8 Int)):=
 some (A8.mk (IntKind.i64.wrap (q.ae.e2.tdiv 32768)) (q.ae.e2.tmod 32768) (IntKind.i64.wrap (q.ae.e3.tdiv 32768)) (q.ae.e3.tmod 32768) (IntKind.i64.wrap (q.ae.e4.tdiv 32768)) (q.ae.e4.tmod 32768) (IntKind.i64.wrap (q.ae.e5.tdiv 32768)) (q.ae.e5.tmod 32768))
noncomputable def Go.aa.fP(p:an):Option Bool:=
 (aa.bL p.aG 0 7).bind fun b1=>
 bif b1 then
 (aa.bL p.Sub 0 3).bind fun b2=>
 bif b2 then
 (aa.bL p.Number 0 1000000000).bind fun b3=>
 bif b3 then
 (aa.bL p.Data 0 1000000000).bind fun b4=>
 bif b4 then
 (aa.bL p.aA 1 10000).bind fun b5=>
 bif b5 then
 (aa.bL p.aQ 0 10000000).bind fun b6=>
 some b6
 else
 some false
 else
 some false
 else
 some false
 else
 some false
 else
 some false
noncomputable def Go.aa.dh(l:List ai)(xw:Int)(last:Int):Option Bool:=
 (aX (ω:=Bool ⊕ Bool×Int×Int) (fun ((b1,i2,i3):Bool×Int×Int)=>
 bif decide (i3<(↑l.length:Int)) then
 gd (decide (0≤i3)) <|
 (l[i3.toNat]?).bind fun q4=>
 (aa.fP q4.P).bind fun b5=>
 bif !b5 then
 some (Sum.inr (Sum.inl false))
 else
 bif !q4.P.aG==xw then
 some (Sum.inr (Sum.inl false))
 else
 (aa.bL q4.At i2 last).bind fun b6=>
 bif !b6 then
 some (Sum.inr (Sum.inl false))
 else
 some (Sum.inl (b1,q4.At,IntKind.i64.wrap (i3+1)))
 else
 some (Sum.inr (Sum.inr (b1,i2,i3)))) (false,0,0)).bind fun w7=>
 Sum.elim (fun b8=>
 some b8) (fun (b9,i10,i11)=>
 some true) w7
noncomputable def Go.aa.dF(q:Queue):Option Int:=
 (aX (ω:=Int×Int) (fun ((i1,i2):Int×Int)=>
 bif decide (i2<(↑q.ag.length:Int)) then
 gd (decide (0≤i2)) <|
 (q.ag[i2.toNat]?).bind fun l3=>
 some (Sum.inl (IntKind.i64.wrap (i1+(↑l3.length:Int)),IntKind.i64.wrap (i2+1)))
 else
 some (Sum.inr (i1,i2))) (0,0)).bind fun (i4,i5)=>
 some i4
noncomputable def Go.aa.eD(q:Queue):Option Bool:=
 bif !q.af.Kind==5 then
 some false
 else
 (aa.bL q.af.A 100 10000).bind fun b1=>
 bif !b1 then
 some false
 else
 bif !q.af.B==0 then
 some false
 else
 bif !q.af.C==0 then
 some false
 else
 (aa.bL q.Room 1 500).bind fun b2=>
 bif !b2 then
 some false
 else
 bif !(↑q.ag.length:Int)==8 then
 some false
 else
 bif !q.aY==0 then
 some false
 else
 bif !v8 q.ae 6==0 then
 some false
 else
 (aa.bL (v8 q.ae 0) 0 7).bind fun b3=>
 bif !b3 then
 some false
 else
 (aa.bL (v8 q.ae 1) 0 1).bind fun b4=>
 bif !b4 then
 some false
 else
 bif v8 q.ae 1==1 then
 gd (decide (0≤v8 q.ae 0)) <|
 (q.ag[(v8 q.ae 0).toNat]?).bind fun l5=>
 bif (↑l5.length:Int)==0 then
 some false
 else
 (aa.bL (v8 q.ae 7) 0 10000000).bind fun b6=>
 bif !b6 then
 some false
 else
 (aX (ω:=Bool ⊕ Bool×Int) (fun ((b7,i8):Bool×Int)=>
 bif decide (i8<4) then
 gd (decide (0≤IntKind.i64.wrap (2+i8))) <|
 gd (decide ((IntKind.i64.wrap (2+i8)).toNat<8)) <|
 bif decide (v8 q.ae (IntKind.i64.wrap (2+i8)).toNat<0) then
 some (Sum.inr (Sum.inl false))
 else
 some (Sum.inl (b7,IntKind.i64.wrap (i8+1)))
 else
 some (Sum.inr (Sum.inr (b7,i8)))) (false,0)).bind fun w9=>
 Sum.elim (fun yz=>
 some yz) (fun (vf,i12)=>
 (aa.eJ q).bind fun rv=>
 (aX (ω:=Bool ⊕ Bool×Int) (fun ((lA,i15):Bool×Int)=>
 bif decide (i15<8) then
 gd (decide (0≤i15)) <|
 gd (decide (i15.toNat<8)) <|
 (aa.bL (v8 rv i15.toNat) 0 19999).bind fun B7=>
 bif !B7 then
 some (Sum.inr (Sum.inl false))
 else
 bif decide (0<v8 rv i15.toNat) then
 gd (decide (0≤i15)) <|
 (q.ag[i15.toNat]?).bind fun Rh=>
 bif (↑Rh.length:Int)==0 then
 some (Sum.inr (Sum.inl false))
 else
 gd (decide (0≤i15)) <|
 (q.ag[i15.toNat]?).bind fun EZ=>
 (aa.dh EZ i15 (v8 q.ae 7)).bind fun NW=>
 bif !NW then
 some (Sum.inr (Sum.inl false))
 else
 bif v8 q.ae 1==1 then
 bif decide (0<v8 rv i15.toNat) then
 bif !v8 q.ae 0==i15 then
 gd (decide (0≤i15)) <|
 (q.ag[i15.toNat]?).bind fun jm=>
 (jm[0]?).bind fun L8=>
 bif decide (L8.P.aA≤v8 rv i15.toNat) then
 some (Sum.inr (Sum.inl false))
 else
 some (Sum.inl (lA,IntKind.i64.wrap (i15+1)))
 else
 some (Sum.inl (lA,IntKind.i64.wrap (i15+1)))
 else
 some (Sum.inl (lA,IntKind.i64.wrap (i15+1)))
 else
 bif decide (0<v8 rv i15.toNat) then
 gd (decide (0≤i15)) <|
 (q.ag[i15.toNat]?).bind fun l22=>
 (l22[0]?).bind fun q23=>
 bif decide (q23.P.aA≤v8 rv i15.toNat) then
 some (Sum.inr (Sum.inl false))
 else
 some (Sum.inl (lA,IntKind.i64.wrap (i15+1)))
 else
 some (Sum.inl (lA,IntKind.i64.wrap (i15+1)))
 else
 gd (decide (0≤i15)) <|
 (q.ag[i15.toNat]?).bind fun gN=>
 (aa.dh gN i15 (v8 q.ae 7)).bind fun Ri=>
 bif !Ri then
 some (Sum.inr (Sum.inl false))
 else
 bif v8 q.ae 1==1 then
 bif decide (0<v8 rv i15.toNat) then
 bif !v8 q.ae 0==i15 then
 gd (decide (0≤i15)) <|
 (q.ag[i15.toNat]?).bind fun l26=>
 (l26[0]?).bind fun XJ=>
 bif decide (XJ.P.aA≤v8 rv i15.toNat) then
 some (Sum.inr (Sum.inl false))
 else
 some (Sum.inl (lA,IntKind.i64.wrap (i15+1)))
 else
 some (Sum.inl (lA,IntKind.i64.wrap (i15+1)))
 else
 some (Sum.inl (lA,IntKind.i64.wrap (i15+1)))
 else
 bif decide (0<v8 rv i15.toNat) then
 gd (decide (0≤i15)) <|
 (q.ag[i15.toNat]?).bind fun iB=>
 (iB[0]?).bind fun q29=>
 bif decide (q29.P.aA≤v8 rv i15.toNat) then
 some (Sum.inr (Sum.inl false))
 else
 some (Sum.inl (lA,IntKind.i64.wrap (i15+1)))
 else
 some (Sum.inl (lA,IntKind.i64.wrap (i15+1)))
 else
 some (Sum.inr (Sum.inr (lA,i15)))) (vf,0)).bind fun w30=>
 Sum.elim (fun WH=>
 some WH) (fun (b32,i33)=>
 (aa.dF q).bind fun i34=>
 some (decide (i34≤q.Room))) w30) w9
 else
 (aa.bL (v8 q.ae 7) 0 10000000).bind fun b35=>
 bif !b35 then
 some false
 else
 (aX (ω:=Bool ⊕ Bool×Int) (fun ((b36,i37):Bool×Int)=>
 bif decide (i37<4) then
 gd (decide (0≤IntKind.i64.wrap (2+i37))) <|
 gd (decide ((IntKind.i64.wrap (2+i37)).toNat<8)) <|
 bif decide (v8 q.ae (IntKind.i64.wrap (2+i37)).toNat<0) then
 some (Sum.inr (Sum.inl false))
 else
 some (Sum.inl (b36,IntKind.i64.wrap (i37+1)))
 else
 some (Sum.inr (Sum.inr (b36,i37)))) (false,0)).bind fun w38=>
 Sum.elim (fun b39=>
 some b39) (fun (b40,i41)=>
 (aa.eJ q).bind fun Qp=>
 (aX (ω:=Bool ⊕ Bool×Int) (fun ((Lq,i44):Bool×Int)=>
 bif decide (i44<8) then
 gd (decide (0≤i44)) <|
 gd (decide (i44.toNat<8)) <|
 (aa.bL (v8 Qp i44.toNat) 0 19999).bind fun b45=>
 bif !b45 then
 some (Sum.inr (Sum.inl false))
 else
 bif decide (0<v8 Qp i44.toNat) then
 gd (decide (0≤i44)) <|
 (q.ag[i44.toNat]?).bind fun l46=>
 bif (↑l46.length:Int)==0 then
 some (Sum.inr (Sum.inl false))
 else
 gd (decide (0≤i44)) <|
 (q.ag[i44.toNat]?).bind fun l47=>
 (aa.dh l47 i44 (v8 q.ae 7)).bind fun b48=>
 bif !b48 then
 some (Sum.inr (Sum.inl false))
 else
 bif v8 q.ae 1==1 then
 bif decide (0<v8 Qp i44.toNat) then
 bif !v8 q.ae 0==i44 then
 gd (decide (0≤i44)) <|
 (q.ag[i44.toNat]?).bind fun zg=>
 (zg[0]?).bind fun q50=>
 bif decide (q50.P.aA≤v8 Qp i44.toNat) then
 some (Sum.inr (Sum.inl false))
 else
 some (Sum.inl (Lq,IntKind.i64.wrap (i44+1)))
 else
 some (Sum.inl (Lq,IntKind.i64.wrap (i44+1)))
 else
 some (Sum.inl (Lq,IntKind.i64.wrap (i44+1)))
 else
 bif decide (0<v8 Qp i44.toNat) then
 gd (decide (0≤i44)) <|
 (q.ag[i44.toNat]?).bind fun l51=>
 (l51[0]?).bind fun kW=>
 bif decide (kW.P.aA≤v8 Qp i44.toNat) then
 some (Sum.inr (Sum.inl false))
 else
 some (Sum.inl (Lq,IntKind.i64.wrap (i44+1)))
 else
 some (Sum.inl (Lq,IntKind.i64.wrap (i44+1)))
 else
 gd (decide (0≤i44)) <|
 (q.ag[i44.toNat]?).bind fun l53=>
 (aa.dh l53 i44 (v8 q.ae 7)).bind fun b54=>
 bif !b54 then
 some (Sum.inr (Sum.inl false))
 else
 bif v8 q.ae 1==1 then
 bif decide (0<v8 Qp i44.toNat) then
 bif !v8 q.ae 0==i44 then
 gd (decide (0≤i44)) <|
 (q.ag[i44.toNat]?).bind fun l55=>
 (l55[0]?).bind fun q56=>
 bif decide (q56.P.aA≤v8 Qp i44.toNat) then
 some (Sum.inr (Sum.inl false))
 else
 some (Sum.inl (Lq,IntKind.i64.wrap (i44+1)))
 else
 some (Sum.inl (Lq,IntKind.i64.wrap (i44+1)))
 else
 some (Sum.inl (Lq,IntKind.i64.wrap (i44+1)))
 else
 bif decide (0<v8 Qp i44.toNat) then
 gd (decide (0≤i44)) <|
 (q.ag[i44.toNat]?).bind fun l57=>
 (l57[0]?).bind fun q58=>
 bif decide (q58.P.aA≤v8 Qp i44.toNat) then
 some (Sum.inr (Sum.inl false))
 else
 some (Sum.inl (Lq,IntKind.i64.wrap (i44+1)))
 else
 some (Sum.inl (Lq,IntKind.i64.wrap (i44+1)))
 else
 some (Sum.inr (Sum.inr (Lq,i44)))) (b40,0)).bind fun w59=>
 Sum.elim (fun b60=>
 some b60) (fun (RC,i62)=>
 (aa.dF q).bind fun i63=>
 some (decide (i63≤q.Room))) w59) w38
noncomputable def Go.aa.lW(q:Queue)(p:an)(now:Int):Option (Queue×(List an)×Int):=
 (aa.fP p).bind fun b1=>
 bif !b1 then
 some (zQ,[],1)
 else
 (aa.eD q).bind fun b2=>
 bif !b2 then
 some (zQ,[],1)
 else
 (aa.bL now 0 10000000).bind fun b3=>
 bif !b3 then
 some (zQ,[],1)
 else
 bif decide (now<q.ae.e7) then
 some (zQ,[],18)
 else
 gd (true&&decide (q.ag.length=8)) <|
 (q.ag[0]?).bind fun l4=>
 (q.ag[1]?).bind fun l5=>
 (q.ag[2]?).bind fun l6=>
 (q.ag[3]?).bind fun l7=>
 (q.ag[4]?).bind fun l8=>
 (q.ag[5]?).bind fun l9=>
 (q.ag[6]?).bind fun mW=>
 (q.ag[7]?).bind fun Ol=>
 ((List.replicate 8 [])[0]?:Option (List ai)).bind fun X3=>
 ((List.replicate 8 [])[1]?:Option (List ai)).bind fun l13=>
 ((List.replicate 8 [])[2]?:Option (List ai)).bind fun Om=>
 ((List.replicate 8 [])[3]?:Option (List ai)).bind fun SS=>
 ((List.replicate 8 [])[4]?:Option (List ai)).bind fun X4=>
 ((List.replicate 8 [])[5]?:Option (List ai)).bind fun Rh=>
 ((List.replicate 8 [])[6]?:Option (List ai)).bind fun EZ=>
 ((List.replicate 8 [])[7]?:Option (List ai)).bind fun l19=>
 (some (IntKind.i64.wrap ((↑l4.length:Int)+1))).bind fun i20=>
 gd (decide (0≤i20)) <|
 gd (decide (0≤i20.toNat)&&decide (i20.toNat*64≤2^47)&&decide (i20.toNat<2^62)) <|
 gd (decide (0+l4.length≤i20.toNat)&&decide (0+l4.length≤(List.replicate i20.toNat zW).length)) <|
 (some (l4++List.drop (0+l4.length) (List.replicate i20.toNat zW))).bind fun yD=>
 (some 0:Option Nat).bind fun fu=>
 (some (0+l4.length)).bind fun yE=>
 (some (IntKind.i64.wrap ((↑l5.length:Int)+1))).bind fun i24=>
 gd (decide (0≤i24)) <|
 gd (decide (0≤i24.toNat)&&decide (i24.toNat*64≤2^47)&&decide (i24.toNat<2^62)) <|
 gd (decide (0+l5.length≤i24.toNat)&&decide (0+l5.length≤(List.replicate i24.toNat zW).length)) <|
 (some (l5++List.drop (0+l5.length) (List.replicate i24.toNat zW))).bind fun Bh=>
 (some 0:Option Nat).bind fun fw=>
 (some (0+l5.length)).bind fun yF=>
 (some (IntKind.i64.wrap ((↑l6.length:Int)+1))).bind fun i28=>
 gd (decide (0≤i28)) <|
 gd (decide (0≤i28.toNat)&&decide (i28.toNat*64≤2^47)&&decide (i28.toNat<2^62)) <|
 gd (decide (0+l6.length≤i28.toNat)&&decide (0+l6.length≤(List.replicate i28.toNat zW).length)) <|
 (some (l6++List.drop (0+l6.length) (List.replicate i28.toNat zW))).bind fun zh=>
 (some 0:Option Nat).bind fun fC=>
 (some (0+l6.length)).bind fun yG=>
 (some (IntKind.i64.wrap ((↑l7.length:Int)+1))).bind fun i32=>
 gd (decide (0≤i32)) <|
 gd (decide (0≤i32.toNat)&&decide (i32.toNat*64≤2^47)&&decide (i32.toNat<2^62)) <|
 gd (decide (0+l7.length≤i32.toNat)&&decide (0+l7.length≤(List.replicate i32.toNat zW).length)) <|
 (some (l7++List.drop (0+l7.length) (List.replicate i32.toNat zW))).bind fun zf=>
 (some 0:Option Nat).bind fun fD=>
 (some (0+l7.length)).bind fun yH=>
 (some (IntKind.i64.wrap ((↑l8.length:Int)+1))).bind fun i36=>
 gd (decide (0≤i36)) <|
 gd (decide (0≤i36.toNat)&&decide (i36.toNat*64≤2^47)&&decide (i36.toNat<2^62)) <|
 gd (decide (0+l8.length≤i36.toNat)&&decide (0+l8.length≤(List.replicate i36.toNat zW).length)) <|
 (some (l8++List.drop (0+l8.length) (List.replicate i36.toNat zW))).bind fun Bi=>
 (some 0:Option Nat).bind fun fE=>
 (some (0+l8.length)).bind fun yI=>
 (some (IntKind.i64.wrap ((↑l9.length:Int)+1))).bind fun i40=>
 gd (decide (0≤i40)) <|
 gd (decide (0≤i40.toNat)&&decide (i40.toNat*64≤2^47)&&decide (i40.toNat<2^62)) <|
 gd (decide (0+l9.length≤i40.toNat)&&decide (0+l9.length≤(List.replicate i40.toNat zW).length)) <|
 (some (l9++List.drop (0+l9.length) (List.replicate i40.toNat zW))).bind fun my=>
 (some 0:Option Nat).bind fun fF=>
 (some (0+l9.length)).bind fun yJ=>
 (some (IntKind.i64.wrap ((↑mW.length:Int)+1))).bind fun i44=>
 gd (decide (0≤i44)) <|
 gd (decide (0≤i44.toNat)&&decide (i44.toNat*64≤2^47)&&decide (i44.toNat<2^62)) <|
 gd (decide (0+mW.length≤i44.toNat)&&decide (0+mW.length≤(List.replicate i44.toNat zW).length)) <|
 (some (mW++List.drop (0+mW.length) (List.replicate i44.toNat zW))).bind fun Bj=>
 (some 0:Option Nat).bind fun fG=>
 (some (0+mW.length)).bind fun yK=>
 (some (IntKind.i64.wrap ((↑Ol.length:Int)+1))).bind fun i48=>
 gd (decide (0≤i48)) <|
 gd (decide (0≤i48.toNat)&&decide (i48.toNat*64≤2^47)&&decide (i48.toNat<2^62)) <|
 gd (decide (0+Ol.length≤i48.toNat)&&decide (0+Ol.length≤(List.replicate i48.toNat zW).length)) <|
 (some (Ol++List.drop (0+Ol.length) (List.replicate i48.toNat zW))).bind fun zg=>
 (some 0:Option Nat).bind fun fH=>
 (some (0+Ol.length)).bind fun yL=>
 gd (lc fu yE yD) <|
 gd (lc fw yF Bh) <|
 gd (lc fC yG zh) <|
 gd (lc fD yH zf) <|
 gd (lc fE yI Bi) <|
 gd (lc fF yJ my) <|
 gd (lc fG yK Bj) <|
 gd (lc fH yL zg) <|
 (aa.dF (Queue.mk q.af q.Room [tk fu yE yD,tk fw yF Bh,tk fC yG zh,tk fD yH zf,tk fE yI Bi,tk fF yJ my,tk fG yK Bj,tk fH yL zg] (A8.mk q.ae.e0 q.ae.e1 q.ae.e2 q.ae.e3 q.ae.e4 q.ae.e5 q.ae.e6 now) q.aY)).bind fun i52=>
 bif i52==q.Room then
 gd (lc fu yE yD) <|
 gd (lc fw yF Bh) <|
 gd (lc fC yG zh) <|
 gd (lc fD yH zf) <|
 gd (lc fE yI Bi) <|
 gd (lc fF yJ my) <|
 gd (lc fG yK Bj) <|
 gd (lc fH yL zg) <|
 some (Queue.mk q.af q.Room [tk fu yE yD,tk fw yF Bh,tk fC yG zh,tk fD yH zf,tk fE yI Bi,tk fF yJ my,tk fG yK Bj,tk fH yL zg] (A8.mk q.ae.e0 q.ae.e1 q.ae.e2 q.ae.e3 q.ae.e4 q.ae.e5 q.ae.e6 now) q.aY,[p],0)
 else
 bif p.aG==Int.ofNat 0 then
 gd (decide (yE+1≤i20.toNat)&&decide (fu+yE+1≤yD.length)) <|
 gd (decide (fu+(yE+1)≤(List.take (fu+yE) yD++([ai.mk (an.mk (Int.ofNat 0) p.Sub p.Number p.Data p.aA p.aQ p.aI p.ay) now]++List.drop (fu+yE+1) yD)).length)) <|
 gd (lc fw yF Bh) <|
 gd (lc fC yG zh) <|
 gd (lc fD yH zf) <|
 gd (lc fE yI Bi) <|
 gd (lc fF yJ my) <|
 gd (lc fG yK Bj) <|
 gd (lc fH yL zg) <|
 some (Queue.mk q.af q.Room [List.take (yE+1) (List.drop fu (List.take (fu+yE) yD++([ai.mk (an.mk (Int.ofNat 0) p.Sub p.Number p.Data p.aA p.aQ p.aI p.ay) now]++List.drop (fu+yE+1) yD))),tk fw yF Bh,tk fC yG zh,tk fD yH zf,tk fE yI Bi,tk fF yJ my,tk fG yK Bj,tk fH yL zg] (A8.mk q.ae.e0 q.ae.e1 q.ae.e2 q.ae.e3 q.ae.e4 q.ae.e5 q.ae.e6 now) q.aY,[],0)
 else
 bif p.aG==Int.ofNat 1 then
 gd (decide (yF+1≤i24.toNat)&&decide (fw+yF+1≤Bh.length)) <|
 gd (lc fu yE yD) <|
 gd (decide (fw+(yF+1)≤(List.take (fw+yF) Bh++([ai.mk (an.mk (Int.ofNat 1) p.Sub p.Number p.Data p.aA p.aQ p.aI p.ay) now]++List.drop (fw+yF+1) Bh)).length)) <|
 gd (lc fC yG zh) <|
 gd (lc fD yH zf) <|
 gd (lc fE yI Bi) <|
 gd (lc fF yJ my) <|
 gd (lc fG yK Bj) <|
 gd (lc fH yL zg) <|
 some (Queue.mk q.af q.Room [tk fu yE yD,List.take (yF+1) (List.drop fw (List.take (fw+yF) Bh++([ai.mk (an.mk (Int.ofNat 1) p.Sub p.Number p.Data p.aA p.aQ p.aI p.ay) now]++List.drop (fw+yF+1) Bh))),tk fC yG zh,tk fD yH zf,tk fE yI Bi,tk fF yJ my,tk fG yK Bj,tk fH yL zg] (A8.mk q.ae.e0 q.ae.e1 q.ae.e2 q.ae.e3 q.ae.e4 q.ae.e5 q.ae.e6 now) q.aY,[],0)
 else
 bif p.aG==Int.ofNat 2 then
 gd (decide (yG+1≤i28.toNat)&&decide (fC+yG+1≤zh.length)) <|
 gd (lc fu yE yD) <|
 gd (lc fw yF Bh) <|
 gd (decide (fC+(yG+1)≤(List.take (fC+yG) zh++([ai.mk (an.mk (Int.ofNat 2) p.Sub p.Number p.Data p.aA p.aQ p.aI p.ay) now]++List.drop (fC+yG+1) zh)).length)) <|
 gd (lc fD yH zf) <|
 gd (lc fE yI Bi) <|
 gd (lc fF yJ my) <|
 gd (lc fG yK Bj) <|
 gd (lc fH yL zg) <|
 some (Queue.mk q.af q.Room [tk fu yE yD,tk fw yF Bh,List.take (yG+1) (List.drop fC (List.take (fC+yG) zh++([ai.mk (an.mk (Int.ofNat 2) p.Sub p.Number p.Data p.aA p.aQ p.aI p.ay) now]++List.drop (fC+yG+1) zh))),tk fD yH zf,tk fE yI Bi,tk fF yJ my,tk fG yK Bj,tk fH yL zg] (A8.mk q.ae.e0 q.ae.e1 q.ae.e2 q.ae.e3 q.ae.e4 q.ae.e5 q.ae.e6 now) q.aY,[],0)
 else
 bif p.aG==Int.ofNat 3 then
 gd (decide (yH+1≤i32.toNat)&&decide (fD+yH+1≤zf.length)) <|
 gd (lc fu yE yD) <|
 gd (lc fw yF Bh) <|
 gd (lc fC yG zh) <|
 gd (decide (fD+(yH+1)≤(List.take (fD+yH) zf++([ai.mk (an.mk (Int.ofNat 3) p.Sub p.Number p.Data p.aA p.aQ p.aI p.ay) now]++List.drop (fD+yH+1) zf)).length)) <|
 gd (lc fE yI Bi) <|
 gd (lc fF yJ my) <|
 gd (lc fG yK Bj) <|
 gd (lc fH yL zg) <|
 some (Queue.mk q.af q.Room [tk fu yE yD,tk fw yF Bh,tk fC yG zh,List.take (yH+1) (List.drop fD (List.take (fD+yH) zf++([ai.mk (an.mk (Int.ofNat 3) p.Sub p.Number p.Data p.aA p.aQ p.aI p.ay) now]++List.drop (fD+yH+1) zf))),tk fE yI Bi,tk fF yJ my,tk fG yK Bj,tk fH yL zg] (A8.mk q.ae.e0 q.ae.e1 q.ae.e2 q.ae.e3 q.ae.e4 q.ae.e5 q.ae.e6 now) q.aY,[],0)
 else
 bif p.aG==Int.ofNat 4 then
 gd (decide (yI+1≤i36.toNat)&&decide (fE+yI+1≤Bi.length)) <|
 gd (lc fu yE yD) <|
 gd (lc fw yF Bh) <|
 gd (lc fC yG zh) <|
 gd (lc fD yH zf) <|
 gd (decide (fE+(yI+1)≤(List.take (fE+yI) Bi++([ai.mk (an.mk (Int.ofNat 4) p.Sub p.Number p.Data p.aA p.aQ p.aI p.ay) now]++List.drop (fE+yI+1) Bi)).length)) <|
 gd (lc fF yJ my) <|
 gd (lc fG yK Bj) <|
 gd (lc fH yL zg) <|
 some (Queue.mk q.af q.Room [tk fu yE yD,tk fw yF Bh,tk fC yG zh,tk fD yH zf,List.take (yI+1) (List.drop fE (List.take (fE+yI) Bi++([ai.mk (an.mk (Int.ofNat 4) p.Sub p.Number p.Data p.aA p.aQ p.aI p.ay) now]++List.drop (fE+yI+1) Bi))),tk fF yJ my,tk fG yK Bj,tk fH yL zg] (A8.mk q.ae.e0 q.ae.e1 q.ae.e2 q.ae.e3 q.ae.e4 q.ae.e5 q.ae.e6 now) q.aY,[],0)
 else
 bif p.aG==Int.ofNat 5 then
 gd (decide (yJ+1≤i40.toNat)&&decide (fF+yJ+1≤my.length)) <|
 gd (lc fu yE yD) <|
 gd (lc fw yF Bh) <|
 gd (lc fC yG zh) <|
 gd (lc fD yH zf) <|
 gd (lc fE yI Bi) <|
 gd (decide (fF+(yJ+1)≤(List.take (fF+yJ) my++([ai.mk (an.mk (Int.ofNat 5) p.Sub p.Number p.Data p.aA p.aQ p.aI p.ay) now]++List.drop (fF+yJ+1) my)).length)) <|
 gd (lc fG yK Bj) <|
 gd (lc fH yL zg) <|
 some (Queue.mk q.af q.Room [tk fu yE yD,tk fw yF Bh,tk fC yG zh,tk fD yH zf,tk fE yI Bi,List.take (yJ+1) (List.drop fF (List.take (fF+yJ) my++([ai.mk (an.mk (Int.ofNat 5) p.Sub p.Number p.Data p.aA p.aQ p.aI p.ay) now]++List.drop (fF+yJ+1) my))),tk fG yK Bj,tk fH yL zg] (A8.mk q.ae.e0 q.ae.e1 q.ae.e2 q.ae.e3 q.ae.e4 q.ae.e5 q.ae.e6 now) q.aY,[],0)
 else
 bif p.aG==Int.ofNat 6 then
 gd (decide (yK+1≤i44.toNat)&&decide (fG+yK+1≤Bj.length)) <|
 gd (lc fu yE yD) <|
 gd (lc fw yF Bh) <|
 gd (lc fC yG zh) <|
 gd (lc fD yH zf) <|
 gd (lc fE yI Bi) <|
 gd (lc fF yJ my) <|
 gd (decide (fG+(yK+1)≤(List.take (fG+yK) Bj++([ai.mk (an.mk (Int.ofNat 6) p.Sub p.Number p.Data p.aA p.aQ p.aI p.ay) now]++List.drop (fG+yK+1) Bj)).length)) <|
 gd (lc fH yL zg) <|
 some (Queue.mk q.af q.Room [tk fu yE yD,tk fw yF Bh,tk fC yG zh,tk fD yH zf,tk fE yI Bi,tk fF yJ my,List.take (yK+1) (List.drop fG (List.take (fG+yK) Bj++([ai.mk (an.mk (Int.ofNat 6) p.Sub p.Number p.Data p.aA p.aQ p.aI p.ay) now]++List.drop (fG+yK+1) Bj))),tk fH yL zg] (A8.mk q.ae.e0 q.ae.e1 q.ae.e2 q.ae.e3 q.ae.e4 q.ae.e5 q.ae.e6 now) q.aY,[],0)
 else
 gd (p.aG==Int.ofNat 7) <|
 gd (decide (yL+1≤i48.toNat)&&decide (fH+yL+1≤zg.length)) <|
 gd (lc fu yE yD) <|
 gd (lc fw yF Bh) <|
 gd (lc fC yG zh) <|
 gd (lc fD yH zf) <|
 gd (lc fE yI Bi) <|
 gd (lc fF yJ my) <|
 gd (lc fG yK Bj) <|
 gd (decide (fH+(yL+1)≤(List.take (fH+yL) zg++([ai.mk (an.mk (Int.ofNat 7) p.Sub p.Number p.Data p.aA p.aQ p.aI p.ay) now]++List.drop (fH+yL+1) zg)).length)) <|
 some (Queue.mk q.af q.Room [tk fu yE yD,tk fw yF Bh,tk fC yG zh,tk fD yH zf,tk fE yI Bi,tk fF yJ my,tk fG yK Bj,List.take (yL+1) (List.drop fH (List.take (fH+yL) zg++([ai.mk (an.mk (Int.ofNat 7) p.Sub p.Number p.Data p.aA p.aQ p.aI p.ay) now]++List.drop (fH+yL+1) zg)))] (A8.mk q.ae.e0 q.ae.e1 q.ae.e2 q.ae.e3 q.ae.e4 q.ae.e5 q.ae.e6 now) q.aY,[],0)
noncomputable def Go.aa.bI(q:Queue)(d:A8 Int):Option Queue:=
 some (Queue.mk q.af q.Room q.ag (A8.mk q.ae.e0 q.ae.e1 (IntKind.i64.wrap (IntKind.i64.wrap (32768*d.e0)+d.e1)) (IntKind.i64.wrap (IntKind.i64.wrap (32768*d.e2)+d.e3)) (IntKind.i64.wrap (IntKind.i64.wrap (32768*d.e4)+d.e5)) (IntKind.i64.wrap (IntKind.i64.wrap (32768*d.e6)+d.e7)) q.ae.e6 q.ae.e7) q.aY)
noncomputable def Go.aa.kl(q:Queue)(now:Int):Option (Queue×an×Bool×(List an)×Int):=
 (aa.eD q).bind fun b1=>
 bif !b1 then
 some (zQ,zP,false,[],1)
 else
 (aa.bL now 0 10000000).bind fun b2=>
 bif !b2 then
 some (zQ,zP,false,[],1)
 else
 bif decide (now<q.ae.e7) then
 some (zQ,zP,false,[],18)
 else
 gd (true&&decide (q.ag.length=8)) <|
 (q.ag[0]?).bind fun l3=>
 (q.ag[1]?).bind fun l4=>
 (q.ag[2]?).bind fun l5=>
 (q.ag[3]?).bind fun l6=>
 (q.ag[4]?).bind fun l7=>
 (q.ag[5]?).bind fun l8=>
 (q.ag[6]?).bind fun l9=>
 (q.ag[7]?).bind fun mW=>
 ((List.replicate 8 [])[0]?:Option (List ai)).bind fun Ol=>
 ((List.replicate 8 [])[1]?:Option (List ai)).bind fun X3=>
 ((List.replicate 8 [])[2]?:Option (List ai)).bind fun l13=>
 ((List.replicate 8 [])[3]?:Option (List ai)).bind fun Om=>
 ((List.replicate 8 [])[4]?:Option (List ai)).bind fun SS=>
 ((List.replicate 8 [])[5]?:Option (List ai)).bind fun X4=>
 ((List.replicate 8 [])[6]?:Option (List ai)).bind fun Rh=>
 ((List.replicate 8 [])[7]?:Option (List ai)).bind fun EZ=>
 (some (IntKind.i64.wrap ((↑l3.length:Int)+1))).bind fun i19=>
 gd (decide (0≤i19)) <|
 gd (decide (0≤i19.toNat)&&decide (i19.toNat*64≤2^47)&&decide (i19.toNat<2^62)) <|
 gd (decide (0+l3.length≤i19.toNat)&&decide (0+l3.length≤(List.replicate i19.toNat zW).length)) <|
 (some (l3++List.drop (0+l3.length) (List.replicate i19.toNat zW))).bind fun jm=>
 (some 0:Option Nat).bind fun kM=>
 (some (0+l3.length)).bind fun fu=>
 (some (IntKind.i64.wrap ((↑l4.length:Int)+1))).bind fun i23=>
 gd (decide (0≤i23)) <|
 gd (decide (0≤i23.toNat)&&decide (i23.toNat*64≤2^47)&&decide (i23.toNat<2^62)) <|
 gd (decide (0+l4.length≤i23.toNat)&&decide (0+l4.length≤(List.replicate i23.toNat zW).length)) <|
 (some (l4++List.drop (0+l4.length) (List.replicate i23.toNat zW))).bind fun gN=>
 (some 0:Option Nat).bind fun kN=>
 (some (0+l4.length)).bind fun fw=>
 (some (IntKind.i64.wrap ((↑l5.length:Int)+1))).bind fun i27=>
 gd (decide (0≤i27)) <|
 gd (decide (0≤i27.toNat)&&decide (i27.toNat*64≤2^47)&&decide (i27.toNat<2^62)) <|
 gd (decide (0+l5.length≤i27.toNat)&&decide (0+l5.length≤(List.replicate i27.toNat zW).length)) <|
 (some (l5++List.drop (0+l5.length) (List.replicate i27.toNat zW))).bind fun iB=>
 (some 0:Option Nat).bind fun kO=>
 (some (0+l5.length)).bind fun fC=>
 (some (IntKind.i64.wrap ((↑l6.length:Int)+1))).bind fun i31=>
 gd (decide (0≤i31)) <|
 gd (decide (0≤i31.toNat)&&decide (i31.toNat*64≤2^47)&&decide (i31.toNat<2^62)) <|
 gd (decide (0+l6.length≤i31.toNat)&&decide (0+l6.length≤(List.replicate i31.toNat zW).length)) <|
 (some (l6++List.drop (0+l6.length) (List.replicate i31.toNat zW))).bind fun kx=>
 (some 0:Option Nat).bind fun kP=>
 (some (0+l6.length)).bind fun fD=>
 (some (IntKind.i64.wrap ((↑l7.length:Int)+1))).bind fun i35=>
 gd (decide (0≤i35)) <|
 gd (decide (0≤i35.toNat)&&decide (i35.toNat*64≤2^47)&&decide (i35.toNat<2^62)) <|
 gd (decide (0+l7.length≤i35.toNat)&&decide (0+l7.length≤(List.replicate i35.toNat zW).length)) <|
 (some (l7++List.drop (0+l7.length) (List.replicate i35.toNat zW))).bind fun kE=>
 (some 0:Option Nat).bind fun kQ=>
 (some (0+l7.length)).bind fun fE=>
 (some (IntKind.i64.wrap ((↑l8.length:Int)+1))).bind fun i39=>
 gd (decide (0≤i39)) <|
 gd (decide (0≤i39.toNat)&&decide (i39.toNat*64≤2^47)&&decide (i39.toNat<2^62)) <|
 gd (decide (0+l8.length≤i39.toNat)&&decide (0+l8.length≤(List.replicate i39.toNat zW).length)) <|
 (some (l8++List.drop (0+l8.length) (List.replicate i39.toNat zW))).bind fun kF=>
 (some 0:Option Nat).bind fun kR=>
 (some (0+l8.length)).bind fun fF=>
 (some (IntKind.i64.wrap ((↑l9.length:Int)+1))).bind fun i43=>
 gd (decide (0≤i43)) <|
 gd (decide (0≤i43.toNat)&&decide (i43.toNat*64≤2^47)&&decide (i43.toNat<2^62)) <|
 gd (decide (0+l9.length≤i43.toNat)&&decide (0+l9.length≤(List.replicate i43.toNat zW).length)) <|
 (some (l9++List.drop (0+l9.length) (List.replicate i43.toNat zW))).bind fun kG=>
 (some 0:Option Nat).bind fun kS=>
 (some (0+l9.length)).bind fun fG=>
 (some (IntKind.i64.wrap ((↑mW.length:Int)+1))).bind fun i47=>
 gd (decide (0≤i47)) <|
 gd (decide (0≤i47.toNat)&&decide (i47.toNat*64≤2^47)&&decide (i47.toNat<2^62)) <|
 gd (decide (0+mW.length≤i47.toNat)&&decide (0+mW.length≤(List.replicate i47.toNat zW).length)) <|
 (some (mW++List.drop (0+mW.length) (List.replicate i47.toNat zW))).bind fun kH=>
 (some 0:Option Nat).bind fun kT=>
 (some (0+mW.length)).bind fun fH=>
 gd (lc kM fu jm) <|
 gd (lc kN fw gN) <|
 gd (lc kO fC iB) <|
 gd (lc kP fD kx) <|
 gd (lc kQ fE kE) <|
 gd (lc kR fF kF) <|
 gd (lc kS fG kG) <|
 gd (lc kT fH kH) <|
 (aa.dF (Queue.mk q.af q.Room [tk kM fu jm,tk kN fw gN,tk kO fC iB,tk kP fD kx,tk kQ fE kE,tk kR fF kF,tk kS fG kG,tk kT fH kH] (A8.mk q.ae.e0 q.ae.e1 q.ae.e2 q.ae.e3 q.ae.e4 q.ae.e5 q.ae.e6 now) q.aY)).bind fun i51=>
 bif i51==0 then
 gd (lc kM fu jm) <|
 gd (lc kN fw gN) <|
 gd (lc kO fC iB) <|
 gd (lc kP fD kx) <|
 gd (lc kQ fE kE) <|
 gd (lc kR fF kF) <|
 gd (lc kS fG kG) <|
 gd (lc kT fH kH) <|
 some (Queue.mk q.af q.Room [tk kM fu jm,tk kN fw gN,tk kO fC iB,tk kP fD kx,tk kQ fE kE,tk kR fF kF,tk kS fG kG,tk kT fH kH] (A8.mk q.ae.e0 q.ae.e1 q.ae.e2 q.ae.e3 q.ae.e4 q.ae.e5 q.ae.e6 now) q.aY,zP,false,[],0)
 else
 gd (lc kM fu jm) <|
 gd (lc kN fw gN) <|
 gd (lc kO fC iB) <|
 gd (lc kP fD kx) <|
 gd (lc kQ fE kE) <|
 gd (lc kR fF kF) <|
 gd (lc kS fG kG) <|
 gd (lc kT fH kH) <|
 (aa.eJ (Queue.mk q.af q.Room [tk kM fu jm,tk kN fw gN,tk kO fC iB,tk kP fD kx,tk kQ fE kE,tk kR fF kF,tk kS fG kG,tk kT fH kH] (A8.mk q.ae.e0 q.ae.e1 q.ae.e2 q.ae.e3 q.ae.e4 q.ae.e5 q.ae.e6 now) q.aY)).bind fun kW=>
 (aX (ω:=Int×Int×Int×Int×Int×Int×Int×Int×Bool×Bool×Int×Int×Int×Int×Int×Int×Int×Int) (fun ((i53,i54,i55,i56,i57,i58,i59,i60,RC,SU,i63,i64,i65,i66,i67,i68,i69,i70):Int×Int×Int×Int×Int×Int×Int×Int×Bool×Bool×Int×Int×Int×Int×Int×Int×Int×Int)=>
 bif i54==Int.ofNat 0 then
 bif (↑fu:Int)==0 then
 some (Sum.inl (0,(IntKind.i64.wrap (Int.ofNat 0+1)).tmod 8,i55,i56,i57,i58,i59,i60,RC,SU,i63,i64,i65,i66,i67,i68,i69,i70))
 else
 bif i53==0 then
 gd (decide (0<fu)) <|
 (jm[kM+0]?).bind fun Gh=>
 bif decide (Gh.P.aA≤IntKind.i64.wrap (i63+q.af.A)) then
 some (Sum.inr (1,Int.ofNat 0,Gh.P.aG,Gh.P.Sub,Gh.P.Number,Gh.P.Data,Gh.P.aA,Gh.P.aQ,Gh.P.aI,Gh.P.ay,IntKind.i64.wrap (i63+q.af.A),i64,i65,i66,i67,i68,i69,i70))
 else
 some (Sum.inl (0,(IntKind.i64.wrap (Int.ofNat 0+1)).tmod 8,Gh.P.aG,Gh.P.Sub,Gh.P.Number,Gh.P.Data,Gh.P.aA,Gh.P.aQ,Gh.P.aI,Gh.P.ay,IntKind.i64.wrap (i63+q.af.A),i64,i65,i66,i67,i68,i69,i70))
 else
 gd (decide (0<fu)) <|
 (jm[kM+0]?).bind fun Gi=>
 bif decide (Gi.P.aA≤i63) then
 some (Sum.inr (i53,Int.ofNat 0,Gi.P.aG,Gi.P.Sub,Gi.P.Number,Gi.P.Data,Gi.P.aA,Gi.P.aQ,Gi.P.aI,Gi.P.ay,i63,i64,i65,i66,i67,i68,i69,i70))
 else
 some (Sum.inl (0,(IntKind.i64.wrap (Int.ofNat 0+1)).tmod 8,Gi.P.aG,Gi.P.Sub,Gi.P.Number,Gi.P.Data,Gi.P.aA,Gi.P.aQ,Gi.P.aI,Gi.P.ay,i63,i64,i65,i66,i67,i68,i69,i70))
 else
 bif i54==Int.ofNat 1 then
 bif (↑fw:Int)==0 then
 some (Sum.inl (0,(IntKind.i64.wrap (Int.ofNat 1+1)).tmod 8,i55,i56,i57,i58,i59,i60,RC,SU,i63,i64,i65,i66,i67,i68,i69,i70))
 else
 bif i53==0 then
 gd (decide (0<fw)) <|
 (gN[kN+0]?).bind fun Gj=>
 bif decide (Gj.P.aA≤IntKind.i64.wrap (i64+q.af.A)) then
 some (Sum.inr (1,Int.ofNat 1,Gj.P.aG,Gj.P.Sub,Gj.P.Number,Gj.P.Data,Gj.P.aA,Gj.P.aQ,Gj.P.aI,Gj.P.ay,i63,IntKind.i64.wrap (i64+q.af.A),i65,i66,i67,i68,i69,i70))
 else
 some (Sum.inl (0,(IntKind.i64.wrap (Int.ofNat 1+1)).tmod 8,Gj.P.aG,Gj.P.Sub,Gj.P.Number,Gj.P.Data,Gj.P.aA,Gj.P.aQ,Gj.P.aI,Gj.P.ay,i63,IntKind.i64.wrap (i64+q.af.A),i65,i66,i67,i68,i69,i70))
 else
 gd (decide (0<fw)) <|
 (gN[kN+0]?).bind fun Gk=>
 bif decide (Gk.P.aA≤i64) then
 some (Sum.inr (i53,Int.ofNat 1,Gk.P.aG,Gk.P.Sub,Gk.P.Number,Gk.P.Data,Gk.P.aA,Gk.P.aQ,Gk.P.aI,Gk.P.ay,i63,i64,i65,i66,i67,i68,i69,i70))
 else
 some (Sum.inl (0,(IntKind.i64.wrap (Int.ofNat 1+1)).tmod 8,Gk.P.aG,Gk.P.Sub,Gk.P.Number,Gk.P.Data,Gk.P.aA,Gk.P.aQ,Gk.P.aI,Gk.P.ay,i63,i64,i65,i66,i67,i68,i69,i70))
 else
 bif i54==Int.ofNat 2 then
 bif (↑fC:Int)==0 then
 some (Sum.inl (0,(IntKind.i64.wrap (Int.ofNat 2+1)).tmod 8,i55,i56,i57,i58,i59,i60,RC,SU,i63,i64,i65,i66,i67,i68,i69,i70))
 else
 bif i53==0 then
 gd (decide (0<fC)) <|
 (iB[kO+0]?).bind fun Gl=>
 bif decide (Gl.P.aA≤IntKind.i64.wrap (i65+q.af.A)) then
 some (Sum.inr (1,Int.ofNat 2,Gl.P.aG,Gl.P.Sub,Gl.P.Number,Gl.P.Data,Gl.P.aA,Gl.P.aQ,Gl.P.aI,Gl.P.ay,i63,i64,IntKind.i64.wrap (i65+q.af.A),i66,i67,i68,i69,i70))
 else
 some (Sum.inl (0,(IntKind.i64.wrap (Int.ofNat 2+1)).tmod 8,Gl.P.aG,Gl.P.Sub,Gl.P.Number,Gl.P.Data,Gl.P.aA,Gl.P.aQ,Gl.P.aI,Gl.P.ay,i63,i64,IntKind.i64.wrap (i65+q.af.A),i66,i67,i68,i69,i70))
 else
 gd (decide (0<fC)) <|
 (iB[kO+0]?).bind fun Gm=>
 bif decide (Gm.P.aA≤i65) then
 some (Sum.inr (i53,Int.ofNat 2,Gm.P.aG,Gm.P.Sub,Gm.P.Number,Gm.P.Data,Gm.P.aA,Gm.P.aQ,Gm.P.aI,Gm.P.ay,i63,i64,i65,i66,i67,i68,i69,i70))
 else
 some (Sum.inl (0,(IntKind.i64.wrap (Int.ofNat 2+1)).tmod 8,Gm.P.aG,Gm.P.Sub,Gm.P.Number,Gm.P.Data,Gm.P.aA,Gm.P.aQ,Gm.P.aI,Gm.P.ay,i63,i64,i65,i66,i67,i68,i69,i70))
 else
 bif i54==Int.ofNat 3 then
 bif (↑fD:Int)==0 then
 some (Sum.inl (0,(IntKind.i64.wrap (Int.ofNat 3+1)).tmod 8,i55,i56,i57,i58,i59,i60,RC,SU,i63,i64,i65,i66,i67,i68,i69,i70))
 else
 bif i53==0 then
 gd (decide (0<fD)) <|
 (kx[kP+0]?).bind fun EB=>
 bif decide (EB.P.aA≤IntKind.i64.wrap (i66+q.af.A)) then
 some (Sum.inr (1,Int.ofNat 3,EB.P.aG,EB.P.Sub,EB.P.Number,EB.P.Data,EB.P.aA,EB.P.aQ,EB.P.aI,EB.P.ay,i63,i64,i65,IntKind.i64.wrap (i66+q.af.A),i67,i68,i69,i70))
 else
 some (Sum.inl (0,(IntKind.i64.wrap (Int.ofNat 3+1)).tmod 8,EB.P.aG,EB.P.Sub,EB.P.Number,EB.P.Data,EB.P.aA,EB.P.aQ,EB.P.aI,EB.P.ay,i63,i64,i65,IntKind.i64.wrap (i66+q.af.A),i67,i68,i69,i70))
 else
 gd (decide (0<fD)) <|
 (kx[kP+0]?).bind fun Gn=>
 bif decide (Gn.P.aA≤i66) then
 some (Sum.inr (i53,Int.ofNat 3,Gn.P.aG,Gn.P.Sub,Gn.P.Number,Gn.P.Data,Gn.P.aA,Gn.P.aQ,Gn.P.aI,Gn.P.ay,i63,i64,i65,i66,i67,i68,i69,i70))
 else
 some (Sum.inl (0,(IntKind.i64.wrap (Int.ofNat 3+1)).tmod 8,Gn.P.aG,Gn.P.Sub,Gn.P.Number,Gn.P.Data,Gn.P.aA,Gn.P.aQ,Gn.P.aI,Gn.P.ay,i63,i64,i65,i66,i67,i68,i69,i70))
 else
 bif i54==Int.ofNat 4 then
 bif (↑fE:Int)==0 then
 some (Sum.inl (0,(IntKind.i64.wrap (Int.ofNat 4+1)).tmod 8,i55,i56,i57,i58,i59,i60,RC,SU,i63,i64,i65,i66,i67,i68,i69,i70))
 else
 bif i53==0 then
 gd (decide (0<fE)) <|
 (kE[kQ+0]?).bind fun Gp=>
 bif decide (Gp.P.aA≤IntKind.i64.wrap (i67+q.af.A)) then
 some (Sum.inr (1,Int.ofNat 4,Gp.P.aG,Gp.P.Sub,Gp.P.Number,Gp.P.Data,Gp.P.aA,Gp.P.aQ,Gp.P.aI,Gp.P.ay,i63,i64,i65,i66,IntKind.i64.wrap (i67+q.af.A),i68,i69,i70))
 else
 some (Sum.inl (0,(IntKind.i64.wrap (Int.ofNat 4+1)).tmod 8,Gp.P.aG,Gp.P.Sub,Gp.P.Number,Gp.P.Data,Gp.P.aA,Gp.P.aQ,Gp.P.aI,Gp.P.ay,i63,i64,i65,i66,IntKind.i64.wrap (i67+q.af.A),i68,i69,i70))
 else
 gd (decide (0<fE)) <|
 (kE[kQ+0]?).bind fun Gq=>
 bif decide (Gq.P.aA≤i67) then
 some (Sum.inr (i53,Int.ofNat 4,Gq.P.aG,Gq.P.Sub,Gq.P.Number,Gq.P.Data,Gq.P.aA,Gq.P.aQ,Gq.P.aI,Gq.P.ay,i63,i64,i65,i66,i67,i68,i69,i70))
 else
 some (Sum.inl (0,(IntKind.i64.wrap (Int.ofNat 4+1)).tmod 8,Gq.P.aG,Gq.P.Sub,Gq.P.Number,Gq.P.Data,Gq.P.aA,Gq.P.aQ,Gq.P.aI,Gq.P.ay,i63,i64,i65,i66,i67,i68,i69,i70))
 else
 bif i54==Int.ofNat 5 then
 bif (↑fF:Int)==0 then
 some (Sum.inl (0,(IntKind.i64.wrap (Int.ofNat 5+1)).tmod 8,i55,i56,i57,i58,i59,i60,RC,SU,i63,i64,i65,i66,i67,i68,i69,i70))
 else
 bif i53==0 then
 gd (decide (0<fF)) <|
 (kF[kR+0]?).bind fun Gr=>
 bif decide (Gr.P.aA≤IntKind.i64.wrap (i68+q.af.A)) then
 some (Sum.inr (1,Int.ofNat 5,Gr.P.aG,Gr.P.Sub,Gr.P.Number,Gr.P.Data,Gr.P.aA,Gr.P.aQ,Gr.P.aI,Gr.P.ay,i63,i64,i65,i66,i67,IntKind.i64.wrap (i68+q.af.A),i69,i70))
 else
 some (Sum.inl (0,(IntKind.i64.wrap (Int.ofNat 5+1)).tmod 8,Gr.P.aG,Gr.P.Sub,Gr.P.Number,Gr.P.Data,Gr.P.aA,Gr.P.aQ,Gr.P.aI,Gr.P.ay,i63,i64,i65,i66,i67,IntKind.i64.wrap (i68+q.af.A),i69,i70))
 else
 gd (decide (0<fF)) <|
 (kF[kR+0]?).bind fun Gs=>
 bif decide (Gs.P.aA≤i68) then
 some (Sum.inr (i53,Int.ofNat 5,Gs.P.aG,Gs.P.Sub,Gs.P.Number,Gs.P.Data,Gs.P.aA,Gs.P.aQ,Gs.P.aI,Gs.P.ay,i63,i64,i65,i66,i67,i68,i69,i70))
 else
 some (Sum.inl (0,(IntKind.i64.wrap (Int.ofNat 5+1)).tmod 8,Gs.P.aG,Gs.P.Sub,Gs.P.Number,Gs.P.Data,Gs.P.aA,Gs.P.aQ,Gs.P.aI,Gs.P.ay,i63,i64,i65,i66,i67,i68,i69,i70))
 else
 bif i54==Int.ofNat 6 then
 bif (↑fG:Int)==0 then
 some (Sum.inl (0,(IntKind.i64.wrap (Int.ofNat 6+1)).tmod 8,i55,i56,i57,i58,i59,i60,RC,SU,i63,i64,i65,i66,i67,i68,i69,i70))
 else
 bif i53==0 then
 gd (decide (0<fG)) <|
 (kG[kS+0]?).bind fun Gt=>
 bif decide (Gt.P.aA≤IntKind.i64.wrap (i69+q.af.A)) then
 some (Sum.inr (1,Int.ofNat 6,Gt.P.aG,Gt.P.Sub,Gt.P.Number,Gt.P.Data,Gt.P.aA,Gt.P.aQ,Gt.P.aI,Gt.P.ay,i63,i64,i65,i66,i67,i68,IntKind.i64.wrap (i69+q.af.A),i70))
 else
 some (Sum.inl (0,(IntKind.i64.wrap (Int.ofNat 6+1)).tmod 8,Gt.P.aG,Gt.P.Sub,Gt.P.Number,Gt.P.Data,Gt.P.aA,Gt.P.aQ,Gt.P.aI,Gt.P.ay,i63,i64,i65,i66,i67,i68,IntKind.i64.wrap (i69+q.af.A),i70))
 else
 gd (decide (0<fG)) <|
 (kG[kS+0]?).bind fun Gu=>
 bif decide (Gu.P.aA≤i69) then
 some (Sum.inr (i53,Int.ofNat 6,Gu.P.aG,Gu.P.Sub,Gu.P.Number,Gu.P.Data,Gu.P.aA,Gu.P.aQ,Gu.P.aI,Gu.P.ay,i63,i64,i65,i66,i67,i68,i69,i70))
 else
 some (Sum.inl (0,(IntKind.i64.wrap (Int.ofNat 6+1)).tmod 8,Gu.P.aG,Gu.P.Sub,Gu.P.Number,Gu.P.Data,Gu.P.aA,Gu.P.aQ,Gu.P.aI,Gu.P.ay,i63,i64,i65,i66,i67,i68,i69,i70))
 else
 bif i54==Int.ofNat 7 then
 bif (↑fH:Int)==0 then
 some (Sum.inl (0,(IntKind.i64.wrap (Int.ofNat 7+1)).tmod 8,i55,i56,i57,i58,i59,i60,RC,SU,i63,i64,i65,i66,i67,i68,i69,i70))
 else
 bif i53==0 then
 gd (decide (0<fH)) <|
 (kH[kT+0]?).bind fun Gv=>
 bif decide (Gv.P.aA≤IntKind.i64.wrap (i70+q.af.A)) then
 some (Sum.inr (1,Int.ofNat 7,Gv.P.aG,Gv.P.Sub,Gv.P.Number,Gv.P.Data,Gv.P.aA,Gv.P.aQ,Gv.P.aI,Gv.P.ay,i63,i64,i65,i66,i67,i68,i69,IntKind.i64.wrap (i70+q.af.A)))
 else
 some (Sum.inl (0,(IntKind.i64.wrap (Int.ofNat 7+1)).tmod 8,Gv.P.aG,Gv.P.Sub,Gv.P.Number,Gv.P.Data,Gv.P.aA,Gv.P.aQ,Gv.P.aI,Gv.P.ay,i63,i64,i65,i66,i67,i68,i69,IntKind.i64.wrap (i70+q.af.A)))
 else
 gd (decide (0<fH)) <|
 (kH[kT+0]?).bind fun Gw=>
 bif decide (Gw.P.aA≤i70) then
 some (Sum.inr (i53,Int.ofNat 7,Gw.P.aG,Gw.P.Sub,Gw.P.Number,Gw.P.Data,Gw.P.aA,Gw.P.aQ,Gw.P.aI,Gw.P.ay,i63,i64,i65,i66,i67,i68,i69,i70))
 else
 some (Sum.inl (0,(IntKind.i64.wrap (Int.ofNat 7+1)).tmod 8,Gw.P.aG,Gw.P.Sub,Gw.P.Number,Gw.P.Data,Gw.P.aA,Gw.P.aQ,Gw.P.aI,Gw.P.ay,i63,i64,i65,i66,i67,i68,i69,i70))
 else
 none) (q.ae.e1,q.ae.e0,0,0,0,0,0,0,false,false,kW.e0,kW.e1,kW.e2,kW.e3,kW.e4,kW.e5,kW.e6,kW.e7)).bind fun (i87,i88,i89,i90,i91,i92,i93,i94,HC,HD,i97,i98,i99,i100,i101,i102,i103,i104)=>
 bif i88==Int.ofNat 0 then
 gd (decide (1≤fu)&&decide (fu≤(some i19.toNat).getD (jm.length-kM))&&decide (0<jm.length)) <|
 bif (↑(fu-1):Int)==0 then
 gd (decide (kM+1+(fu-1)≤jm.length)) <|
 gd (lc kN fw gN) <|
 gd (lc kO fC iB) <|
 gd (lc kP fD kx) <|
 gd (lc kQ fE kE) <|
 gd (lc kR fF kF) <|
 gd (lc kS fG kG) <|
 gd (lc kT fH kH) <|
 (aa.bI (Queue.mk q.af q.Room [List.take (fu-1) (List.drop (kM+1) jm),tk kN fw gN,tk kO fC iB,tk kP fD kx,tk kQ fE kE,tk kR fF kF,tk kS fG kG,tk kT fH kH] (A8.mk ((IntKind.i64.wrap (Int.ofNat 0+1)).tmod 8) 0 q.ae.e2 q.ae.e3 q.ae.e4 q.ae.e5 q.ae.e6 now) q.aY) (A8.mk 0 i98 i99 i100 i101 i102 i103 i104)).bind fun abE=>
 gd (decide (kM+1+(fu-1)≤jm.length)) <|
 gd (lc kN fw gN) <|
 gd (lc kO fC iB) <|
 gd (lc kP fD kx) <|
 gd (lc kQ fE kE) <|
 gd (lc kR fF kF) <|
 gd (lc kS fG kG) <|
 gd (lc kT fH kH) <|
 some (abE,an.mk i89 i90 i91 i92 i93 i94 HC HD,true,[],0)
 else
 gd (decide (kM+1+(fu-1)≤jm.length)) <|
 gd (lc kN fw gN) <|
 gd (lc kO fC iB) <|
 gd (lc kP fD kx) <|
 gd (lc kQ fE kE) <|
 gd (lc kR fF kF) <|
 gd (lc kS fG kG) <|
 gd (lc kT fH kH) <|
 (aa.bI (Queue.mk q.af q.Room [List.take (fu-1) (List.drop (kM+1) jm),tk kN fw gN,tk kO fC iB,tk kP fD kx,tk kQ fE kE,tk kR fF kF,tk kS fG kG,tk kT fH kH] (A8.mk (Int.ofNat 0) i87 q.ae.e2 q.ae.e3 q.ae.e4 q.ae.e5 q.ae.e6 now) q.aY) (A8.mk (IntKind.i64.wrap (i97-i93)) i98 i99 i100 i101 i102 i103 i104)).bind fun abF=>
 gd (decide (kM+1+(fu-1)≤jm.length)) <|
 gd (lc kN fw gN) <|
 gd (lc kO fC iB) <|
 gd (lc kP fD kx) <|
 gd (lc kQ fE kE) <|
 gd (lc kR fF kF) <|
 gd (lc kS fG kG) <|
 gd (lc kT fH kH) <|
 some (abF,an.mk i89 i90 i91 i92 i93 i94 HC HD,true,[],0)
 else
 bif i88==Int.ofNat 1 then
 gd (decide (1≤fw)&&decide (fw≤(some i23.toNat).getD (gN.length-kN))&&decide (0<gN.length)) <|
 bif (↑(fw-1):Int)==0 then
 gd (lc kM fu jm) <|
 gd (decide (kN+1+(fw-1)≤gN.length)) <|
 gd (lc kO fC iB) <|
 gd (lc kP fD kx) <|
 gd (lc kQ fE kE) <|
 gd (lc kR fF kF) <|
 gd (lc kS fG kG) <|
 gd (lc kT fH kH) <|
 (aa.bI (Queue.mk q.af q.Room [tk kM fu jm,List.take (fw-1) (List.drop (kN+1) gN),tk kO fC iB,tk kP fD kx,tk kQ fE kE,tk kR fF kF,tk kS fG kG,tk kT fH kH] (A8.mk ((IntKind.i64.wrap (Int.ofNat 1+1)).tmod 8) 0 q.ae.e2 q.ae.e3 q.ae.e4 q.ae.e5 q.ae.e6 now) q.aY) (A8.mk i97 0 i99 i100 i101 i102 i103 i104)).bind fun abG=>
 gd (lc kM fu jm) <|
 gd (decide (kN+1+(fw-1)≤gN.length)) <|
 gd (lc kO fC iB) <|
 gd (lc kP fD kx) <|
 gd (lc kQ fE kE) <|
 gd (lc kR fF kF) <|
 gd (lc kS fG kG) <|
 gd (lc kT fH kH) <|
 some (abG,an.mk i89 i90 i91 i92 i93 i94 HC HD,true,[],0)
 else
 gd (lc kM fu jm) <|
 gd (decide (kN+1+(fw-1)≤gN.length)) <|
 gd (lc kO fC iB) <|
 gd (lc kP fD kx) <|
 gd (lc kQ fE kE) <|
 gd (lc kR fF kF) <|
 gd (lc kS fG kG) <|
 gd (lc kT fH kH) <|
 (aa.bI (Queue.mk q.af q.Room [tk kM fu jm,List.take (fw-1) (List.drop (kN+1) gN),tk kO fC iB,tk kP fD kx,tk kQ fE kE,tk kR fF kF,tk kS fG kG,tk kT fH kH] (A8.mk (Int.ofNat 1) i87 q.ae.e2 q.ae.e3 q.ae.e4 q.ae.e5 q.ae.e6 now) q.aY) (A8.mk i97 (IntKind.i64.wrap (i98-i93)) i99 i100 i101 i102 i103 i104)).bind fun abH=>
 gd (lc kM fu jm) <|
 gd (decide (kN+1+(fw-1)≤gN.length)) <|
 gd (lc kO fC iB) <|
 gd (lc kP fD kx) <|
 gd (lc kQ fE kE) <|
 gd (lc kR fF kF) <|
 gd (lc kS fG kG) <|
 gd (lc kT fH kH) <|
 some (abH,an.mk i89 i90 i91 i92 i93 i94 HC HD,true,[],0)
 else
 bif i88==Int.ofNat 2 then
 gd (decide (1≤fC)&&decide (fC≤(some i27.toNat).getD (iB.length-kO))&&decide (0<iB.length)) <|
 bif (↑(fC-1):Int)==0 then
 gd (lc kM fu jm) <|
 gd (lc kN fw gN) <|
 gd (decide (kO+1+(fC-1)≤iB.length)) <|
 gd (lc kP fD kx) <|
 gd (lc kQ fE kE) <|
 gd (lc kR fF kF) <|
 gd (lc kS fG kG) <|
 gd (lc kT fH kH) <|
 (aa.bI (Queue.mk q.af q.Room [tk kM fu jm,tk kN fw gN,List.take (fC-1) (List.drop (kO+1) iB),tk kP fD kx,tk kQ fE kE,tk kR fF kF,tk kS fG kG,tk kT fH kH] (A8.mk ((IntKind.i64.wrap (Int.ofNat 2+1)).tmod 8) 0 q.ae.e2 q.ae.e3 q.ae.e4 q.ae.e5 q.ae.e6 now) q.aY) (A8.mk i97 i98 0 i100 i101 i102 i103 i104)).bind fun UY=>
 gd (lc kM fu jm) <|
 gd (lc kN fw gN) <|
 gd (decide (kO+1+(fC-1)≤iB.length)) <|
 gd (lc kP fD kx) <|
 gd (lc kQ fE kE) <|
 gd (lc kR fF kF) <|
 gd (lc kS fG kG) <|
 gd (lc kT fH kH) <|
 some (UY,an.mk i89 i90 i91 i92 i93 i94 HC HD,true,[],0)
 else
 gd (lc kM fu jm) <|
 gd (lc kN fw gN) <|
 gd (decide (kO+1+(fC-1)≤iB.length)) <|
 gd (lc kP fD kx) <|
 gd (lc kQ fE kE) <|
 gd (lc kR fF kF) <|
 gd (lc kS fG kG) <|
 gd (lc kT fH kH) <|
 (aa.bI (Queue.mk q.af q.Room [tk kM fu jm,tk kN fw gN,List.take (fC-1) (List.drop (kO+1) iB),tk kP fD kx,tk kQ fE kE,tk kR fF kF,tk kS fG kG,tk kT fH kH] (A8.mk (Int.ofNat 2) i87 q.ae.e2 q.ae.e3 q.ae.e4 q.ae.e5 q.ae.e6 now) q.aY) (A8.mk i97 i98 (IntKind.i64.wrap (i99-i93)) i100 i101 i102 i103 i104)).bind fun abI=>
 gd (lc kM fu jm) <|
 gd (lc kN fw gN) <|
 gd (decide (kO+1+(fC-1)≤iB.length)) <|
 gd (lc kP fD kx) <|
 gd (lc kQ fE kE) <|
 gd (lc kR fF kF) <|
 gd (lc kS fG kG) <|
 gd (lc kT fH kH) <|
 some (abI,an.mk i89 i90 i91 i92 i93 i94 HC HD,true,[],0)
 else
 bif i88==Int.ofNat 3 then
 gd (decide (1≤fD)&&decide (fD≤(some i31.toNat).getD (kx.length-kP))&&decide (0<kx.length)) <|
 bif (↑(fD-1):Int)==0 then
 gd (lc kM fu jm) <|
 gd (lc kN fw gN) <|
 gd (lc kO fC iB) <|
 gd (decide (kP+1+(fD-1)≤kx.length)) <|
 gd (lc kQ fE kE) <|
 gd (lc kR fF kF) <|
 gd (lc kS fG kG) <|
 gd (lc kT fH kH) <|
 (aa.bI (Queue.mk q.af q.Room [tk kM fu jm,tk kN fw gN,tk kO fC iB,List.take (fD-1) (List.drop (kP+1) kx),tk kQ fE kE,tk kR fF kF,tk kS fG kG,tk kT fH kH] (A8.mk ((IntKind.i64.wrap (Int.ofNat 3+1)).tmod 8) 0 q.ae.e2 q.ae.e3 q.ae.e4 q.ae.e5 q.ae.e6 now) q.aY) (A8.mk i97 i98 i99 0 i101 i102 i103 i104)).bind fun abJ=>
 gd (lc kM fu jm) <|
 gd (lc kN fw gN) <|
 gd (lc kO fC iB) <|
 gd (decide (kP+1+(fD-1)≤kx.length)) <|
 gd (lc kQ fE kE) <|
 gd (lc kR fF kF) <|
 gd (lc kS fG kG) <|
 gd (lc kT fH kH) <|
 some (abJ,an.mk i89 i90 i91 i92 i93 i94 HC HD,true,[],0)
 else
 gd (lc kM fu jm) <|
 gd (lc kN fw gN) <|
 gd (lc kO fC iB) <|
 gd (decide (kP+1+(fD-1)≤kx.length)) <|
 gd (lc kQ fE kE) <|
 gd (lc kR fF kF) <|
 gd (lc kS fG kG) <|
 gd (lc kT fH kH) <|
 (aa.bI (Queue.mk q.af q.Room [tk kM fu jm,tk kN fw gN,tk kO fC iB,List.take (fD-1) (List.drop (kP+1) kx),tk kQ fE kE,tk kR fF kF,tk kS fG kG,tk kT fH kH] (A8.mk (Int.ofNat 3) i87 q.ae.e2 q.ae.e3 q.ae.e4 q.ae.e5 q.ae.e6 now) q.aY) (A8.mk i97 i98 i99 (IntKind.i64.wrap (i100-i93)) i101 i102 i103 i104)).bind fun abK=>
 gd (lc kM fu jm) <|
 gd (lc kN fw gN) <|
 gd (lc kO fC iB) <|
 gd (decide (kP+1+(fD-1)≤kx.length)) <|
 gd (lc kQ fE kE) <|
 gd (lc kR fF kF) <|
 gd (lc kS fG kG) <|
 gd (lc kT fH kH) <|
 some (abK,an.mk i89 i90 i91 i92 i93 i94 HC HD,true,[],0)
 else
 bif i88==Int.ofNat 4 then
 gd (decide (1≤fE)&&decide (fE≤(some i35.toNat).getD (kE.length-kQ))&&decide (0<kE.length)) <|
 bif (↑(fE-1):Int)==0 then
 gd (lc kM fu jm) <|
 gd (lc kN fw gN) <|
 gd (lc kO fC iB) <|
 gd (lc kP fD kx) <|
 gd (decide (kQ+1+(fE-1)≤kE.length)) <|
 gd (lc kR fF kF) <|
 gd (lc kS fG kG) <|
 gd (lc kT fH kH) <|
 (aa.bI (Queue.mk q.af q.Room [tk kM fu jm,tk kN fw gN,tk kO fC iB,tk kP fD kx,List.take (fE-1) (List.drop (kQ+1) kE),tk kR fF kF,tk kS fG kG,tk kT fH kH] (A8.mk ((IntKind.i64.wrap (Int.ofNat 4+1)).tmod 8) 0 q.ae.e2 q.ae.e3 q.ae.e4 q.ae.e5 q.ae.e6 now) q.aY) (A8.mk i97 i98 i99 i100 0 i102 i103 i104)).bind fun abL=>
 gd (lc kM fu jm) <|
 gd (lc kN fw gN) <|
 gd (lc kO fC iB) <|
 gd (lc kP fD kx) <|
 gd (decide (kQ+1+(fE-1)≤kE.length)) <|
 gd (lc kR fF kF) <|
 gd (lc kS fG kG) <|
 gd (lc kT fH kH) <|
 some (abL,an.mk i89 i90 i91 i92 i93 i94 HC HD,true,[],0)
 else
 gd (lc kM fu jm) <|
 gd (lc kN fw gN) <|
 gd (lc kO fC iB) <|
 gd (lc kP fD kx) <|
 gd (decide (kQ+1+(fE-1)≤kE.length)) <|
 gd (lc kR fF kF) <|
 gd (lc kS fG kG) <|
 gd (lc kT fH kH) <|
 (aa.bI (Queue.mk q.af q.Room [tk kM fu jm,tk kN fw gN,tk kO fC iB,tk kP fD kx,List.take (fE-1) (List.drop (kQ+1) kE),tk kR fF kF,tk kS fG kG,tk kT fH kH] (A8.mk (Int.ofNat 4) i87 q.ae.e2 q.ae.e3 q.ae.e4 q.ae.e5 q.ae.e6 now) q.aY) (A8.mk i97 i98 i99 i100 (IntKind.i64.wrap (i101-i93)) i102 i103 i104)).bind fun UZ=>
 gd (lc kM fu jm) <|
 gd (lc kN fw gN) <|
 gd (lc kO fC iB) <|
 gd (lc kP fD kx) <|
 gd (decide (kQ+1+(fE-1)≤kE.length)) <|
 gd (lc kR fF kF) <|
 gd (lc kS fG kG) <|
 gd (lc kT fH kH) <|
 some (UZ,an.mk i89 i90 i91 i92 i93 i94 HC HD,true,[],0)
 else
 bif i88==Int.ofNat 5 then
 gd (decide (1≤fF)&&decide (fF≤(some i39.toNat).getD (kF.length-kR))&&decide (0<kF.length)) <|
 bif (↑(fF-1):Int)==0 then
 gd (lc kM fu jm) <|
 gd (lc kN fw gN) <|
 gd (lc kO fC iB) <|
 gd (lc kP fD kx) <|
 gd (lc kQ fE kE) <|
 gd (decide (kR+1+(fF-1)≤kF.length)) <|
 gd (lc kS fG kG) <|
 gd (lc kT fH kH) <|
 (aa.bI (Queue.mk q.af q.Room [tk kM fu jm,tk kN fw gN,tk kO fC iB,tk kP fD kx,tk kQ fE kE,List.take (fF-1) (List.drop (kR+1) kF),tk kS fG kG,tk kT fH kH] (A8.mk ((IntKind.i64.wrap (Int.ofNat 5+1)).tmod 8) 0 q.ae.e2 q.ae.e3 q.ae.e4 q.ae.e5 q.ae.e6 now) q.aY) (A8.mk i97 i98 i99 i100 i101 0 i103 i104)).bind fun abM=>
 gd (lc kM fu jm) <|
 gd (lc kN fw gN) <|
 gd (lc kO fC iB) <|
 gd (lc kP fD kx) <|
 gd (lc kQ fE kE) <|
 gd (decide (kR+1+(fF-1)≤kF.length)) <|
 gd (lc kS fG kG) <|
 gd (lc kT fH kH) <|
 some (abM,an.mk i89 i90 i91 i92 i93 i94 HC HD,true,[],0)
 else
 gd (lc kM fu jm) <|
 gd (lc kN fw gN) <|
 gd (lc kO fC iB) <|
 gd (lc kP fD kx) <|
 gd (lc kQ fE kE) <|
 gd (decide (kR+1+(fF-1)≤kF.length)) <|
 gd (lc kS fG kG) <|
 gd (lc kT fH kH) <|
 (aa.bI (Queue.mk q.af q.Room [tk kM fu jm,tk kN fw gN,tk kO fC iB,tk kP fD kx,tk kQ fE kE,List.take (fF-1) (List.drop (kR+1) kF),tk kS fG kG,tk kT fH kH] (A8.mk (Int.ofNat 5) i87 q.ae.e2 q.ae.e3 q.ae.e4 q.ae.e5 q.ae.e6 now) q.aY) (A8.mk i97 i98 i99 i100 i101 (IntKind.i64.wrap (i102-i93)) i103 i104)).bind fun abN=>
 gd (lc kM fu jm) <|
 gd (lc kN fw gN) <|
 gd (lc kO fC iB) <|
 gd (lc kP fD kx) <|
 gd (lc kQ fE kE) <|
 gd (decide (kR+1+(fF-1)≤kF.length)) <|
 gd (lc kS fG kG) <|
 gd (lc kT fH kH) <|
 some (abN,an.mk i89 i90 i91 i92 i93 i94 HC HD,true,[],0)
 else
 bif i88==Int.ofNat 6 then
 gd (decide (1≤fG)&&decide (fG≤(some i43.toNat).getD (kG.length-kS))&&decide (0<kG.length)) <|
 bif (↑(fG-1):Int)==0 then
 gd (lc kM fu jm) <|
 gd (lc kN fw gN) <|
 gd (lc kO fC iB) <|
 gd (lc kP fD kx) <|
 gd (lc kQ fE kE) <|
 gd (lc kR fF kF) <|
 gd (decide (kS+1+(fG-1)≤kG.length)) <|
 gd (lc kT fH kH) <|
 (aa.bI (Queue.mk q.af q.Room [tk kM fu jm,tk kN fw gN,tk kO fC iB,tk kP fD kx,tk kQ fE kE,tk kR fF kF,List.take (fG-1) (List.drop (kS+1) kG),tk kT fH kH] (A8.mk ((IntKind.i64.wrap (Int.ofNat 6+1)).tmod 8) 0 q.ae.e2 q.ae.e3 q.ae.e4 q.ae.e5 q.ae.e6 now) q.aY) (A8.mk i97 i98 i99 i100 i101 i102 0 i104)).bind fun U0=>
 gd (lc kM fu jm) <|
 gd (lc kN fw gN) <|
 gd (lc kO fC iB) <|
 gd (lc kP fD kx) <|
 gd (lc kQ fE kE) <|
 gd (lc kR fF kF) <|
 gd (decide (kS+1+(fG-1)≤kG.length)) <|
 gd (lc kT fH kH) <|
 some (U0,an.mk i89 i90 i91 i92 i93 i94 HC HD,true,[],0)
 else
 gd (lc kM fu jm) <|
 gd (lc kN fw gN) <|
 gd (lc kO fC iB) <|
 gd (lc kP fD kx) <|
 gd (lc kQ fE kE) <|
 gd (lc kR fF kF) <|
 gd (decide (kS+1+(fG-1)≤kG.length)) <|
 gd (lc kT fH kH) <|
 (aa.bI (Queue.mk q.af q.Room [tk kM fu jm,tk kN fw gN,tk kO fC iB,tk kP fD kx,tk kQ fE kE,tk kR fF kF,List.take (fG-1) (List.drop (kS+1) kG),tk kT fH kH] (A8.mk (Int.ofNat 6) i87 q.ae.e2 q.ae.e3 q.ae.e4 q.ae.e5 q.ae.e6 now) q.aY) (A8.mk i97 i98 i99 i100 i101 i102 (IntKind.i64.wrap (i103-i93)) i104)).bind fun abO=>
 gd (lc kM fu jm) <|
 gd (lc kN fw gN) <|
 gd (lc kO fC iB) <|
 gd (lc kP fD kx) <|
 gd (lc kQ fE kE) <|
 gd (lc kR fF kF) <|
 gd (decide (kS+1+(fG-1)≤kG.length)) <|
 gd (lc kT fH kH) <|
 some (abO,an.mk i89 i90 i91 i92 i93 i94 HC HD,true,[],0)
 else
 gd (i88==Int.ofNat 7) <|
 gd (decide (1≤fH)&&decide (fH≤(some i47.toNat).getD (kH.length-kT))&&decide (0<kH.length)) <|
 bif (↑(fH-1):Int)==0 then
 gd (lc kM fu jm) <|
 gd (lc kN fw gN) <|
 gd (lc kO fC iB) <|
 gd (lc kP fD kx) <|
 gd (lc kQ fE kE) <|
 gd (lc kR fF kF) <|
 gd (lc kS fG kG) <|
 gd (decide (kT+1+(fH-1)≤kH.length)) <|
 (aa.bI (Queue.mk q.af q.Room [tk kM fu jm,tk kN fw gN,tk kO fC iB,tk kP fD kx,tk kQ fE kE,tk kR fF kF,tk kS fG kG,List.take (fH-1) (List.drop (kT+1) kH)] (A8.mk ((IntKind.i64.wrap (Int.ofNat 7+1)).tmod 8) 0 q.ae.e2 q.ae.e3 q.ae.e4 q.ae.e5 q.ae.e6 now) q.aY) (A8.mk i97 i98 i99 i100 i101 i102 i103 0)).bind fun abP=>
 gd (lc kM fu jm) <|
 gd (lc kN fw gN) <|
 gd (lc kO fC iB) <|
 gd (lc kP fD kx) <|
 gd (lc kQ fE kE) <|
 gd (lc kR fF kF) <|
 gd (lc kS fG kG) <|
 gd (decide (kT+1+(fH-1)≤kH.length)) <|
 some (abP,an.mk i89 i90 i91 i92 i93 i94 HC HD,true,[],0)
 else
 gd (lc kM fu jm) <|
 gd (lc kN fw gN) <|
 gd (lc kO fC iB) <|
 gd (lc kP fD kx) <|
 gd (lc kQ fE kE) <|
 gd (lc kR fF kF) <|
 gd (lc kS fG kG) <|
 gd (decide (kT+1+(fH-1)≤kH.length)) <|
 (aa.bI (Queue.mk q.af q.Room [tk kM fu jm,tk kN fw gN,tk kO fC iB,tk kP fD kx,tk kQ fE kE,tk kR fF kF,tk kS fG kG,List.take (fH-1) (List.drop (kT+1) kH)] (A8.mk (Int.ofNat 7) i87 q.ae.e2 q.ae.e3 q.ae.e4 q.ae.e5 q.ae.e6 now) q.aY) (A8.mk i97 i98 i99 i100 i101 i102 i103 (IntKind.i64.wrap (i104-i93)))).bind fun abQ=>
 gd (lc kM fu jm) <|
 gd (lc kN fw gN) <|
 gd (lc kO fC iB) <|
 gd (lc kP fD kx) <|
 gd (lc kQ fE kE) <|
 gd (lc kR fF kF) <|
 gd (lc kS fG kG) <|
 gd (decide (kT+1+(fH-1)≤kH.length)) <|
 some (abQ,an.mk i89 i90 i91 i92 i93 i94 HC HD,true,[],0)
noncomputable def Go.aa.cK(n:Int)(low:Int)(high:Int):Option Bool:=
 bif decide (low≤n) then
 some (decide (n≤high))
 else
 some false
noncomputable def Go.aa.gX(n:Int):Option Bool:=
 (aa.cK n 0 10000000).bind fun b1=>
 some b1
noncomputable def Go.aa.je(p:an):Option Bool:=
 (aa.cK p.aG 0 7).bind fun b1=>
 bif b1 then
 (aa.cK p.Sub 0 3).bind fun b2=>
 bif b2 then
 (aa.cK p.Number 0 1000000000).bind fun b3=>
 bif b3 then
 (aa.cK p.Data 0 1000000000).bind fun b4=>
 bif b4 then
 (aa.cK p.aA 1 10000).bind fun b5=>
 bif b5 then
 (aa.gX p.aQ).bind fun b6=>
 some b6
 else
 some false
 else
 some false
 else
 some false
 else
 some false
 else
 some false
noncomputable def Go.aa.lU(l:List ai)(last:Int)(Iy:Bool):Option Bool:=
 (aX (ω:=Bool ⊕ Bool×Int×Int) (fun ((b1,i2,i3):Bool×Int×Int)=>
 bif decide (i3<(↑l.length:Int)) then
 gd (decide (0≤i3)) <|
 (l[i3.toNat]?).bind fun q4=>
 (aa.je q4.P).bind fun b5=>
 bif !b5 then
 some (Sum.inr (Sum.inl false))
 else
 bif !q4.P.aI==Iy then
 some (Sum.inr (Sum.inl false))
 else
 (aa.cK q4.At i2 last).bind fun b6=>
 bif !b6 then
 some (Sum.inr (Sum.inl false))
 else
 some (Sum.inl (b1,q4.At,IntKind.i64.wrap (i3+1)))
 else
 some (Sum.inr (Sum.inr (b1,i2,i3)))) (false,0,0)).bind fun w7=>
 Sum.elim (fun b8=>
 some b8) (fun (b9,i10,i11)=>
 some true) w7
noncomputable def Go.aa.jy(q:Queue):Option Bool:=
 bif !q.af.Kind==6 then
 some false
 else
 (aa.cK q.af.A 0 1000000).bind fun b1=>
 bif !b1 then
 some false
 else
 (aa.cK q.af.B 0 1000).bind fun b2=>
 bif !b2 then
 some false
 else
 bif !q.af.C==0 then
 some false
 else
 (aa.cK q.Room 1 500).bind fun b3=>
 bif !b3 then
 some false
 else
 bif !(↑q.ag.length:Int)==2 then
 some false
 else
 (aa.cK q.ae.e0 0 15).bind fun b4=>
 bif !b4 then
 some false
 else
 (aa.gX q.ae.e7).bind fun b5=>
 bif !b5 then
 some false
 else
 (q.ag[0]?).bind fun l6=>
 (q.ag[1]?).bind fun l7=>
 bif decide (q.Room<IntKind.i64.wrap ((↑l6.length:Int)+(↑l7.length:Int))) then
 some false
 else
 (aX (ω:=Bool ⊕ Bool×Int) (fun ((b8,i9):Bool×Int)=>
 bif decide (i9<7) then
 gd (decide (0≤i9)) <|
 bif decide (i9.toNat=0) then
 bif !q.ae.e0==0 then
 some (Sum.inr (Sum.inl false))
 else
 some (Sum.inl (b8,IntKind.i64.wrap (i9+1)))
 else
 bif decide (i9.toNat=1) then
 bif !q.ae.e1==0 then
 some (Sum.inr (Sum.inl false))
 else
 some (Sum.inl (b8,IntKind.i64.wrap (i9+1)))
 else
 bif decide (i9.toNat=2) then
 bif !q.ae.e2==0 then
 some (Sum.inr (Sum.inl false))
 else
 some (Sum.inl (b8,IntKind.i64.wrap (i9+1)))
 else
 bif decide (i9.toNat=3) then
 bif !q.ae.e3==0 then
 some (Sum.inr (Sum.inl false))
 else
 some (Sum.inl (b8,IntKind.i64.wrap (i9+1)))
 else
 bif decide (i9.toNat=4) then
 bif !q.ae.e4==0 then
 some (Sum.inr (Sum.inl false))
 else
 some (Sum.inl (b8,IntKind.i64.wrap (i9+1)))
 else
 bif decide (i9.toNat=5) then
 bif !q.ae.e5==0 then
 some (Sum.inr (Sum.inl false))
 else
 some (Sum.inl (b8,IntKind.i64.wrap (i9+1)))
 else
 bif decide (i9.toNat=6) then
 bif !q.ae.e6==0 then
 some (Sum.inr (Sum.inl false))
 else
 some (Sum.inl (b8,IntKind.i64.wrap (i9+1)))
 else
 gd (decide (i9.toNat=7)) <|
 bif !q.ae.e7==0 then
 some (Sum.inr (Sum.inl false))
 else
 some (Sum.inl (b8,IntKind.i64.wrap (i9+1)))
 else
 some (Sum.inr (Sum.inr (b8,i9)))) (false,1)).bind fun w10=>
 Sum.elim (fun vf=>
 some vf) (fun (EC,i13)=>
 (q.ag[0]?).bind fun Om=>
 (aa.lU Om q.ae.e7 true).bind fun Db=>
 bif Db then
 (q.ag[1]?).bind fun X4=>
 (aa.lU X4 q.ae.e7 false).bind fun Gg=>
 some Gg
 else
 some false) w10
noncomputable def Go.aa.sk(q:Queue)(p:an)(now:Int):Option (Queue×(List an)×Int):=
 (aa.je p).bind fun b1=>
 bif !b1 then
 some (zQ,[],1)
 else
 (aa.jy q).bind fun b2=>
 bif !b2 then
 some (zQ,[],1)
 else
 (aa.gX now).bind fun b3=>
 bif !b3 then
 some (zQ,[],1)
 else
 bif decide (now<q.ae.e7) then
 some (zQ,[],18)
 else
 gd (true&&decide (q.ag.length=2)) <|
 (q.ag[0]?).bind fun l4=>
 (q.ag[1]?).bind fun l5=>
 gd (decide ((↑l4.length:Int).toNat*64≤2^47)&&decide ((↑l4.length:Int).toNat<2^62)) <|
 gd (decide (0+(List.replicate (↑l4.length:Int).toNat zW).length≤(List.replicate (↑l4.length:Int).toNat zW).length)&&decide (l4.length≤(List.replicate (↑l4.length:Int).toNat zW).length)) <|
 (some (l4++List.drop (0+l4.length) (List.replicate (↑l4.length:Int).toNat zW))).bind fun l6=>
 gd (decide ((↑l5.length:Int).toNat*64≤2^47)&&decide ((↑l5.length:Int).toNat<2^62)) <|
 gd (decide (0+(List.replicate (↑l5.length:Int).toNat zW).length≤(List.replicate (↑l5.length:Int).toNat zW).length)&&decide (l5.length≤(List.replicate (↑l5.length:Int).toNat zW).length)) <|
 (some (l5++List.drop (0+l5.length) (List.replicate (↑l5.length:Int).toNat zW))).bind fun l7=>
 bif decide (q.Room≤IntKind.i64.wrap ((↑l6.length:Int)+(↑l7.length:Int))) then
 some (Queue.mk q.af q.Room [l6,l7] (A8.mk q.ae.e0 q.ae.e1 q.ae.e2 q.ae.e3 q.ae.e4 q.ae.e5 q.ae.e6 now) q.aY,[p],0)
 else
 bif p.aI then
 bif decide (l6.length+1≤(↑l4.length:Int).toNat) then
 none
 else
 gd (decide ((l6.length+1)*64≤2^44)&&decide (l6.length+1≤2^44)) <|
 some (Queue.mk q.af q.Room [l6++[ai.mk p now],l7] (A8.mk q.ae.e0 q.ae.e1 q.ae.e2 q.ae.e3 q.ae.e4 q.ae.e5 q.ae.e6 now) q.aY,[],0)
 else
 bif decide (l7.length+1≤(↑l5.length:Int).toNat) then
 none
 else
 gd (decide ((l7.length+1)*64≤2^44)&&decide (l7.length+1≤2^44)) <|
 some (Queue.mk q.af q.Room [l6,l7++[ai.mk p now]] (A8.mk q.ae.e0 q.ae.e1 q.ae.e2 q.ae.e3 q.ae.e4 q.ae.e5 q.ae.e6 now) q.aY,[],0)
noncomputable def Go.aa.bX(x:lV):Option Int:=
 bif (↑x.ag.e1.length:Int)==0 then
 some 0
 else
 (x.ag.e1[0]?).bind fun q1=>
 some (if IntKind.i64.wrap (x.Q.af.B*IntKind.i64.wrap (x.dr-q1.At))<1000000 then IntKind.i64.wrap (x.Q.af.B*IntKind.i64.wrap (x.dr-q1.At)) else 1000000)
noncomputable def Go.aa.p8(q:Queue)(now:Int):Option (Queue×an×Bool×(List an)×Int):=
 (aa.jy q).bind fun b1=>
 bif !b1 then
 some (zQ,zP,false,[],1)
 else
 (aa.gX now).bind fun b2=>
 bif !b2 then
 some (zQ,zP,false,[],1)
 else
 bif decide (now<q.ae.e7) then
 some (zQ,zP,false,[],18)
 else
 gd (true&&decide (q.ag.length=2)) <|
 (q.ag[0]?).bind fun l3=>
 (q.ag[1]?).bind fun l4=>
 gd (decide ((↑l3.length:Int).toNat*64≤2^47)&&decide ((↑l3.length:Int).toNat<2^62)) <|
 gd (decide (0+(List.replicate (↑l3.length:Int).toNat zW).length≤(List.replicate (↑l3.length:Int).toNat zW).length)&&decide (l3.length≤(List.replicate (↑l3.length:Int).toNat zW).length)) <|
 (some (l3++List.drop (0+l3.length) (List.replicate (↑l3.length:Int).toNat zW))).bind fun l5=>
 gd (decide ((↑l4.length:Int).toNat*64≤2^47)&&decide ((↑l4.length:Int).toNat<2^62)) <|
 gd (decide (0+(List.replicate (↑l4.length:Int).toNat zW).length≤(List.replicate (↑l4.length:Int).toNat zW).length)&&decide (l4.length≤(List.replicate (↑l4.length:Int).toNat zW).length)) <|
 (some (l4++List.drop (0+l4.length) (List.replicate (↑l4.length:Int).toNat zW))).bind fun l6=>
 (aX (ω:=Bool×Int×List an×Int×Int×Int×Int×Int×Int×Bool×Bool×List an×Int×Int×Int×Int×Int×Int×Bool×Bool×Int×Int×Int×Int×Int×Int×Int×Int×Int×Int×Int×Int×Int×Int×Int×Int×Int×Int×Int×Int×Int×Int×Int×Int×Int×Int×Int×Int×Int×Int×Int×Int×Int×Int×Int) (fun ((b7,i8,b9,mW,i11,i12,i13,i14,i15,i16,Gg,L9,i19,i20,i21,i22,i23,gN,i25,i26,i27,i28,i29,i30,i31,i32,i33,i34,i35,i36,i37,i38,i39,i40,my):Bool×Int×Bool×List an×Int×Int×Int×Int×Int×Int×Bool×Bool×Int×Int×Int×Int×Int×List (List ai)×Int×Int×Int×Int×Int×Int×Int×Int×Int×Int×Int×Int×Int×Int×Int×Int×List an)=>
 bif IntKind.i64.wrap ((↑i35.toNat:Int)+(↑i38.toNat:Int))==0 then
 some (Sum.inr (false,0,mW,i11,i12,i13,i14,i15,i16,Gg,L9,my,0,0,0,0,0,0,false,false,i19,i20,i21,i22,i23,0,i26,i27,i28,i29,i30,i31,i32,i33,i19,i20,i21,i22,i23,0,i26,i27,i28,i29,i30,i31,i32,i33,(↑i34.toNat:Int),(↑i35.toNat:Int),(↑i36.toNat:Int),(↑i37.toNat:Int),(↑i38.toNat:Int),(↑i39.toNat:Int),i40))
 else
 bif decide (0<(↑i38.toNat:Int)) then
 bif (↑i35.toNat:Int)==0 then
 gd (decide (i34.toNat+i35.toNat≤l5.length)) <|
 gd (decide (i37.toNat+i38.toNat≤l6.length)) <|
 (aa.bX (lV.mk (Queue.mk (af.mk i19 i20 i21 i22) i23 gN (A8.mk 0 i26 i27 i28 i29 i30 i31 i32) i33) (A2.mk (List.take i35.toNat (List.drop i34.toNat l5)) (List.take i38.toNat (List.drop i37.toNat l6))) i40 my)).bind fun i42=>
 gd (decide (0<i38.toNat)) <|
 (l6[i37.toNat+0]?).bind fun Gx=>
 gd (decide (1≤i38.toNat)&&decide (i38.toNat≤(some i39.toNat).getD (l6.length-i37.toNat))&&decide (0<l6.length)) <|
 (aa.cJ i33 1000000).bind fun (i44,i45,i46)=>
 bif decide (i44<IntKind.i64.wrap ((IntKind.i64.wrap (i42*i42)).tdiv 1000000)) then
 gd (decide ((my.length+1)*56≤2^44)&&decide (my.length+1≤2^44)) <|
 some (Sum.inl (b7,i8,false,mW,0,0,0,0,0,0,false,false,i19,i20,i21,i22,i23,gN,0,i26,i27,i28,i29,i30,i31,i32,i45,(↑i34.toNat:Int),(↑i35.toNat:Int),(↑i36.toNat:Int),(↑(i37.toNat+1):Int),(↑(i38.toNat-1):Int),(↑(i39.toNat-1):Int),i40,my++[Gx.P]))
 else
 some (Sum.inr (true,0,mW,Gx.P.aG,Gx.P.Sub,Gx.P.Number,Gx.P.Data,Gx.P.aA,Gx.P.aQ,Gx.P.aI,Gx.P.ay,my,Gx.P.aG,Gx.P.Sub,Gx.P.Number,Gx.P.Data,Gx.P.aA,Gx.P.aQ,Gx.P.aI,Gx.P.ay,i19,i20,i21,i22,i23,0,i26,i27,i28,i29,i30,i31,i32,i45,i19,i20,i21,i22,i23,0,i26,i27,i28,i29,i30,i31,i32,i45,(↑i34.toNat:Int),(↑i35.toNat:Int),(↑i36.toNat:Int),(↑(i37.toNat+1):Int),(↑(i38.toNat-1):Int),(↑(i39.toNat-1):Int),i40))
 else
 bif decide (15≤i25) then
 gd (decide (i34.toNat+i35.toNat≤l5.length)) <|
 gd (decide (i37.toNat+i38.toNat≤l6.length)) <|
 (aa.bX (lV.mk (Queue.mk (af.mk i19 i20 i21 i22) i23 gN (A8.mk 0 i26 i27 i28 i29 i30 i31 i32) i33) (A2.mk (List.take i35.toNat (List.drop i34.toNat l5)) (List.take i38.toNat (List.drop i37.toNat l6))) i40 my)).bind fun i47=>
 gd (decide (0<i38.toNat)) <|
 (l6[i37.toNat+0]?).bind fun ED=>
 gd (decide (1≤i38.toNat)&&decide (i38.toNat≤(some i39.toNat).getD (l6.length-i37.toNat))&&decide (0<l6.length)) <|
 (aa.cJ i33 1000000).bind fun (i49,i50,i51)=>
 bif decide (i49<IntKind.i64.wrap ((IntKind.i64.wrap (i47*i47)).tdiv 1000000)) then
 gd (decide ((my.length+1)*56≤2^44)&&decide (my.length+1≤2^44)) <|
 some (Sum.inl (b7,i8,false,mW,0,0,0,0,0,0,false,false,i19,i20,i21,i22,i23,gN,0,i26,i27,i28,i29,i30,i31,i32,i50,(↑i34.toNat:Int),(↑i35.toNat:Int),(↑i36.toNat:Int),(↑(i37.toNat+1):Int),(↑(i38.toNat-1):Int),(↑(i39.toNat-1):Int),i40,my++[ED.P]))
 else
 some (Sum.inr (true,0,mW,ED.P.aG,ED.P.Sub,ED.P.Number,ED.P.Data,ED.P.aA,ED.P.aQ,ED.P.aI,ED.P.ay,my,ED.P.aG,ED.P.Sub,ED.P.Number,ED.P.Data,ED.P.aA,ED.P.aQ,ED.P.aI,ED.P.ay,i19,i20,i21,i22,i23,0,i26,i27,i28,i29,i30,i31,i32,i50,i19,i20,i21,i22,i23,0,i26,i27,i28,i29,i30,i31,i32,i50,(↑i34.toNat:Int),(↑i35.toNat:Int),(↑i36.toNat:Int),(↑(i37.toNat+1):Int),(↑(i38.toNat-1):Int),(↑(i39.toNat-1):Int),i40))
 else
 bif (↑i38.toNat:Int)==0 then
 gd (decide (0<i35.toNat)) <|
 (l5[i34.toNat+0]?).bind fun kW=>
 gd (decide (1≤i35.toNat)&&decide (i35.toNat≤(some i36.toNat).getD (l5.length-i34.toNat))&&decide (0<l5.length)) <|
 bif decide (i20≤IntKind.i64.wrap (i40-kW.At)) then
 some (Sum.inr (true,0,mW,kW.P.aG,kW.P.Sub,kW.P.Number,kW.P.Data,kW.P.aA,kW.P.aQ,kW.P.aI,true,my,kW.P.aG,kW.P.Sub,kW.P.Number,kW.P.Data,kW.P.aA,kW.P.aQ,kW.P.aI,true,i19,i20,i21,i22,i23,0,i26,i27,i28,i29,i30,i31,i32,i33,i19,i20,i21,i22,i23,0,i26,i27,i28,i29,i30,i31,i32,i33,(↑(i34.toNat+1):Int),(↑(i35.toNat-1):Int),(↑(i36.toNat-1):Int),(↑i37.toNat:Int),(↑i38.toNat:Int),(↑i39.toNat:Int),i40))
 else
 gd (decide (i34.toNat+1+(i35.toNat-1)≤l5.length)) <|
 gd (decide (i37.toNat+i38.toNat≤l6.length)) <|
 (aa.bX (lV.mk (Queue.mk (af.mk i19 i20 i21 i22) i23 gN (A8.mk 0 i26 i27 i28 i29 i30 i31 i32) i33) (A2.mk (List.take (i35.toNat-1) (List.drop (i34.toNat+1) l5)) (List.take i38.toNat (List.drop i37.toNat l6))) i40 my)).bind fun i53=>
 (aa.cJ i33 1000000).bind fun (i54,i55,i56)=>
 bif decide (i54<IntKind.i64.wrap (2*i53)) then
 some (Sum.inr (true,0,mW,kW.P.aG,kW.P.Sub,kW.P.Number,kW.P.Data,kW.P.aA,kW.P.aQ,kW.P.aI,true,my,kW.P.aG,kW.P.Sub,kW.P.Number,kW.P.Data,kW.P.aA,kW.P.aQ,kW.P.aI,true,i19,i20,i21,i22,i23,0,i26,i27,i28,i29,i30,i31,i32,i55,i19,i20,i21,i22,i23,0,i26,i27,i28,i29,i30,i31,i32,i55,(↑(i34.toNat+1):Int),(↑(i35.toNat-1):Int),(↑(i36.toNat-1):Int),(↑i37.toNat:Int),(↑i38.toNat:Int),(↑i39.toNat:Int),i40))
 else
 some (Sum.inr (true,0,mW,kW.P.aG,kW.P.Sub,kW.P.Number,kW.P.Data,kW.P.aA,kW.P.aQ,kW.P.aI,kW.P.ay,my,kW.P.aG,kW.P.Sub,kW.P.Number,kW.P.Data,kW.P.aA,kW.P.aQ,kW.P.aI,kW.P.ay,i19,i20,i21,i22,i23,0,i26,i27,i28,i29,i30,i31,i32,i55,i19,i20,i21,i22,i23,0,i26,i27,i28,i29,i30,i31,i32,i55,(↑(i34.toNat+1):Int),(↑(i35.toNat-1):Int),(↑(i36.toNat-1):Int),(↑i37.toNat:Int),(↑i38.toNat:Int),(↑i39.toNat:Int),i40))
 else
 gd (decide (0<i35.toNat)) <|
 (l5[i34.toNat+0]?).bind fun n6=>
 gd (decide (1≤i35.toNat)&&decide (i35.toNat≤(some i36.toNat).getD (l5.length-i34.toNat))&&decide (0<l5.length)) <|
 bif decide (i20≤IntKind.i64.wrap (i40-n6.At)) then
 some (Sum.inr (true,0,mW,n6.P.aG,n6.P.Sub,n6.P.Number,n6.P.Data,n6.P.aA,n6.P.aQ,n6.P.aI,true,my,n6.P.aG,n6.P.Sub,n6.P.Number,n6.P.Data,n6.P.aA,n6.P.aQ,n6.P.aI,true,i19,i20,i21,i22,i23,IntKind.i64.wrap (i25+1),i26,i27,i28,i29,i30,i31,i32,i33,i19,i20,i21,i22,i23,IntKind.i64.wrap (i25+1),i26,i27,i28,i29,i30,i31,i32,i33,(↑(i34.toNat+1):Int),(↑(i35.toNat-1):Int),(↑(i36.toNat-1):Int),(↑i37.toNat:Int),(↑i38.toNat:Int),(↑i39.toNat:Int),i40))
 else
 gd (decide (i34.toNat+1+(i35.toNat-1)≤l5.length)) <|
 gd (decide (i37.toNat+i38.toNat≤l6.length)) <|
 (aa.bX (lV.mk (Queue.mk (af.mk i19 i20 i21 i22) i23 gN (A8.mk (IntKind.i64.wrap (i25+1)) i26 i27 i28 i29 i30 i31 i32) i33) (A2.mk (List.take (i35.toNat-1) (List.drop (i34.toNat+1) l5)) (List.take i38.toNat (List.drop i37.toNat l6))) i40 my)).bind fun i58=>
 (aa.cJ i33 1000000).bind fun (i59,i60,i61)=>
 bif decide (i59<IntKind.i64.wrap (2*i58)) then
 some (Sum.inr (true,0,mW,n6.P.aG,n6.P.Sub,n6.P.Number,n6.P.Data,n6.P.aA,n6.P.aQ,n6.P.aI,true,my,n6.P.aG,n6.P.Sub,n6.P.Number,n6.P.Data,n6.P.aA,n6.P.aQ,n6.P.aI,true,i19,i20,i21,i22,i23,IntKind.i64.wrap (i25+1),i26,i27,i28,i29,i30,i31,i32,i60,i19,i20,i21,i22,i23,IntKind.i64.wrap (i25+1),i26,i27,i28,i29,i30,i31,i32,i60,(↑(i34.toNat+1):Int),(↑(i35.toNat-1):Int),(↑(i36.toNat-1):Int),(↑i37.toNat:Int),(↑i38.toNat:Int),(↑i39.toNat:Int),i40))
 else
 some (Sum.inr (true,0,mW,n6.P.aG,n6.P.Sub,n6.P.Number,n6.P.Data,n6.P.aA,n6.P.aQ,n6.P.aI,n6.P.ay,my,n6.P.aG,n6.P.Sub,n6.P.Number,n6.P.Data,n6.P.aA,n6.P.aQ,n6.P.aI,n6.P.ay,i19,i20,i21,i22,i23,IntKind.i64.wrap (i25+1),i26,i27,i28,i29,i30,i31,i32,i60,i19,i20,i21,i22,i23,IntKind.i64.wrap (i25+1),i26,i27,i28,i29,i30,i31,i32,i60,(↑(i34.toNat+1):Int),(↑(i35.toNat-1):Int),(↑(i36.toNat-1):Int),(↑i37.toNat:Int),(↑i38.toNat:Int),(↑i39.toNat:Int),i40))
 else
 bif (↑i38.toNat:Int)==0 then
 gd (decide (0<i35.toNat)) <|
 (l5[i34.toNat+0]?).bind fun nR=>
 gd (decide (1≤i35.toNat)&&decide (i35.toNat≤(some i36.toNat).getD (l5.length-i34.toNat))&&decide (0<l5.length)) <|
 bif decide (i20≤IntKind.i64.wrap (i40-nR.At)) then
 some (Sum.inr (true,0,mW,nR.P.aG,nR.P.Sub,nR.P.Number,nR.P.Data,nR.P.aA,nR.P.aQ,nR.P.aI,true,my,nR.P.aG,nR.P.Sub,nR.P.Number,nR.P.Data,nR.P.aA,nR.P.aQ,nR.P.aI,true,i19,i20,i21,i22,i23,0,i26,i27,i28,i29,i30,i31,i32,i33,i19,i20,i21,i22,i23,0,i26,i27,i28,i29,i30,i31,i32,i33,(↑(i34.toNat+1):Int),(↑(i35.toNat-1):Int),(↑(i36.toNat-1):Int),(↑i37.toNat:Int),(↑i38.toNat:Int),(↑i39.toNat:Int),i40))
 else
 gd (decide (i34.toNat+1+(i35.toNat-1)≤l5.length)) <|
 gd (decide (i37.toNat+i38.toNat≤l6.length)) <|
 (aa.bX (lV.mk (Queue.mk (af.mk i19 i20 i21 i22) i23 gN (A8.mk 0 i26 i27 i28 i29 i30 i31 i32) i33) (A2.mk (List.take (i35.toNat-1) (List.drop (i34.toNat+1) l5)) (List.take i38.toNat (List.drop i37.toNat l6))) i40 my)).bind fun i63=>
 (aa.cJ i33 1000000).bind fun (i64,i65,i66)=>
 bif decide (i64<IntKind.i64.wrap (2*i63)) then
 some (Sum.inr (true,0,mW,nR.P.aG,nR.P.Sub,nR.P.Number,nR.P.Data,nR.P.aA,nR.P.aQ,nR.P.aI,true,my,nR.P.aG,nR.P.Sub,nR.P.Number,nR.P.Data,nR.P.aA,nR.P.aQ,nR.P.aI,true,i19,i20,i21,i22,i23,0,i26,i27,i28,i29,i30,i31,i32,i65,i19,i20,i21,i22,i23,0,i26,i27,i28,i29,i30,i31,i32,i65,(↑(i34.toNat+1):Int),(↑(i35.toNat-1):Int),(↑(i36.toNat-1):Int),(↑i37.toNat:Int),(↑i38.toNat:Int),(↑i39.toNat:Int),i40))
 else
 some (Sum.inr (true,0,mW,nR.P.aG,nR.P.Sub,nR.P.Number,nR.P.Data,nR.P.aA,nR.P.aQ,nR.P.aI,nR.P.ay,my,nR.P.aG,nR.P.Sub,nR.P.Number,nR.P.Data,nR.P.aA,nR.P.aQ,nR.P.aI,nR.P.ay,i19,i20,i21,i22,i23,0,i26,i27,i28,i29,i30,i31,i32,i65,i19,i20,i21,i22,i23,0,i26,i27,i28,i29,i30,i31,i32,i65,(↑(i34.toNat+1):Int),(↑(i35.toNat-1):Int),(↑(i36.toNat-1):Int),(↑i37.toNat:Int),(↑i38.toNat:Int),(↑i39.toNat:Int),i40))
 else
 bif decide (0<i35.toNat) then
 (l5[i34.toNat+0]?).bind fun nS=>
 gd (decide (1≤i35.toNat)&&decide (i35.toNat≤(some i36.toNat).getD (l5.length-i34.toNat))&&decide (0<l5.length)) <|
 bif decide (i20≤IntKind.i64.wrap (i40-nS.At)) then
 some (Sum.inr (true,0,mW,nS.P.aG,nS.P.Sub,nS.P.Number,nS.P.Data,nS.P.aA,nS.P.aQ,nS.P.aI,true,my,nS.P.aG,nS.P.Sub,nS.P.Number,nS.P.Data,nS.P.aA,nS.P.aQ,nS.P.aI,true,i19,i20,i21,i22,i23,IntKind.i64.wrap (i25+1),i26,i27,i28,i29,i30,i31,i32,i33,i19,i20,i21,i22,i23,IntKind.i64.wrap (i25+1),i26,i27,i28,i29,i30,i31,i32,i33,(↑(i34.toNat+1):Int),(↑(i35.toNat-1):Int),(↑(i36.toNat-1):Int),(↑i37.toNat:Int),(↑i38.toNat:Int),(↑i39.toNat:Int),i40))
 else
 gd (decide (i34.toNat+1+(i35.toNat-1)≤l5.length)) <|
 gd (decide (i37.toNat+i38.toNat≤l6.length)) <|
 (aa.bX (lV.mk (Queue.mk (af.mk i19 i20 i21 i22) i23 gN (A8.mk (IntKind.i64.wrap (i25+1)) i26 i27 i28 i29 i30 i31 i32) i33) (A2.mk (List.take (i35.toNat-1) (List.drop (i34.toNat+1) l5)) (List.take i38.toNat (List.drop i37.toNat l6))) i40 my)).bind fun i68=>
 (aa.cJ i33 1000000).bind fun (i69,i70,i71)=>
 bif decide (i69<IntKind.i64.wrap (2*i68)) then
 some (Sum.inr (true,0,mW,nS.P.aG,nS.P.Sub,nS.P.Number,nS.P.Data,nS.P.aA,nS.P.aQ,nS.P.aI,true,my,nS.P.aG,nS.P.Sub,nS.P.Number,nS.P.Data,nS.P.aA,nS.P.aQ,nS.P.aI,true,i19,i20,i21,i22,i23,IntKind.i64.wrap (i25+1),i26,i27,i28,i29,i30,i31,i32,i70,i19,i20,i21,i22,i23,IntKind.i64.wrap (i25+1),i26,i27,i28,i29,i30,i31,i32,i70,(↑(i34.toNat+1):Int),(↑(i35.toNat-1):Int),(↑(i36.toNat-1):Int),(↑i37.toNat:Int),(↑i38.toNat:Int),(↑i39.toNat:Int),i40))
 else
 some (Sum.inr (true,0,mW,nS.P.aG,nS.P.Sub,nS.P.Number,nS.P.Data,nS.P.aA,nS.P.aQ,nS.P.aI,nS.P.ay,my,nS.P.aG,nS.P.Sub,nS.P.Number,nS.P.Data,nS.P.aA,nS.P.aQ,nS.P.aI,nS.P.ay,i19,i20,i21,i22,i23,IntKind.i64.wrap (i25+1),i26,i27,i28,i29,i30,i31,i32,i70,i19,i20,i21,i22,i23,IntKind.i64.wrap (i25+1),i26,i27,i28,i29,i30,i31,i32,i70,(↑(i34.toNat+1):Int),(↑(i35.toNat-1):Int),(↑(i36.toNat-1):Int),(↑i37.toNat:Int),(↑i38.toNat:Int),(↑i39.toNat:Int),i40))
 else
 none) (false,0,false,[],0,0,0,0,0,0,false,false,q.af.Kind,q.af.A,q.af.B,q.af.C,q.Room,q.ag,q.ae.e0,q.ae.e1,q.ae.e2,q.ae.e3,q.ae.e4,q.ae.e5,q.ae.e6,now,q.aY,(↑0:Int),(↑l5.length:Int),(↑(↑l3.length:Int).toNat:Int),(↑0:Int),(↑l6.length:Int),(↑(↑l4.length:Int).toNat:Int),now,[])).bind fun (b72,i73,l74,i75,i76,i77,i78,i79,i80,b81,b82,l83,i84,i85,i86,i87,i88,i89,b90,b91,i92,i93,i94,i95,i96,i97,i98,i99,i100,i101,i102,i103,i104,i105,i106,i107,i108,i109,i110,i111,i112,i113,i114,i115,i116,i117,i118,i119,i120,i121,i122,i123,i124,i125,i126)=>
 gd (decide (i120.toNat+i121.toNat≤l5.length)) <|
 gd (decide (i123.toNat+i124.toNat≤l6.length)) <|
 some (Queue.mk (af.mk i92 i93 i94 i95) i96 [List.take i121.toNat (List.drop i120.toNat l5),List.take i124.toNat (List.drop i123.toNat l6)] (A8.mk i97 i98 i99 i100 i101 i102 i103 i104) i105,an.mk i84 i85 i86 i87 i88 i89 b90 b91,b72,l83,i73)
noncomputable def Go.aa.Dd(p:af)(room:Int):Option (Queue×Int):=
 bif decide (p.Kind<1) then
 some (zQ,9)
 else
 bif decide (6<p.Kind) then
 some (zQ,9)
 else
 gd (decide (0≤p.Kind)) <|
 bif decide (p.Kind.toNat=0) then
 none
 else
 bif decide (p.Kind.toNat=1) then
 (aa.lz (Queue.mk p room (List.replicate 1 []) (A8.mk 0 0 0 0 0 0 0 0) 0):Option Bool).bind fun b1=>
 bif !b1 then
 some (zQ,1)
 else
 some (Queue.mk p room (List.replicate 1 []) (A8.mk 0 0 0 0 0 0 0 0) 0,0)
 else
 bif decide (p.Kind.toNat=2) then
 (aa.fY (Queue.mk p room (List.replicate 1 []) (A8.mk 0 0 0 0 0 0 0 0) 0):Option Bool).bind fun b2=>
 bif !b2 then
 some (zQ,1)
 else
 some (Queue.mk p room (List.replicate 1 []) (A8.mk 0 0 0 0 0 0 0 0) 0,0)
 else
 bif decide (p.Kind.toNat=3) then
 (aa.eC (Queue.mk p room (List.replicate 1 []) (A8.mk 0 0 0 0 0 0 0 0) 0):Option Bool).bind fun b3=>
 bif !b3 then
 some (zQ,1)
 else
 some (Queue.mk p room (List.replicate 1 []) (A8.mk 0 0 0 0 0 0 0 0) 0,0)
 else
 bif decide (p.Kind.toNat=4) then
 (aa.fR (Queue.mk p room (List.replicate 1 []) (A8.mk 0 0 0 0 0 0 0 0) 0):Option Bool).bind fun b4=>
 bif !b4 then
 some (zQ,1)
 else
 some (Queue.mk p room (List.replicate 1 []) (A8.mk 0 0 0 0 0 0 0 0) 0,0)
 else
 bif decide (p.Kind.toNat=5) then
 (aa.eD (Queue.mk p room (List.replicate 8 []) (A8.mk 0 0 0 0 0 0 0 0) 0):Option Bool).bind fun b5=>
 bif !b5 then
 some (zQ,1)
 else
 some (Queue.mk p room (List.replicate 8 []) (A8.mk 0 0 0 0 0 0 0 0) 0,0)
 else
 gd (decide (p.Kind.toNat=6)) <|
 (aa.jy (Queue.mk p room (List.replicate 2 []) (A8.mk 0 0 0 0 0 0 0 0) 0):Option Bool).bind fun b6=>
 bif !b6 then
 some (zQ,1)
 else
 some (Queue.mk p room (List.replicate 2 []) (A8.mk 0 0 0 0 0 0 0 0) 0,0)
noncomputable def Go.aa.cW(n:Int)(low:Int)(high:Int):Option Bool:=
 bif decide (low≤n) then
 some (decide (n≤high))
 else
 some false
noncomputable def Go.aa.oG(q:Queue):Option Bool:=
 bif decide (q.af.Kind<1) then
 some false
 else
 bif decide (6<q.af.Kind) then
 some false
 else
 gd (decide (0≤q.af.Kind)) <|
 bif decide (q.af.Kind.toNat=0) then
 none
 else
 bif decide (q.af.Kind.toNat=1) then
 (aa.lz q).bind fun b1=>
 some b1
 else
 bif decide (q.af.Kind.toNat=2) then
 (aa.fY q).bind fun b2=>
 some b2
 else
 bif decide (q.af.Kind.toNat=3) then
 (aa.eC q).bind fun b3=>
 some b3
 else
 bif decide (q.af.Kind.toNat=4) then
 (aa.fR q).bind fun b4=>
 some b4
 else
 bif decide (q.af.Kind.toNat=5) then
 (aa.eD q).bind fun b5=>
 some b5
 else
 gd (decide (q.af.Kind.toNat=6)) <|
 (aa.jy q).bind fun b6=>
 some b6
noncomputable def Go.aa.gY(n:Int):Option Bool:=
 (aa.cW n 0 10000000).bind fun b1=>
 some b1
noncomputable def Go.aa.gw(p:an):Option Bool:=
 (aa.cW p.aG 0 7).bind fun b1=>
 bif b1 then
 (aa.cW p.Sub 0 3).bind fun b2=>
 bif b2 then
 (aa.cW p.Number 0 1000000000).bind fun b3=>
 bif b3 then
 (aa.cW p.Data 0 1000000000).bind fun b4=>
 bif b4 then
 (aa.cW p.aA 1 10000).bind fun b5=>
 bif b5 then
 (aa.gY p.aQ).bind fun b6=>
 some b6
 else
 some false
 else
 some false
 else
 some false
 else
 some false
 else
 some false
noncomputable def Go.aa.lB(q:Queue):Option Int:=
 (aX (ω:=Int×Int) (fun ((i1,i2):Int×Int)=>
 bif decide (i1<(↑q.ag.length:Int)) then
 gd (decide (0≤i1)) <|
 (q.ag[i1.toNat]?).bind fun l3=>
 some (Sum.inl (IntKind.i64.wrap (i1+1),IntKind.i64.wrap (i2+(↑l3.length:Int))))
 else
 some (Sum.inr (i1,i2))) (0,0)).bind fun (i4,i5)=>
 some i5
noncomputable def Go.aa.gZ(l:bc):Option Bool:=
 (aa.cW l.dq 1 1000000).bind fun b1=>
 bif !b1 then
 some false
 else
 (aa.cW l.di 0 1000000).bind fun b2=>
 bif !b2 then
 some false
 else
 (aa.oG l.Queue).bind fun b3=>
 bif !b3 then
 some false
 else
 bif l.iX then
 (aa.gw l.dr).bind fun b4=>
 bif b4 then
 (aa.cW l.cO l.Queue.ae.e7 20000000).bind fun b5=>
 some b5
 else
 some false
 else
 bif l.dr.aG==0&&(l.dr.Sub==0&&(l.dr.Number==0&&(l.dr.Data==0&&(l.dr.aA==0&&(l.dr.aQ==0&&(l.dr.aI==false&&l.dr.ay==false)))))) then
 bif l.cO==0 then
 (aa.lB l.Queue).bind fun i6=>
 some (i6==0)
 else
 some false
 else
 some false
noncomputable def Go.aa.Gy(jh:Int)(SW:Int)(q:Queue):Option (bc×Int):=
 (aa.gZ (bc.mk jh SW q false zP 0)).bind fun b1=>
 bif !b1 then
 some (bc.mk 0 0 (zQ) false zP 0,1)
 else
 some (bc.mk jh SW q false zP 0,0)
noncomputable def Go.aa.Gz(p:af)(room:Int)(jh:Int):Option (bc×Bool):=
 (aa.Dd p room).bind fun (q1,i2)=>
 (aa.Gy jh 0 q1).bind fun (q3,i4)=>
 bif i2==0 then
 some (q3,i4==0)
 else
 some (q3,false)
noncomputable def Go.aa.dm(q:Queue)(p:an)(now:Int):Option (Queue×(List an)×Int):=
 bif decide (q.af.Kind<1) then
 some (zQ,[],9)
 else
 bif decide (6<q.af.Kind) then
 some (zQ,[],9)
 else
 gd (decide (0≤q.af.Kind)) <|
 bif decide (q.af.Kind.toNat=0) then
 none
 else
 bif decide (q.af.Kind.toNat=1) then
 (aa.nF q p now).bind fun (q1,l2,i3)=>
 some (q1,l2,i3)
 else
 bif decide (q.af.Kind.toNat=2) then
 (aa.p6 q p now).bind fun (q4,l5,i6)=>
 some (q4,l5,i6)
 else
 bif decide (q.af.Kind.toNat=3) then
 (aa.gW q p now).bind fun (q7,l8,i9)=>
 some (q7,l8,i9)
 else
 bif decide (q.af.Kind.toNat=4) then
 (aa.ki q p now).bind fun (q10,Ol,i12)=>
 some (q10,Ol,i12)
 else
 bif decide (q.af.Kind.toNat=5) then
 (aa.lW q p now).bind fun (rv,Om,i15)=>
 some (rv,Om,i15)
 else
 gd (decide (q.af.Kind.toNat=6)) <|
 (aa.sk q p now).bind fun (q16,Rh,i18)=>
 some (q16,Rh,i18)
noncomputable def Go.aa.bS(q:Queue)(now:Int):Option (Queue×an×Bool×(List an)×Int):=
 bif decide (q.af.Kind<1) then
 some (zQ,zP,false,[],9)
 else
 bif decide (6<q.af.Kind) then
 some (zQ,zP,false,[],9)
 else
 gd (decide (0≤q.af.Kind)) <|
 bif decide (q.af.Kind.toNat=0) then
 none
 else
 bif decide (q.af.Kind.toNat=1) then
 (aa.p7 q now).bind fun (q1,q2,b3,l4,i5)=>
 some (q1,q2,b3,l4,i5)
 else
 bif decide (q.af.Kind.toNat=2) then
 (aa.nE q now).bind fun (q6,q7,b8,l9,i10)=>
 some (q6,q7,b8,l9,i10)
 else
 bif decide (q.af.Kind.toNat=3) then
 (aa.kj q now).bind fun (UF,BU,uA,Om,i15)=>
 some (UF,BU,uA,Om,i15)
 else
 bif decide (q.af.Kind.toNat=4) then
 (aa.jf q now).bind fun (q16,WL,L9,l19,i20)=>
 some (q16,WL,L9,l19,i20)
 else
 bif decide (q.af.Kind.toNat=5) then
 (aa.kl q now).bind fun (L8,q22,Qq,gN,i25)=>
 some (L8,q22,Qq,gN,i25)
 else
 gd (decide (q.af.Kind.toNat=6)) <|
 (aa.p8 q now).bind fun (X5,XJ,b28,zh,i30)=>
 some (X5,XJ,b28,zh,i30)
noncomputable def Go.aa.oH(l:bc)(p:an)(now:Int):Option (bc×(List an)×Int):=
 (aa.gZ l).bind fun b1=>
 bif !b1 then
 some (bc.mk 0 0 (zQ) false zP 0,[],1)
 else
 (aa.gw p).bind fun b2=>
 bif !b2 then
 some (bc.mk 0 0 (zQ) false zP 0,[],1)
 else
 (aa.gY now).bind fun b3=>
 bif !b3 then
 some (bc.mk 0 0 (zQ) false zP 0,[],1)
 else
 bif decide (now<l.Queue.ae.e7) then
 some (bc.mk 0 0 (zQ) false zP 0,[],18)
 else
 bif l.iX then
 bif decide (l.cO<now) then
 some (bc.mk 0 0 (zQ) false zP 0,[],18)
 else
 (aa.dm l.Queue p now).bind fun (q4,l5,i6)=>
 bif !i6==0 then
 none /- "op" -/
 else
 bif l5.isEmpty then
 bif !l.iX then
 (aa.bS q4 now).bind fun (q7,q8,b9,mW,i11)=>
 bif !i11==0 then
 none /- "op" -/
 else
 bif b9 then
 bif decide (l.dq=0) then
 none
 else
 bif mW.isEmpty then
 some (bc.mk l.dq l.di q7 b9 q8 (IntKind.i64.wrap (now+IntKind.i64.wrap ((IntKind.i64.wrap (IntKind.i64.wrap (IntKind.i64.wrap (1000*q8.aA)+l.dq)-1)).tdiv l.dq))),[],0)
 else
 gd (decide (mW.length*56≤2^44)&&decide (mW.length≤2^44)) <|
 some (bc.mk l.dq l.di q7 b9 q8 (IntKind.i64.wrap (now+IntKind.i64.wrap ((IntKind.i64.wrap (IntKind.i64.wrap (IntKind.i64.wrap (1000*q8.aA)+l.dq)-1)).tdiv l.dq))),mW,0)
 else
 bif mW.isEmpty then
 some (bc.mk l.dq l.di q7 b9 q8 0,[],0)
 else
 gd (decide (mW.length*56≤2^44)&&decide (mW.length≤2^44)) <|
 some (bc.mk l.dq l.di q7 b9 q8 0,mW,0)
 else
 some (bc.mk l.dq l.di q4 l.iX l.dr l.cO,[],0)
 else
 gd (decide (l5.length*56≤2^44)&&decide (l5.length≤2^44)) <|
 bif !l.iX then
 (aa.bS q4 now).bind fun (BU,rv,lA,SS,i16)=>
 bif !i16==0 then
 none /- "op" -/
 else
 bif lA then
 bif decide (l.dq=0) then
 none
 else
 gd (decide ((l5.length+SS.length)*56≤2^44)&&decide (l5.length+SS.length≤2^44)) <|
 some (bc.mk l.dq l.di BU lA rv (IntKind.i64.wrap (now+IntKind.i64.wrap ((IntKind.i64.wrap (IntKind.i64.wrap (IntKind.i64.wrap (1000*rv.aA)+l.dq)-1)).tdiv l.dq))),l5++SS,0)
 else
 gd (decide ((l5.length+SS.length)*56≤2^44)&&decide (l5.length+SS.length≤2^44)) <|
 some (bc.mk l.dq l.di BU lA rv 0,l5++SS,0)
 else
 some (bc.mk l.dq l.di q4 l.iX l.dr l.cO,l5,0)
 else
 (aa.dm l.Queue p now).bind fun (WL,EZ,i19)=>
 bif !i19==0 then
 none /- "op" -/
 else
 bif EZ.isEmpty then
 bif !l.iX then
 (aa.bS WL now).bind fun (q20,L8,Kh,SX,i24)=>
 bif !i24==0 then
 none /- "op" -/
 else
 bif Kh then
 bif decide (l.dq=0) then
 none
 else
 bif SX.isEmpty then
 some (bc.mk l.dq l.di q20 Kh L8 (IntKind.i64.wrap (now+IntKind.i64.wrap ((IntKind.i64.wrap (IntKind.i64.wrap (IntKind.i64.wrap (1000*L8.aA)+l.dq)-1)).tdiv l.dq))),[],0)
 else
 gd (decide (SX.length*56≤2^44)&&decide (SX.length≤2^44)) <|
 some (bc.mk l.dq l.di q20 Kh L8 (IntKind.i64.wrap (now+IntKind.i64.wrap ((IntKind.i64.wrap (IntKind.i64.wrap (IntKind.i64.wrap (1000*L8.aA)+l.dq)-1)).tdiv l.dq))),SX,0)
 else
 bif SX.isEmpty then
 some (bc.mk l.dq l.di q20 Kh L8 0,[],0)
 else
 gd (decide (SX.length*56≤2^44)&&decide (SX.length≤2^44)) <|
 some (bc.mk l.dq l.di q20 Kh L8 0,SX,0)
 else
 some (bc.mk l.dq l.di WL l.iX l.dr l.cO,[],0)
 else
 gd (decide (EZ.length*56≤2^44)&&decide (EZ.length≤2^44)) <|
 bif !l.iX then
 (aa.bS WL now).bind fun (SR,X5,Qo,iB,i29)=>
 bif !i29==0 then
 none /- "op" -/
 else
 bif Qo then
 bif decide (l.dq=0) then
 none
 else
 gd (decide ((EZ.length+iB.length)*56≤2^44)&&decide (EZ.length+iB.length≤2^44)) <|
 some (bc.mk l.dq l.di SR Qo X5 (IntKind.i64.wrap (now+IntKind.i64.wrap ((IntKind.i64.wrap (IntKind.i64.wrap (IntKind.i64.wrap (1000*X5.aA)+l.dq)-1)).tdiv l.dq))),EZ++iB,0)
 else
 gd (decide ((EZ.length+iB.length)*56≤2^44)&&decide (EZ.length+iB.length≤2^44)) <|
 some (bc.mk l.dq l.di SR Qo X5 0,EZ++iB,0)
 else
 some (bc.mk l.dq l.di WL l.iX l.dr l.cO,EZ,0)
noncomputable def Go.aa.gx(l:bc)(now:Int):Option (bc×an×(List an)×Int):=
 (aa.gZ l).bind fun b1=>
 bif !b1 then
 some (bc.mk 0 0 (zQ) false zP 0,zP,[],1)
 else
 (aa.gY now).bind fun b2=>
 bif !b2 then
 some (bc.mk 0 0 (zQ) false zP 0,zP,[],1)
 else
 bif !l.iX then
 some (bc.mk 0 0 (zQ) false zP 0,zP,[],6)
 else
 bif !now==l.cO then
 some (bc.mk 0 0 (zQ) false zP 0,zP,[],18)
 else
 (aa.bS l.Queue now).bind fun (q3,q4,b5,l6,i7)=>
 bif !i7==0 then
 none /- "op" -/
 else
 bif b5 then
 bif decide (l.dq=0) then
 none
 else
 bif l6.isEmpty then
 some (bc.mk l.dq l.di q3 b5 q4 (IntKind.i64.wrap (now+IntKind.i64.wrap ((IntKind.i64.wrap (IntKind.i64.wrap (IntKind.i64.wrap (1000*q4.aA)+l.dq)-1)).tdiv l.dq))),l.dr,[],0)
 else
 gd (decide (l6.length*56≤2^44)&&decide (l6.length≤2^44)) <|
 some (bc.mk l.dq l.di q3 b5 q4 (IntKind.i64.wrap (now+IntKind.i64.wrap ((IntKind.i64.wrap (IntKind.i64.wrap (IntKind.i64.wrap (1000*q4.aA)+l.dq)-1)).tdiv l.dq))),l.dr,l6,0)
 else
 bif l6.isEmpty then
 some (bc.mk l.dq l.di q3 b5 q4 0,l.dr,[],0)
 else
 gd (decide (l6.length*56≤2^44)&&decide (l6.length≤2^44)) <|
 some (bc.mk l.dq l.di q3 b5 q4 0,l.dr,l6,0)
noncomputable def Go.aa.tf(q:Queue):Option Bool:=
 (aX (ω:=Bool ⊕ Bool×Int) (fun ((b1,i2):Bool×Int)=>
 bif decide (i2<(↑q.ag.length:Int)) then
 gd (decide (0≤i2)) <|
 (q.ag[i2.toNat]?).bind fun l3=>
 bif decide (600<(↑l3.length:Int)) then
 some (Sum.inr (Sum.inl false))
 else
 some (Sum.inl (b1,IntKind.i64.wrap (i2+1)))
 else
 some (Sum.inr (Sum.inr (b1,i2)))) (false,0)).bind fun w4=>
 Sum.elim (fun b5=>
 some b5) (fun (b6,i7)=>
 some (decide ((↑q.ag.length:Int)≤20))) w4
noncomputable def Go.aa.tg(l:bc):Option Bool:=
 (aa.tf l.Queue).bind fun b1=>
 some b1
noncomputable def Go.aa.nJ(n:Int):Option Bool:=
 bif decide (1≤n) then
 some (decide (n≤1000000))
 else
 some false
noncomputable def Go.aa.dZ(n:Int):Option Bool:=
 bif decide (0≤n) then
 some (decide (n≤10000000))
 else
 some false
noncomputable def Go.aa.mR(n:Int):Option Bool:=
 bif decide (0≤n) then
 some (decide (n≤1000000000))
 else
 some false
noncomputable def Go.aa.km(p:an):Option Bool:=
 bif decide (0≤p.aG) then
 bif decide (p.aG<8) then
 bif decide (0≤p.Sub) then
 bif decide (p.Sub<4) then
 (aa.mR p.Number).bind fun b1=>
 bif b1 then
 (aa.mR p.Data).bind fun b2=>
 bif b2 then
 bif decide (1≤p.aA) then
 bif decide (p.aA≤10000) then
 (aa.dZ p.aQ).bind fun b3=>
 some b3
 else
 some false
 else
 some false
 else
 some false
 else
 some false
 else
 some false
 else
 some false
 else
 some false
 else
 some false
noncomputable def Go.aa.dz(l:List ai)(last:Int):Option Bool:=
 (aX (ω:=Bool ⊕ Bool×Int) (fun ((b1,i2):Bool×Int)=>
 bif decide (i2<(↑l.length:Int)) then
 gd (decide (0≤i2)) <|
 (l[i2.toNat]?).bind fun q3=>
 (aa.km q3.P).bind fun b4=>
 bif !b4 then
 some (Sum.inr (Sum.inl false))
 else
 gd (decide (0≤i2)) <|
 (l[i2.toNat]?).bind fun q5=>
 (aa.dZ q5.At).bind fun b6=>
 bif !b6 then
 some (Sum.inr (Sum.inl false))
 else
 gd (decide (0≤i2)) <|
 (l[i2.toNat]?).bind fun q7=>
 bif decide (last<q7.At) then
 some (Sum.inr (Sum.inl false))
 else
 bif decide (0<i2) then
 gd (decide (0≤i2)) <|
 (l[i2.toNat]?).bind fun q8=>
 gd (decide (0≤IntKind.i64.wrap (i2-1))) <|
 (l[(IntKind.i64.wrap (i2-1)).toNat]?).bind fun q9=>
 bif decide (q8.At<q9.At) then
 some (Sum.inr (Sum.inl false))
 else
 some (Sum.inl (b1,IntKind.i64.wrap (i2+1)))
 else
 some (Sum.inl (b1,IntKind.i64.wrap (i2+1)))
 else
 some (Sum.inr (Sum.inr (b1,i2)))) (false,0)).bind fun w10=>
 Sum.elim (fun vf=>
 some vf) (fun (EC,i13)=>
 some true) w10
noncomputable def Go.aa.oA(q:Queue):Option Bool:=
 bif !(q.af.Kind==1&&(q.af.A==0&&(q.af.B==0&&q.af.C==0))) then
 some false
 else
 bif decide (q.Room<1) then
 some false
 else
 bif decide (500<q.Room) then
 some false
 else
 bif !(↑q.ag.length:Int)==1 then
 some false
 else
 bif !q.aY==0 then
 some false
 else
 (aa.dZ (v8 q.ae 7)).bind fun b1=>
 bif !b1 then
 some false
 else
 (aX (ω:=Bool ⊕ Bool×Int) (fun ((b2,i3):Bool×Int)=>
 bif decide (i3<7) then
 gd (decide (0≤i3)) <|
 gd (decide (i3.toNat<8)) <|
 bif !v8 q.ae i3.toNat==0 then
 some (Sum.inr (Sum.inl false))
 else
 some (Sum.inl (b2,IntKind.i64.wrap (i3+1)))
 else
 some (Sum.inr (Sum.inr (b2,i3)))) (false,0)).bind fun w4=>
 Sum.elim (fun b5=>
 some b5) (fun (b6,i7)=>
 (q.ag[0]?).bind fun l8=>
 bif decide ((↑l8.length:Int)≤q.Room) then
 (q.ag[0]?).bind fun l9=>
 (aa.dz l9 (v8 q.ae 7)).bind fun yz=>
 some yz
 else
 some false) w4
noncomputable def Go.aa.oB(q:Queue):Option Bool:=
 bif !q.af.Kind==2 then
 some false
 else
 bif decide (q.af.A<1) then
 some false
 else
 bif decide (q.af.B≤q.af.A) then
 some false
 else
 bif decide (500<q.af.B) then
 some false
 else
 bif decide (q.af.C<0) then
 some false
 else
 bif decide (10<q.af.C) then
 some false
 else
 bif decide (q.Room<1) then
 some false
 else
 bif decide (500<q.Room) then
 some false
 else
 bif !(↑q.ag.length:Int)==1 then
 some false
 else
 (aX (ω:=Bool ⊕ Bool×Int) (fun ((b1,i2):Bool×Int)=>
 bif decide (i2<7) then
 gd (decide (0≤i2)) <|
 gd (decide (i2.toNat<8)) <|
 bif !v8 q.ae i2.toNat==0 then
 some (Sum.inr (Sum.inl false))
 else
 some (Sum.inl (b1,IntKind.i64.wrap (i2+1)))
 else
 some (Sum.inr (Sum.inr (b1,i2)))) (false,1)).bind fun w3=>
 Sum.elim (fun b4=>
 some b4) (fun (b5,i6)=>
 (aa.dZ (v8 q.ae 7)).bind fun b7=>
 (q.ag[0]?).bind fun l8=>
 (aa.dz l8 (v8 q.ae 7)).bind fun b9=>
 bif b7 then
 bif b9 then
 bif decide (0≤v8 q.ae 0) then
 bif decide (v8 q.ae 0≤512000) then
 (q.ag[0]?).bind fun mW=>
 some (decide ((↑mW.length:Int)≤q.Room))
 else
 some false
 else
 some false
 else
 some false
 else
 some false) w3
noncomputable def Go.aa.oC(q:Queue):Option Bool:=
 bif !q.af.Kind==3 then
 some false
 else
 bif decide (q.af.A<0) then
 some false
 else
 bif decide (1000000<q.af.A) then
 some false
 else
 bif decide (q.af.B<1) then
 some false
 else
 bif decide (1000000<q.af.B) then
 some false
 else
 bif !q.af.C==0 then
 some false
 else
 bif decide (q.Room<1) then
 some false
 else
 bif decide (500<q.Room) then
 some false
 else
 bif !(↑q.ag.length:Int)==1 then
 some false
 else
 bif !q.aY==0 then
 some false
 else
 (aa.dZ (v8 q.ae 7)).bind fun b1=>
 bif !b1 then
 some false
 else
 bif decide (v8 q.ae 0<0) then
 some false
 else
 bif decide (IntKind.i64.wrap (IntKind.i64.wrap (v8 q.ae 7+q.af.B)+1)<v8 q.ae 0) then
 some false
 else
 bif decide (v8 q.ae 1<0) then
 some false
 else
 bif decide (1000000000<v8 q.ae 1) then
 some false
 else
 bif v8 q.ae 0==0 then
 bif !v8 q.ae 1==0 then
 some false
 else
 (aX (ω:=Bool ⊕ Bool×Int) (fun ((b2,i3):Bool×Int)=>
 bif decide (i3<7) then
 gd (decide (0≤i3)) <|
 gd (decide (i3.toNat<8)) <|
 bif !v8 q.ae i3.toNat==0 then
 some (Sum.inr (Sum.inl false))
 else
 some (Sum.inl (b2,IntKind.i64.wrap (i3+1)))
 else
 some (Sum.inr (Sum.inr (b2,i3)))) (false,2)).bind fun w4=>
 Sum.elim (fun b5=>
 some b5) (fun (b6,i7)=>
 (q.ag[0]?).bind fun l8=>
 bif decide ((↑l8.length:Int)≤q.Room) then
 (q.ag[0]?).bind fun l9=>
 (aa.dz l9 (v8 q.ae 7)).bind fun yz=>
 some yz
 else
 some false) w4
 else
 (aX (ω:=Bool ⊕ Bool×Int) (fun ((vf,i12):Bool×Int)=>
 bif decide (i12<7) then
 gd (decide (0≤i12)) <|
 gd (decide (i12.toNat<8)) <|
 bif !v8 q.ae i12.toNat==0 then
 some (Sum.inr (Sum.inl false))
 else
 some (Sum.inl (vf,IntKind.i64.wrap (i12+1)))
 else
 some (Sum.inr (Sum.inr (vf,i12)))) (false,2)).bind fun w13=>
 Sum.elim (fun lA=>
 some lA) (fun (Db,i16)=>
 (q.ag[0]?).bind fun Rh=>
 bif decide ((↑Rh.length:Int)≤q.Room) then
 (q.ag[0]?).bind fun EZ=>
 (aa.dz EZ (v8 q.ae 7)).bind fun NW=>
 some NW
 else
 some false) w13
noncomputable def Go.aa.mT(p:af):Option Bool:=
 bif p.Kind==4 then
 bif decide (1≤p.A) then
 bif decide (p.A≤1000000) then
 bif decide (0≤p.B) then
 bif decide (p.B≤1000) then
 bif decide (0≤p.C) then
 some (decide (p.C≤1000))
 else
 some false
 else
 some false
 else
 some false
 else
 some false
 else
 some false
 else
 some false
noncomputable def Go.aa.oD(q:Queue):Option Bool:=
 (aa.mT q.af).bind fun b1=>
 bif !b1 then
 some false
 else
 bif decide (q.Room<1) then
 some false
 else
 bif decide (500<q.Room) then
 some false
 else
 bif !(↑q.ag.length:Int)==1 then
 some false
 else
 (aa.dZ (v8 q.ae 7)).bind fun b2=>
 bif !b2 then
 some false
 else
 bif decide (v8 q.ae 0<0) then
 some false
 else
 bif decide (1000000<v8 q.ae 0) then
 some false
 else
 (aa.dZ (v8 q.ae 1)).bind fun b3=>
 bif !b3 then
 some false
 else
 bif decide (v8 q.ae 7<v8 q.ae 1) then
 some false
 else
 (aa.dZ (v8 q.ae 2)).bind fun b4=>
 bif !b4 then
 some false
 else
 (aX (ω:=Bool ⊕ Bool×Int) (fun ((b5,i6):Bool×Int)=>
 bif decide (i6<7) then
 gd (decide (0≤i6)) <|
 gd (decide (i6.toNat<8)) <|
 bif !v8 q.ae i6.toNat==0 then
 some (Sum.inr (Sum.inl false))
 else
 some (Sum.inl (b5,IntKind.i64.wrap (i6+1)))
 else
 some (Sum.inr (Sum.inr (b5,i6)))) (false,3)).bind fun w7=>
 Sum.elim (fun b8=>
 some b8) (fun (b9,i10)=>
 (q.ag[0]?).bind fun Ol=>
 bif decide ((↑Ol.length:Int)≤q.Room) then
 (q.ag[0]?).bind fun X3=>
 (aa.dz X3 (v8 q.ae 7)).bind fun uA=>
 some uA
 else
 some false) w7
noncomputable def Go.aa.jg(q:Queue)(xw:Int):Option Int:=
 gd (decide (0≤IntKind.i64.wrap (2+IntKind.i64.wrap (xw.tdiv 2)))) <|
 gd (decide ((IntKind.i64.wrap (2+IntKind.i64.wrap (xw.tdiv 2))).toNat<8)) <|
 bif xw.tmod 2==0 then
 some (IntKind.i64.wrap ((v8 q.ae (IntKind.i64.wrap (2+IntKind.i64.wrap (xw.tdiv 2))).toNat).tdiv 32768))
 else
 some ((v8 q.ae (IntKind.i64.wrap (2+IntKind.i64.wrap (xw.tdiv 2))).toNat).tmod 32768)
noncomputable def Go.aa.qA(q:Queue):Option Int:=
 (aX (ω:=Int×Int) (fun ((i1,i2):Int×Int)=>
 bif decide (i2<(↑q.ag.length:Int)) then
 gd (decide (0≤i2)) <|
 (q.ag[i2.toNat]?).bind fun l3=>
 some (Sum.inl (IntKind.i64.wrap (i1+(↑l3.length:Int)),IntKind.i64.wrap (i2+1)))
 else
 some (Sum.inr (i1,i2))) (0,0)).bind fun (i4,i5)=>
 some i4
noncomputable def Go.aa.oF(q:Queue):Option Bool:=
 bif !q.af.Kind==5 then
 some false
 else
 bif decide (q.af.A<100) then
 some false
 else
 bif decide (10000<q.af.A) then
 some false
 else
 bif !q.af.B==0 then
 some false
 else
 bif !q.af.C==0 then
 some false
 else
 bif decide (q.Room<1) then
 some false
 else
 bif decide (500<q.Room) then
 some false
 else
 bif !(↑q.ag.length:Int)==8 then
 some false
 else
 bif !q.aY==0 then
 some false
 else
 bif !v8 q.ae 6==0 then
 some false
 else
 (aa.dZ (v8 q.ae 7)).bind fun b1=>
 bif !b1 then
 some false
 else
 bif decide (v8 q.ae 0<0) then
 some false
 else
 bif decide (7<v8 q.ae 0) then
 some false
 else
 bif decide (v8 q.ae 1<0) then
 some false
 else
 bif decide (1<v8 q.ae 1) then
 some false
 else
 bif v8 q.ae 1==1 then
 gd (decide (0≤v8 q.ae 0)) <|
 (q.ag[(v8 q.ae 0).toNat]?).bind fun l2=>
 bif (↑l2.length:Int)==0 then
 some false
 else
 (aX (ω:=Bool ⊕ Bool×Int) (fun ((b3,i4):Bool×Int)=>
 bif decide (i4<8) then
 gd (decide (0≤i4)) <|
 (q.ag[i4.toNat]?).bind fun l5=>
 (aa.dz l5 (v8 q.ae 7)).bind fun b6=>
 (aa.jg q i4).bind fun i7=>
 bif !b6 then
 some (Sum.inr (Sum.inl false))
 else
 gd (decide (0≤IntKind.i64.wrap (2+IntKind.i64.wrap (i4.tdiv 2)))) <|
 gd (decide ((IntKind.i64.wrap (2+IntKind.i64.wrap (i4.tdiv 2))).toNat<8)) <|
 bif decide (v8 q.ae (IntKind.i64.wrap (2+IntKind.i64.wrap (i4.tdiv 2))).toNat<0) then
 some (Sum.inr (Sum.inl false))
 else
 bif decide (19999<i7) then
 some (Sum.inr (Sum.inl false))
 else
 bif (↑l5.length:Int)==0 then
 bif !i7==0 then
 some (Sum.inr (Sum.inl false))
 else
 bif v8 q.ae 0==i4 then
 bif decide (0<(↑l5.length:Int)) then
 bif !v8 q.ae 1==1 then
 (l5[0]?).bind fun q8=>
 bif decide (q8.P.aA≤i7) then
 some (Sum.inr (Sum.inl false))
 else
 (aX (ω:=Bool ⊕ Bool×Int) (fun ((b9,i10):Bool×Int)=>
 bif decide (i10<(↑l5.length:Int)) then
 gd (decide (0≤i10)) <|
 (l5[i10.toNat]?).bind fun UF=>
 bif !UF.P.aG==i4 then
 some (Sum.inr (Sum.inl false))
 else
 some (Sum.inl (b9,IntKind.i64.wrap (i10+1)))
 else
 some (Sum.inr (Sum.inr (b9,i10)))) (b3,0)).bind fun w12=>
 Sum.elim (fun uA=>
 some (Sum.inr (Sum.inl uA))) (fun (lA,i15)=>
 some (Sum.inl (lA,IntKind.i64.wrap (i4+1)))) w12
 else
 (aX (ω:=Bool ⊕ Bool×Int) (fun ((B7,i17):Bool×Int)=>
 bif decide (i17<(↑l5.length:Int)) then
 gd (decide (0≤i17)) <|
 (l5[i17.toNat]?).bind fun q18=>
 bif !q18.P.aG==i4 then
 some (Sum.inr (Sum.inl false))
 else
 some (Sum.inl (B7,IntKind.i64.wrap (i17+1)))
 else
 some (Sum.inr (Sum.inr (B7,i17)))) (b3,0)).bind fun w19=>
 Sum.elim (fun U1=>
 some (Sum.inr (Sum.inl U1))) (fun (U2,i22)=>
 some (Sum.inl (U2,IntKind.i64.wrap (i4+1)))) w19
 else
 (aX (ω:=Bool ⊕ Bool×Int) (fun ((Qq,i24):Bool×Int)=>
 bif decide (i24<(↑l5.length:Int)) then
 gd (decide (0≤i24)) <|
 (l5[i24.toNat]?).bind fun SR=>
 bif !SR.P.aG==i4 then
 some (Sum.inr (Sum.inl false))
 else
 some (Sum.inl (Qq,IntKind.i64.wrap (i24+1)))
 else
 some (Sum.inr (Sum.inr (Qq,i24)))) (b3,0)).bind fun w26=>
 Sum.elim (fun Qo=>
 some (Sum.inr (Sum.inl Qo))) (fun (b28,i29)=>
 some (Sum.inl (b28,IntKind.i64.wrap (i4+1)))) w26
 else
 bif decide (0<(↑l5.length:Int)) then
 (l5[0]?).bind fun q30=>
 bif decide (q30.P.aA≤i7) then
 some (Sum.inr (Sum.inl false))
 else
 (aX (ω:=Bool ⊕ Bool×Int) (fun ((WH,i32):Bool×Int)=>
 bif decide (i32<(↑l5.length:Int)) then
 gd (decide (0≤i32)) <|
 (l5[i32.toNat]?).bind fun q33=>
 bif !q33.P.aG==i4 then
 some (Sum.inr (Sum.inl false))
 else
 some (Sum.inl (WH,IntKind.i64.wrap (i32+1)))
 else
 some (Sum.inr (Sum.inr (WH,i32)))) (b3,0)).bind fun w34=>
 Sum.elim (fun b35=>
 some (Sum.inr (Sum.inl b35))) (fun (b36,i37)=>
 some (Sum.inl (b36,IntKind.i64.wrap (i4+1)))) w34
 else
 (aX (ω:=Bool ⊕ Bool×Int) (fun ((b38,i39):Bool×Int)=>
 bif decide (i39<(↑l5.length:Int)) then
 gd (decide (0≤i39)) <|
 (l5[i39.toNat]?).bind fun q40=>
 bif !q40.P.aG==i4 then
 some (Sum.inr (Sum.inl false))
 else
 some (Sum.inl (b38,IntKind.i64.wrap (i39+1)))
 else
 some (Sum.inr (Sum.inr (b38,i39)))) (b3,0)).bind fun w41=>
 Sum.elim (fun b42=>
 some (Sum.inr (Sum.inl b42))) (fun (Lq,i44)=>
 some (Sum.inl (Lq,IntKind.i64.wrap (i4+1)))) w41
 else
 bif v8 q.ae 0==i4 then
 bif decide (0<(↑l5.length:Int)) then
 bif !v8 q.ae 1==1 then
 (l5[0]?).bind fun q45=>
 bif decide (q45.P.aA≤i7) then
 some (Sum.inr (Sum.inl false))
 else
 (aX (ω:=Bool ⊕ Bool×Int) (fun ((b46,i47):Bool×Int)=>
 bif decide (i47<(↑l5.length:Int)) then
 gd (decide (0≤i47)) <|
 (l5[i47.toNat]?).bind fun ED=>
 bif !ED.P.aG==i4 then
 some (Sum.inr (Sum.inl false))
 else
 some (Sum.inl (b46,IntKind.i64.wrap (i47+1)))
 else
 some (Sum.inr (Sum.inr (b46,i47)))) (b3,0)).bind fun w49=>
 Sum.elim (fun b50=>
 some (Sum.inr (Sum.inl b50))) (fun (b51,i52)=>
 some (Sum.inl (b51,IntKind.i64.wrap (i4+1)))) w49
 else
 (aX (ω:=Bool ⊕ Bool×Int) (fun ((b53,i54):Bool×Int)=>
 bif decide (i54<(↑l5.length:Int)) then
 gd (decide (0≤i54)) <|
 (l5[i54.toNat]?).bind fun q55=>
 bif !q55.P.aG==i4 then
 some (Sum.inr (Sum.inl false))
 else
 some (Sum.inl (b53,IntKind.i64.wrap (i54+1)))
 else
 some (Sum.inr (Sum.inr (b53,i54)))) (b3,0)).bind fun w56=>
 Sum.elim (fun b57=>
 some (Sum.inr (Sum.inl b57))) (fun (b58,i59)=>
 some (Sum.inl (b58,IntKind.i64.wrap (i4+1)))) w56
 else
 (aX (ω:=Bool ⊕ Bool×Int) (fun ((b60,i61):Bool×Int)=>
 bif decide (i61<(↑l5.length:Int)) then
 gd (decide (0≤i61)) <|
 (l5[i61.toNat]?).bind fun nR=>
 bif !nR.P.aG==i4 then
 some (Sum.inr (Sum.inl false))
 else
 some (Sum.inl (b60,IntKind.i64.wrap (i61+1)))
 else
 some (Sum.inr (Sum.inr (b60,i61)))) (b3,0)).bind fun w63=>
 Sum.elim (fun b64=>
 some (Sum.inr (Sum.inl b64))) (fun (b65,i66)=>
 some (Sum.inl (b65,IntKind.i64.wrap (i4+1)))) w63
 else
 bif decide (0<(↑l5.length:Int)) then
 (l5[0]?).bind fun nS=>
 bif decide (nS.P.aA≤i7) then
 some (Sum.inr (Sum.inl false))
 else
 (aX (ω:=Bool ⊕ Bool×Int) (fun ((b68,i69):Bool×Int)=>
 bif decide (i69<(↑l5.length:Int)) then
 gd (decide (0≤i69)) <|
 (l5[i69.toNat]?).bind fun q70=>
 bif !q70.P.aG==i4 then
 some (Sum.inr (Sum.inl false))
 else
 some (Sum.inl (b68,IntKind.i64.wrap (i69+1)))
 else
 some (Sum.inr (Sum.inr (b68,i69)))) (b3,0)).bind fun w71=>
 Sum.elim (fun b72=>
 some (Sum.inr (Sum.inl b72))) (fun (b73,i74)=>
 some (Sum.inl (b73,IntKind.i64.wrap (i4+1)))) w71
 else
 (aX (ω:=Bool ⊕ Bool×Int) (fun ((b75,i76):Bool×Int)=>
 bif decide (i76<(↑l5.length:Int)) then
 gd (decide (0≤i76)) <|
 (l5[i76.toNat]?).bind fun EB=>
 bif !EB.P.aG==i4 then
 some (Sum.inr (Sum.inl false))
 else
 some (Sum.inl (b75,IntKind.i64.wrap (i76+1)))
 else
 some (Sum.inr (Sum.inr (b75,i76)))) (b3,0)).bind fun w78=>
 Sum.elim (fun b79=>
 some (Sum.inr (Sum.inl b79))) (fun (b80,i81)=>
 some (Sum.inl (b80,IntKind.i64.wrap (i4+1)))) w78
 else
 some (Sum.inr (Sum.inr (b3,i4)))) (false,0)).bind fun w82=>
 Sum.elim (fun b83=>
 some b83) (fun (b84,i85)=>
 (aa.qA q).bind fun i86=>
 some (decide (i86≤q.Room))) w82
 else
 (aX (ω:=Bool ⊕ Bool×Int) (fun ((On,i88):Bool×Int)=>
 bif decide (i88<8) then
 gd (decide (0≤i88)) <|
 (q.ag[i88.toNat]?).bind fun vj=>
 (aa.dz vj (v8 q.ae 7)).bind fun b90=>
 (aa.jg q i88).bind fun i91=>
 bif !b90 then
 some (Sum.inr (Sum.inl false))
 else
 gd (decide (0≤IntKind.i64.wrap (2+IntKind.i64.wrap (i88.tdiv 2)))) <|
 gd (decide ((IntKind.i64.wrap (2+IntKind.i64.wrap (i88.tdiv 2))).toNat<8)) <|
 bif decide (v8 q.ae (IntKind.i64.wrap (2+IntKind.i64.wrap (i88.tdiv 2))).toNat<0) then
 some (Sum.inr (Sum.inl false))
 else
 bif decide (19999<i91) then
 some (Sum.inr (Sum.inl false))
 else
 bif (↑vj.length:Int)==0 then
 bif !i91==0 then
 some (Sum.inr (Sum.inl false))
 else
 bif v8 q.ae 0==i88 then
 bif decide (0<(↑vj.length:Int)) then
 bif !v8 q.ae 1==1 then
 (vj[0]?).bind fun q92=>
 bif decide (q92.P.aA≤i91) then
 some (Sum.inr (Sum.inl false))
 else
 (aX (ω:=Bool ⊕ Bool×Int) (fun ((b93,i94):Bool×Int)=>
 bif decide (i94<(↑vj.length:Int)) then
 gd (decide (0≤i94)) <|
 (vj[i94.toNat]?).bind fun q95=>
 bif !q95.P.aG==i88 then
 some (Sum.inr (Sum.inl false))
 else
 some (Sum.inl (b93,IntKind.i64.wrap (i94+1)))
 else
 some (Sum.inr (Sum.inr (b93,i94)))) (On,0)).bind fun w96=>
 Sum.elim (fun b97=>
 some (Sum.inr (Sum.inl b97))) (fun (b98,i99)=>
 some (Sum.inl (b98,IntKind.i64.wrap (i88+1)))) w96
 else
 (aX (ω:=Bool ⊕ Bool×Int) (fun ((X6,i101):Bool×Int)=>
 bif decide (i101<(↑vj.length:Int)) then
 gd (decide (0≤i101)) <|
 (vj[i101.toNat]?).bind fun abW=>
 bif !abW.P.aG==i88 then
 some (Sum.inr (Sum.inl false))
 else
 some (Sum.inl (X6,IntKind.i64.wrap (i101+1)))
 else
 some (Sum.inr (Sum.inr (X6,i101)))) (On,0)).bind fun abX=>
 Sum.elim (fun abY=>
 some (Sum.inr (Sum.inl abY))) (fun (abZ,i106)=>
 some (Sum.inl (abZ,IntKind.i64.wrap (i88+1)))) abX
 else
 (aX (ω:=Bool ⊕ Bool×Int) (fun ((X7,i108):Bool×Int)=>
 bif decide (i108<(↑vj.length:Int)) then
 gd (decide (0≤i108)) <|
 (vj[i108.toNat]?).bind fun UY=>
 bif !UY.P.aG==i88 then
 some (Sum.inr (Sum.inl false))
 else
 some (Sum.inl (X7,IntKind.i64.wrap (i108+1)))
 else
 some (Sum.inr (Sum.inr (X7,i108)))) (On,0)).bind fun ab0=>
 Sum.elim (fun ab1=>
 some (Sum.inr (Sum.inl ab1))) (fun (ab2,i113)=>
 some (Sum.inl (ab2,IntKind.i64.wrap (i88+1)))) ab0
 else
 bif decide (0<(↑vj.length:Int)) then
 (vj[0]?).bind fun UZ=>
 bif decide (UZ.P.aA≤i91) then
 some (Sum.inr (Sum.inl false))
 else
 (aX (ω:=Bool ⊕ Bool×Int) (fun ((X8,i116):Bool×Int)=>
 bif decide (i116<(↑vj.length:Int)) then
 gd (decide (0≤i116)) <|
 (vj[i116.toNat]?).bind fun U0=>
 bif !U0.P.aG==i88 then
 some (Sum.inr (Sum.inl false))
 else
 some (Sum.inl (X8,IntKind.i64.wrap (i116+1)))
 else
 some (Sum.inr (Sum.inr (X8,i116)))) (On,0)).bind fun ab3=>
 Sum.elim (fun ab4=>
 some (Sum.inr (Sum.inl ab4))) (fun (ab5,i121)=>
 some (Sum.inl (ab5,IntKind.i64.wrap (i88+1)))) ab3
 else
 (aX (ω:=Bool ⊕ Bool×Int) (fun ((X9,i123):Bool×Int)=>
 bif decide (i123<(↑vj.length:Int)) then
 gd (decide (0≤i123)) <|
 (vj[i123.toNat]?).bind fun ab6=>
 bif !ab6.P.aG==i88 then
 some (Sum.inr (Sum.inl false))
 else
 some (Sum.inl (X9,IntKind.i64.wrap (i123+1)))
 else
 some (Sum.inr (Sum.inr (X9,i123)))) (On,0)).bind fun ab7=>
 Sum.elim (fun ab8=>
 some (Sum.inr (Sum.inl ab8))) (fun (ab9,i128)=>
 some (Sum.inl (ab9,IntKind.i64.wrap (i88+1)))) ab7
 else
 bif v8 q.ae 0==i88 then
 bif decide (0<(↑vj.length:Int)) then
 bif !v8 q.ae 1==1 then
 (vj[0]?).bind fun aca=>
 bif decide (aca.P.aA≤i91) then
 some (Sum.inr (Sum.inl false))
 else
 (aX (ω:=Bool ⊕ Bool×Int) (fun ((Ya,i131):Bool×Int)=>
 bif decide (i131<(↑vj.length:Int)) then
 gd (decide (0≤i131)) <|
 (vj[i131.toNat]?).bind fun acb=>
 bif !acb.P.aG==i88 then
 some (Sum.inr (Sum.inl false))
 else
 some (Sum.inl (Ya,IntKind.i64.wrap (i131+1)))
 else
 some (Sum.inr (Sum.inr (Ya,i131)))) (On,0)).bind fun acd=>
 Sum.elim (fun ace=>
 some (Sum.inr (Sum.inl ace))) (fun (acf,i136)=>
 some (Sum.inl (acf,IntKind.i64.wrap (i88+1)))) acd
 else
 (aX (ω:=Bool ⊕ Bool×Int) (fun ((Yb,i138):Bool×Int)=>
 bif decide (i138<(↑vj.length:Int)) then
 gd (decide (0≤i138)) <|
 (vj[i138.toNat]?).bind fun acg=>
 bif !acg.P.aG==i88 then
 some (Sum.inr (Sum.inl false))
 else
 some (Sum.inl (Yb,IntKind.i64.wrap (i138+1)))
 else
 some (Sum.inr (Sum.inr (Yb,i138)))) (On,0)).bind fun ach=>
 Sum.elim (fun aci=>
 some (Sum.inr (Sum.inl aci))) (fun (acj,i143)=>
 some (Sum.inl (acj,IntKind.i64.wrap (i88+1)))) ach
 else
 (aX (ω:=Bool ⊕ Bool×Int) (fun ((Yc,i145):Bool×Int)=>
 bif decide (i145<(↑vj.length:Int)) then
 gd (decide (0≤i145)) <|
 (vj[i145.toNat]?).bind fun ack=>
 bif !ack.P.aG==i88 then
 some (Sum.inr (Sum.inl false))
 else
 some (Sum.inl (Yc,IntKind.i64.wrap (i145+1)))
 else
 some (Sum.inr (Sum.inr (Yc,i145)))) (On,0)).bind fun acm=>
 Sum.elim (fun acn=>
 some (Sum.inr (Sum.inl acn))) (fun (aco,i150)=>
 some (Sum.inl (aco,IntKind.i64.wrap (i88+1)))) acm
 else
 bif decide (0<(↑vj.length:Int)) then
 (vj[0]?).bind fun acp=>
 bif decide (acp.P.aA≤i91) then
 some (Sum.inr (Sum.inl false))
 else
 (aX (ω:=Bool ⊕ Bool×Int) (fun ((Yd,i153):Bool×Int)=>
 bif decide (i153<(↑vj.length:Int)) then
 gd (decide (0≤i153)) <|
 (vj[i153.toNat]?).bind fun acq=>
 bif !acq.P.aG==i88 then
 some (Sum.inr (Sum.inl false))
 else
 some (Sum.inl (Yd,IntKind.i64.wrap (i153+1)))
 else
 some (Sum.inr (Sum.inr (Yd,i153)))) (On,0)).bind fun acr=>
 Sum.elim (fun acs=>
 some (Sum.inr (Sum.inl acs))) (fun (acu,i158)=>
 some (Sum.inl (acu,IntKind.i64.wrap (i88+1)))) acr
 else
 (aX (ω:=Bool ⊕ Bool×Int) (fun ((Ye,i160):Bool×Int)=>
 bif decide (i160<(↑vj.length:Int)) then
 gd (decide (0≤i160)) <|
 (vj[i160.toNat]?).bind fun acv=>
 bif !acv.P.aG==i88 then
 some (Sum.inr (Sum.inl false))
 else
 some (Sum.inl (Ye,IntKind.i64.wrap (i160+1)))
 else
 some (Sum.inr (Sum.inr (Ye,i160)))) (On,0)).bind fun acw=>
 Sum.elim (fun acx=>
 some (Sum.inr (Sum.inl acx))) (fun (acy,i165)=>
 some (Sum.inl (acy,IntKind.i64.wrap (i88+1)))) acw
 else
 some (Sum.inr (Sum.inr (On,i88)))) (false,0)).bind fun acz=>
 Sum.elim (fun acA=>
 some acA) (fun (ahI,i169)=>
 (aa.qA q).bind fun i170=>
 some (decide (i170≤q.Room))) acz
noncomputable def Go.aa.nI(l:List ai)(is:Bool):Option Bool:=
 (aX (ω:=Bool ⊕ Bool×Int) (fun ((b1,i2):Bool×Int)=>
 bif decide (i2<(↑l.length:Int)) then
 gd (decide (0≤i2)) <|
 (l[i2.toNat]?).bind fun q3=>
 bif !q3.P.aI==is then
 some (Sum.inr (Sum.inl false))
 else
 some (Sum.inl (b1,IntKind.i64.wrap (i2+1)))
 else
 some (Sum.inr (Sum.inr (b1,i2)))) (false,0)).bind fun w4=>
 Sum.elim (fun b5=>
 some b5) (fun (b6,i7)=>
 some true) w4
noncomputable def Go.aa.oE(q:Queue):Option Bool:=
 bif !q.af.Kind==6 then
 some false
 else
 bif decide (q.af.A<0) then
 some false
 else
 bif decide (1000000<q.af.A) then
 some false
 else
 bif decide (q.af.B<0) then
 some false
 else
 bif decide (1000<q.af.B) then
 some false
 else
 bif !q.af.C==0 then
 some false
 else
 bif decide (q.Room<1) then
 some false
 else
 bif decide (500<q.Room) then
 some false
 else
 bif !(↑q.ag.length:Int)==2 then
 some false
 else
 (aa.dZ (v8 q.ae 7)).bind fun b1=>
 bif !b1 then
 some false
 else
 bif decide (v8 q.ae 0<0) then
 some false
 else
 bif decide (15<v8 q.ae 0) then
 some false
 else
 (aX (ω:=Bool ⊕ Bool×Int) (fun ((b2,i3):Bool×Int)=>
 bif decide (i3<7) then
 gd (decide (0≤i3)) <|
 gd (decide (i3.toNat<8)) <|
 bif !v8 q.ae i3.toNat==0 then
 some (Sum.inr (Sum.inl false))
 else
 some (Sum.inl (b2,IntKind.i64.wrap (i3+1)))
 else
 some (Sum.inr (Sum.inr (b2,i3)))) (false,1)).bind fun w4=>
 Sum.elim (fun b5=>
 some b5) (fun (b6,i7)=>
 (q.ag[0]?).bind fun l8=>
 (q.ag[1]?).bind fun l9=>
 bif decide (q.Room<IntKind.i64.wrap ((↑l8.length:Int)+(↑l9.length:Int))) then
 some false
 else
 (q.ag[0]?).bind fun mW=>
 (aa.nI mW true).bind fun vf=>
 bif !vf then
 some false
 else
 (q.ag[1]?).bind fun X3=>
 (aa.nI X3 false).bind fun uA=>
 bif !uA then
 some false
 else
 (q.ag[0]?).bind fun Om=>
 (aa.dz Om (v8 q.ae 7)).bind fun Db=>
 bif Db then
 (q.ag[1]?).bind fun X4=>
 (aa.dz X4 (v8 q.ae 7)).bind fun Gg=>
 some Gg
 else
 some false) w4
noncomputable def Go.aa.lY(q:Queue):Option Bool:=
 bif q.af.Kind==1 then
 (aa.oA q).bind fun b1=>
 some b1
 else
 bif q.af.Kind==2 then
 (aa.oB q).bind fun b2=>
 some b2
 else
 bif q.af.Kind==3 then
 (aa.oC q).bind fun b3=>
 some b3
 else
 bif q.af.Kind==4 then
 (aa.oD q).bind fun b4=>
 some b4
 else
 bif q.af.Kind==5 then
 (aa.oF q).bind fun b5=>
 some b5
 else
 bif q.af.Kind==6 then
 (aa.oE q).bind fun b6=>
 some b6
 else
 some false
noncomputable def Go.aa.qB(q:Queue):Option Int:=
 (aX (ω:=Int×Int) (fun ((i1,i2):Int×Int)=>
 bif decide (i2<(↑q.ag.length:Int)) then
 gd (decide (0≤i2)) <|
 (q.ag[i2.toNat]?).bind fun l3=>
 some (Sum.inl (IntKind.i64.wrap (i1+(↑l3.length:Int)),IntKind.i64.wrap (i2+1)))
 else
 some (Sum.inr (i1,i2))) (0,0)).bind fun (i4,i5)=>
 some i4
noncomputable def Go.aa.fZ(l:bc):Option Bool:=
 (aa.nJ l.dq).bind fun b1=>
 bif !b1 then
 some false
 else
 bif decide (l.di<0) then
 some false
 else
 bif decide (1000000<l.di) then
 some false
 else
 (aa.lY l.Queue).bind fun b2=>
 bif !b2 then
 some false
 else
 bif !l.iX then
 bif l.dr.aG==0&&(l.dr.Sub==0&&(l.dr.Number==0&&(l.dr.Data==0&&(l.dr.aA==0&&(l.dr.aQ==0&&(l.dr.aI==false&&l.dr.ay==false)))))) then
 bif l.cO==0 then
 (aa.qB l.Queue).bind fun i3=>
 some (i3==0)
 else
 some false
 else
 some false
 else
 (aa.km l.dr).bind fun b4=>
 bif b4 then
 bif decide (l.Queue.ae.e7≤l.cO) then
 some (decide (l.cO≤20000000))
 else
 some false
 else
 some false
noncomputable def Go.aa.ss(l:bc)(jh:Int):Option (bc×Int):=
 (aa.gZ l).bind fun b1=>
 bif !b1 then
 some (bc.mk 0 0 (zQ) false zP 0,1)
 else
 (aa.cW jh 1 1000000).bind fun b2=>
 bif !b2 then
 some (bc.mk 0 0 (zQ) false zP 0,1)
 else
 some (bc.mk jh l.di l.Queue l.iX l.dr l.cO,0)
noncomputable def Go.aa.kn(a:List ai)(b:List ai):Option Bool:=
 bif !(↑a.length:Int)==(↑b.length:Int) then
 some false
 else
 (aX (ω:=Bool ⊕ Bool×Int) (fun ((b1,i2):Bool×Int)=>
 bif decide (i2<(↑a.length:Int)) then
 gd (decide (0≤i2)) <|
 (a[i2.toNat]?).bind fun q3=>
 gd (decide (0≤i2)) <|
 (b[i2.toNat]?).bind fun q4=>
 bif !(q3.P.aG==q4.P.aG&&(q3.P.Sub==q4.P.Sub&&(q3.P.Number==q4.P.Number&&(q3.P.Data==q4.P.Data&&(q3.P.aA==q4.P.aA&&(q3.P.aQ==q4.P.aQ&&(q3.P.aI==q4.P.aI&&(q3.P.ay==q4.P.ay&&q3.At==q4.At)))))))) then
 some (Sum.inr (Sum.inl false))
 else
 some (Sum.inl (b1,IntKind.i64.wrap (i2+1)))
 else
 some (Sum.inr (Sum.inr (b1,i2)))) (false,0)).bind fun w5=>
 Sum.elim (fun b6=>
 some b6) (fun (b7,i8)=>
 some true) w5
noncomputable def Go.aa.nK(a:Queue)(b:Queue):Option Bool:=
 bif !(a.af.Kind==b.af.Kind&&(a.af.A==b.af.A&&(a.af.B==b.af.B&&a.af.C==b.af.C))) then
 some false
 else
 bif !a.Room==b.Room then
 some false
 else
 bif !(a.ae.e0==b.ae.e0&&(a.ae.e1==b.ae.e1&&(a.ae.e2==b.ae.e2&&(a.ae.e3==b.ae.e3&&(a.ae.e4==b.ae.e4&&(a.ae.e5==b.ae.e5&&(a.ae.e6==b.ae.e6&&a.ae.e7==b.ae.e7))))))) then
 some false
 else
 bif !a.aY==b.aY then
 some false
 else
 bif !(↑a.ag.length:Int)==(↑b.ag.length:Int) then
 some false
 else
 (aX (ω:=Bool ⊕ Bool×Int) (fun ((b1,i2):Bool×Int)=>
 bif decide (i2<(↑a.ag.length:Int)) then
 gd (decide (0≤i2)) <|
 (a.ag[i2.toNat]?).bind fun l3=>
 gd (decide (0≤i2)) <|
 (b.ag[i2.toNat]?).bind fun l4=>
 (aa.kn l3 l4).bind fun b5=>
 bif !b5 then
 some (Sum.inr (Sum.inl false))
 else
 some (Sum.inl (b1,IntKind.i64.wrap (i2+1)))
 else
 some (Sum.inr (Sum.inr (b1,i2)))) (false,0)).bind fun w6=>
 Sum.elim (fun b7=>
 some b7) (fun (b8,i9)=>
 some true) w6
noncomputable def Go.aa.jz(a:bc)(b:bc):Option Bool:=
 bif a.dq==b.dq then
 bif a.di==b.di then
 (aa.nK a.Queue b.Queue).bind fun b1=>
 bif b1 then
 bif a.iX==b.iX then
 bif a.dr.aG==b.dr.aG&&(a.dr.Sub==b.dr.Sub&&(a.dr.Number==b.dr.Number&&(a.dr.Data==b.dr.Data&&(a.dr.aA==b.dr.aA&&(a.dr.aQ==b.dr.aQ&&(a.dr.aI==b.dr.aI&&a.dr.ay==b.dr.ay)))))) then
 some (a.cO==b.cO)
 else
 some false
 else
 some false
 else
 some false
 else
 some false
 else
 some false
noncomputable def Go.aa.dT(x:bc)(e:Int):Option Bool:=
 bif e==0 then
 (aa.fZ x).bind fun b1=>
 bif b1 then
 bif x.iX then
 some true
 else
 (aa.lB x.Queue).bind fun i2=>
 bif i2==0 then
 some true
 else
 bif !e==0 then
 (aa.jz x (bc.mk 0 0 (zQ) false zP 0):Option Bool).bind fun b3=>
 some b3
 else
 some false
 else
 bif !e==0 then
 (aa.jz x (bc.mk 0 0 (zQ) false zP 0):Option Bool).bind fun b4=>
 some b4
 else
 some false
 else
 bif !e==0 then
 (aa.jz x (bc.mk 0 0 (zQ) false zP 0):Option Bool).bind fun b5=>
 some b5
 else
 some false
noncomputable def Go.aa.jn(l:bc)(p:an)(now:Int)(jh:Int):Option Bool:=
 (aa.uO).bind fun b1=>
 (aa.tg l).bind fun b2=>
 bif !b2 then
 some b1
 else
 (aa.fZ l).bind fun b3=>
 bif !b3 then
 some b1
 else
 (aa.oH l p now).bind fun (q4,l5,i6)=>
 (aa.gx l now).bind fun (q7,q8,l9,i10)=>
 (aa.ss l jh).bind fun (UF,i12)=>
 bif b1 then
 (aa.dT q4 i6).bind fun uA=>
 bif uA then
 (aa.dT q7 i10).bind fun lA=>
 bif lA then
 (aa.dT UF i12).bind fun Db=>
 some Db
 else
 some false
 else
 some false
 else
 some false
noncomputable def Go.aa.tU(a:List an)(b:List an):Option Bool:=
 bif !(↑a.length:Int)==(↑b.length:Int) then
 some false
 else
 (aX (ω:=Bool ⊕ Bool×Int) (fun ((b1,i2):Bool×Int)=>
 bif decide (i2<(↑a.length:Int)) then
 gd (decide (0≤i2)) <|
 (a[i2.toNat]?).bind fun q3=>
 gd (decide (0≤i2)) <|
 (b[i2.toNat]?).bind fun q4=>
 bif !(q3.aG==q4.aG&&(q3.Sub==q4.Sub&&(q3.Number==q4.Number&&(q3.Data==q4.Data&&(q3.aA==q4.aA&&(q3.aQ==q4.aQ&&(q3.aI==q4.aI&&q3.ay==q4.ay))))))) then
 some (Sum.inr (Sum.inl false))
 else
 some (Sum.inl (b1,IntKind.i64.wrap (i2+1)))
 else
 some (Sum.inr (Sum.inr (b1,i2)))) (false,0)).bind fun w5=>
 Sum.elim (fun b6=>
 some b6) (fun (b7,i8)=>
 some true) w5
noncomputable def Go.aa.nT(p:an)(jh:Int):Option Int:=
 bif decide (jh=0) then
 none
 else
 some (IntKind.i64.wrap ((IntKind.i64.wrap (IntKind.i64.wrap (IntKind.i64.wrap (1000*p.aA)+jh)-1)).tdiv jh))
noncomputable def Go.aa.tG(l:bc)(jh:Int):Option Bool:=
 (aa.uO).bind fun b1=>
 (aa.tg l).bind fun b2=>
 bif !b2 then
 some b1
 else
 (aa.fZ l).bind fun b3=>
 bif !b3 then
 some b1
 else
 (aa.nJ jh).bind fun b4=>
 bif !b4 then
 some b1
 else
 (aa.ss l jh).bind fun (q5,i6)=>
 bif !i6==0 then
 some false
 else
 (aa.jz q5 (bc.mk jh l.di l.Queue l.iX l.dr l.cO)).bind fun b7=>
 bif !b7 then
 some false
 else
 bif !l.iX then
 some b1
 else
 bif decide (10000000<l.cO) then
 some b1
 else
 (aa.gx l l.cO).bind fun (q8,q9,mW,i11)=>
 (aa.gx q5 l.cO).bind fun (BU,rv,Om,i15)=>
 bif !i11==i15 then
 bif b1 then
 some (i11==i15)
 else
 some false
 else
 bif !i11==0 then
 bif b1 then
 some (i11==i15)
 else
 some false
 else
 bif b1 then
 bif q9.aG==l.dr.aG&&(q9.Sub==l.dr.Sub&&(q9.Number==l.dr.Number&&(q9.Data==l.dr.Data&&(q9.aA==l.dr.aA&&(q9.aQ==l.dr.aQ&&(q9.aI==l.dr.aI&&q9.ay==l.dr.ay)))))) then
 bif rv.aG==q9.aG&&(rv.Sub==q9.Sub&&(rv.Number==q9.Number&&(rv.Data==q9.Data&&(rv.aA==q9.aA&&(rv.aQ==q9.aQ&&(rv.aI==q9.aI&&rv.ay==q9.ay)))))) then
 (aa.tU mW Om).bind fun B7=>
 bif B7 then
 bif q8.iX==BU.iX then
 bif q8.dr.aG==BU.dr.aG&&(q8.dr.Sub==BU.dr.Sub&&(q8.dr.Number==BU.dr.Number&&(q8.dr.Data==BU.dr.Data&&(q8.dr.aA==BU.dr.aA&&(q8.dr.aQ==BU.dr.aQ&&(q8.dr.aI==BU.dr.aI&&q8.dr.ay==BU.dr.ay)))))) then
 (aa.nK q8.Queue BU.Queue).bind fun Gg=>
 bif Gg then
 bif !BU.iX then
 some true
 else
 (aa.nT BU.dr jh).bind fun i18=>
 some (BU.cO==IntKind.i64.wrap (l.cO+i18))
 else
 some false
 else
 some false
 else
 some false
 else
 some false
 else
 some false
 else
 some false
 else
 some false
namespace Go.Proofs.YtpodhambaehlkaaGreatDoor
noncomputable def hints:List (Nat×Nat×Hint):=[(167,2002,⟨[(4,.val 3),(8,.val 3)],[9,10,5,11,12,13,14,15,16,17,18],[(1,.one (.val 2))],[⟨none,[(4,.val 3)],[],[],[]⟩,⟨some 0,[(4,.val 3),(8,.val 3)],[],[],[]⟩]⟩),(118,3,⟨[(2,.val 4),(3,.val 3),(14,.val 3)],[15,16,17,5,18,19,20,21,22,23,24,25,26,27,28,29,30,31,32,33,34,35,36,37],[],[⟨none,[(2,.val 4)],[.ji],[],[]⟩,⟨some 0,[(2,.val 4),(3,.val 3),(14,.val 3)],[],[],[]⟩]⟩),(161,4,⟨[(4,.val 26),(9,.val 3)],[10,11,5,12,13,14,15,16,17,18,19,20,21,22,23,24,25],[],[⟨some 0,[(4,.val 26),(9,.val 3)],[],[],[]⟩]⟩),(99,3010,⟨[(2,.val 4),(5,.val 3),(98,.val 3)],[99,100,101,7,102,103,104,105,106,107,108,109,110,111,112,113,114,115,116,117],[],[⟨none,[(2,.val 4)],[.ji],[],[]⟩,⟨some 0,[(2,.val 4),(5,.val 3),(98,.val 3)],[],[],[]⟩]⟩),(101,10006,⟨[(6,.val 4),(7,.own 8 3),(8,.val 37)],[27,28,29,30,31,32,33,34,13,35,36,37,38,39,40,41,42,43,44,45,46,47,48,49,14,50,51,52,53,54,55,56,57,58,59,60,61,62,63,64,65,66,67,68,69,70,71,72,73,74,75],[(3,.list 30),(8,.one (.own 8 9)),(9,.list 30),(5,.agg [.val 2,.val 2,.val 2,.val 2,.val 2,.F6 1 7 none (some 1),.val 2,.val 2,.val 2,.val 2,.val 2,.val 2,.val 2,.val 2,.val 26,.val 2]),(7,.one (.tP 9 6 2 true))],[⟨none,[(6,.val 4),(7,.own 8 9),(8,.val 37)],[.ji],[],[(2,.agg [.val 2,.val 2,.val 2,.val 2,.val 2,.val 2,.val 4,.val 4]),(1,.agg [.val 2,.val 2,.val 2,.val 2,.val 2,.F6 1 7 none (some 1),.val 2,.val 2,.val 2,.val 2,.val 2,.val 2,.val 2,.val 2,.val 26])]⟩,⟨some 0,[(6,.val 4),(7,.own 8 3),(8,.val 37)],[],[],[]⟩]⟩),(167,3002,⟨[(4,.val 3),(8,.val 3)],[9,10,5,11,12,13,14,15,16,17,18],[(2,.one (.val 2))],[⟨none,[(4,.val 3)],[],[],[]⟩,⟨some 0,[(4,.val 3),(8,.val 3)],[],[],[]⟩]⟩),(139,3,⟨[(6,.val 4),(7,.val 3),(12,.val 3)],[13,14,15,9,16,17,18,19,20,21,22,23,24,25,26,27,28,29,30,31,32,33,34,35,36,37],[],[⟨none,[(6,.val 4)],[.ji],[],[]⟩,⟨some 0,[(6,.val 4),(7,.val 3),(12,.val 3)],[],[],[]⟩]⟩),(140,1003,⟨[(3,.val 3),(9,.val 3)],[10,11,12,5,13,14,15,16,17],[],[⟨some 0,[(3,.val 3),(9,.val 3)],[],[],[]⟩]⟩),(105,3007,⟨[(2,.val 4),(85,.val 3)],[86,87,5,88,89,90,91,92,93],[],[⟨none,[(2,.val 4)],[],[],[]⟩,⟨some 0,[(2,.val 4),(85,.val 3)],[],[],[]⟩]⟩),(105,3013,⟨[(2,.val 4),(96,.val 3)],[97,98,99,6,7,100,101,102,103,104,105,106,107,108,109,110,111,112,113,114,115,116,117,118,119,120,121,122,123,124,125,126,127,128,129,130,131,132,133,134,135,136,8,137,138,139,140,141,142,143,144,145,146,147,148,149,150,151,152,153,154,155,156],[],[⟨none,[(2,.val 4)],[],[],[]⟩,⟨some 2,[(2,.val 4),(96,.val 3)],[],[],[]⟩]⟩),(107,18008,⟨[(12,.val 3),(11,.val 3)],[42,43,44,45,46,14,47,48,49,50,51,52,53,54,55,56,57,58,59,60,61,62,63,64,65,66,67,68,69,39,40,41],[(17,.agg [.val 2,.val 2,.val 2,.val 2,.val 2,.val 2,.val 4,.val 4]),(16,.agg [.val 2,.val 2,.val 2,.val 2,.val 2,.val 2,.val 2,.val 2])],[⟨some 0,[(12,.val 3),(11,.val 3)],[],[],[]⟩]⟩),(146,3,⟨[(6,.val 4),(7,.val 3),(12,.val 3)],[13,14,15,9,16,17,18,19,20,21,22,23,24,25,26,27,28,29,30,31,32,33,34,35,36,37],[],[⟨none,[(6,.val 4)],[.ji],[],[]⟩,⟨some 0,[(6,.val 4),(7,.val 3),(12,.val 3)],[],[],[]⟩]⟩),(108,3007,⟨[(2,.val 4),(5,.val 3)],[68,69,72,73,74,75,70,71],[],[⟨none,[(2,.val 4)],[],[],[]⟩,⟨some 0,[(2,.val 4),(5,.val 3)],[],[],[]⟩]⟩),(110,10006,⟨[(6,.val 4),(7,.own 8 3),(8,.val 37),(12,.val 4)],[25,26,27,28,29,30,31,32,33,34,35,36,37,38,39,40,41,42,43,44,45,46,47,48,49,50,51,52,13,53,54,55,56,57,58,59,60,61,62,63,64,65,66,67,68,69,70,71,72,73,74,75,76,77,78,79,81,82,80,83,84,85,86,87,88,89,90,91,92,93],[(3,.list 30),(9,.agg [.val 2,.val 2,.val 2,.val 2,.val 2,.val 2,.val 4,.val 4]),(5,.agg [.val 2,.val 2,.val 2,.val 2,.val 2,.val 24,.val 2,.val 2,.val 2,.val 2,.val 2,.val 2,.val 2,.val 2,.val 26,.tP 9 7 2 true,.tP 9 8 2 true,.val 2,.own 8 6]),(6,.list 30)],[⟨none,[(6,.val 4),(7,.own 8 6),(8,.val 37)],[],[],[(2,.agg [.val 2,.val 2,.val 2,.val 2,.val 2,.val 2,.val 4,.val 4]),(1,.agg [.val 2,.val 2,.val 2,.val 2,.val 2,.jC 5 0 15 2 2,.val 2,.val 2,.val 2,.val 2,.val 2,.val 2,.val 2,.val 2,.val 26]),(5,.agg [.val 2,.val 2,.val 2,.val 2,.val 2,.hole,.val 2,.val 2,.val 2,.val 2,.val 2,.val 2,.val 2,.val 2,.val 26,.tP 9 7 2 true,.tP 9 8 2 true,.val 2,.own 8 6])]⟩]⟩),(22,2004,⟨[(11,.val 3)],[12,13,14,6,15,16,17,18],[(1,.one (.val 2))],[⟨some 0,[(11,.val 3)],[],[],[]⟩]⟩),(8,1002,⟨[(2,.val 4),(3,.val 3)],[4,5,6,7,8,11,12,13,14,15,16,17,9,10],[],[⟨none,[(2,.val 4)],[],[],[]⟩,⟨some 0,[(2,.val 4),(3,.val 3)],[],[],[]⟩]⟩),(73,1003,⟨[(3,.val 3),(4,.val 3)],[5,6,7,8,9,12,13,14,15,16,17,18,19,10,11],[],[⟨some 0,[(3,.val 3),(4,.val 3)],[],[],[]⟩]⟩),(61,1020,⟨[(2,.val 4),(9,.val 3)],[178,179,180,181,184,185,186,187,188,189,190,191,182,183],[],[⟨none,[(2,.val 4)],[],[],[]⟩,⟨some 2,[(2,.val 4),(9,.val 3)],[],[],[]⟩]⟩),(61,1009,⟨[(2,.val 4),(4,.val 3)],[110,111,114,115,116,117,118,5,119,120,121,122,123,6,124,125,126,7,127,128,129,130,131,132,133,134,135,136,137,138,139,140,141,142,143,144,145,146,147,148,149,150,151,152,153,154,155,156,157,158,159,160,161,8,162,163,164,165,166,167,168,169,170,171,172,173,174,175,176,177,9,178,179,180,181,184,185,186,187,188,189,190,191,182,183,112,113],[],[⟨none,[(2,.val 4)],[],[],[]⟩,⟨some 0,[(2,.val 4),(4,.val 3)],[],[],[]⟩]⟩),(83,2,⟨[(4,.val 4),(5,.val 3)],[6,7,8,9,12,13,14,15,16,17,18,19,20,21,22,23,24,25,26,27,28,29,30,31,32,33,34,35,36,37,38,39,40,41,42,43,44,45,46,47,48,49,50,51,52,53,54,10,11],[],[⟨none,[(4,.val 4)],[],[],[]⟩,⟨some 0,[(4,.val 4),(5,.val 3)],[],[],[]⟩]⟩),(57,1004,⟨[(2,.val 4),(3,.val 3)],[36,37,40,41,42,43,44,38,39],[],[⟨none,[(2,.val 4)],[],[],[]⟩,⟨some 0,[(2,.val 4),(3,.val 3)],[],[],[]⟩]⟩),(58,2005,⟨[(2,.val 4),(4,.val 3)],[55,56,59,60,61,62,63,57,58],[],[⟨none,[(2,.val 4)],[],[],[]⟩,⟨some 0,[(2,.val 4),(4,.val 3)],[],[],[]⟩]⟩),(59,2007,⟨[(2,.val 4),(4,.val 3)],[104,105,108,109,110,111,112,106,107],[],[⟨none,[(2,.val 4)],[],[],[]⟩,⟨some 0,[(2,.val 4),(4,.val 3)],[],[],[]⟩]⟩),(60,1006,⟨[(2,.val 4),(3,.val 3)],[64,65,68,69,70,71,72,66,67],[],[⟨none,[(2,.val 4)],[],[],[]⟩,⟨some 0,[(2,.val 4),(3,.val 3)],[],[],[]⟩]⟩),(86,2,⟨[(4,.val 4),(5,.val 3)],[6,7,8,9,12,13,14,15,16,17,18,19,10,11],[],[⟨none,[(4,.val 4)],[],[],[]⟩,⟨some 0,[(4,.val 4),(5,.val 3)],[],[],[]⟩]⟩),(62,2005,⟨[(2,.val 4),(4,.val 3)],[70,71,74,75,76,77,78,72,73],[],[⟨none,[(2,.val 4)],[],[],[]⟩,⟨some 0,[(2,.val 4),(4,.val 3)],[],[],[]⟩]⟩),(41,1003,⟨[(3,.val 3),(4,.val 3)],[5,6,7,8,9,12,13,14,15,16,17,18,19,10,11],[],[⟨some 0,[(3,.val 3),(4,.val 3)],[],[],[]⟩]⟩),(43,4,⟨[(4,.val 4),(5,.val 3)],[11,12,13,14,17,18,19,20,21,22,23,24,25,15,16],[],[⟨none,[(4,.val 4)],[],[],[]⟩,⟨some 0,[(4,.val 4),(5,.val 3)],[],[],[]⟩]⟩),(24,2004,⟨[(4,.val 4),(5,.val 3)],[41,42,43,44,45,48,49,50,51,52,53,54,55,56,57,58,59,46,47],[],[⟨none,[(4,.val 4)],[],[],[]⟩,⟨some 0,[(4,.val 4),(5,.val 3)],[],[],[]⟩]⟩),(18,4,⟨[(4,.val 4),(5,.val 3)],[11,12,13,14,17,18,19,20,21,22,23,24,25,15,16],[],[⟨none,[(4,.val 4)],[],[],[]⟩,⟨some 0,[(4,.val 4),(5,.val 3)],[],[],[]⟩]⟩)]
def xB:FuncId→Nat→Bool:=fun f _=>Nat.beq f 156||Nat.beq f 138||Nat.beq f 143||Nat.beq f 148||Nat.beq f 162||Nat.beq f 6
noncomputable def acB:List (Nat×zc T):=[(152,⟨[3,3,3],[4],fun x=>Go.aa.dL x.1 x.2.1 x.2.2⟩),
 (114,⟨[105],[57],fun x=>Go.aa.bH x⟩),
 (112,⟨[30],[4],fun x=>Go.aa.lT x⟩),
 (153,⟨[105],[4],fun x=>Go.aa.gJ x⟩),
 (111,⟨[105],[4],fun x=>Go.aa.eZ x⟩),
 (93,⟨[28],[4],fun x=>Go.aa.lz x⟩),
 (113,⟨[105,3],[37],fun x=>Go.aa.kh x.1 x.2⟩),
 (115,⟨[105,57,3],[28],fun x=>Go.aa.eR x.1 x.2.1 x.2.2⟩),
 (116,⟨[24],[57],fun x=>Go.aa.gv x⟩),
 (94,⟨[28,30,3],[28,36,37],fun x=>Go.aa.nF x.1 x.2.1 x.2.2⟩),
 (95,⟨[28,3],[28,30,4,36,37],fun x=>Go.aa.p7 x.1 x.2⟩),
 (117,⟨[3,3,3],[4],fun x=>Go.aa.eT x.1 x.2.1 x.2.2⟩),
 (119,⟨[30],[4],fun x=>Go.aa.gV x⟩),
 (118,⟨[110],[4],fun x=>Go.aa.gl x⟩),
 (96,⟨[28],[4],fun x=>Go.aa.fY x⟩),
 (161,⟨[26],[26,26],fun x=>Go.aa.oy x⟩),
 (136,⟨[26,3],[3,26,37],fun x=>Go.aa.cJ x.1 x.2⟩),
 (97,⟨[28,30,3],[28,36,37],fun x=>Go.aa.p6 x.1 x.2.1 x.2.2⟩),
 (98,⟨[28,3],[28,30,4,36,37],fun x=>Go.aa.nE x.1 x.2⟩),
 (123,⟨[3,3,3],[4],fun x=>Go.aa.bo x.1 x.2.1 x.2.2⟩),
 (124,⟨[3],[4],fun x=>Go.aa.eU x⟩),
 (127,⟨[30],[4],fun x=>Go.aa.eH x⟩),
 (99,⟨[28],[4],fun x=>Go.aa.eC x⟩),
 (100,⟨[28,30,3],[28,36,37],fun x=>Go.aa.gW x.1 x.2.1 x.2.2⟩),
 (101,⟨[28,3],[28,30,4,36,37],fun x=>Go.aa.kj x.1 x.2⟩),
 (157,⟨[3,3,3],[4],fun x=>Go.aa.aR x.1 x.2.1 x.2.2⟩),
 (134,⟨[30],[4],fun x=>Go.aa.gr x⟩),
 (133,⟨[123],[4],fun x=>Go.aa.cC x⟩),
 (102,⟨[28],[4],fun x=>Go.aa.fR x⟩),
 (168,⟨[123,3],[3],fun x=>Go.aa.dJ x.1 x.2⟩),
 (171,⟨[3],[3],fun x=>Go.aa.ef x⟩),
 (170,⟨[3,1123,1003,1003],[3],fun x=>Go.aa.db x.1 x.2.1 x.2.2.1 x.2.2.2⟩),
 (103,⟨[28,30,3],[28,36,37],fun x=>Go.aa.ki x.1 x.2.1 x.2.2⟩),
 (104,⟨[28,3],[28,30,4,36,37],fun x=>Go.aa.jf x.1 x.2⟩),
 (137,⟨[3,3,3],[4],fun x=>Go.aa.bL x.1 x.2.1 x.2.2⟩),
 (138,⟨[28],[25],fun x=>Go.aa.eJ x⟩),
 (141,⟨[30],[4],fun x=>Go.aa.fP x⟩),
 (139,⟨[57,3,3],[4],fun x=>Go.aa.dh x.1 x.2.1 x.2.2⟩),
 (140,⟨[28],[3],fun x=>Go.aa.dF x⟩),
 (105,⟨[28],[4],fun x=>Go.aa.eD x⟩),
 (106,⟨[28,30,3],[28,36,37],fun x=>Go.aa.lW x.1 x.2.1 x.2.2⟩),
 (143,⟨[28,25],[28],fun x=>Go.aa.bI x.1 x.2⟩),
 (107,⟨[28,3],[28,30,4,36,37],fun x=>Go.aa.kl x.1 x.2⟩),
 (144,⟨[3,3,3],[4],fun x=>Go.aa.cK x.1 x.2.1 x.2.2⟩),
 (145,⟨[3],[4],fun x=>Go.aa.gX x⟩),
 (147,⟨[30],[4],fun x=>Go.aa.je x⟩),
 (146,⟨[57,3,4],[4],fun x=>Go.aa.lU x.1 x.2.1 x.2.2⟩),
 (108,⟨[28],[4],fun x=>Go.aa.jy x⟩),
 (109,⟨[28,30,3],[28,36,37],fun x=>Go.aa.sk x.1 x.2.1 x.2.2⟩),
 (165,⟨[132],[3],fun x=>Go.aa.bX x⟩),
 (110,⟨[28,3],[28,30,4,36,37],fun x=>Go.aa.p8 x.1 x.2⟩),
 (44,⟨[23,3],[28,37],fun x=>Go.aa.Dd x.1 x.2⟩),
 (38,⟨[3,3,3],[4],fun x=>Go.aa.cW x.1 x.2.1 x.2.2⟩),
 (39,⟨[28],[4],fun x=>Go.aa.oG x⟩),
 (28,⟨[3],[4],fun x=>Go.aa.gY x⟩),
 (27,⟨[30],[4],fun x=>Go.aa.gw x⟩),
 (22,⟨[28],[3],fun x=>Go.aa.lB x⟩),
 (19,⟨[32],[4],fun x=>Go.aa.gZ x⟩),
 (15,⟨[3,3,28],[32,37],fun x=>Go.aa.Gy x.1 x.2.1 x.2.2⟩),
 (26,⟨[23,3,3],[32,4],fun x=>Go.aa.Gz x.1 x.2.1 x.2.2⟩),
 (45,⟨[28,30,3],[28,36,37],fun x=>Go.aa.dm x.1 x.2.1 x.2.2⟩),
 (55,⟨[28,3],[28,30,4,36,37],fun x=>Go.aa.bS x.1 x.2⟩),
 (9,⟨[32,30,3],[32,36,37],fun x=>Go.aa.oH x.1 x.2.1 x.2.2⟩),
 (11,⟨[32,3],[32,30,36,37],fun x=>Go.aa.gx x.1 x.2⟩),
 (6,⟨[],[4],fun x=>Go.aa.uO ⟩),
 (8,⟨[28],[4],fun x=>Go.aa.tf x⟩),
 (7,⟨[32],[4],fun x=>Go.aa.tg x⟩),
 (23,⟨[3],[4],fun x=>Go.aa.nJ x⟩),
 (33,⟨[3],[4],fun x=>Go.aa.dZ x⟩),
 (47,⟨[3],[4],fun x=>Go.aa.mR x⟩),
 (32,⟨[30],[4],fun x=>Go.aa.km x⟩),
 (83,⟨[57,3],[4],fun x=>Go.aa.dz x.1 x.2⟩),
 (57,⟨[28],[4],fun x=>Go.aa.oA x⟩),
 (58,⟨[28],[4],fun x=>Go.aa.oB x⟩),
 (59,⟨[28],[4],fun x=>Go.aa.oC x⟩),
 (84,⟨[23],[4],fun x=>Go.aa.mT x⟩),
 (60,⟨[28],[4],fun x=>Go.aa.oD x⟩),
 (85,⟨[28,3],[3],fun x=>Go.aa.jg x.1 x.2⟩),
 (73,⟨[28],[3],fun x=>Go.aa.qA x⟩),
 (61,⟨[28],[4],fun x=>Go.aa.oF x⟩),
 (86,⟨[57,4],[4],fun x=>Go.aa.nI x.1 x.2⟩),
 (62,⟨[28],[4],fun x=>Go.aa.oE x⟩),
 (40,⟨[28],[4],fun x=>Go.aa.lY x⟩),
 (41,⟨[28],[3],fun x=>Go.aa.qB x⟩),
 (20,⟨[32],[4],fun x=>Go.aa.fZ x⟩),
 (13,⟨[32,3],[32,37],fun x=>Go.aa.ss x.1 x.2⟩),
 (43,⟨[57,57],[4],fun x=>Go.aa.kn x.1 x.2⟩),
 (24,⟨[28,28],[4],fun x=>Go.aa.nK x.1 x.2⟩),
 (17,⟨[32,32],[4],fun x=>Go.aa.jz x.1 x.2⟩),
 (21,⟨[32,37],[4],fun x=>Go.aa.dT x.1 x.2⟩),
 (4,⟨[32,30,3,3],[4],fun x=>Go.aa.jn x.1 x.2.1 x.2.2.1 x.2.2.2⟩),
 (18,⟨[36,36],[4],fun x=>Go.aa.tU x.1 x.2⟩),
 (25,⟨[30,3],[3],fun x=>Go.aa.nT x.1 x.2⟩),
 (5,⟨[32,3],[4],fun x=>Go.aa.tG x.1 x.2⟩)]
noncomputable abbrev S(n:Nat):rl:=Qr C T Oo (Go.PI.C8 hints) xB acB n n5 zb tws
theorem s0:(S 0).Ok:=Oq TOk nW ZOk xF
end Go.Proofs.YtpodhambaehlkaaGreatDoor
end
