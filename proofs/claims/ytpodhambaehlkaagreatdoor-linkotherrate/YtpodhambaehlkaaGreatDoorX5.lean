/- Part 5 of the proof: texts of this session laid one behind the other. -/
import Derived.Test.YtpodhambaehlkaaGreatDoorProg
import Derived.KernelRfl
import Derived.Test.YtpodhambaehlkaaGreatDoorX4
set_option linter.unusedVariables false
set_option linter.unusedSimpArgs false
section
/- The types of this seat: what must hold of them (printed by gen_tys.py out of the dump). -/
set_option maxRecDepth 100000
namespace Go.Proofs.YtpodhambaehlkaaGreatDoor
open Go.PI
theorem cq{H:aq den}{v:V}{vs:List V}{l:List AV}:RL T H (v::vs) l↔∃ c cs,l=c::cs∧R T H v c∧RL T H vs cs:=GS (T:=T)
theorem OL{H:aq den}{l:List AV}:RL T H [] l↔l=[]:=IW (T:=T)
theorem YA(x:af)(a:AV)(H:aq den)(h:GV x a):R T H (Rr x) a:=by
 unfold GV at h; subst h
 unfold Rr
 simp only[R]
 refine⟨_,rfl,?_⟩
 simp only[RL,R,and_true,true_and]
theorem YB(v:V)(x:af)(a:AV)(H:aq den)(h:Rs v=some x)(hr:R T H v a):GV x a:=by
 unfold Rs at h
 split at h
 ·simp only[Option.bind_eq_some_iff,Option.some.injEq]at h
  obtain⟨b0,g0,b1,g1,b2,g2,b3,g3,rfl⟩:=h
  simp only[R]at hr
  obtain⟨_,rfl,hl⟩:=hr
  obtain⟨c0,_,rfl,r0,hl⟩:=cq.1 hl
  obtain⟨c1,_,rfl,r1,hl⟩:=cq.1 hl
  obtain⟨c2,_,rfl,r2,hl⟩:=cq.1 hl
  obtain⟨c3,_,rfl,r3,hl⟩:=cq.1 hl
  cases OL.1 hl
  cases aA (T:=T) g0 r0
  cases aA (T:=T) g1 r1
  cases aA (T:=T) g2 r2
  cases aA (T:=T) g3 r3
  exact rfl
 ·simp at h
theorem YC(x:af)(a:AV)(h:GV x a):aF true 4 a=true∧closed a=true:=by
 unfold GV at h; subst h
 exact⟨by simp[aF,ia,fV,ib],by simp[closed,aZ]⟩
theorem YD(x:an)(a:AV)(H:aq den)(h:Ep x a):R T H (Rt x) a:=by
 unfold Ep at h; subst h
 unfold Rt
 simp only[R]
 refine⟨_,rfl,?_⟩
 simp only[RL,R,and_true,true_and]
theorem OM(v:V)(x:an)(a:AV)(H:aq den)(h:OF v=some x)(hr:R T H v a):Ep x a:=by
 unfold OF at h
 split at h
 ·simp only[Option.bind_eq_some_iff,Option.some.injEq]at h
  obtain⟨b0,g0,b1,g1,b2,g2,b3,g3,b4,g4,b5,g5,b6,g6,b7,g7,rfl⟩:=h
  simp only[R]at hr
  obtain⟨_,rfl,hl⟩:=hr
  obtain⟨c0,_,rfl,r0,hl⟩:=cq.1 hl
  obtain⟨c1,_,rfl,r1,hl⟩:=cq.1 hl
  obtain⟨c2,_,rfl,r2,hl⟩:=cq.1 hl
  obtain⟨c3,_,rfl,r3,hl⟩:=cq.1 hl
  obtain⟨c4,_,rfl,r4,hl⟩:=cq.1 hl
  obtain⟨c5,_,rfl,r5,hl⟩:=cq.1 hl
  obtain⟨c6,_,rfl,r6,hl⟩:=cq.1 hl
  obtain⟨c7,_,rfl,r7,hl⟩:=cq.1 hl
  cases OL.1 hl
  cases aA (T:=T) g0 r0
  cases aA (T:=T) g1 r1
  cases aA (T:=T) g2 r2
  cases aA (T:=T) g3 r3
  cases aA (T:=T) g4 r4
  cases aA (T:=T) g5 r5
  cases ss (T:=T) g6 r6
  cases ss (T:=T) g7 r7
  exact rfl
 ·simp at h
theorem YE(x:an)(a:AV)(h:Ep x a):aF true 8 a=true∧closed a=true:=by
 unfold Ep at h; subst h
 exact⟨by simp[aF,ia,fV,ib],by simp[closed,aZ]⟩
theorem YF(x:ai)(a:AV)(H:aq den)(h:uI x a):R T H (Ru x) a:=by
 unfold uI at h; subst h
 unfold Ru
 simp only[R]
 refine⟨_,rfl,?_⟩
 simp only[RL,R,and_true,true_and]
theorem wi(v:V)(x:ai)(a:AV)(H:aq den)(h:OG v=some x)(hr:R T H v a):uI x a:=by
 unfold OG at h
 split at h
 ·simp only[Option.bind_eq_some_iff,Option.some.injEq]at h
  obtain⟨b0,g0,b1,g1,b2,g2,b3,g3,b4,g4,b5,g5,b6,g6,b7,g7,b8,g8,rfl⟩:=h
  simp only[R]at hr
  obtain⟨_,rfl,hl⟩:=hr
  obtain⟨c0,_,rfl,r0,hl⟩:=cq.1 hl
  obtain⟨c1,_,rfl,r1,hl⟩:=cq.1 hl
  obtain⟨c2,_,rfl,r2,hl⟩:=cq.1 hl
  obtain⟨c3,_,rfl,r3,hl⟩:=cq.1 hl
  obtain⟨c4,_,rfl,r4,hl⟩:=cq.1 hl
  obtain⟨c5,_,rfl,r5,hl⟩:=cq.1 hl
  obtain⟨c6,_,rfl,r6,hl⟩:=cq.1 hl
  obtain⟨c7,_,rfl,r7,hl⟩:=cq.1 hl
  obtain⟨c8,_,rfl,r8,hl⟩:=cq.1 hl
  cases OL.1 hl
  cases aA (T:=T) g0 r0
  cases aA (T:=T) g1 r1
  cases aA (T:=T) g2 r2
  cases aA (T:=T) g3 r3
  cases aA (T:=T) g4 r4
  cases aA (T:=T) g5 r5
  cases ss (T:=T) g6 r6
  cases ss (T:=T) g7 r7
  cases aA (T:=T) g8 r8
  exact rfl
 ·simp at h
theorem UR(x:ai)(a:AV)(h:uI x a):aF true 9 a=true∧closed a=true:=by
 unfold uI at h; subst h
 exact⟨by simp[aF,ia,fV,ib],by simp[closed,aZ]⟩
theorem ac3(x:A8 Int)(a:AV)(H:aq den)(h:IY x a):R T H (U0 x) a:=by
 unfold IY at h; subst h
 unfold U0
 simp only[R]
 refine⟨_,rfl,?_⟩
 simp only[RL,R,and_true,true_and]
theorem ac4(v:V)(x:A8 Int)(a:AV)(H:aq den)(h:U1 v=some x)(hr:R T H v a):IY x a:=by
 unfold U1 at h
 split at h
 ·simp only[Option.bind_eq_some_iff,Option.some.injEq]at h
  obtain⟨b0,g0,b1,g1,b2,g2,b3,g3,b4,g4,b5,g5,b6,g6,b7,g7,rfl⟩:=h
  simp only[R]at hr
  obtain⟨_,rfl,hl⟩:=hr
  obtain⟨c0,_,rfl,r0,hl⟩:=cq.1 hl
  obtain⟨c1,_,rfl,r1,hl⟩:=cq.1 hl
  obtain⟨c2,_,rfl,r2,hl⟩:=cq.1 hl
  obtain⟨c3,_,rfl,r3,hl⟩:=cq.1 hl
  obtain⟨c4,_,rfl,r4,hl⟩:=cq.1 hl
  obtain⟨c5,_,rfl,r5,hl⟩:=cq.1 hl
  obtain⟨c6,_,rfl,r6,hl⟩:=cq.1 hl
  obtain⟨c7,_,rfl,r7,hl⟩:=cq.1 hl
  cases OL.1 hl
  cases aA (T:=T) g0 r0
  cases aA (T:=T) g1 r1
  cases aA (T:=T) g2 r2
  cases aA (T:=T) g3 r3
  cases aA (T:=T) g4 r4
  cases aA (T:=T) g5 r5
  cases aA (T:=T) g6 r6
  cases aA (T:=T) g7 r7
  exact rfl
 ·simp at h
theorem ac5(x:A8 Int)(a:AV)(h:IY x a):aF true 8 a=true∧closed a=true:=by
 unfold IY at h; subst h
 exact⟨by simp[aF,ia,fV,ib],by simp[closed,aZ]⟩
theorem YG(x:Queue)(a:AV)(H:aq den)(h:Lr x a):R T H (Rv x) a:=by
 obtain⟨a5,h5,rfl⟩:=h
 unfold Rv
 simp only[R]
 refine⟨_,rfl,?_⟩
 simp only[RL,R,and_true,true_and]
 exact h5
theorem YH(v:V)(x:Queue)(a:AV)(H:aq den)(h:Rw v=some x)(hr:R T H v a):Lr x a:=by
 unfold Rw at h
 split at h
 ·simp only[Option.bind_eq_some_iff,Option.some.injEq]at h
  obtain⟨b0,g0,b1,g1,b2,g2,b3,g3,b4,g4,b5,g5,b6,g6,b7,g7,b8,g8,b9,g9,yf,KS,uO,ON,D8,OO,ue,OP,ll,OQ,rfl⟩:=h
  simp only[R]at hr
  obtain⟨_,rfl,hl⟩:=hr
  obtain⟨c0,_,rfl,r0,hl⟩:=cq.1 hl
  obtain⟨c1,_,rfl,r1,hl⟩:=cq.1 hl
  obtain⟨c2,_,rfl,r2,hl⟩:=cq.1 hl
  obtain⟨c3,_,rfl,r3,hl⟩:=cq.1 hl
  obtain⟨c4,_,rfl,r4,hl⟩:=cq.1 hl
  obtain⟨c5,_,rfl,r5,hl⟩:=cq.1 hl
  obtain⟨c6,_,rfl,r6,hl⟩:=cq.1 hl
  obtain⟨c7,_,rfl,r7,hl⟩:=cq.1 hl
  obtain⟨c8,_,rfl,r8,hl⟩:=cq.1 hl
  obtain⟨c9,_,rfl,r9,hl⟩:=cq.1 hl
  obtain⟨YI,_,rfl,OS,hl⟩:=cq.1 hl
  obtain⟨YJ,_,rfl,OT,hl⟩:=cq.1 hl
  obtain⟨YK,_,rfl,OU,hl⟩:=cq.1 hl
  obtain⟨YL,_,rfl,OV,hl⟩:=cq.1 hl
  obtain⟨YM,_,rfl,OW,hl⟩:=cq.1 hl
  cases OL.1 hl
  cases aA (T:=T) g0 r0
  cases aA (T:=T) g1 r1
  cases aA (T:=T) g2 r2
  cases aA (T:=T) g3 r3
  cases aA (T:=T) g4 r4
  have e5:=eT (T:=T) (e:=57) (fun _ _ _ h hr=>eT (T:=T) (e:=83) (fun _ _ _ h hr=>wi _ _ _ H h hr) h hr) g5 r5
  cases aA (T:=T) g6 r6
  cases aA (T:=T) g7 r7
  cases aA (T:=T) g8 r8
  cases aA (T:=T) g9 r9
  cases aA (T:=T) KS OS
  cases aA (T:=T) ON OT
  cases aA (T:=T) OO OU
  cases aA (T:=T) OP OV
  cases aA (T:=T) OQ OW
  exact⟨_,e5,rfl⟩
 ·simp at h
theorem YN(x:Queue)(a:AV)(h:Lr x a):aF true 15 a=true∧closed a=true:=by
 obtain⟨a5,h5,rfl⟩:=h
 have k5:=eG h5
 exact⟨by simp[aF,ia,fV,ib,k5.2.2],by simp[closed,aZ,k5.2.1]⟩
theorem YO(x:bf)(a:AV)(H:aq den)(h:Ls x a):R T H (Rx x) a:=by
 obtain⟨a7,h7,rfl⟩:=h
 unfold Rx
 simp only[R]
 refine⟨_,rfl,?_⟩
 simp only[RL,R,and_true,true_and]
 exact h7
theorem YP(v:V)(x:bf)(a:AV)(H:aq den)(h:Ry v=some x)(hr:R T H v a):Ls x a:=by
 unfold Ry at h
 split at h
 ·simp only[Option.bind_eq_some_iff,Option.some.injEq]at h
  obtain⟨b0,g0,b1,g1,b2,g2,b3,g3,b4,g4,b5,g5,b6,g6,b7,g7,b8,g8,b9,g9,yf,KS,uO,ON,D8,OO,ue,OP,ll,OQ,CO,Vb,BN,YQ,FU,YR,LN,YS,Nw,g19,Ur,g20,Us,g21,JW,g22,PS,g23,Yi,g24,QM,g25,Un,g26,rfl⟩:=h
  simp only[R]at hr
  obtain⟨_,rfl,hl⟩:=hr
  obtain⟨c0,_,rfl,r0,hl⟩:=cq.1 hl
  obtain⟨c1,_,rfl,r1,hl⟩:=cq.1 hl
  obtain⟨c2,_,rfl,r2,hl⟩:=cq.1 hl
  obtain⟨c3,_,rfl,r3,hl⟩:=cq.1 hl
  obtain⟨c4,_,rfl,r4,hl⟩:=cq.1 hl
  obtain⟨c5,_,rfl,r5,hl⟩:=cq.1 hl
  obtain⟨c6,_,rfl,r6,hl⟩:=cq.1 hl
  obtain⟨c7,_,rfl,r7,hl⟩:=cq.1 hl
  obtain⟨c8,_,rfl,r8,hl⟩:=cq.1 hl
  obtain⟨c9,_,rfl,r9,hl⟩:=cq.1 hl
  obtain⟨YI,_,rfl,OS,hl⟩:=cq.1 hl
  obtain⟨YJ,_,rfl,OT,hl⟩:=cq.1 hl
  obtain⟨YK,_,rfl,OU,hl⟩:=cq.1 hl
  obtain⟨YL,_,rfl,OV,hl⟩:=cq.1 hl
  obtain⟨YM,_,rfl,OW,hl⟩:=cq.1 hl
  obtain⟨c15,_,rfl,Vc,hl⟩:=cq.1 hl
  obtain⟨c16,_,rfl,YT,hl⟩:=cq.1 hl
  obtain⟨c17,_,rfl,YU,hl⟩:=cq.1 hl
  obtain⟨c18,_,rfl,YV,hl⟩:=cq.1 hl
  obtain⟨c19,_,rfl,r19,hl⟩:=cq.1 hl
  obtain⟨c20,_,rfl,r20,hl⟩:=cq.1 hl
  obtain⟨c21,_,rfl,r21,hl⟩:=cq.1 hl
  obtain⟨c22,_,rfl,r22,hl⟩:=cq.1 hl
  obtain⟨c23,_,rfl,r23,hl⟩:=cq.1 hl
  obtain⟨c24,_,rfl,r24,hl⟩:=cq.1 hl
  obtain⟨c25,_,rfl,r25,hl⟩:=cq.1 hl
  obtain⟨c26,_,rfl,r26,hl⟩:=cq.1 hl
  cases OL.1 hl
  cases aA (T:=T) g0 r0
  cases aA (T:=T) g1 r1
  cases aA (T:=T) g2 r2
  cases aA (T:=T) g3 r3
  cases aA (T:=T) g4 r4
  cases aA (T:=T) g5 r5
  cases aA (T:=T) g6 r6
  have e7:=eT (T:=T) (e:=57) (fun _ _ _ h hr=>eT (T:=T) (e:=83) (fun _ _ _ h hr=>wi _ _ _ H h hr) h hr) g7 r7
  cases aA (T:=T) g8 r8
  cases aA (T:=T) g9 r9
  cases aA (T:=T) KS OS
  cases aA (T:=T) ON OT
  cases aA (T:=T) OO OU
  cases aA (T:=T) OP OV
  cases aA (T:=T) OQ OW
  cases aA (T:=T) Vb Vc
  cases aA (T:=T) YQ YT
  cases ss (T:=T) YR YU
  cases aA (T:=T) YS YV
  cases aA (T:=T) g19 r19
  cases aA (T:=T) g20 r20
  cases aA (T:=T) g21 r21
  cases aA (T:=T) g22 r22
  cases aA (T:=T) g23 r23
  cases ss (T:=T) g24 r24
  cases ss (T:=T) g25 r25
  cases aA (T:=T) g26 r26
  exact⟨_,e7,rfl⟩
 ·simp at h
theorem YW(x:bf)(a:AV)(h:Ls x a):aF true 27 a=true∧closed a=true:=by
 obtain⟨a7,h7,rfl⟩:=h
 have k7:=eG h7
 exact⟨by simp[aF,ia,fV,ib,k7.2.2],by simp[closed,aZ,k7.2.1]⟩
theorem Vd(x:we)(a:AV)(H:aq den)(h:Lt x a):R T H (OH x) a:=by
 obtain⟨a7,a27,h7,h27,rfl⟩:=h
 unfold OH
 simp only[R]
 refine⟨_,rfl,?_⟩
 simp only[RL,R,and_true,true_and]
 exact⟨h7,h27⟩
theorem Ve(v:V)(x:we)(a:AV)(H:aq den)(h:OI v=some x)(hr:R T H v a):Lt x a:=by
 unfold OI at h
 split at h
 ·simp only[Option.bind_eq_some_iff,Option.some.injEq]at h
  obtain⟨b0,g0,b1,g1,b2,g2,b3,g3,b4,g4,b5,g5,b6,g6,b7,g7,b8,g8,b9,g9,yf,KS,uO,ON,D8,OO,ue,OP,ll,OQ,CO,Vb,BN,YQ,FU,YR,LN,YS,Nw,g19,Ur,g20,Us,g21,JW,g22,PS,g23,Yi,g24,QM,g25,Un,g26,PO,g27,rfl⟩:=h
  simp only[R]at hr
  obtain⟨_,rfl,hl⟩:=hr
  obtain⟨c0,_,rfl,r0,hl⟩:=cq.1 hl
  obtain⟨c1,_,rfl,r1,hl⟩:=cq.1 hl
  obtain⟨c2,_,rfl,r2,hl⟩:=cq.1 hl
  obtain⟨c3,_,rfl,r3,hl⟩:=cq.1 hl
  obtain⟨c4,_,rfl,r4,hl⟩:=cq.1 hl
  obtain⟨c5,_,rfl,r5,hl⟩:=cq.1 hl
  obtain⟨c6,_,rfl,r6,hl⟩:=cq.1 hl
  obtain⟨c7,_,rfl,r7,hl⟩:=cq.1 hl
  obtain⟨c8,_,rfl,r8,hl⟩:=cq.1 hl
  obtain⟨c9,_,rfl,r9,hl⟩:=cq.1 hl
  obtain⟨YI,_,rfl,OS,hl⟩:=cq.1 hl
  obtain⟨YJ,_,rfl,OT,hl⟩:=cq.1 hl
  obtain⟨YK,_,rfl,OU,hl⟩:=cq.1 hl
  obtain⟨YL,_,rfl,OV,hl⟩:=cq.1 hl
  obtain⟨YM,_,rfl,OW,hl⟩:=cq.1 hl
  obtain⟨c15,_,rfl,Vc,hl⟩:=cq.1 hl
  obtain⟨c16,_,rfl,YT,hl⟩:=cq.1 hl
  obtain⟨c17,_,rfl,YU,hl⟩:=cq.1 hl
  obtain⟨c18,_,rfl,YV,hl⟩:=cq.1 hl
  obtain⟨c19,_,rfl,r19,hl⟩:=cq.1 hl
  obtain⟨c20,_,rfl,r20,hl⟩:=cq.1 hl
  obtain⟨c21,_,rfl,r21,hl⟩:=cq.1 hl
  obtain⟨c22,_,rfl,r22,hl⟩:=cq.1 hl
  obtain⟨c23,_,rfl,r23,hl⟩:=cq.1 hl
  obtain⟨c24,_,rfl,r24,hl⟩:=cq.1 hl
  obtain⟨c25,_,rfl,r25,hl⟩:=cq.1 hl
  obtain⟨c26,_,rfl,r26,hl⟩:=cq.1 hl
  obtain⟨c27,_,rfl,r27,hl⟩:=cq.1 hl
  cases OL.1 hl
  cases aA (T:=T) g0 r0
  cases aA (T:=T) g1 r1
  cases aA (T:=T) g2 r2
  cases aA (T:=T) g3 r3
  cases aA (T:=T) g4 r4
  cases aA (T:=T) g5 r5
  cases aA (T:=T) g6 r6
  have e7:=eT (T:=T) (e:=57) (fun _ _ _ h hr=>eT (T:=T) (e:=83) (fun _ _ _ h hr=>wi _ _ _ H h hr) h hr) g7 r7
  cases aA (T:=T) g8 r8
  cases aA (T:=T) g9 r9
  cases aA (T:=T) KS OS
  cases aA (T:=T) ON OT
  cases aA (T:=T) OO OU
  cases aA (T:=T) OP OV
  cases aA (T:=T) OQ OW
  cases aA (T:=T) Vb Vc
  cases aA (T:=T) YQ YT
  cases ss (T:=T) YR YU
  cases aA (T:=T) YS YV
  cases aA (T:=T) g19 r19
  cases aA (T:=T) g20 r20
  cases aA (T:=T) g21 r21
  cases aA (T:=T) g22 r22
  cases aA (T:=T) g23 r23
  cases ss (T:=T) g24 r24
  cases ss (T:=T) g25 r25
  cases aA (T:=T) g26 r26
  have e27:=eT (T:=T) (e:=30) (fun _ _ _ h hr=>OM _ _ _ H h hr) g27 r27
  exact⟨_,_,e7,e27,rfl⟩
 ·simp at h
theorem YX(x:we)(a:AV)(h:Lt x a):aF true 28 a=true∧closed a=true:=by
 obtain⟨a7,a27,h7,h27,rfl⟩:=h
 have k7:=eG h7
 have k27:=eG h27
 exact⟨by simp[aF,ia,fV,ib,k7.2.2,k27.2.2],by simp[closed,aZ,k7.2.1,k27.2.1]⟩
theorem Bs(x:Queue)(a:AV)(H:aq den)(h:wg x a):R T H (yI x) a:=by
 obtain⟨a5,h5,rfl⟩:=h
 unfold yI
 simp only[R]
 refine⟨_,rfl,?_⟩
 simp only[RL,R,and_true,true_and]
 exact h5
theorem Bt(v:V)(x:Queue)(a:AV)(H:aq den)(h:yJ v=some x)(hr:R T H v a):wg x a:=by
 unfold yJ at h
 split at h
 ·simp only[Option.bind_eq_some_iff,Option.some.injEq]at h
  obtain⟨b0,g0,b1,g1,b2,g2,b3,g3,b4,g4,b5,g5,b6,g6,b7,g7,b8,g8,b9,g9,yf,KS,uO,ON,D8,OO,ue,OP,ll,OQ,rfl⟩:=h
  simp only[R]at hr
  obtain⟨_,rfl,hl⟩:=hr
  obtain⟨c0,_,rfl,r0,hl⟩:=cq.1 hl
  obtain⟨c1,_,rfl,r1,hl⟩:=cq.1 hl
  obtain⟨c2,_,rfl,r2,hl⟩:=cq.1 hl
  obtain⟨c3,_,rfl,r3,hl⟩:=cq.1 hl
  obtain⟨c4,_,rfl,r4,hl⟩:=cq.1 hl
  obtain⟨c5,_,rfl,r5,hl⟩:=cq.1 hl
  obtain⟨c6,_,rfl,r6,hl⟩:=cq.1 hl
  obtain⟨c7,_,rfl,r7,hl⟩:=cq.1 hl
  obtain⟨c8,_,rfl,r8,hl⟩:=cq.1 hl
  obtain⟨c9,_,rfl,r9,hl⟩:=cq.1 hl
  obtain⟨YI,_,rfl,OS,hl⟩:=cq.1 hl
  obtain⟨YJ,_,rfl,OT,hl⟩:=cq.1 hl
  obtain⟨YK,_,rfl,OU,hl⟩:=cq.1 hl
  obtain⟨YL,_,rfl,OV,hl⟩:=cq.1 hl
  obtain⟨YM,_,rfl,OW,hl⟩:=cq.1 hl
  cases OL.1 hl
  cases aA (T:=T) g0 r0
  cases aA (T:=T) g1 r1
  cases aA (T:=T) g2 r2
  cases aA (T:=T) g3 r3
  cases aA (T:=T) g4 r4
  have e5:=eT (T:=T) (e:=57) (fun _ _ _ h hr=>eT (T:=T) (e:=83) (fun _ _ _ h hr=>wi _ _ _ H h hr) h hr) g5 r5
  cases aA (T:=T) g6 r6
  cases aA (T:=T) g7 r7
  cases aA (T:=T) g8 r8
  cases aA (T:=T) g9 r9
  cases aA (T:=T) KS OS
  cases aA (T:=T) ON OT
  cases aA (T:=T) OO OU
  cases aA (T:=T) OP OV
  cases aA (T:=T) OQ OW
  exact⟨_,e5,rfl⟩
 ·simp at h
theorem Kf(x:Queue)(a:AV)(h:wg x a):aF true 15 a=true∧closed a=true:=by
 obtain⟨a5,h5,rfl⟩:=h
 have k5:=eG h5
 exact⟨by simp[aF,ia,fV,ib,k5.2.2],by simp[closed,aZ,k5.2.1]⟩
theorem OX(x:oJ)(a:AV)(H:aq den)(h:Db x a):R T H (GY x) a:=by
 obtain⟨a5,h5,rfl⟩:=h
 unfold GY
 simp only[R]
 refine⟨_,rfl,?_⟩
 simp only[RL,R,and_true,true_and]
 exact h5
theorem OY(v:V)(x:oJ)(a:AV)(H:aq den)(h:GZ v=some x)(hr:R T H v a):Db x a:=by
 unfold GZ at h
 split at h
 ·simp only[Option.bind_eq_some_iff,Option.some.injEq]at h
  obtain⟨b0,g0,b1,g1,b2,g2,b3,g3,b4,g4,b5,g5,b6,g6,b7,g7,b8,g8,b9,g9,yf,KS,uO,ON,D8,OO,ue,OP,ll,OQ,CO,Vb,rfl⟩:=h
  simp only[R]at hr
  obtain⟨_,rfl,hl⟩:=hr
  obtain⟨c0,_,rfl,r0,hl⟩:=cq.1 hl
  obtain⟨c1,_,rfl,r1,hl⟩:=cq.1 hl
  obtain⟨c2,_,rfl,r2,hl⟩:=cq.1 hl
  obtain⟨c3,_,rfl,r3,hl⟩:=cq.1 hl
  obtain⟨c4,_,rfl,r4,hl⟩:=cq.1 hl
  obtain⟨c5,_,rfl,r5,hl⟩:=cq.1 hl
  obtain⟨c6,_,rfl,r6,hl⟩:=cq.1 hl
  obtain⟨c7,_,rfl,r7,hl⟩:=cq.1 hl
  obtain⟨c8,_,rfl,r8,hl⟩:=cq.1 hl
  obtain⟨c9,_,rfl,r9,hl⟩:=cq.1 hl
  obtain⟨YI,_,rfl,OS,hl⟩:=cq.1 hl
  obtain⟨YJ,_,rfl,OT,hl⟩:=cq.1 hl
  obtain⟨YK,_,rfl,OU,hl⟩:=cq.1 hl
  obtain⟨YL,_,rfl,OV,hl⟩:=cq.1 hl
  obtain⟨YM,_,rfl,OW,hl⟩:=cq.1 hl
  obtain⟨c15,_,rfl,Vc,hl⟩:=cq.1 hl
  cases OL.1 hl
  cases aA (T:=T) g0 r0
  cases aA (T:=T) g1 r1
  cases aA (T:=T) g2 r2
  cases aA (T:=T) g3 r3
  cases aA (T:=T) g4 r4
  have e5:=eT (T:=T) (e:=57) (fun _ _ _ h hr=>eT (T:=T) (e:=83) (fun _ _ _ h hr=>wi _ _ _ H h hr) h hr) g5 r5
  cases aA (T:=T) g6 r6
  cases aA (T:=T) g7 r7
  cases aA (T:=T) g8 r8
  cases aA (T:=T) g9 r9
  cases aA (T:=T) KS OS
  cases aA (T:=T) ON OT
  cases aA (T:=T) OO OU
  cases aA (T:=T) OP OV
  cases aA (T:=T) OQ OW
  cases aA (T:=T) Vb Vc
  exact⟨_,e5,rfl⟩
 ·simp at h
theorem SP(x:oJ)(a:AV)(h:Db x a):aF true 16 a=true∧closed a=true:=by
 obtain⟨a5,h5,rfl⟩:=h
 have k5:=eG h5
 exact⟨by simp[aF,ia,fV,ib,k5.2.2],by simp[closed,aZ,k5.2.1]⟩
theorem YY(x:A2 (List ai))(a:AV)(H:aq den)(h:Ke x a):R T H (OJ x) a:=by
 obtain⟨a0,a1,h0,h1,rfl⟩:=h
 unfold OJ
 simp only[R]
 refine⟨_,rfl,?_⟩
 simp only[RL,R,and_true,true_and]
 exact⟨h0,h1⟩
theorem YZ(v:V)(x:A2 (List ai))(a:AV)(H:aq den)(h:OK v=some x)(hr:R T H v a):Ke x a:=by
 unfold OK at h
 split at h
 ·simp only[Option.bind_eq_some_iff,Option.some.injEq]at h
  obtain⟨b0,g0,b1,g1,rfl⟩:=h
  simp only[R]at hr
  obtain⟨_,rfl,hl⟩:=hr
  obtain⟨c0,_,rfl,r0,hl⟩:=cq.1 hl
  obtain⟨c1,_,rfl,r1,hl⟩:=cq.1 hl
  cases OL.1 hl
  have e0:=eT (T:=T) (e:=83) (fun _ _ _ h hr=>wi _ _ _ H h hr) g0 r0
  have e1:=eT (T:=T) (e:=83) (fun _ _ _ h hr=>wi _ _ _ H h hr) g1 r1
  exact⟨_,_,e0,e1,rfl⟩
 ·simp at h
theorem Y0(x:A2 (List ai))(a:AV)(h:Ke x a):aF true 2 a=true∧closed a=true:=by
 obtain⟨a0,a1,h0,h1,rfl⟩:=h
 have k0:=eG h0
 have k1:=eG h1
 exact⟨by simp[aF,ia,fV,ib,k0.2.2,k1.2.2],by simp[closed,aZ,k0.2.1,k1.2.1]⟩
theorem OZ(x:lQ)(a:AV)(H:aq den)(h:Dd x a):R T H (G0 x) a:=by
 obtain⟨a5,a15,a16,a18,h5,h15,h16,h18,rfl⟩:=h
 unfold G0
 simp only[R]
 refine⟨_,rfl,?_⟩
 simp only[RL,R,and_true,true_and]
 exact⟨h5,h15,h16,h18⟩
theorem O0(v:V)(x:lQ)(a:AV)(H:aq den)(h:G1 v=some x)(hr:R T H v a):Dd x a:=by
 unfold G1 at h
 split at h
 ·simp only[Option.bind_eq_some_iff,Option.some.injEq]at h
  obtain⟨b0,g0,b1,g1,b2,g2,b3,g3,b4,g4,b5,g5,b6,g6,b7,g7,b8,g8,b9,g9,yf,KS,uO,ON,D8,OO,ue,OP,ll,OQ,CO,Vb,BN,YQ,FU,YR,LN,YS,rfl⟩:=h
  simp only[R]at hr
  obtain⟨_,rfl,hl⟩:=hr
  obtain⟨c0,_,rfl,r0,hl⟩:=cq.1 hl
  obtain⟨c1,_,rfl,r1,hl⟩:=cq.1 hl
  obtain⟨c2,_,rfl,r2,hl⟩:=cq.1 hl
  obtain⟨c3,_,rfl,r3,hl⟩:=cq.1 hl
  obtain⟨c4,_,rfl,r4,hl⟩:=cq.1 hl
  obtain⟨c5,_,rfl,r5,hl⟩:=cq.1 hl
  obtain⟨c6,_,rfl,r6,hl⟩:=cq.1 hl
  obtain⟨c7,_,rfl,r7,hl⟩:=cq.1 hl
  obtain⟨c8,_,rfl,r8,hl⟩:=cq.1 hl
  obtain⟨c9,_,rfl,r9,hl⟩:=cq.1 hl
  obtain⟨YI,_,rfl,OS,hl⟩:=cq.1 hl
  obtain⟨YJ,_,rfl,OT,hl⟩:=cq.1 hl
  obtain⟨YK,_,rfl,OU,hl⟩:=cq.1 hl
  obtain⟨YL,_,rfl,OV,hl⟩:=cq.1 hl
  obtain⟨YM,_,rfl,OW,hl⟩:=cq.1 hl
  obtain⟨c15,_,rfl,Vc,hl⟩:=cq.1 hl
  obtain⟨c16,_,rfl,YT,hl⟩:=cq.1 hl
  obtain⟨c17,_,rfl,YU,hl⟩:=cq.1 hl
  obtain⟨c18,_,rfl,YV,hl⟩:=cq.1 hl
  cases OL.1 hl
  cases aA (T:=T) g0 r0
  cases aA (T:=T) g1 r1
  cases aA (T:=T) g2 r2
  cases aA (T:=T) g3 r3
  cases aA (T:=T) g4 r4
  have e5:=eT (T:=T) (e:=57) (fun _ _ _ h hr=>eT (T:=T) (e:=83) (fun _ _ _ h hr=>wi _ _ _ H h hr) h hr) g5 r5
  cases aA (T:=T) g6 r6
  cases aA (T:=T) g7 r7
  cases aA (T:=T) g8 r8
  cases aA (T:=T) g9 r9
  cases aA (T:=T) KS OS
  cases aA (T:=T) ON OT
  cases aA (T:=T) OO OU
  cases aA (T:=T) OP OV
  cases aA (T:=T) OQ OW
  have e15:=eT (T:=T) (e:=83) (fun _ _ _ h hr=>wi _ _ _ H h hr) Vb Vc
  have e16:=eT (T:=T) (e:=83) (fun _ _ _ h hr=>wi _ _ _ H h hr) YQ YT
  cases aA (T:=T) YR YU
  have e18:=eT (T:=T) (e:=30) (fun _ _ _ h hr=>OM _ _ _ H h hr) YS YV
  exact⟨_,_,_,_,e5,e15,e16,e18,rfl⟩
 ·simp at h
theorem SQ(x:lQ)(a:AV)(h:Dd x a):aF true 19 a=true∧closed a=true:=by
 obtain⟨a5,a15,a16,a18,h5,h15,h16,h18,rfl⟩:=h
 have k5:=eG h5
 have k15:=eG h15
 have k16:=eG h16
 have k18:=eG h18
 exact⟨by simp[aF,ia,fV,ib,k5.2.2,k15.2.2,k16.2.2,k18.2.2],by simp[closed,aZ,k5.2.1,k15.2.1,k16.2.1,k18.2.1]⟩
theorem adp(t:Nat)(x:den t)(a:AV)(H:aq den)(h:rp t x a):R T H (up t x) a:=by
 unfold rp at h
 split at h
 ·exact uL (T:=T) h
 ·exact uL (T:=T) h
 ·exact uL (T:=T) h
 ·exact uL (T:=T) h
 ·exact YA _ _ H h
 ·exact YA _ _ H h
 ·exact uG (T:=T) (e:=57) h
 ·exact ac3 _ _ H h
 ·exact uL (T:=T) h
 ·exact YG _ _ H h
 ·exact YG _ _ H h
 ·exact YD _ _ H h
 ·exact YD _ _ H h
 ·exact YO _ _ H h
 ·exact YO _ _ H h
 ·exact uG (T:=T) (e:=30) h
 ·exact uL (T:=T) h
 ·exact uG (T:=T) (e:=83) h
 ·exact Vd _ _ H h
 ·exact Vd _ _ H h
 ·exact YF _ _ H h
 ·exact YF _ _ H h
 ·exact Bs _ _ H h
 ·exact Bs _ _ H h
 ·exact Bs _ _ H h
 ·exact uG (T:=T) (e:=3) h
 ·exact OX _ _ H h
 ·exact OX _ _ H h
 ·exact Bs _ _ H h
 ·exact YY _ _ H h
 ·exact OZ _ _ H h
 ·exact OZ _ _ H h
 ·exact uP (T:=T) (fun b hb=>Vd _ _ H hb) rfl h
 ·exact uP (T:=T) (fun b hb=>Bs _ _ H hb) rfl h
 ·exact uP (T:=T) (fun b hb=>OX _ _ H hb) rfl h
 ·exact uP (T:=T) (fun b hb=>Bs _ _ H hb) rfl h
 ·exact uP (T:=T) (fun b hb=>OZ _ _ H hb) rfl h
 ·exact uP (T:=T) (fun b hb=>uP (T:=T) (fun b hb=>Bs _ _ H hb) rfl hb) rfl h
 ·exact uP (T:=T) (fun b hb=>uL (T:=T) hb) rfl h
 ·exact h.elim
theorem adq(t:Nat)(v:V)(x:den t)(a:AV)(H:aq den)(h:dn t v=some x)(hr:R T H v a):rp t x a:=by
 revert x h hr
 refine dn.fun_cases_unfolding (motive:=fun t v r=>∀ (x:den t),r=some x→R T H v a→rp t x a) ?_ ?_ ?_ ?_ ?_ ?_ ?_ ?_ ?_ ?_ ?_ ?_ ?_ ?_ ?_ ?_ ?_ ?_ ?_ ?_ ?_ ?_ ?_ ?_ ?_ ?_ ?_ ?_ ?_ ?_ ?_ ?_ ?_ ?_ ?_ ?_ ?_ ?_ ?_ ?_ t v
 ·intro v x h hr; exact aA (T:=T) h hr
 ·intro v x h hr; exact aA (T:=T) h hr
 ·intro v x h hr; exact ss (T:=T) h hr
 ·intro v x h hr; exact Yg (T:=T) h hr
 ·intro v x h hr; exact YB _ _ _ H h hr
 ·intro v x h hr; exact YB _ _ _ H h hr
 ·intro v x h hr; exact eT (T:=T) (e:=57) (fun _ _ _ h hr=>eT (T:=T) (e:=83) (fun _ _ _ h hr=>wi _ _ _ H h hr) h hr) h hr
 ·intro v x h hr; exact ac4 _ _ _ H h hr
 ·intro v x h hr; exact aA (T:=T) h hr
 ·intro v x h hr; exact YH _ _ _ H h hr
 ·intro v x h hr; exact YH _ _ _ H h hr
 ·intro v x h hr; exact OM _ _ _ H h hr
 ·intro v x h hr; exact OM _ _ _ H h hr
 ·intro v x h hr; exact YP _ _ _ H h hr
 ·intro v x h hr; exact YP _ _ _ H h hr
 ·intro v x h hr; exact eT (T:=T) (e:=30) (fun _ _ _ h hr=>OM _ _ _ H h hr) h hr
 ·intro v x h hr; exact aA (T:=T) h hr
 ·intro v x h hr; exact eT (T:=T) (e:=83) (fun _ _ _ h hr=>wi _ _ _ H h hr) h hr
 ·intro v x h hr; exact Ve _ _ _ H h hr
 ·intro v x h hr; exact Ve _ _ _ H h hr
 ·intro v x h hr; exact wi _ _ _ H h hr
 ·intro v x h hr; exact wi _ _ _ H h hr
 ·intro v x h hr; exact Bt _ _ _ H h hr
 ·intro v x h hr; exact Bt _ _ _ H h hr
 ·intro v x h hr; exact Bt _ _ _ H h hr
 ·intro v x h hr; exact eT (T:=T) (e:=3) (fun _ _ _ h hr=>aA (T:=T) h hr) h hr
 ·intro v x h hr; exact OY _ _ _ H h hr
 ·intro v x h hr; exact OY _ _ _ H h hr
 ·intro v x h hr; exact Bt _ _ _ H h hr
 ·intro v x h hr; exact YZ _ _ _ H h hr
 ·intro v x h hr; exact O0 _ _ _ H h hr
 ·intro v x h hr; exact O0 _ _ _ H h hr
 ·intro v x h hr; exact su (T:=T) (fun _ _ h hr=>Ve _ _ _ H h hr) h hr
 ·intro v x h hr; exact su (T:=T) (fun _ _ h hr=>Bt _ _ _ H h hr) h hr
 ·intro v x h hr; exact su (T:=T) (fun _ _ h hr=>OY _ _ _ H h hr) h hr
 ·intro v x h hr; exact su (T:=T) (fun _ _ h hr=>Bt _ _ _ H h hr) h hr
 ·intro v x h hr; exact su (T:=T) (fun _ _ h hr=>O0 _ _ _ H h hr) h hr
 ·intro v x h hr; exact su (T:=T) (fun _ _ h hr=>su (T:=T) (fun _ _ h hr=>Bt _ _ _ H h hr) h hr) h hr
 ·intro v x h hr; exact su (T:=T) (fun _ _ h hr=>aA (T:=T) h hr) h hr
 ·intros; rename_i h _; cases h
theorem Y1(t:Nat)(x:den t)(a:AV)(h:rp t x a):aF (Yv t) (SN t) a=true∧closed a=true:=by
 unfold rp at h
 split at h
 ·exact GU (eI h)
 ·exact GU (eI h)
 ·exact GU (eB h)
 ·exact GU (eS h)
 ·exact YC _ _ h
 ·exact YC _ _ h
 ·exact GU (eG h)
 ·exact ac5 _ _ h
 ·exact GU (eI h)
 ·exact YN _ _ h
 ·exact YN _ _ h
 ·exact YE _ _ h
 ·exact YE _ _ h
 ·exact YW _ _ h
 ·exact YW _ _ h
 ·exact GU (eG h)
 ·exact GU (eI h)
 ·exact GU (eG h)
 ·exact YX _ _ h
 ·exact YX _ _ h
 ·exact UR _ _ h
 ·exact UR _ _ h
 ·exact Kf _ _ h
 ·exact Kf _ _ h
 ·exact Kf _ _ h
 ·exact GU (eG h)
 ·exact SP _ _ h
 ·exact SP _ _ h
 ·exact Kf _ _ h
 ·exact Y0 _ _ h
 ·exact SQ _ _ h
 ·exact SQ _ _ h
 ·exact GU (eP h)
 ·exact GU (eP h)
 ·exact GU (eP h)
 ·exact GU (eP h)
 ·exact GU (eP h)
 ·exact GU (eP h)
 ·exact GU (eP h)
 ·exact h.elim
theorem TOk:T.Ok:=⟨fun t x a H h=>adp t x a H h,fun t v x a H h hr=>adq t v x a H h hr,fun t x a h=>(Y1 t x a h).1,fun t x a h=>(Y1 t x a h).2⟩
theorem nP:iH.Ok ⟨Tryz.prog,NZ,fun _=>false⟩:=iH.Ok.of (by kernel_rfl) (by kernel_rfl) (by kernel_rfl) (by kernel_rfl) (by kernel_rfl)
def ZP(q:Nat×jO):Prop:=∀ z za,SO q.1=some z→q.2.zero=some za→rp q.1 z za
theorem ZOk:T.vY ⟨Tryz.prog,NZ,fun _=>false⟩:=by
 intro t m z za h1 h2 h3
 have hm:=fS h1
 have all:∀ q,q∈NZ→ZP q:=by
  unfold NZ
  intro q hq
  simp only[List.mem_cons,List.not_mem_nil,or_false]at hq
  rcases hq with rfl|rfl|rfl|rfl|rfl|rfl|rfl|rfl|rfl|rfl|rfl|rfl|rfl|rfl|rfl|rfl|rfl|rfl|rfl|rfl|rfl|rfl|rfl|rfl|rfl|rfl|rfl|rfl|rfl|rfl|rfl|rfl|rfl|rfl|rfl|rfl|rfl|rfl|rfl|rfl|rfl|rfl|rfl|rfl|rfl|rfl|rfl|rfl|rfl|rfl|rfl|rfl|rfl|rfl|rfl|rfl|rfl|rfl|rfl|rfl|rfl|rfl|rfl|rfl|rfl|rfl|rfl|rfl|rfl|rfl|rfl|rfl|rfl|rfl|rfl|rfl|rfl|rfl|rfl|rfl|rfl|rfl|rfl|rfl|rfl|rfl|rfl|rfl|rfl|rfl|rfl|rfl|rfl|rfl|rfl|rfl|rfl|rfl|rfl|rfl|rfl|rfl|rfl|rfl|rfl|rfl|rfl|rfl|rfl|rfl|rfl|rfl|rfl|rfl|rfl|rfl|rfl|rfl|rfl|rfl|rfl|rfl|rfl|rfl|rfl|rfl|rfl|rfl|rfl|rfl|rfl|rfl|rfl|rfl|rfl|rfl|rfl|rfl|rfl|rfl|rfl|rfl|rfl|rfl|rfl|rfl|rfl|rfl|rfl
  ·exact fun _ _ h _=>zn h
  ·exact fun _ _ h1 h2=>zz h1 h2 (rfl)
  ·exact fun _ _ h1 h2=>zz h1 h2 (rfl)
  ·exact fun _ _ h1 h2=>zz h1 h2 (rfl)
  ·exact fun _ _ h _=>zn h
  ·exact fun _ _ h _=>zn h
  ·exact fun _ _ h _=>zn h
  ·exact fun _ _ h _=>zn h
  ·exact fun _ _ h1 h2=>zz h1 h2 (rfl)
  ·exact fun _ _ h _=>zn h
  ·exact fun _ _ h _=>zn h
  ·exact fun _ _ h _=>zn h
  ·exact fun _ _ h _=>zn h
  ·exact fun _ _ h _=>zn h
  ·exact fun _ _ h _=>zn h
  ·exact fun _ _ h _=>zn h
  ·exact fun _ _ h _=>zn h
  ·exact fun _ _ h _=>zn h
  ·exact fun _ _ h _=>zn h
  ·exact fun _ _ h _=>zn h
  ·exact fun _ _ h _=>zn h
  ·exact fun _ _ h1 h2=>zz h1 h2 (rfl)
  ·exact fun _ _ h1 h2=>zz h1 h2 (rfl)
  ·exact fun _ _ h1 h2=>zz h1 h2 (.inr ⟨rfl,rfl⟩)
  ·exact fun _ _ h1 h2=>zz h1 h2 (rfl)
  ·exact fun _ _ h1 h2=>zz h1 h2 (rfl)
  ·exact fun _ _ h1 h2=>zz h1 h2 (⟨_,.inr ⟨rfl,rfl⟩,rfl⟩)
  ·exact fun _ _ h1 h2=>zz h1 h2 (⟨_,.inr ⟨rfl,rfl⟩,rfl⟩)
  ·exact fun _ _ h1 h2=>zz h1 h2 (rfl)
  ·exact fun _ _ h1 h2=>zz h1 h2 (rfl)
  ·exact fun _ _ h1 h2=>zz h1 h2 (⟨_,.inr ⟨rfl,rfl⟩,rfl⟩)
  ·exact fun _ _ h1 h2=>zz h1 h2 (⟨_,.inr ⟨rfl,rfl⟩,rfl⟩)
  ·exact fun _ _ h _=>zn h
  ·exact fun _ _ h _=>zn h
  ·exact fun _ _ h _=>zn h
  ·exact fun _ _ h1 h2=>zz h1 h2 (.inr ⟨rfl,rfl⟩)
  ·exact fun _ _ h1 h2=>zz h1 h2 (rfl)
  ·exact fun _ _ h _=>zn h
  ·exact fun _ _ h _=>zn h
  ·exact fun _ _ h _=>zn h
  ·exact fun _ _ h _=>zn h
  ·exact fun _ _ h _=>zn h
  ·exact fun _ _ h _=>zn h
  ·exact fun _ _ h _=>zn h
  ·exact fun _ _ h _=>zn h
  ·exact fun _ _ h _=>zn h
  ·exact fun _ _ h _=>zn h
  ·exact fun _ _ h _=>zn h
  ·exact fun _ _ h _=>zn h
  ·exact fun _ _ h _=>zn h
  ·exact fun _ _ h _=>zn h
  ·exact fun _ _ h _=>zn h
  ·exact fun _ _ h1 h2=>zz h1 h2 (.inr ⟨rfl,rfl⟩)
  ·exact fun _ _ h _=>zn h
  ·exact fun _ _ h _=>zn h
  ·exact fun _ _ h1 h2=>zz h1 h2 (⟨_,_,.inr ⟨rfl,rfl⟩,.inr ⟨rfl,rfl⟩,rfl⟩)
  ·exact fun _ _ h1 h2=>zz h1 h2 (⟨_,_,.inr ⟨rfl,rfl⟩,.inr ⟨rfl,rfl⟩,rfl⟩)
  ·exact fun _ _ h _=>zn h
  ·exact fun _ _ h _=>zn h
  ·exact fun _ _ h _=>zn h
  ·exact fun _ _ h _=>zn h
  ·exact fun _ _ h _=>zn h
  ·exact fun _ _ h _=>zn h
  ·exact fun _ _ h _=>zn h
  ·exact fun _ _ h _=>zn h
  ·exact fun _ _ h _=>zn h
  ·exact fun _ _ h _=>zn h
  ·exact fun _ _ h _=>zn h
  ·exact fun _ _ h _=>zn h
  ·exact fun _ _ h _=>zn h
  ·exact fun _ _ h _=>zn h
  ·exact fun _ _ h _=>zn h
  ·exact fun _ _ h1 h2=>zz h1 h2 (rfl)
  ·exact fun _ _ h1 h2=>zz h1 h2 (rfl)
  ·exact fun _ _ h _=>zn h
  ·exact fun _ _ h _=>zn h
  ·exact fun _ _ h _=>zn h
  ·exact fun _ _ h _=>zn h
  ·exact fun _ _ h _=>zn h
  ·exact fun _ _ h _=>zn h
  ·exact fun _ _ h _=>zn h
  ·exact fun _ _ h _=>zn h
  ·exact fun _ _ h _=>zn h
  ·exact fun _ _ h _=>zn h
  ·exact fun _ _ h _=>zn h
  ·exact fun _ _ h _=>zn h
  ·exact fun _ _ h _=>zn h
  ·exact fun _ _ h _=>zn h
  ·exact fun _ _ h _=>zn h
  ·exact fun _ _ h _=>zn h
  ·exact fun _ _ h _=>zn h
  ·exact fun _ _ h1 h2=>zz h1 h2 (⟨_,.inr ⟨rfl,rfl⟩,rfl⟩)
  ·exact fun _ _ h1 h2=>zz h1 h2 (⟨_,.inr ⟨rfl,rfl⟩,rfl⟩)
  ·exact fun _ _ h _=>zn h
  ·exact fun _ _ h _=>zn h
  ·exact fun _ _ h _=>zn h
  ·exact fun _ _ h _=>zn h
  ·exact fun _ _ h _=>zn h
  ·exact fun _ _ h1 h2=>zz h1 h2 (⟨_,.inr ⟨rfl,rfl⟩,rfl⟩)
  ·exact fun _ _ h _=>zn h
  ·exact fun _ _ h _=>zn h
  ·exact fun _ _ h _=>zn h
  ·exact fun _ _ h1 h2=>zz h1 h2 (.inr ⟨rfl,rfl⟩)
  ·exact fun _ _ h _=>zn h
  ·exact fun _ _ h _=>zn h
  ·exact fun _ _ h1 h2=>zz h1 h2 (⟨_,.inr ⟨rfl,rfl⟩,rfl⟩)
  ·exact fun _ _ h1 h2=>zz h1 h2 (⟨_,.inr ⟨rfl,rfl⟩,rfl⟩)
  ·exact fun _ _ h _=>zn h
  ·exact fun _ _ h _=>zn h
  ·exact fun _ _ h1 h2=>zz h1 h2 (⟨_,.inr ⟨rfl,rfl⟩,rfl⟩)
  ·exact fun _ _ h _=>zn h
  ·exact fun _ _ h _=>zn h
  ·exact fun _ _ h _=>zn h
  ·exact fun _ _ h _=>zn h
  ·exact fun _ _ h _=>zn h
  ·exact fun _ _ h _=>zn h
  ·exact fun _ _ h _=>zn h
  ·exact fun _ _ h _=>zn h
  ·exact fun _ _ h1 h2=>zz h1 h2 (⟨_,_,.inr ⟨rfl,rfl⟩,.inr ⟨rfl,rfl⟩,rfl⟩)
  ·exact fun _ _ h1 h2=>zz h1 h2 (⟨_,_,_,_,.inr ⟨rfl,rfl⟩,.inr ⟨rfl,rfl⟩,.inr ⟨rfl,rfl⟩,.inr ⟨rfl,rfl⟩,rfl⟩)
  ·exact fun _ _ h1 h2=>zz h1 h2 (⟨_,_,_,_,.inr ⟨rfl,rfl⟩,.inr ⟨rfl,rfl⟩,.inr ⟨rfl,rfl⟩,.inr ⟨rfl,rfl⟩,rfl⟩)
  ·exact fun _ _ h _=>zn h
  ·exact fun _ _ h _=>zn h
  ·exact fun _ _ h _=>zn h
  ·exact fun _ _ h _=>zn h
  ·exact fun _ _ h _=>zn h
  ·exact fun _ _ h _=>zn h
  ·exact fun _ _ h _=>zn h
  ·exact fun _ _ h _=>zn h
  ·exact fun _ _ h _=>zn h
  ·exact fun _ _ h _=>zn h
  ·exact fun _ _ h _=>zn h
  ·exact fun _ _ h _=>zn h
  ·exact fun _ _ h _=>zn h
  ·exact fun _ _ h _=>zn h
  ·exact fun _ _ h _=>zn h
  ·exact fun _ _ h _=>zn h
  ·exact fun _ _ h _=>zn h
  ·exact fun _ _ h _=>zn h
  ·exact fun _ _ h _=>zn h
  ·exact fun _ _ h _=>zn h
  ·exact fun _ _ h _=>zn h
  ·exact fun _ _ h _=>zn h
  ·exact fun _ _ h _=>zn h
  ·exact fun _ _ h _=>zn h
  ·exact fun _ _ h _=>zn h
  ·exact fun _ _ h _=>zn h
  ·exact fun _ _ h _=>zn h
  ·exact fun _ _ h _=>zn h
 exact all _ hm z za h3 h2
theorem un3:Tryz.prog.underlying 3=some (.int .i64):=by kernel_rfl
def yR(x:Int):Prop:=IntKind.min .i64≤x∧x≤IntKind.max .i64
theorem Bu{n:Nat}{l:List AV}(h:Shape Tryz.prog n 3 l):∃ x,yR x∧∃ a,l=[a]∧wk x a:=by
 obtain⟨m,rfl,h1⟩:=Da un3 h
 exact⟨m,h1,_,rfl,rfl⟩
theorem un4:Tryz.prog.underlying 4=some .bool:=by kernel_rfl
def ZX(_:Bool):Prop:=True
theorem sh4{n:Nat}{l:List AV}(h:Shape Tryz.prog n 4 l):∃ x,ZX x∧∃ a,l=[a]∧Yh x a:=by
 obtain⟨m,rfl⟩:=IV un4 h
 exact⟨m,trivial,_,rfl,rfl⟩
def Y2(x:af):Prop:=yR x.Kind∧yR x.A∧yR x.B∧yR x.C
theorem Vf:Tryz.prog.underlying 3=Tryz.prog.underlying 3:=by kernel_rfl
theorem Vg:Tryz.prog.underlying 3=Tryz.prog.underlying 3:=by kernel_rfl
theorem Vh:Tryz.prog.underlying 3=Tryz.prog.underlying 3:=by kernel_rfl
theorem Vi:Tryz.prog.underlying 3=Tryz.prog.underlying 3:=by kernel_rfl
theorem adt{n:Nat}{l:List AV}(h:Shape Tryz.prog n 22 l):∃ x,Y2 x∧GV x (.agg l):=by
 obtain⟨hl,k,hf⟩:=kv nP (t:=22) rfl rfl h
 rw[aI nP (t:=22) rfl]at hl
 have h0:=hf (0,3) (by simp)
 rw[aI nP (t:=3) rfl]at h0
 replace h0:=aL (Vf) h0
 have h1:=hf (1,3) (by simp)
 rw[aI nP (t:=3) rfl]at h1
 replace h1:=aL (Vg) h1
 have h2:=hf (2,3) (by simp)
 rw[aI nP (t:=3) rfl]at h2
 replace h2:=aL (Vh) h2
 have h3:=hf (3,3) (by simp)
 rw[aI nP (t:=3) rfl]at h3
 replace h3:=aL (Vi) h3
 match l,hl with
 |[a0,a1,a2,a3],_=>
  replace h0:Shape Tryz.prog k 3 [a0]:=h0
  obtain⟨x0,w0,b0,e0,r0⟩:=Bu h0
  simp only[List.cons.injEq,and_true]at e0
  subst e0
  unfold wk at r0; subst r0
  replace h1:Shape Tryz.prog k 3 [a1]:=h1
  obtain⟨x1,w1,b1,e1,r1⟩:=Bu h1
  simp only[List.cons.injEq,and_true]at e1
  subst e1
  unfold wk at r1; subst r1
  replace h2:Shape Tryz.prog k 3 [a2]:=h2
  obtain⟨x2,w2,b2,e2,r2⟩:=Bu h2
  simp only[List.cons.injEq,and_true]at e2
  subst e2
  unfold wk at r2; subst r2
  replace h3:Shape Tryz.prog k 3 [a3]:=h3
  obtain⟨x3,w3,b3,e3,r3⟩:=Bu h3
  simp only[List.cons.injEq,and_true]at e3
  subst e3
  unfold wk at r3; subst r3
  exact⟨⟨x0,x1,x2,x3⟩,⟨w0,w1,w2,w3⟩,rfl⟩
def Vj(x:an):Prop:=yR x.aH∧yR x.Sub∧yR x.Number∧yR x.Data∧yR x.az∧yR x.aQ∧ZX x.aJ∧ZX x.aB
theorem Vk:Tryz.prog.underlying 3=Tryz.prog.underlying 3:=by kernel_rfl
theorem Vl:Tryz.prog.underlying 3=Tryz.prog.underlying 3:=by kernel_rfl
theorem Vm:Tryz.prog.underlying 3=Tryz.prog.underlying 3:=by kernel_rfl
theorem Vn:Tryz.prog.underlying 3=Tryz.prog.underlying 3:=by kernel_rfl
theorem Vo:Tryz.prog.underlying 3=Tryz.prog.underlying 3:=by kernel_rfl
theorem Vp:Tryz.prog.underlying 3=Tryz.prog.underlying 3:=by kernel_rfl
theorem Vq:Tryz.prog.underlying 4=Tryz.prog.underlying 4:=by kernel_rfl
theorem Vr:Tryz.prog.underlying 4=Tryz.prog.underlying 4:=by kernel_rfl
theorem Y3{n:Nat}{l:List AV}(h:Shape Tryz.prog n 29 l):∃ x,Vj x∧Ep x (.agg l):=by
 obtain⟨hl,k,hf⟩:=kv nP (t:=29) rfl rfl h
 rw[aI nP (t:=29) rfl]at hl
 have h0:=hf (0,3) (by simp)
 rw[aI nP (t:=3) rfl]at h0
 replace h0:=aL (Vk) h0
 have h1:=hf (1,3) (by simp)
 rw[aI nP (t:=3) rfl]at h1
 replace h1:=aL (Vl) h1
 have h2:=hf (2,3) (by simp)
 rw[aI nP (t:=3) rfl]at h2
 replace h2:=aL (Vm) h2
 have h3:=hf (3,3) (by simp)
 rw[aI nP (t:=3) rfl]at h3
 replace h3:=aL (Vn) h3
 have h4:=hf (4,3) (by simp)
 rw[aI nP (t:=3) rfl]at h4
 replace h4:=aL (Vo) h4
 have h5:=hf (5,3) (by simp)
 rw[aI nP (t:=3) rfl]at h5
 replace h5:=aL (Vp) h5
 have h6:=hf (6,4) (by simp)
 rw[aI nP (t:=4) rfl]at h6
 replace h6:=aL (Vq) h6
 have h7:=hf (7,4) (by simp)
 rw[aI nP (t:=4) rfl]at h7
 replace h7:=aL (Vr) h7
 match l,hl with
 |[a0,a1,a2,a3,a4,a5,a6,a7],_=>
  replace h0:Shape Tryz.prog k 3 [a0]:=h0
  obtain⟨x0,w0,b0,e0,r0⟩:=Bu h0
  simp only[List.cons.injEq,and_true]at e0
  subst e0
  unfold wk at r0; subst r0
  replace h1:Shape Tryz.prog k 3 [a1]:=h1
  obtain⟨x1,w1,b1,e1,r1⟩:=Bu h1
  simp only[List.cons.injEq,and_true]at e1
  subst e1
  unfold wk at r1; subst r1
  replace h2:Shape Tryz.prog k 3 [a2]:=h2
  obtain⟨x2,w2,b2,e2,r2⟩:=Bu h2
  simp only[List.cons.injEq,and_true]at e2
  subst e2
  unfold wk at r2; subst r2
  replace h3:Shape Tryz.prog k 3 [a3]:=h3
  obtain⟨x3,w3,b3,e3,r3⟩:=Bu h3
  simp only[List.cons.injEq,and_true]at e3
  subst e3
  unfold wk at r3; subst r3
  replace h4:Shape Tryz.prog k 3 [a4]:=h4
  obtain⟨x4,w4,b4,e4,r4⟩:=Bu h4
  simp only[List.cons.injEq,and_true]at e4
  subst e4
  unfold wk at r4; subst r4
  replace h5:Shape Tryz.prog k 3 [a5]:=h5
  obtain⟨x5,w5,b5,e5,r5⟩:=Bu h5
  simp only[List.cons.injEq,and_true]at e5
  subst e5
  unfold wk at r5; subst r5
  replace h6:Shape Tryz.prog k 4 [a6]:=h6
  obtain⟨x6,w6,b6,e6,r6⟩:=sh4 h6
  simp only[List.cons.injEq,and_true]at e6
  subst e6
  unfold Yh at r6; subst r6
  replace h7:Shape Tryz.prog k 4 [a7]:=h7
  obtain⟨x7,w7,b7,e7,r7⟩:=sh4 h7
  simp only[List.cons.injEq,and_true]at e7
  subst e7
  unfold Yh at r7; subst r7
  exact⟨⟨x0,x1,x2,x3,x4,x5,x6,x7⟩,⟨w0,w1,w2,w3,w4,w5,w6,w7⟩,rfl⟩
def Vs(x:ai):Prop:=Vj x.P∧yR x.At
theorem Vt:Tryz.prog.underlying 30=Tryz.prog.underlying 29:=by kernel_rfl
theorem Vu:Tryz.prog.underlying 3=Tryz.prog.underlying 3:=by kernel_rfl
theorem adu{n:Nat}{l:List AV}(h:Shape Tryz.prog n 82 l):∃ x,Vs x∧uI x (.agg l):=by
 obtain⟨hl,k,hf⟩:=kv nP (t:=82) rfl rfl h
 rw[aI nP (t:=82) rfl]at hl
 have h0:=hf (0,30) (by simp)
 rw[aI nP (t:=30) rfl]at h0
 replace h0:=aL (Vt) h0
 have h1:=hf (8,3) (by simp)
 rw[aI nP (t:=3) rfl]at h1
 replace h1:=aL (Vu) h1
 match l,hl with
 |[a0,a1,a2,a3,a4,a5,a6,a7,a8],_=>
  replace h0:Shape Tryz.prog k 29 [a0,a1,a2,a3,a4,a5,a6,a7]:=h0
  obtain⟨x0,w0,r0⟩:=Y3 h0
  have e0:_=_:=r0
  simp only[AV.agg.injEq,List.cons.injEq,and_true]at e0
  obtain⟨rfl,rfl,rfl,rfl,rfl,rfl,rfl,rfl⟩:=e0
  replace h1:Shape Tryz.prog k 3 [a8]:=h1
  obtain⟨x1,w1,b1,e1,r1⟩:=Bu h1
  simp only[List.cons.injEq,and_true]at e1
  subst e1
  unfold wk at r1; subst r1
  exact⟨⟨x0,x1⟩,⟨w0,w1⟩,rfl⟩
theorem adv:Tryz.prog.underlying 57=some (.slice 83):=by kernel_rfl
theorem adw:(Tryz.prog.underlying 83).isSome=true:=by kernel_rfl
theorem adx:(Tryz.prog.underlying 83).map fK=some true:=by kernel_rfl
theorem ady:Tryz.prog.underlying 83=Tryz.prog.underlying 82:=by kernel_rfl
def Vv(x:List ai):Prop:=x.length≤maxLen∧∀ y,y∈x→Vs y
theorem adz{n:Nat}{l:List AV}(h:Shape Tryz.prog n 57 l):∃ x,Vv x∧∃ a,l=[a]∧GW x a:=by
 obtain⟨d,hd⟩:=Option.isSome_iff_exists.1 adw
 have sw:fK d=true:=by have:=adx; rw[hd]at this; simpa using this
 obtain⟨ys,xs,rfl,h1,h2⟩:=yH (Q:=fun y x=>Vs y∧uI y x) adv hd h (by
  rintro k x ⟨cl,h1,h2⟩
  rw[sw]at h1
  simp only[if_true]at h1
  replace h2:=aL ady h2
  subst h1
  obtain⟨y,hy,r⟩:=adu h2
  exact⟨y,hy,r⟩)
 refine⟨ys,⟨h2,?_⟩,_,rfl,.inl ⟨xs,rfl,h1.mono fun _ _ h=>h.2⟩⟩
 intro y hy
 obtain⟨i,hi⟩:=List.getElem?_of_mem hy
 obtain⟨_,_,h3⟩:=h1.get hi
 exact h3.1
theorem adA:Tryz.prog.underlying 24=some (.slice 57):=by kernel_rfl
theorem adB:(Tryz.prog.underlying 57).isSome=true:=by kernel_rfl
theorem adC:(Tryz.prog.underlying 57).map fK=some false:=by kernel_rfl
theorem adD:Tryz.prog.underlying 57=Tryz.prog.underlying 57:=by kernel_rfl
def Y4(x:List (List ai)):Prop:=x.length≤maxLen∧∀ y,y∈x→Vv y
theorem adE{n:Nat}{l:List AV}(h:Shape Tryz.prog n 24 l):∃ x,Y4 x∧∃ a,l=[a]∧GX x a:=by
 obtain⟨d,hd⟩:=Option.isSome_iff_exists.1 adB
 have sw:fK d=false:=by have:=adC; rw[hd]at this; simpa using this
 obtain⟨ys,xs,rfl,h1,h2⟩:=yH (Q:=fun y x=>Vv y∧GW y x) adA hd h (by
  rintro k x ⟨cl,h1,h2⟩
  rw[sw]at h1
  simp only[Bool.false_eq_true,if_false]at h1
  replace h2:=aL adD h2
  subst h1
  obtain⟨y,hy,a,ha,r⟩:=adz h2
  simp only[List.cons.injEq,and_true]at ha
  subst ha
  exact⟨y,hy,r⟩)
 refine⟨ys,⟨h2,?_⟩,_,rfl,.inl ⟨xs,rfl,h1.mono fun _ _ h=>h.2⟩⟩
 intro y hy
 obtain⟨i,hi⟩:=List.getElem?_of_mem hy
 obtain⟨_,_,h3⟩:=h1.get hi
 exact h3.1
def Y5(x:A8 Int):Prop:=yR x.e0∧yR x.e1∧yR x.e2∧yR x.e3∧yR x.e4∧yR x.e5∧yR x.e6∧yR x.e7
theorem Vw:Tryz.prog.underlying 3=Tryz.prog.underlying 3:=by kernel_rfl
theorem Vx:Tryz.prog.underlying 3=Tryz.prog.underlying 3:=by kernel_rfl
theorem Vy:Tryz.prog.underlying 3=Tryz.prog.underlying 3:=by kernel_rfl
theorem Vz:Tryz.prog.underlying 3=Tryz.prog.underlying 3:=by kernel_rfl
theorem VA:Tryz.prog.underlying 3=Tryz.prog.underlying 3:=by kernel_rfl
theorem VB:Tryz.prog.underlying 3=Tryz.prog.underlying 3:=by kernel_rfl
theorem VC:Tryz.prog.underlying 3=Tryz.prog.underlying 3:=by kernel_rfl
theorem VG:Tryz.prog.underlying 3=Tryz.prog.underlying 3:=by kernel_rfl
theorem adF{n:Nat}{l:List AV}(h:Shape Tryz.prog n 25 l):∃ x,Y5 x∧IY x (.agg l):=by
 obtain⟨hl,k,hf⟩:=GR nP (t:=25) rfl rfl h
 rw[aI nP (t:=25) rfl]at hl
 have h0:=hf 0 (by omega)
 rw[aI nP (t:=3) rfl]at h0
 replace h0:=aL (Vw) h0
 have h1:=hf 1 (by omega)
 rw[aI nP (t:=3) rfl]at h1
 replace h1:=aL (Vx) h1
 have h2:=hf 2 (by omega)
 rw[aI nP (t:=3) rfl]at h2
 replace h2:=aL (Vy) h2
 have h3:=hf 3 (by omega)
 rw[aI nP (t:=3) rfl]at h3
 replace h3:=aL (Vz) h3
 have h4:=hf 4 (by omega)
 rw[aI nP (t:=3) rfl]at h4
 replace h4:=aL (VA) h4
 have h5:=hf 5 (by omega)
 rw[aI nP (t:=3) rfl]at h5
 replace h5:=aL (VB) h5
 have h6:=hf 6 (by omega)
 rw[aI nP (t:=3) rfl]at h6
 replace h6:=aL (VC) h6
 have h7:=hf 7 (by omega)
 rw[aI nP (t:=3) rfl]at h7
 replace h7:=aL (VG) h7
 match l,hl with
 |[a0,a1,a2,a3,a4,a5,a6,a7],_=>
  replace h0:Shape Tryz.prog k 3 [a0]:=h0
  obtain⟨x0,w0,b0,e0,r0⟩:=Bu h0
  simp only[List.cons.injEq,and_true]at e0
  subst e0
  unfold wk at r0; subst r0
  replace h1:Shape Tryz.prog k 3 [a1]:=h1
  obtain⟨x1,w1,b1,e1,r1⟩:=Bu h1
  simp only[List.cons.injEq,and_true]at e1
  subst e1
  unfold wk at r1; subst r1
  replace h2:Shape Tryz.prog k 3 [a2]:=h2
  obtain⟨x2,w2,b2,e2,r2⟩:=Bu h2
  simp only[List.cons.injEq,and_true]at e2
  subst e2
  unfold wk at r2; subst r2
  replace h3:Shape Tryz.prog k 3 [a3]:=h3
  obtain⟨x3,w3,b3,e3,r3⟩:=Bu h3
  simp only[List.cons.injEq,and_true]at e3
  subst e3
  unfold wk at r3; subst r3
  replace h4:Shape Tryz.prog k 3 [a4]:=h4
  obtain⟨x4,w4,b4,e4,r4⟩:=Bu h4
  simp only[List.cons.injEq,and_true]at e4
  subst e4
  unfold wk at r4; subst r4
  replace h5:Shape Tryz.prog k 3 [a5]:=h5
  obtain⟨x5,w5,b5,e5,r5⟩:=Bu h5
  simp only[List.cons.injEq,and_true]at e5
  subst e5
  unfold wk at r5; subst r5
  replace h6:Shape Tryz.prog k 3 [a6]:=h6
  obtain⟨x6,w6,b6,e6,r6⟩:=Bu h6
  simp only[List.cons.injEq,and_true]at e6
  subst e6
  unfold wk at r6; subst r6
  replace h7:Shape Tryz.prog k 3 [a7]:=h7
  obtain⟨x7,w7,b7,e7,r7⟩:=Bu h7
  simp only[List.cons.injEq,and_true]at e7
  subst e7
  unfold wk at r7; subst r7
  exact⟨⟨x0,x1,x2,x3,x4,x5,x6,x7⟩,⟨w0,w1,w2,w3,w4,w5,w6,w7⟩,rfl⟩
theorem adG:Tryz.prog.underlying 26=some (.int .u64):=by kernel_rfl
def Y6(x:Int):Prop:=IntKind.min .u64≤x∧x≤IntKind.max .u64
theorem adH{n:Nat}{l:List AV}(h:Shape Tryz.prog n 26 l):∃ x,Y6 x∧∃ a,l=[a]∧U2 x a:=by
 obtain⟨m,rfl,h1⟩:=Da adG h
 exact⟨m,h1,_,rfl,rfl⟩
def Ub(x:Queue):Prop:=Y2 x.af∧yR x.Room∧Y4 x.ah∧Y5 x.ae∧Y6 x.bm
theorem VH:Tryz.prog.underlying 23=Tryz.prog.underlying 22:=by kernel_rfl
theorem VJ:Tryz.prog.underlying 3=Tryz.prog.underlying 3:=by kernel_rfl
theorem VK:Tryz.prog.underlying 24=Tryz.prog.underlying 24:=by kernel_rfl
theorem VM:Tryz.prog.underlying 25=Tryz.prog.underlying 25:=by kernel_rfl
theorem VN:Tryz.prog.underlying 26=Tryz.prog.underlying 26:=by kernel_rfl
theorem adI{n:Nat}{l:List AV}(h:Shape Tryz.prog n 27 l):∃ x,Ub x∧Lr x (.agg l):=by
 obtain⟨hl,k,hf⟩:=kv nP (t:=27) rfl rfl h
 rw[aI nP (t:=27) rfl]at hl
 have h0:=hf (0,23) (by simp)
 rw[aI nP (t:=23) rfl]at h0
 replace h0:=aL (VH) h0
 have h1:=hf (4,3) (by simp)
 rw[aI nP (t:=3) rfl]at h1
 replace h1:=aL (VJ) h1
 have h2:=hf (5,24) (by simp)
 rw[aI nP (t:=24) rfl]at h2
 replace h2:=aL (VK) h2
 have h3:=hf (6,25) (by simp)
 rw[aI nP (t:=25) rfl]at h3
 replace h3:=aL (VM) h3
 have h4:=hf (14,26) (by simp)
 rw[aI nP (t:=26) rfl]at h4
 replace h4:=aL (VN) h4
 match l,hl with
 |[a0,a1,a2,a3,a4,a5,a6,a7,a8,a9,a10,a11,a12,a13,a14],_=>
  replace h0:Shape Tryz.prog k 22 [a0,a1,a2,a3]:=h0
  obtain⟨x0,w0,r0⟩:=adt h0
  have e0:_=_:=r0
  simp only[AV.agg.injEq,List.cons.injEq,and_true]at e0
  obtain⟨rfl,rfl,rfl,rfl⟩:=e0
  replace h1:Shape Tryz.prog k 3 [a4]:=h1
  obtain⟨x1,w1,b1,e1,r1⟩:=Bu h1
  simp only[List.cons.injEq,and_true]at e1
  subst e1
  unfold wk at r1; subst r1
  replace h2:Shape Tryz.prog k 24 [a5]:=h2
  obtain⟨x2,w2,b2,e2,r2⟩:=adE h2
  simp only[List.cons.injEq,and_true]at e2
  subst e2
  have s5:=r2
  replace h3:Shape Tryz.prog k 25 [a6,a7,a8,a9,a10,a11,a12,a13]:=h3
  obtain⟨x3,w3,r3⟩:=adF h3
  have e3:_=_:=r3
  simp only[AV.agg.injEq,List.cons.injEq,and_true]at e3
  obtain⟨rfl,rfl,rfl,rfl,rfl,rfl,rfl,rfl⟩:=e3
  replace h4:Shape Tryz.prog k 26 [a14]:=h4
  obtain⟨x4,w4,b4,e4,r4⟩:=adH h4
  simp only[List.cons.injEq,and_true]at e4
  subst e4
  unfold U2 at r4; subst r4
  exact⟨⟨x0,x1,x2,x3,x4⟩,⟨w0,w1,w2,w3,w4⟩,⟨_,s5,rfl⟩⟩
def adJ(x:bf):Prop:=yR x.dv∧yR x.dc∧Ub x.Queue∧ZX x.iu∧Vj x.dm∧yR x.cB
theorem VO:Tryz.prog.underlying 3=Tryz.prog.underlying 3:=by kernel_rfl
theorem VP:Tryz.prog.underlying 3=Tryz.prog.underlying 3:=by kernel_rfl
theorem VQ:Tryz.prog.underlying 28=Tryz.prog.underlying 27:=by kernel_rfl
theorem VR:Tryz.prog.underlying 4=Tryz.prog.underlying 4:=by kernel_rfl
theorem VU:Tryz.prog.underlying 30=Tryz.prog.underlying 29:=by kernel_rfl
theorem VV:Tryz.prog.underlying 3=Tryz.prog.underlying 3:=by kernel_rfl
theorem acR{n:Nat}{l:List AV}(h:Shape Tryz.prog n 31 l):∃ x,adJ x∧Ls x (.agg l):=by
 obtain⟨hl,k,hf⟩:=kv nP (t:=31) rfl rfl h
 rw[aI nP (t:=31) rfl]at hl
 have h0:=hf (0,3) (by simp)
 rw[aI nP (t:=3) rfl]at h0
 replace h0:=aL (VO) h0
 have h1:=hf (1,3) (by simp)
 rw[aI nP (t:=3) rfl]at h1
 replace h1:=aL (VP) h1
 have h2:=hf (2,28) (by simp)
 rw[aI nP (t:=28) rfl]at h2
 replace h2:=aL (VQ) h2
 have h3:=hf (17,4) (by simp)
 rw[aI nP (t:=4) rfl]at h3
 replace h3:=aL (VR) h3
 have h4:=hf (18,30) (by simp)
 rw[aI nP (t:=30) rfl]at h4
 replace h4:=aL (VU) h4
 have h5:=hf (26,3) (by simp)
 rw[aI nP (t:=3) rfl]at h5
 replace h5:=aL (VV) h5
 match l,hl with
 |[a0,a1,a2,a3,a4,a5,a6,a7,a8,a9,a10,a11,a12,a13,a14,a15,a16,a17,a18,a19,a20,a21,a22,a23,a24,a25,a26],_=>
  replace h0:Shape Tryz.prog k 3 [a0]:=h0
  obtain⟨x0,w0,b0,e0,r0⟩:=Bu h0
  simp only[List.cons.injEq,and_true]at e0
  subst e0
  unfold wk at r0; subst r0
  replace h1:Shape Tryz.prog k 3 [a1]:=h1
  obtain⟨x1,w1,b1,e1,r1⟩:=Bu h1
  simp only[List.cons.injEq,and_true]at e1
  subst e1
  unfold wk at r1; subst r1
  replace h2:Shape Tryz.prog k 27 [a2,a3,a4,a5,a6,a7,a8,a9,a10,a11,a12,a13,a14,a15,a16]:=h2
  obtain⟨x2,w2,r2⟩:=adI h2
  obtain⟨ajF,s7,e2⟩:=r2
  simp only[AV.agg.injEq,List.cons.injEq,and_true]at e2
  obtain⟨rfl,rfl,rfl,rfl,rfl,rfl,rfl,rfl,rfl,rfl,rfl,rfl,rfl,rfl,rfl⟩:=e2
  replace h3:Shape Tryz.prog k 4 [a17]:=h3
  obtain⟨x3,w3,b3,e3,r3⟩:=sh4 h3
  simp only[List.cons.injEq,and_true]at e3
  subst e3
  unfold Yh at r3; subst r3
  replace h4:Shape Tryz.prog k 29 [a18,a19,a20,a21,a22,a23,a24,a25]:=h4
  obtain⟨x4,w4,r4⟩:=Y3 h4
  have e4:_=_:=r4
  simp only[AV.agg.injEq,List.cons.injEq,and_true]at e4
  obtain⟨rfl,rfl,rfl,rfl,rfl,rfl,rfl,rfl⟩:=e4
  replace h5:Shape Tryz.prog k 3 [a26]:=h5
  obtain⟨x5,w5,b5,e5,r5⟩:=Bu h5
  simp only[List.cons.injEq,and_true]at e5
  subst e5
  unfold wk at r5; subst r5
  exact⟨⟨x0,x1,x2,x3,x4,x5⟩,⟨w0,w1,w2,w3,w4,w5⟩,⟨_,s7,rfl⟩⟩
end Go.Proofs.YtpodhambaehlkaaGreatDoor
end
section
/- Copies of slices in this seat: what the library's functions come to (printed by gen_lib.py). -/
namespace Go.Proofs.YtpodhambaehlkaaGreatDoor.nO
open Go.PI
noncomputable def C0:Ctx where
 P:=Tryz.prog
 kind:=fun f=>if f=155 then .imp else .pure
 kT:=fun _=>none
 acc:=fun _ _=>false
instance:jn C0:=⟨rfl,rfl⟩
noncomputable def R(t:Nat):bO:=(ga Tryz.prog t).getD ⟨.bool,0,0,none,false⟩
theorem Er:aU C0.P 57=some (R 83):=by kernel_rfl
theorem G5:cf C0.P 57=true:=by kernel_rfl
theorem Ly:(cr (R 83)).isSome=true:=by kernel_rfl
theorem IK:(R 83).size=9:=by kernel_rfl
theorem UP:(R 83).isAgg=true:=by kernel_rfl
theorem UQ:(R 83).bytes=64:=by kernel_rfl
theorem Y7:C0.P.funcs[155]?=some Tryz.f155:=by kernel_rfl
theorem Y8:cf C0.P 24=true:=by kernel_rfl
theorem st3:cf C0.P 3=false:=by kernel_rfl
theorem un3:C0.P.underlying 3=some (.int .i64):=by kernel_rfl
noncomputable def sv:AV:=(cr (R 83)).getD .undef
theorem adL:cr (R 83)=some sv:=by kernel_rfl
theorem adM:aF (R 83).isAgg (R 83).size sv=true:=by kernel_rfl
theorem Lz:jk C0 155 [.lit cx,int 0] []=some (.val (.lit cx),[]):=
 (bj (kP C0 155 [.lit cx,int 0] [])).2 ⟨100,by kernel_rfl⟩
theorem O4(n:Nat)(hn:0<n)(h1:n*(R 83).bytes≤2^44)(h2:n≤2^44):jk C0 155 [.lit cx,int n] []=some (.val (.bw (R 83).size 0 n 0 0 none),[some (.arr true true false (List.replicate n sv))]):=by
 rw[y8 (fn:=Tryz.f155) Y7 rfl]
 have y5:∀ f d,C0.acc f d=false:=fun _ _=>rfl
 have hr:0<(R 83).size:=by rw[IK]; decide
 have hw:IntKind.i64.wrap ((n:Int)-0)=(n:Int):=by rw[IntWalk.i64_in _ (by omega)]; omega
 have Zh:IntKind.i64.wrap (0-0)=(0:Int):=by decide
 have VW:¬((n:Int)<0):=by omega
 have iV:(0:Int)<(n:Int):=by omega
 have KH:Option.map (aP [AV.lit cx]) none=(none:Option AV):=rfl
 simp (decide:=true) only [Tryz.f155,Bv,y5,RA G5,RB G5,O2,RC,RF Er,RG Er hn,I0,O3 Er st3 un3 adL hr adM hn h1 h2,hw,Zh,VW,iV,bol,Option.map_none,gQ,iW,qJ,fL,List.map_cons,List.map_nil,er,jY,og,pH,MH,lh,pI,oe,lf,wP,aP,oM,iD,gE,bX,fm,HM,Ai,jZ,Ah,sD,Js,Jt,dD,vj,Aj,Dz,DA,Dy,List.getElem?_toArray,List.replicate_succ,List.replicate_zero,Nat.reduceSub,Nat.reduceAdd,Option.bind_some,Option.map_some,decide_true,decide_false,tS,List.length_nil,List.length_cons,List.nil_append,List.cons_append,Nat.zero_add,Pv,Pw,Px,Py,k9,pt]
theorem SG:C0.P.funcs[116]?=some Tryz.f116:=by kernel_rfl
theorem adN:ga C0.P 57=some (R 57):=by kernel_rfl
theorem Y9:(R 57).isAgg=false:=by kernel_rfl
theorem Za:(R 57).size=1:=by kernel_rfl
theorem adO:aU C0.P 24=some (R 57):=by kernel_rfl
theorem adP:arrayElem C0.P 24=none:=by kernel_rfl
theorem Zb{nm:Nat}{ev:Operand→AV}{dst:Option Tmp}{type:TypeId}{pos:String}{after:Array Edge}{guard:Option (Nat×Bool)}{hp:ak}{x:Operand}:
  (aV C0.P nm ev ⟨dst,.load 57 x,type,pos,after,guard⟩).run hp=MJ (Jw false 1 hp (ev x)):=by rw[Qm adN,Qo Y9 Za]
theorem Zc(x ix:AV):gg C0.P 24 x ix=(asNat ix).bind fun i=>pJ false 1 i x:=by rw[MO adO adP,Y9,Za]
def I1(ls:List (List AV))(k:Nat)(s:St):Prop:=
 ∃ (i:Nat) (j1 j4 j5 j6 j7 j8 O5 O6 O7 O8 O9 Pa Pb Pc Pd Pe Pf Pg Ph Zd Ze SS Pj Pk Pm Pn Po Pp Pq Pr:AV),k=ls.length-i∧i≤ls.length∧s=⟨116,[.sl (ls.map .sl),j1,.lit cx,int ((ls.take i).flatten.length:Nat),j4,j5,j6,j7,j8,.sl (ls.map .sl),int ls.length,int i,O5,O6,O7,O8,O9,Pa,Pb,Pc,Pd,Pe,Pf,Pg,Ph,Zd,Ze,SS,Pj,Pk,Pm,Pn,Po,Pp,Pq,Pr],[]⟩
def P1(ls:List (List AV))(o:Out):Prop:=
 ∃ (SU j1 j4 j5 j6 j7 j8 O5 O6 O7 O8 O9 Pa Pb Pc Pd Pe Pf Pg Ph Zd Ze SS Pj Pk Pm Pn Po Pp Pq Pr:AV),o=.exit 0 ⟨116,[.sl (ls.map .sl),j1,.lit cx,int (ls.flatten.length:Nat),j4,j5,j6,j7,j8,.sl (ls.map .sl),int ls.length,SU,O5,O6,O7,O8,O9,Pa,Pb,Pc,Pd,Pe,Pf,Pg,Ph,Zd,Ze,SS,Pj,Pk,Pm,Pn,Po,Pp,Pq,Pr],[]⟩
theorem Kh{α:Type}(ls:List (List α))(i:Nat):(ls.take i).flatten.length≤ls.flatten.length:=by
 have h:ls.flatten.length=(ls.take i).flatten.length+(ls.drop i).flatten.length:=by
  rw[←List.length_append,←List.flatten_append,List.take_append_drop]
 omega
theorem Df{α:Type}(ls:List (List α))(i:Nat)(h:i<ls.length):(ls.take (i+1)).flatten=(ls.take i).flatten++ls[i]:=by
 rw[List.take_succ_eq_append_getElem h,List.flatten_append]; simp only[List.flatten_cons,List.flatten_nil,List.append_nil]
noncomputable def cur(ls:List (List AV))(i:Nat):AV:=if ls.flatten.length=0 then .lit cx else .bw (R 83).size 0 ls.flatten.length 0 (ls.take i).flatten.length none
noncomputable def uK(ls:List (List AV))(i:Nat):ak:=if ls.flatten.length=0 then [] else [some (.arr true true false ((ls.take i).flatten++List.replicate (ls.flatten.length-(ls.take i).flatten.length) sv))]
theorem Ps(ls:List (List AV))(h1:ls.flatten.length*(R 83).bytes≤2^44)(h2:ls.flatten.length≤2^44):jk C0 155 [.lit (.slice none 0 0),int ls.flatten.length] []=some (.val (cur ls 0),uK ls 0):=by
 unfold cur uK
 by_cases h:ls.flatten.length=0
 ·rw[if_pos h,if_pos h,h]; exact Lz
 ·rw[if_neg h,if_neg h]
  simpa using O4 _ (by omega) h1 h2
theorem LA(ls:List (List AV))(i:Nat):jS 0 (cur ls i) (uK ls i)=uK ls i:=by
 unfold cur uK jS
 by_cases h:ls.flatten.length=0
 ·rw[if_pos h,if_pos h]; simp
 ·rw[if_neg h,if_neg h]; simp[below]
theorem I4(ls:List (List AV))(i:Nat):forget (uK ls i).length (cur ls (i+1))=cur ls (i+1):=by
 apply KB
 unfold cur uK
 by_cases h:ls.flatten.length=0
 ·rw[if_pos h,if_pos h]; rfl
 ·rw[if_neg h,if_neg h]; simp[below]
theorem LB(ls:List (List AV))(i:Nat)(f:Nat)(fr:List AV):iK (uK ls i).length ⟨f,fr,uK ls (i+1)⟩=⟨f,fr.map (forget (uK ls i).length),uK ls (i+1)⟩:=by
 have hl:(uK ls i).length=(uK ls (i+1)).length:=by
  unfold uK
  by_cases h:ls.flatten.length=0
  ·rw[if_pos h,if_pos h]
  ·rw[if_neg h,if_neg h]; rfl
 have ht:(uK ls (i+1)).take (uK ls i).length=uK ls (i+1):=by rw[hl]; exact List.take_length
 rw[E7]
 ·simp only[ht]
 ·simp only[ht]
  unfold uK
  by_cases h:ls.flatten.length=0
  ·rw[if_pos h]; rfl
  ·rw[if_neg h]; rfl
theorem Et(a ys:List AV)(k:Nat)(z:AV)(h:ys.length≤k):bP (a++List.replicate k z) a.length ys=a++ys++List.replicate (k-ys.length) z:=by
 induction ys generalizing a k with
 |nil=>simp[bP]
 |cons y ys ih=>
  obtain⟨k,rfl⟩:∃ m,k=m+1:=⟨k-1,by simp at h; omega⟩
  have:=ih (a++[y]) k (by simp at h; omega)
  simp only[bP,List.replicate_succ]
  simp only[List.length_append,List.length_cons,List.length_nil]at this
  rw[List.set_append_right _ _ (Nat.le_refl _),Nat.sub_self,List.set_cons_zero]
  simpa[List.append_assoc] using this
theorem RJ(ls:List (List AV))(i:Nat)(hi:i<ls.length)(bK:ls[i].all (aF (R 83).isAgg (R 83).size)=true):
  ∃ wr,(∀ nm,(fI C0.P nm 57 57 (cur ls i) (.sl ls[i])).run (uK ls i)=some ⟨cur ls (i+1),wr⟩)∧av (uK ls i) wr=uK ls (i+1):=by
 have hr:0<(R 83).size:=by rw[IK]; decide
 have hf:=Df ls i hi
 have hle:=Kh ls (i+1)
 have hlen:(ls.take (i+1)).flatten.length=(ls.take i).flatten.length+ls[i].length:=by rw[hf,List.length_append]
 by_cases h:ls.flatten.length=0
 ·have he:ls[i]=[]:=List.length_eq_zero_iff.1 (by omega)
  refine⟨[],fun nm=>?_,?_⟩
  ·unfold cur uK
   rw[if_pos h,if_pos h,if_pos h,he]
   simp[fI,Er,wq,G5,gw,RM.run_bind,RM.run_pure,Ly,hr]
  ·unfold uK; rw[if_pos h,if_pos h]; rfl
 ·by_cases he:ls[i]=[]
  ·have B6:ls[i].length=0:=by rw[he]; rfl
   rw[B6]at hlen
   have nt:(ls.take (i+1)).flatten=(ls.take i).flatten:=by rw[hf,he,List.append_nil]
   refine⟨[],fun nm=>?_,?_⟩
   ·unfold cur uK
    rw[if_neg h,if_neg h,if_neg h,he,nt]
    simp[fI,Er,wq,G5,gw,RM.run_bind,RM.run_pure,Ly,hr]
   ·unfold uK; rw[if_neg h,if_neg h,nt]; rfl
  ·have dY:ls[i].isEmpty=false:=by cases hq:ls[i]<;>simp_all
   have cZ:((ls.take i).flatten++List.replicate (ls.flatten.length-(ls.take i).flatten.length) sv).length=ls.flatten.length:=by
    rw[List.length_append,List.length_replicate]; omega
   refine⟨[(0,.arr true true false ((ls.take (i+1)).flatten++List.replicate (ls.flatten.length-(ls.take (i+1)).flatten.length) sv))],fun nm=>?_,?_⟩
   ·unfold cur uK
    rw[if_neg h,if_neg h,if_neg h]
    have ho:=RM.An (hp:=[some (.arr true true false ((ls.take i).flatten++List.replicate (ls.flatten.length-(ls.take i).flatten.length) sv))]) (n:=0) rfl
    rw[cZ]at ho
    have Gp:=Et (ls.take i).flatten ls[i] (ls.flatten.length-(ls.take i).flatten.length) sv (by omega)
    simp only[fI,Er,wq,G5,gw,RM.run_bind,RM.run_pure,Option.bind_some,Ly,hr,bK,decide_true,Bool.and_self,dY,ho]
    rw[if_neg (by rintro (h1|h1|h1); (exact absurd h1 (by decide)); (rw[cZ]at h1; omega); (exact h1 rfl)),if_pos (by simp only[Option.getD_none]; omega),if_pos (by rw[cZ]; omega)]
    simp only[RM.run_pure,Nat.zero_add,Gp,hlen,←hf]
    rw[Nat.sub_sub]
   ·unfold uK; rw[if_neg h,if_neg h]; rfl
def I2(ls:List (List AV))(k:Nat)(s:St):Prop:=
 ∃ (i:Nat) (j1 j4 j5 j7 j8 j9 Zf SU O5 O6 O7 O8 O9 Pa Pb Pc Pd Pe Pf Pg Ph Pj Pk Pm Pn Po Pp Pq Pr:AV),k=ls.length-i∧i≤ls.length∧s=⟨116,[.sl (ls.map .sl),j1,.lit cx,int (ls.flatten.length:Nat),j4,j5,cur ls i,j7,j8,j9,Zf,SU,O5,O6,O7,O8,O9,Pa,Pb,Pc,Pd,Pe,Pf,Pg,Ph,.sl (ls.map .sl),int ls.length,int i,Pj,Pk,Pm,Pn,Po,Pp,Pq,Pr],uK ls i⟩
def P2(ls:List (List AV))(o:Out):Prop:=
 ∃ (SS j1 j4 j5 j7 j8 j9 Zf SU O5 O6 O7 O8 O9 Pa Pb Pc Pd Pe Pf Pg Ph Pj Pk Pm Pn Po Pp Pq Pr:AV),o=.exit 2 ⟨116,[.sl (ls.map .sl),j1,.lit cx,int (ls.flatten.length:Nat),j4,j5,cur ls ls.length,j7,j8,j9,Zf,SU,O5,O6,O7,O8,O9,Pa,Pb,Pc,Pd,Pe,Pf,Pg,Ph,.sl (ls.map .sl),int ls.length,SS,Pj,Pk,Pm,Pn,Po,Pp,Pq,Pr],uK ls ls.length⟩
theorem IJ(ls:List (List AV))(hn:ls.length≤2^44)(bK:∀ l∈ls,l.all (aF (R 83).isAgg (R 83).size)=true)(XS:ls.flatten.length*(R 83).bytes≤2^44)(hT:ls.flatten.length≤2^44):∃ res eV,jk C0 116 [.sl (ls.map .sl)] []=some (.val res,eV)∧(bn 1000 res).run eV=some (.sl ls.flatten):=by
 have key:jk C0 116 [.sl (ls.map .sl)] []=some (.val (cur ls ls.length),uK ls ls.length):=by
  rw[y8 (fn:=Tryz.f116) SG rfl]
  have y5:∀ f d,C0.acc f d=false:=fun _ _=>rfl
  have hr:0<(R 83).size:=by rw[IK]; decide
  simp (decide:=true) only [Tryz.f116,Bv,y5,HN Y8,List.length_map,gQ,iW,qJ,fL,List.map_cons,List.map_nil,er,jY,og,lh,MI,oe,lf,aP,oM,iD,gE,bX,fm,jZ,dD,List.getElem?_toArray,List.replicate_succ,List.replicate_zero,Nat.reduceSub,Option.bind_some,List.length_nil,List.length_cons,List.nil_append,List.cons_append,Nat.zero_add,Pv,Pw,Px,Py,nj,Option.bind_assoc,DB]
  refine Cn (I1 ls) (P1 ls) ls.length ?_ ?_ ?_
  ·exact⟨0,_,_,_,_,_,_,_,_,_,_,_,_,_,_,_,_,_,_,_,_,_,_,_,_,_,_,_,_,_,_,rfl,Nat.zero_le _,rfl⟩
  ·rintro k s ⟨i,j1,j4,j5,j6,j7,j8,O5,O6,O7,O8,O9,Pa,Pb,Pc,Pd,Pe,Pf,Pg,Ph,Zd,Ze,SS,Pj,Pk,Pm,Pn,Po,Pp,Pq,Pr,hk,hi,rfl⟩
   have Pt:IntKind.i64.wrap ((i:Int)+1)=((i+1:Nat):Int):=by
    rw[IntWalk.i64_in _ (by omega)]; omega
   by_cases cG:i<ls.length
   ·have nS:(ls.map AV.sl)[i]?=some (.sl ls[i]):=by simp[cG]
    have ck:aF false 1 (.sl ls[i])=true:=by simp[aF,bt]
    have hp0:fX false 1 (.sl ls[i]) 0=some (.sl ls[i]):=by simp[fX,bt]
    have DN:((i:Int)<(ls.length:Int)):=by omega
    have hf:=Df ls i cG
    have hle:=Kh ls (i+1)
    have hlen:(ls.take (i+1)).flatten.length=(ls.take i).flatten.length+ls[i].length:=by rw[hf,List.length_append]
    have mw:IntKind.i64.wrap (((ls.take i).flatten.length:Int)+(ls[i].length:Int))=(((ls.take (i+1)).flatten.length:Nat):Int):=by
     rw[IntWalk.i64_in _ (by omega)]; omega
    have VW:¬(((ls.take (i+1)).flatten.length:Int)<0):=by omega
    left
    refine⟨_,by simp (decide:=true) only [nS,ck,DN,Pt,mw,VW,Zb,Zc,HN G5,bol,gQ,iW,qJ,fL,List.map_cons,List.map_nil,er,jY,og,Ju,pH,vt,lh,pI,oe,lf,wP,aP,oM,iD,gE,bX,fm,HM,Ai,jZ,sD,Dw,dD,List.getElem?_toArray,Option.bind_some,Option.map_some,decide_true,decide_false,List.length_nil,bt,MJ,fX,if_true,Pv,Pw,Px,Py,nj,k9,xS,vu,tT,pJ,Jw,pt,DB]; rfl,ls.length-(i+1),by omega,?_⟩
    rw[E7 (by simp)]
    exact⟨i+1,_,_,_,_,_,_,_,_,_,_,_,_,_,_,_,_,_,_,_,_,_,_,_,_,_,_,_,_,_,_,rfl,by omega,rfl⟩
   ·have DN:¬((i:Int)<(ls.length:Int)):=by omega
    have UL:i=ls.length:=by omega
    right
    refine⟨_,by simp (decide:=true) only [DN,bol,gQ,iW,qJ,fL,List.map_cons,List.map_nil,er,jY,pH,wP,aP,gE,bX,fm,Ai,jZ,sD,dD,vv,List.getElem?_toArray,Option.bind_some,Option.map_some,decide_false,List.length_nil,Pv,Pw,Px,Py,k9,wJ]; rfl,by simp,?_⟩
    have:ls.take i=ls:=by rw[UL]; exact List.take_length
    rw[this]
    exact⟨_,_,_,_,_,_,_,_,_,_,_,_,_,_,_,_,_,_,_,_,_,_,_,_,_,_,_,_,_,_,_,rfl⟩
  ·rintro o ⟨SU,j1,j4,j5,j6,j7,j8,O5,O6,O7,O8,O9,Pa,Pb,Pc,Pd,Pe,Pf,Pg,Ph,Zd,Ze,SS,Pj,Pk,Pm,Pn,Po,Pp,Pq,Pr,rfl⟩
   simp (decide:=true) only [gQ,iW,qJ,fL,List.map_cons,List.map_nil,er,og,oe,aP,oM,iD,gE,bX,fm,jZ,dD,List.getElem?_toArray,Option.bind_some,List.length_nil,pD,HK,Pv,Pw,Px,Py,Co,Option.bind_assoc]
   have adQ:C0.kind 155=.imp:=rfl
   have Zg:∀ a t,aC (Op.call ⟨.value (.func 155),a,t⟩)=false:=fun _ _=>rfl
   simp only[qe,Ch,Zg,adQ]
   rw[Ps ls XS hT]
   simp only[Option.bind_some,Mm,List.length_nil,LA]
   simp (decide:=true) only [HN Y8,List.length_map,gQ,iW,qJ,fL,List.map_cons,List.map_nil,er,jY,og,lh,pI,oe,lf,aP,oM,iD,gE,bX,fm,jZ,dD,List.getElem?_toArray,Option.bind_some,Pv,Pw,Px,Py,nj,Option.bind_assoc,DB]
   refine Cn (I2 ls) (P2 ls) ls.length ?_ ?_ ?_
   ·exact⟨0,_,_,_,_,_,_,_,_,_,_,_,_,_,_,_,_,_,_,_,_,_,_,_,_,_,_,_,_,_,rfl,Nat.zero_le _,rfl⟩
   ·rintro k s ⟨i,j1,j4,j5,j7,j8,j9,Zf,SU,O5,O6,O7,O8,O9,Pa,Pb,Pc,Pd,Pe,Pf,Pg,Ph,Pj,Pk,Pm,Pn,Po,Pp,Pq,Pr,hk,hi,rfl⟩
    have Pt:IntKind.i64.wrap ((i:Int)+1)=((i+1:Nat):Int):=by
     rw[IntWalk.i64_in _ (by omega)]; omega
    by_cases cG:i<ls.length
    ·have nS:(ls.map AV.sl)[i]?=some (.sl ls[i]):=by simp[cG]
     have ck:aF false 1 (.sl ls[i])=true:=by simp[aF,bt]
     have hp0:fX false 1 (.sl ls[i]) 0=some (.sl ls[i]):=by simp[fX,bt]
     have DN:((i:Int)<(ls.length:Int)):=by omega
     obtain⟨wr,hap,Hd⟩:=RJ ls i cG (bK _ (List.getElem_mem cG))
     left
     refine⟨_,by simp (decide:=true) only [nS,ck,DN,Pt,I0,hap,Hd,Zb,Zc,bol,gQ,iW,qJ,fL,List.map_cons,List.map_nil,er,jY,og,Ju,pH,vt,lh,pI,oe,lf,wP,aP,oM,iD,gE,bX,fm,HM,jZ,sD,Dw,dD,List.getElem?_toArray,Option.bind_some,Option.map_some,decide_true,bt,MJ,fX,if_true,Pv,Pw,Px,Py,nj,k9,xS,vu,tT,pJ,Jw,pt]; rfl,ls.length-(i+1),by omega,?_⟩
     rw[LB]
     simp only[List.map_cons,List.map_nil,I4]
     exact⟨i+1,_,_,_,_,_,_,_,_,_,_,_,_,_,_,_,_,_,_,_,_,_,_,_,_,_,_,_,_,_,rfl,by omega,rfl⟩
    ·have DN:¬((i:Int)<(ls.length:Int)):=by omega
     have UL:i=ls.length:=by omega
     right
     refine⟨_,by simp (decide:=true) only [DN,bol,gQ,iW,qJ,fL,List.map_cons,List.map_nil,er,jY,pH,wP,aP,gE,bX,fm,Ai,jZ,sD,dD,vv,List.getElem?_toArray,Option.bind_some,Option.map_some,decide_false,Pv,Pw,Px,Py,k9,wJ]; rfl,by simp,?_⟩
     subst UL
     exact⟨_,_,_,_,_,_,_,_,_,_,_,_,_,_,_,_,_,_,_,_,_,_,_,_,_,_,_,_,_,_,rfl⟩
   ·rintro o ⟨SS,j1,j4,j5,j7,j8,j9,Zf,SU,O5,O6,O7,O8,O9,Pa,Pb,Pc,Pd,Pe,Pf,Pg,Ph,Pj,Pk,Pm,Pn,Po,Pp,Pq,Pr,rfl⟩
    simp (decide:=true) only [gQ,iW,qJ,fL,List.map_cons,List.map_nil,er,jY,og,pI,oe,lf,aP,gE,bX,fm,jZ,dD,vj,Aj,Dz,DA,Dy,List.getElem?_toArray,Option.bind_some,Option.map_some,Pv,Pw,Px,Py,Co]
 refine⟨_,_,key,?_⟩
 unfold cur uK
 by_cases h:ls.flatten.length=0
 ·rw[if_pos h,if_pos h,List.length_eq_zero_iff.1 h]; rfl
 ·rw[if_neg h,if_neg h]
  simp only[List.take_length,Nat.sub_self,List.replicate_zero,List.append_nil]
  exact I3 (RM.An rfl)
end Go.Proofs.YtpodhambaehlkaaGreatDoor.nO
end
section
namespace Go.Proofs.YtpodhambaehlkaaGreatDoor.Lib
open Go.PI
noncomputable def C0:Ctx where
 P:=Tryz.prog
 kind:=fun f=>if f=155 then .imp else .pure
 kT:=fun _=>none
 acc:=fun _ _=>false
instance:jn C0:=⟨rfl,rfl⟩
theorem SH:C0.P.funcs[154]?=some Tryz.f154:=by kernel_rfl
noncomputable def R(t:Nat):bO:=(ga Tryz.prog t).getD ⟨.bool,0,0,none,false⟩
theorem Er:aU C0.P 57=some (R 83):=by kernel_rfl
theorem G5:cf C0.P 57=true:=by kernel_rfl
theorem Ly:(cr (R 83)).isSome=true:=by kernel_rfl
theorem IK:(R 83).size=9:=by kernel_rfl
theorem UP:(R 83).isAgg=true:=by kernel_rfl
theorem UQ:(R 83).bytes=64:=by kernel_rfl
theorem nil_eq(xs:List AV)(c:Nat)(x y:Operand):gb C0.P .eql 57 x y (.mq xs c) (.lit (.slice none 0 0))=some (bol false):=by
 unfold gb
 have h:fj C0.P .eql 57 (.mq xs c) (.lit (.slice none 0 0))=none:=by kernel_rfl
 rw[h]
 show oK C0.P .eql 57 (.mq xs c) (.slice none 0 0)=_
 kernel_rfl
theorem Lm:jk C0 154 [.lit cx] []=some (.val (.lit cx),[]):=
 (bj (kP C0 154 [.lit cx] [])).2 ⟨100,by kernel_rfl⟩
theorem GM(cap:Nat):∃ n cl eV,jk C0 154 [.mq [] cap] []=some (.val (.bw (R 83).size n 0 0 0 (some 0)),eV)∧eV[n]?=some (some (.arr false cl false [])):=
 ⟨0,true,[some (.arr false true false [])],(bj (kP C0 154 [.mq [] cap] [])).2 ⟨100,by kernel_rfl⟩,rfl⟩
theorem Ln(xs:List AV)(cap:Nat)(hx:xs≠[])(bK:xs.all (aF (R 83).isAgg (R 83).size)=true)(h1:xs.length*(R 83).bytes≤2^44)(h2:xs.length≤2^44):∃ n cl eV,jk C0 154 [.mq xs cap] []=some (.val (.bw (R 83).size n xs.length 0 xs.length none),eV)∧eV[n]?=some (some (.arr true cl false xs)):=by
 rw[y8 (fn:=Tryz.f154) SH rfl]
 have y5:∀ f d,C0.acc f d=false:=fun _ _=>rfl
 have hr:0<(R 83).size:=by rw[IK]; decide
 simp (decide:=true) only [Tryz.f154,Bv,y5,Lu Er Ly hr,I0,nil_eq,bol,gQ,iW,qJ,fL,List.map_cons,List.map_nil,er,jY,og,BJ,pH,lh,pI,oe,lf,wP,aP,oM,iD,gE,bX,fm,Ai,jZ,Ah,dD,vj,Aj,Dz,DA,Dy,List.getElem?_toArray,List.replicate_succ,List.replicate_zero,Nat.reduceSub,Option.bind_some,Option.map_some,tS,List.length_nil,List.length_cons,List.nil_append,List.cons_append,Nat.zero_add,Pv,Pw,Px,Py,k9,Option.bind_assoc,pt]
 rw[Lv Er G5 Ly hr bK hx rfl h1 h2]
 simp (decide:=true) only [jZ,Ah,Option.bind_some,tS,List.length_nil,List.length_cons,List.nil_append,List.cons_append,Nat.zero_add]
 exact⟨_,_,_,rfl,rfl⟩
end Go.Proofs.YtpodhambaehlkaaGreatDoor.Lib
end
section
/- The context of this seat, contracts of library functions, the example. -/
set_option maxRecDepth 100000
set_option maxHeartbeats 0
namespace Go.Proofs.YtpodhambaehlkaaGreatDoor
open Go.PI
def oH:bO:=⟨.struct #[],9,64,none,false⟩
noncomputable def C:Ctx where
 P:=Tryz.prog
 kind:=fun f=>match Go.PI.cO [(29,()),(30,()),(31,()),(36,()),(37,()),(42,()),(46,()),(56,()),(82,()),(120,()),(121,()),(122,()),(125,()),(126,()),(128,()),(129,()),(130,()),(131,()),(132,()),(135,()),(142,()),(148,()),(149,()),(150,()),(151,()),(154,()),(156,()),(158,()),(159,()),(160,()),(162,()),(163,()),(164,()),(166,()),(167,()),(169,()),(184,()),(185,()),(186,()),(188,()),(189,()),(190,()),(191,()),(192,())] f with|some _=>.imp|none=>.pure
 kT:=fun g=>Go.PI.cO [(116,oI oH)] g
 acc:=fun _ _=>true
 gM:=fun g=>Go.PI.cO [(154,sr oH)] g
 ta:=fun f d=>(Go.PI.CJ [(101,11,[(0,8)]),(148,27,[(18,8)])] f d).getD []
 iU:=fun f d=>(Go.PI.CJ [(109,7,[(9,5)]),(110,5,[(4,5)]),(110,8,[(9,5)]),(110,14,[(9,5)]),(101,5,[(4,5)])] f d).getD []
 Wj:=fun f d=>(Go.PI.CJ [(150,5,2)] f d).getD 0
theorem II : ∀ (f : FuncId) (fn : Func), Tryz.prog.funcs[f]? = some fn → fn.body.isSome = true → (fn.name == "runtime.NumGoroutine") = false := by
 have h : (Tryz.prog.funcs.toList.all fun fn => !(fn.name == "runtime.NumGoroutine") || !fn.body.isSome) = true := by kernel_rfl
 intro f fn hf hb
 have hm:fn∈Tryz.prog.funcs.toList:=by
  have:=Array.mem_of_getElem? hf
  exact Array.mem_toList_iff.2 this
 have:=List.all_eq_true.1 h fn hm
 rw[hb]at this
 simpa using this
theorem Ya:Lib.C0.Ok where
 name:=II
 kT:=fun g h al r hg=>by cases hg
 rj:=fun g h al hp e h1=>by cases h1
 gM:=fun g h al r eV hg=>by cases hg
 zd:=fun g h hg=>by cases hg
 DH:=fun g h hg=>by cases hg
theorem Oy:nO.C0.Ok where
 name:=II
 kT:=fun g h al r hg=>by simp[nO.C0]at hg
 rj:=fun g h al hp e h1=>by cases h1
 DH:=fun g h hg=>by simp[nO.C0]at hg
 gM:=fun g h al r eV hg=>by simp[nO.C0]at hg
 zd:=fun g h hg=>by simp[nO.C0]at hg
theorem Ka{g:FuncId}{h:List AV→Option (AV×ak)}(hg:C.gM g=some h):g=154∧h=sr oH:=by
 have:=fS (show Go.PI.cO [(154,sr oH)] g=some h from hg)
 simp only[List.mem_singleton,Prod.mk.injEq]at this
 exact this
theorem Kb{g:FuncId}{h:List AV→Option AV}(hg:C.kT g=some h):g=116∧h=oI oH:=by
 have:=fS (show Go.PI.cO [(116,oI oH)] g=some h from hg)
 simp only[List.mem_singleton,Prod.mk.injEq]at this
 exact this
theorem Cok:C.Ok where
 name:=II
 kT:=by
  intro g h al r hg hr Ec w vs hI ha
  obtain⟨rfl,rfl⟩:=Kb hg
  exact Lk (r:=oH) Oy (fun ls h0 h1 h2 h3=>nO.IJ ls h0 (by rw[nO.UP,nO.IK]; exact h1) (by rw[nO.UQ]; exact h2) h3) hr Ec w vs hI ha
 DH:=by
  intro g h hg
  obtain⟨rfl,rfl⟩:=Kb hg
  exact⟨_,nO.SG,rfl⟩
 rj:=fun g h al hp e h1=>by cases h1
 gM:=by
  intro g h al r eV hg hr Ec w vs hI ha
  obtain⟨rfl,rfl⟩:=Ka hg
  exact Ll (r:=oH) Ya Lib.Lm (fun cap=>Lib.GM cap) (fun xs cap h0 h1 h2 h3=>Lib.Ln xs cap h0 (by rw[Lib.UP,Lib.IK]; exact h1) (by rw[Lib.UQ]; exact h2) h3) hr Ec w vs hI ha
 zd:=by
  intro g h hg
  obtain⟨rfl,rfl⟩:=Ka hg
  exact⟨_,Lib.SH,rfl⟩
theorem Yb(x:ai)(a:AV)(h:uI x a):aF oH.isAgg oH.size a=true:=(UR x a h).1
theorem US(x:ai)(a:AV)(h:uI x a):flat a=true:=by
 unfold uI at h
 subst h
 rfl
def _root_.Go.aa.ff(s:List ai):Option (List ai):=DT 64 s
def _root_.Go.aa.lJ(s:List (List ai)):Option (List ai):=Em 64 s
def _root_.Go.aa.uv:Option Bool:=some true
theorem UT:CV C T 154 ⟨[57],83,9,fun x=>Go.aa.ff x⟩:=
 IL (C:=C) (T:=T) (g:=154) (t:=57) (el:=83) (esz:=9) (I:=sr oH) (F:=Go.aa.ff) rfl US fun x a y h hy=>
  IM (r:=oH) (rpe:=uI) (x:=x) (y:=y) Yb h hy
noncomputable def nU:List (Nat×yh T):=[(154,⟨[57],83,9,fun x=>Go.aa.ff x⟩)]
theorem xk:∀ (g:FuncId) (σ:yh T),cO nU g=some σ→CV C T g σ:=by
 intro g σ h
 have:=fS h
 simp only[nU,List.mem_singleton,Prod.mk.injEq]at this
 obtain⟨rfl,rfl⟩:=this
 exact UT
theorem Q8:vZ C T 116 ⟨[24],[57],fun x=>Go.aa.lJ x⟩:=
 IP (C:=C) (T:=T) (g:=116) (t:=24) (u:=57) (I:=oI oH) (F:=Go.aa.lJ) rfl rfl fun x a y h hy=>by
  obtain⟨l,h1,h2⟩:=IQ (r:=oH) (rpe:=uI) (x:=x) (y:=y) Yb h hy
  exact⟨l,h1,.inl ⟨l,rfl,h2⟩⟩
def yS:FuncId→Nat→Bool:=fun f _=>Nat.beq f 105||Nat.beq f 61||Nat.beq f 85||Nat.beq f 57||Nat.beq f 58||Nat.beq f 59||Nat.beq f 60||Nat.beq f 62
def tws:FuncId→Tmp→List Tw:=fun f d=>(Go.PI.CJ [(142,22,[.ZI 22 0 8]),(162,8,[.arr 8 8]),(162,20,[.int 20 0]),(162,24,[.name 23]),(106,1000008,[.num 4 0 8]),(107,1000008,[.num 11 0 8]),(107,1000015,[.num 11 0 8]),(148,29,[.ZI 29 0 2]),(148,52,[.name 49])] f d).getD []
end Go.Proofs.YtpodhambaehlkaaGreatDoor
end
section
/- Models of the functions of this seat, and that they hold (printed by chain.py). -/
set_option maxRecDepth 100000
set_option maxHeartbeats 0
namespace Go.Proofs.YtpodhambaehlkaaGreatDoor
open Go.PI
end Go.Proofs.YtpodhambaehlkaaGreatDoor
open Go Go.PI Go.Proofs Go.Proofs.YtpodhambaehlkaaGreatDoor
abbrev Go.aa.zP:an:=an.mk 0 0 0 0 0 0 false false
abbrev Go.aa.zW:ai:=ai.mk Go.aa.zP 0
abbrev Go.aa.zQ:Queue:=Queue.mk (af.mk 0 0 0 0) 0 [] (A8.mk 0 0 0 0 0 0 0 0) 0
abbrev Go.aa.v8(v:A8 Int)(i:Nat):Int:=rV [v.e0,v.e1,v.e2,v.e3,v.e4,v.e5,v.e6,v.e7] i v.e0
noncomputable def Go.aa.dH(n:Int)(low:Int)(high:Int):Option Bool:=
 bif decide (low≤n) then
 some (decide (n≤high))
 else
 some false
noncomputable def Go.aa.bH(l:Queue):Option ((List ai)):=
 (l.ah[0]?).bind fun l1=>
 some l1
noncomputable def Go.aa.lO(p:an):Option Bool:=
 (aa.dH p.aH 0 7).bind fun b1=>
 bif b1 then
 (aa.dH p.Sub 0 3).bind fun b2=>
 bif b2 then
 (aa.dH p.Number 0 1000000000).bind fun b3=>
 bif b3 then
 (aa.dH p.Data 0 1000000000).bind fun b4=>
 bif b4 then
 (aa.dH p.az 1 10000).bind fun b5=>
 bif b5 then
 (aa.dH p.aQ 0 10000000).bind fun b6=>
 some b6
 else
 some false
 else
 some false
 else
 some false
 else
 some false
 else
 some false
noncomputable def Go.aa.gF(l:Queue):Option Bool:=
 (aa.bH l).bind fun l1=>
 (aX (ω:=Int×Int ⊕ Int×Int×Int) (fun ((i2,i3,i4):Int×Int×Int)=>
 bif decide (i3<(↑l1.length:Int)) then
 gd (decide (0≤i3)) <|
 (l1[i3.toNat]?).bind fun q5=>
 bif decide (q5.At<i4) then
 some (Sum.inr (Sum.inl (i3,q5.At)))
 else
 bif decide (l.ae.e7<q5.At) then
 some (Sum.inr (Sum.inl (i3,q5.At)))
 else
 (aa.lO q5.P).bind fun b6=>
 bif !b6 then
 some (Sum.inr (Sum.inl (i3,q5.At)))
 else
 some (Sum.inl (i2,IntKind.i64.wrap (i3+1),q5.At))
 else
 some (Sum.inr (Sum.inr (i2,i3,i4)))) (0,0,0)).bind fun w7=>
 Sum.elim (fun (i8,i9)=>
 some (!decide (0≤i8))) (fun (i10,i11,i12)=>
 some true) w7
noncomputable def Go.aa.eY(l:Queue):Option Bool:=
 bif l.af.Kind==1&&(l.af.A==0&&(l.af.B==0&&l.af.C==0)) then
 bif l.ae.e0==0&&(l.ae.e1==0&&(l.ae.e2==0&&(l.ae.e3==0&&(l.ae.e4==0&&(l.ae.e5==0&&(l.ae.e6==0&&0==0)))))) then
 bif l.bm==0 then
 (aa.dH l.ae.e7 0 10000000).bind fun b1=>
 bif b1 then
 (aa.dH l.Room 1 500).bind fun b2=>
 bif b2 then
 bif (↑l.ah.length:Int)==1 then
 (aa.bH l).bind fun l3=>
 bif decide ((↑l3.length:Int)≤l.Room) then
 (aa.gF l).bind fun b4=>
 some b4
 else
 some false
 else
 some false
 else
 some false
 else
 some false
 else
 some false
 else
 some false
 else
 some false
noncomputable def Go.aa.lk(q:Queue):Option Bool:=
 (aa.eY q).bind fun b1=>
 some b1
noncomputable def Go.aa.kc(l:Queue)(now:Int):Option Int:=
 (aa.eY l).bind fun b1=>
 bif !b1 then
 some 1
 else
 (aa.dH now 0 10000000).bind fun b2=>
 bif !b2 then
 some 1
 else
 bif decide (now<l.ae.e7) then
 some 18
 else
 some 0
noncomputable def Go.aa.eN(l:Queue)(list:List ai)(now:Int):Option Queue:=
 (aa.ff list).bind fun l1=>
 some (Queue.mk l.af l.Room [l1] (A8.mk l.ae.e0 l.ae.e1 l.ae.e2 l.ae.e3 l.ae.e4 l.ae.e5 l.ae.e6 now) l.bm)
noncomputable def Go.aa.FT(q:Queue)(p:an)(now:Int):Option (Queue×(List an)×Int):=
 (aa.lO p).bind fun b1=>
 bif !b1 then
 some (zQ,[],1)
 else
 (aa.kc q now).bind fun i2=>
 bif !i2==0 then
 some (zQ,[],i2)
 else
 (aa.bH q).bind fun l3=>
 bif (↑l3.length:Int)==q.Room then
 (aa.bH q).bind fun l4=>
 (aa.eN q l4 now).bind fun q5=>
 some (q5,[p],0)
 else
 (aa.bH q).bind fun l6=>
 (aa.lJ [l6,[ai.mk p now]]).bind fun l7=>
 (aa.eN q l7 now).bind fun q8=>
 some (q8,[],0)
noncomputable def Go.aa.pS(q:Queue)(now:Int):Option (Queue×an×Bool×(List an)×Int):=
 (aa.kc q now).bind fun i1=>
 bif !i1==0 then
 some (zQ,zP,false,[],i1)
 else
 (aa.bH q).bind fun l2=>
 bif (↑l2.length:Int)==0 then
 (aa.eN q [] now:Option Queue).bind fun q3=>
 some (q3,zP,false,[],0)
 else
 (aa.bH q).bind fun l4=>
 gd (decide (1≤l4.length)) <|
 (aa.eN q (List.drop 1 l4) now).bind fun q5=>
 (aa.bH q).bind fun l6=>
 (l6[0]?).bind fun q7=>
 some (q5,q7.P,true,[],0)
noncomputable def Go.aa.eO(n:Int)(low:Int)(high:Int):Option Bool:=
 bif decide (low≤n) then
 some (decide (n≤high))
 else
 some false
noncomputable def Go.aa.gS(p:an):Option Bool:=
 (aa.eO p.aH 0 7).bind fun b1=>
 bif b1 then
 (aa.eO p.Sub 0 3).bind fun b2=>
 bif b2 then
 (aa.eO p.Number 0 1000000000).bind fun b3=>
 bif b3 then
 (aa.eO p.Data 0 1000000000).bind fun b4=>
 bif b4 then
 (aa.eO p.az 1 10000).bind fun b5=>
 bif b5 then
 (aa.eO p.aQ 0 10000000).bind fun b6=>
 some b6
 else
 some false
 else
 some false
 else
 some false
 else
 some false
 else
 some false
noncomputable def Go.aa.gk(q:Queue):Option Bool:=
 (q.ah[0]?).bind fun l1=>
 (aX (ω:=Bool ⊕ Bool×Int×Int) (fun ((b2,i3,i4):Bool×Int×Int)=>
 bif decide (i4<(↑l1.length:Int)) then
 gd (decide (0≤i4)) <|
 (l1[i4.toNat]?).bind fun q5=>
 (aa.gS q5.P).bind fun b6=>
 bif !b6 then
 some (Sum.inr (Sum.inl false))
 else
 (aa.eO q5.At i3 q.ae.e7).bind fun b7=>
 bif !b7 then
 some (Sum.inr (Sum.inl false))
 else
 some (Sum.inl (b2,q5.At,IntKind.i64.wrap (i4+1)))
 else
 some (Sum.inr (Sum.inr (b2,i3,i4)))) (false,0,0)).bind fun w8=>
 Sum.elim (fun b9=>
 some b9) (fun (yf,i11,i12)=>
 (q.ah[0]?).bind fun l13=>
 some (decide ((↑l13.length:Int)≤q.Room))) w8
noncomputable def Go.aa.fY(q:Queue):Option Bool:=
 bif !q.af.Kind==2 then
 some false
 else
 bif decide (q.af.A<1) then
 some false
 else
 bif decide (q.af.B≤q.af.A) then
 some false
 else
 bif decide (500<q.af.B) then
 some false
 else
 (aa.eO q.af.C 0 10).bind fun b1=>
 bif !b1 then
 some false
 else
 (aa.eO q.Room 1 500).bind fun b2=>
 bif !b2 then
 some false
 else
 bif !(↑q.ah.length:Int)==1 then
 some false
 else
 bif 0==0&&(q.ae.e1==0&&(q.ae.e2==0&&(q.ae.e3==0&&(q.ae.e4==0&&(q.ae.e5==0&&(q.ae.e6==0&&0==0)))))) then
 (aa.eO q.ae.e0 0 512000).bind fun b3=>
 bif b3 then
 (aa.eO q.ae.e7 0 10000000).bind fun b4=>
 bif b4 then
 (aa.gk q).bind fun b5=>
 some b5
 else
 some false
 else
 some false
 else
 some false
noncomputable def Go.aa.oi(DS:Int):Option (Int×Int):=
 (aX (ω:=Int×Int) (fun ((i1,i2):Int×Int)=>
 bif decide (i2<3) then
 gd (decide (0≤i2)) <|
 bif decide (i2.toNat=0) then
 gd (decide (0≤i2)) <|
 bif decide (i2.toNat=0) then
 some (Sum.inl (IntKind.u64.wrap (IntKind.u64.wrap (↑(BitVec.ofInt 64 i1 ^^^ BitVec.ofInt 64 (i1.fdiv (2^min 30 64))).toNat:Int)*13787848793156543929),IntKind.i64.wrap (i2+1)))
 else
 bif decide (i2.toNat=1) then
 some (Sum.inl (IntKind.u64.wrap (IntKind.u64.wrap (↑(BitVec.ofInt 64 i1 ^^^ BitVec.ofInt 64 (i1.fdiv (2^min 30 64))).toNat:Int)*10723151780598845931),IntKind.i64.wrap (i2+1)))
 else
 gd (decide (i2.toNat=2)) <|
 some (Sum.inl (IntKind.u64.wrap (IntKind.u64.wrap (↑(BitVec.ofInt 64 i1 ^^^ BitVec.ofInt 64 (i1.fdiv (2^min 30 64))).toNat:Int)*1),IntKind.i64.wrap (i2+1)))
 else
 bif decide (i2.toNat=1) then
 gd (decide (0≤i2)) <|
 bif decide (i2.toNat=0) then
 some (Sum.inl (IntKind.u64.wrap (IntKind.u64.wrap (↑(BitVec.ofInt 64 i1 ^^^ BitVec.ofInt 64 (i1.fdiv (2^min 27 64))).toNat:Int)*13787848793156543929),IntKind.i64.wrap (i2+1)))
 else
 bif decide (i2.toNat=1) then
 some (Sum.inl (IntKind.u64.wrap (IntKind.u64.wrap (↑(BitVec.ofInt 64 i1 ^^^ BitVec.ofInt 64 (i1.fdiv (2^min 27 64))).toNat:Int)*10723151780598845931),IntKind.i64.wrap (i2+1)))
 else
 gd (decide (i2.toNat=2)) <|
 some (Sum.inl (IntKind.u64.wrap (IntKind.u64.wrap (↑(BitVec.ofInt 64 i1 ^^^ BitVec.ofInt 64 (i1.fdiv (2^min 27 64))).toNat:Int)*1),IntKind.i64.wrap (i2+1)))
 else
 gd (decide (i2.toNat=2)) <|
 gd (decide (0≤i2)) <|
 bif decide (i2.toNat=0) then
 some (Sum.inl (IntKind.u64.wrap (IntKind.u64.wrap (↑(BitVec.ofInt 64 i1 ^^^ BitVec.ofInt 64 (i1.fdiv (2^min 31 64))).toNat:Int)*13787848793156543929),IntKind.i64.wrap (i2+1)))
 else
 bif decide (i2.toNat=1) then
 some (Sum.inl (IntKind.u64.wrap (IntKind.u64.wrap (↑(BitVec.ofInt 64 i1 ^^^ BitVec.ofInt 64 (i1.fdiv (2^min 31 64))).toNat:Int)*10723151780598845931),IntKind.i64.wrap (i2+1)))
 else
 gd (decide (i2.toNat=2)) <|
 some (Sum.inl (IntKind.u64.wrap (IntKind.u64.wrap (↑(BitVec.ofInt 64 i1 ^^^ BitVec.ofInt 64 (i1.fdiv (2^min 31 64))).toNat:Int)*1),IntKind.i64.wrap (i2+1)))
 else
 some (Sum.inr (i1,i2))) (IntKind.u64.wrap (DS+11400714819323198485),0)).bind fun (i3,i4)=>
 some (i3,IntKind.u64.wrap (DS+11400714819323198485))
noncomputable def Go.aa.cJ(DS:Int)(n:Int):Option (Int×Int×Int):=
 bif decide (n<1) then
 some (0,0,1)
 else
 bif decide (1000000000<n) then
 some (0,0,1)
 else
 (aa.oi DS).bind fun (i1,i2)=>
 bif decide (n=0) then
 none
 else
 some ((IntKind.i64.wrap (i1.fdiv (2^min 32 64))).tmod n,i2,0)
noncomputable def Go.aa.CN(q:Queue)(p:an)(now:Int):Option (Queue×(List an)×Int):=
 (aa.gS p).bind fun b1=>
 bif !b1 then
 some (zQ,[],1)
 else
 (aa.fY q).bind fun b2=>
 bif !b2 then
 some (zQ,[],1)
 else
 (aa.eO now 0 10000000).bind fun b3=>
 bif !b3 then
 some (zQ,[],1)
 else
 bif decide (now<q.ae.e7) then
 some (zQ,[],18)
 else
 (q.ah[0]?).bind fun l4=>
 bif l4.isEmpty then
 bif decide (q.af.C<0) then
 none
 else
 bif 0==q.Room then
 some (Queue.mk q.af q.Room [[]] (A8.mk (IntKind.i64.wrap (q.ae.e0+(IntKind.i64.wrap (IntKind.i64.wrap (1024*0)-q.ae.e0)).fdiv (2^min q.af.C.toNat 64))) q.ae.e1 q.ae.e2 q.ae.e3 q.ae.e4 q.ae.e5 q.ae.e6 now) q.bm,[p],0)
 else
 bif decide (IntKind.i64.wrap (IntKind.i64.wrap (q.ae.e0+(IntKind.i64.wrap (IntKind.i64.wrap (1024*0)-q.ae.e0)).fdiv (2^min q.af.C.toNat 64))-IntKind.i64.wrap (1024*q.af.A))<0) then
 some (Queue.mk q.af q.Room [[ai.mk p now]] (A8.mk (IntKind.i64.wrap (q.ae.e0+(IntKind.i64.wrap (IntKind.i64.wrap (1024*0)-q.ae.e0)).fdiv (2^min q.af.C.toNat 64))) q.ae.e1 q.ae.e2 q.ae.e3 q.ae.e4 q.ae.e5 q.ae.e6 now) q.bm,[],0)
 else
 bif decide (IntKind.i64.wrap (1024*IntKind.i64.wrap (q.af.B-q.af.A))≤IntKind.i64.wrap (IntKind.i64.wrap (q.ae.e0+(IntKind.i64.wrap (IntKind.i64.wrap (1024*0)-q.ae.e0)).fdiv (2^min q.af.C.toNat 64))-IntKind.i64.wrap (1024*q.af.A))) then
 bif !p.aJ then
 some (Queue.mk q.af q.Room [[]] (A8.mk (IntKind.i64.wrap (q.ae.e0+(IntKind.i64.wrap (IntKind.i64.wrap (1024*0)-q.ae.e0)).fdiv (2^min q.af.C.toNat 64))) q.ae.e1 q.ae.e2 q.ae.e3 q.ae.e4 q.ae.e5 q.ae.e6 now) q.bm,[p],0)
 else
 some (Queue.mk q.af q.Room [[ai.mk (an.mk p.aH p.Sub p.Number p.Data p.az p.aQ p.aJ true) now]] (A8.mk (IntKind.i64.wrap (q.ae.e0+(IntKind.i64.wrap (IntKind.i64.wrap (1024*0)-q.ae.e0)).fdiv (2^min q.af.C.toNat 64))) q.ae.e1 q.ae.e2 q.ae.e3 q.ae.e4 q.ae.e5 q.ae.e6 now) q.bm,[],0)
 else
 (aa.cJ q.bm (IntKind.i64.wrap (1024*IntKind.i64.wrap (q.af.B-q.af.A)))).bind fun (i5,i6,i7)=>
 bif decide (i5<IntKind.i64.wrap (IntKind.i64.wrap (q.ae.e0+(IntKind.i64.wrap (IntKind.i64.wrap (1024*0)-q.ae.e0)).fdiv (2^min q.af.C.toNat 64))-IntKind.i64.wrap (1024*q.af.A))) then
 bif !p.aJ then
 some (Queue.mk q.af q.Room [[]] (A8.mk (IntKind.i64.wrap (q.ae.e0+(IntKind.i64.wrap (IntKind.i64.wrap (1024*0)-q.ae.e0)).fdiv (2^min q.af.C.toNat 64))) q.ae.e1 q.ae.e2 q.ae.e3 q.ae.e4 q.ae.e5 q.ae.e6 now) i6,[p],0)
 else
 some (Queue.mk q.af q.Room [[ai.mk (an.mk p.aH p.Sub p.Number p.Data p.az p.aQ p.aJ true) now]] (A8.mk (IntKind.i64.wrap (q.ae.e0+(IntKind.i64.wrap (IntKind.i64.wrap (1024*0)-q.ae.e0)).fdiv (2^min q.af.C.toNat 64))) q.ae.e1 q.ae.e2 q.ae.e3 q.ae.e4 q.ae.e5 q.ae.e6 now) i6,[],0)
 else
 some (Queue.mk q.af q.Room [[ai.mk p now]] (A8.mk (IntKind.i64.wrap (q.ae.e0+(IntKind.i64.wrap (IntKind.i64.wrap (1024*0)-q.ae.e0)).fdiv (2^min q.af.C.toNat 64))) q.ae.e1 q.ae.e2 q.ae.e3 q.ae.e4 q.ae.e5 q.ae.e6 now) i6,[],0)
 else
 gd (decide (l4.length*64≤2^44)&&decide (l4.length≤2^44)) <|
 bif decide (q.af.C<0) then
 none
 else
 bif (↑l4.length:Int)==q.Room then
 some (Queue.mk q.af q.Room [l4] (A8.mk (IntKind.i64.wrap (q.ae.e0+(IntKind.i64.wrap (IntKind.i64.wrap (1024*(↑l4.length:Int))-q.ae.e0)).fdiv (2^min q.af.C.toNat 64))) q.ae.e1 q.ae.e2 q.ae.e3 q.ae.e4 q.ae.e5 q.ae.e6 now) q.bm,[p],0)
 else
 bif decide (IntKind.i64.wrap (IntKind.i64.wrap (q.ae.e0+(IntKind.i64.wrap (IntKind.i64.wrap (1024*(↑l4.length:Int))-q.ae.e0)).fdiv (2^min q.af.C.toNat 64))-IntKind.i64.wrap (1024*q.af.A))<0) then
 gd (decide ((l4.length+1)*64≤2^44)&&decide (l4.length+1≤2^44)) <|
 some (Queue.mk q.af q.Room [l4++[ai.mk p now]] (A8.mk (IntKind.i64.wrap (q.ae.e0+(IntKind.i64.wrap (IntKind.i64.wrap (1024*(↑l4.length:Int))-q.ae.e0)).fdiv (2^min q.af.C.toNat 64))) q.ae.e1 q.ae.e2 q.ae.e3 q.ae.e4 q.ae.e5 q.ae.e6 now) q.bm,[],0)
 else
 bif decide (IntKind.i64.wrap (1024*IntKind.i64.wrap (q.af.B-q.af.A))≤IntKind.i64.wrap (IntKind.i64.wrap (q.ae.e0+(IntKind.i64.wrap (IntKind.i64.wrap (1024*(↑l4.length:Int))-q.ae.e0)).fdiv (2^min q.af.C.toNat 64))-IntKind.i64.wrap (1024*q.af.A))) then
 bif !p.aJ then
 some (Queue.mk q.af q.Room [l4] (A8.mk (IntKind.i64.wrap (q.ae.e0+(IntKind.i64.wrap (IntKind.i64.wrap (1024*(↑l4.length:Int))-q.ae.e0)).fdiv (2^min q.af.C.toNat 64))) q.ae.e1 q.ae.e2 q.ae.e3 q.ae.e4 q.ae.e5 q.ae.e6 now) q.bm,[p],0)
 else
 gd (decide ((l4.length+1)*64≤2^44)&&decide (l4.length+1≤2^44)) <|
 some (Queue.mk q.af q.Room [l4++[ai.mk (an.mk p.aH p.Sub p.Number p.Data p.az p.aQ p.aJ true) now]] (A8.mk (IntKind.i64.wrap (q.ae.e0+(IntKind.i64.wrap (IntKind.i64.wrap (1024*(↑l4.length:Int))-q.ae.e0)).fdiv (2^min q.af.C.toNat 64))) q.ae.e1 q.ae.e2 q.ae.e3 q.ae.e4 q.ae.e5 q.ae.e6 now) q.bm,[],0)
 else
 (aa.cJ q.bm (IntKind.i64.wrap (1024*IntKind.i64.wrap (q.af.B-q.af.A)))).bind fun (i8,i9,i10)=>
 bif decide (i8<IntKind.i64.wrap (IntKind.i64.wrap (q.ae.e0+(IntKind.i64.wrap (IntKind.i64.wrap (1024*(↑l4.length:Int))-q.ae.e0)).fdiv (2^min q.af.C.toNat 64))-IntKind.i64.wrap (1024*q.af.A))) then
 bif !p.aJ then
 some (Queue.mk q.af q.Room [l4] (A8.mk (IntKind.i64.wrap (q.ae.e0+(IntKind.i64.wrap (IntKind.i64.wrap (1024*(↑l4.length:Int))-q.ae.e0)).fdiv (2^min q.af.C.toNat 64))) q.ae.e1 q.ae.e2 q.ae.e3 q.ae.e4 q.ae.e5 q.ae.e6 now) i9,[p],0)
 else
 gd (decide ((l4.length+1)*64≤2^44)&&decide (l4.length+1≤2^44)) <|
 some (Queue.mk q.af q.Room [l4++[ai.mk (an.mk p.aH p.Sub p.Number p.Data p.az p.aQ p.aJ true) now]] (A8.mk (IntKind.i64.wrap (q.ae.e0+(IntKind.i64.wrap (IntKind.i64.wrap (1024*(↑l4.length:Int))-q.ae.e0)).fdiv (2^min q.af.C.toNat 64))) q.ae.e1 q.ae.e2 q.ae.e3 q.ae.e4 q.ae.e5 q.ae.e6 now) i9,[],0)
 else
 gd (decide ((l4.length+1)*64≤2^44)&&decide (l4.length+1≤2^44)) <|
 some (Queue.mk q.af q.Room [l4++[ai.mk p now]] (A8.mk (IntKind.i64.wrap (q.ae.e0+(IntKind.i64.wrap (IntKind.i64.wrap (1024*(↑l4.length:Int))-q.ae.e0)).fdiv (2^min q.af.C.toNat 64))) q.ae.e1 q.ae.e2 q.ae.e3 q.ae.e4 q.ae.e5 q.ae.e6 now) i9,[],0)
noncomputable def Go.aa.nx(q:Queue)(now:Int):Option (Queue×an×Bool×(List an)×Int):=
 (aa.fY q).bind fun b1=>
 bif !b1 then
 some (zQ,zP,false,[],1)
 else
 (aa.eO now 0 10000000).bind fun b2=>
 bif !b2 then
 some (zQ,zP,false,[],1)
 else
 bif decide (now<q.ae.e7) then
 some (zQ,zP,false,[],18)
 else
 (q.ah[0]?).bind fun l3=>
 bif l3.isEmpty then
 some (Queue.mk q.af q.Room [[]] (A8.mk q.ae.e0 q.ae.e1 q.ae.e2 q.ae.e3 q.ae.e4 q.ae.e5 q.ae.e6 now) q.bm,zP,false,[],0)
 else
 gd (decide (l3.length*64≤2^44)&&decide (l3.length≤2^44)) <|
 bif (↑l3.length:Int)==0 then
 some (Queue.mk q.af q.Room [l3] (A8.mk q.ae.e0 q.ae.e1 q.ae.e2 q.ae.e3 q.ae.e4 q.ae.e5 q.ae.e6 now) q.bm,zP,false,[],0)
 else
 gd (decide (1≤(↑l3.length:Int).toNat)&&decide ((↑l3.length:Int).toNat≤(↑l3.length:Int).toNat)&&decide ((↑l3.length:Int).toNat≤none.getD (l3.length-0))&&decide (0<l3.length)) <|
 gd (decide (0<l3.length)) <|
 (l3[0]?).bind fun q4=>
 gd (decide (1+((↑l3.length:Int).toNat-1)≤l3.length)) <|
 some (Queue.mk q.af q.Room [List.take ((↑l3.length:Int).toNat-1) (List.drop 1 l3)] (A8.mk q.ae.e0 q.ae.e1 q.ae.e2 q.ae.e3 q.ae.e4 q.ae.e5 q.ae.e6 now) q.bm,q4.P,true,[],0)
noncomputable def Go.aa.bo(n:Int)(low:Int)(high:Int):Option Bool:=
 bif decide (low≤n) then
 some (decide (n≤high))
 else
 some false
noncomputable def Go.aa.eR(n:Int):Option Bool:=
 (aa.bo n 0 10000000).bind fun b1=>
 some b1
noncomputable def Go.aa.eE(p:an):Option Bool:=
 (aa.bo p.aH 0 7).bind fun b1=>
 bif b1 then
 (aa.bo p.Sub 0 3).bind fun b2=>
 bif b2 then
 (aa.bo p.Number 0 1000000000).bind fun b3=>
 bif b3 then
 (aa.bo p.Data 0 1000000000).bind fun b4=>
 bif b4 then
 (aa.bo p.az 1 10000).bind fun b5=>
 bif b5 then
 (aa.eR p.aQ).bind fun b6=>
 some b6
 else
 some false
 else
 some false
 else
 some false
 else
 some false
 else
 some false
noncomputable def Go.aa.eu(q:Queue):Option Bool:=
 bif !q.af.Kind==3 then
 some false
 else
 (aa.bo q.af.A 0 1000000).bind fun b1=>
 bif !b1 then
 some false
 else
 (aa.bo q.af.B 1 1000000).bind fun b2=>
 bif !b2 then
 some false
 else
 bif !q.af.C==0 then
 some false
 else
 (aa.bo q.Room 1 500).bind fun b3=>
 bif !b3 then
 some false
 else
 bif !(↑q.ah.length:Int)==1 then
 some false
 else
 bif !q.bm==0 then
 some false
 else
 (aa.eR q.ae.e7).bind fun b4=>
 bif !b4 then
 some false
 else
 (aa.bo q.ae.e0 0 (IntKind.i64.wrap (IntKind.i64.wrap (q.ae.e7+q.af.B)+1))).bind fun b5=>
 bif !b5 then
 some false
 else
 (aa.bo q.ae.e1 0 1000000000).bind fun b6=>
 bif !b6 then
 some false
 else
 bif q.ae.e0==0 then
 bif !q.ae.e1==0 then
 some false
 else
 (q.ah[0]?).bind fun l7=>
 bif decide (q.Room<(↑l7.length:Int)) then
 some false
 else
 bif !q.ae.e2==0 then
 some false
 else
 bif !q.ae.e3==0 then
 some false
 else
 bif !q.ae.e4==0 then
 some false
 else
 bif !q.ae.e5==0 then
 some false
 else
 bif !q.ae.e6==0 then
 some false
 else
 (q.ah[0]?).bind fun l8=>
 (aX (ω:=Bool ⊕ Bool×Int×Int) (fun ((b9,i10,i11):Bool×Int×Int)=>
 bif decide (i11<(↑l8.length:Int)) then
 gd (decide (0≤i11)) <|
 (l8[i11.toNat]?).bind fun BA=>
 (aa.eE BA.P).bind fun ue=>
 bif !ue then
 some (Sum.inr (Sum.inl false))
 else
 (aa.bo BA.At i10 q.ae.e7).bind fun ll=>
 bif !ll then
 some (Sum.inr (Sum.inl false))
 else
 some (Sum.inl (b9,BA.At,IntKind.i64.wrap (i11+1)))
 else
 some (Sum.inr (Sum.inr (b9,i10,i11)))) (false,0,0)).bind fun w15=>
 Sum.elim (fun BN=>
 some BN) (fun (FU,i18,i19)=>
 some true) w15
 else
 (q.ah[0]?).bind fun jg=>
 bif decide (q.Room<(↑jg.length:Int)) then
 some false
 else
 bif !q.ae.e2==0 then
 some false
 else
 bif !q.ae.e3==0 then
 some false
 else
 bif !q.ae.e4==0 then
 some false
 else
 bif !q.ae.e5==0 then
 some false
 else
 bif !q.ae.e6==0 then
 some false
 else
 (q.ah[0]?).bind fun yj=>
 (aX (ω:=Bool ⊕ Bool×Int×Int) (fun ((JW,i23,i24):Bool×Int×Int)=>
 bif decide (i24<(↑yj.length:Int)) then
 gd (decide (0≤i24)) <|
 (yj[i24.toNat]?).bind fun Sn=>
 (aa.eE Sn.P).bind fun Un=>
 bif !Un then
 some (Sum.inr (Sum.inl false))
 else
 (aa.bo Sn.At i23 q.ae.e7).bind fun PO=>
 bif !PO then
 some (Sum.inr (Sum.inl false))
 else
 some (Sum.inl (JW,Sn.At,IntKind.i64.wrap (i24+1)))
 else
 some (Sum.inr (Sum.inr (JW,i23,i24)))) (false,0,0)).bind fun w28=>
 Sum.elim (fun b29=>
 some b29) (fun (b30,i31,i32)=>
 some true) w28
noncomputable def Go.aa.yk(q:Queue)(p:an)(now:Int):Option (Queue×(List an)×Int):=
 (aa.eE p).bind fun b1=>
 bif !b1 then
 some (zQ,[],1)
 else
 (aa.eu q).bind fun b2=>
 bif !b2 then
 some (zQ,[],1)
 else
 (aa.eR now).bind fun b3=>
 bif !b3 then
 some (zQ,[],1)
 else
 bif decide (now<q.ae.e7) then
 some (zQ,[],18)
 else
 (q.ah[0]?).bind fun l4=>
 (q.ah[0]?).bind fun l5=>
 gd (decide (0≤IntKind.i64.wrap ((↑l5.length:Int)+1))) <|
 gd (decide ((↑l4.length:Int).toNat≤(IntKind.i64.wrap ((↑l5.length:Int)+1)).toNat)&&decide ((IntKind.i64.wrap ((↑l5.length:Int)+1)).toNat*64≤2^47)&&decide ((IntKind.i64.wrap ((↑l5.length:Int)+1)).toNat<2^62)) <|
 (q.ah[0]?).bind fun l6=>
 gd (decide (0+(↑l4.length:Int).toNat≤(List.replicate (IntKind.i64.wrap ((↑l5.length:Int)+1)).toNat zW).length)&&decide (l6.length≤(↑l4.length:Int).toNat)) <|
 bif decide (q.Room≤(↑(↑l4.length:Int).toNat:Int)) then
 gd (decide (0+(↑l4.length:Int).toNat≤(l6++List.drop (0+l6.length) (List.replicate (IntKind.i64.wrap ((↑l5.length:Int)+1)).toNat zW)).length)) <|
 some (Queue.mk q.af q.Room [List.take (↑l4.length:Int).toNat (List.drop 0 (l6++List.drop (0+l6.length) (List.replicate (IntKind.i64.wrap ((↑l5.length:Int)+1)).toNat zW)))] (A8.mk q.ae.e0 q.ae.e1 q.ae.e2 q.ae.e3 q.ae.e4 q.ae.e5 q.ae.e6 now) q.bm,[p],0)
 else
 gd (decide ((↑l4.length:Int).toNat+1≤(IntKind.i64.wrap ((↑l5.length:Int)+1)).toNat)&&decide (0+(↑l4.length:Int).toNat+1≤(l6++List.drop (0+l6.length) (List.replicate (IntKind.i64.wrap ((↑l5.length:Int)+1)).toNat zW)).length)) <|
 gd (decide (0+((↑l4.length:Int).toNat+1)≤(List.take (0+(↑l4.length:Int).toNat) (l6++List.drop (0+l6.length) (List.replicate (IntKind.i64.wrap ((↑l5.length:Int)+1)).toNat zW))++([ai.mk p now]++List.drop (0+(↑l4.length:Int).toNat+1) (l6++List.drop (0+l6.length) (List.replicate (IntKind.i64.wrap ((↑l5.length:Int)+1)).toNat zW)))).length)) <|
 some (Queue.mk q.af q.Room [List.take ((↑l4.length:Int).toNat+1) (List.drop 0 (List.take (0+(↑l4.length:Int).toNat) (l6++List.drop (0+l6.length) (List.replicate (IntKind.i64.wrap ((↑l5.length:Int)+1)).toNat zW))++([ai.mk p now]++List.drop (0+(↑l4.length:Int).toNat+1) (l6++List.drop (0+l6.length) (List.replicate (IntKind.i64.wrap ((↑l5.length:Int)+1)).toNat zW)))))] (A8.mk q.ae.e0 q.ae.e1 q.ae.e2 q.ae.e3 q.ae.e4 q.ae.e5 q.ae.e6 now) q.bm,[],0)
noncomputable def Go.aa.ke(q:Queue)(now:Int):Option (Queue×an×Bool×(List an)×Int):=
 (aa.eu q).bind fun b1=>
 bif !b1 then
 some (zQ,zP,false,[],1)
 else
 (aa.eR now).bind fun b2=>
 bif !b2 then
 some (zQ,zP,false,[],1)
 else
 bif decide (now<q.ae.e7) then
 some (zQ,zP,false,[],18)
 else
 (q.ah[0]?).bind fun l3=>
 (q.ah[0]?).bind fun l4=>
 gd (decide (0≤IntKind.i64.wrap ((↑l4.length:Int)+1))) <|
 gd (decide ((↑l3.length:Int).toNat≤(IntKind.i64.wrap ((↑l4.length:Int)+1)).toNat)&&decide ((IntKind.i64.wrap ((↑l4.length:Int)+1)).toNat*64≤2^47)&&decide ((IntKind.i64.wrap ((↑l4.length:Int)+1)).toNat<2^62)) <|
 (q.ah[0]?).bind fun l5=>
 gd (decide (0+(↑l3.length:Int).toNat≤(List.replicate (IntKind.i64.wrap ((↑l4.length:Int)+1)).toNat zW).length)&&decide (l5.length≤(↑l3.length:Int).toNat)) <|
 (aX (ω:=Bool×Int×List an×List an×Int×Int×Int×Int×Int×Int×Int×Int×Int×Int×Int×Int×Int×Int×Int×Int×Int×Int×Int×Int×Int×Int×Int×Int×Bool×Bool×Int×Int×Int×Int×Int×Int×Int×Int×Int×Int×Int×Int×Int×Int ⊕ Bool×Int×List an×List an×Int×Int×Int×Int×Int×Int×Int×Int×Int×Int×Int×Int×Int×Int×Int×Int×Int×Int) (fun ((b6,i7,l8,l9,i10,i11,i12,i13,i14,i15,i16,i17,i18,i19,i20,i21,i22,i23,i24,i25,i26,i27):Bool×Int×List an×List an×Int×Int×Int×Int×Int×Int×Int×Int×Int×Int×Int×Int×Int×Int×Int×Int×Int×Int)=>
 bif decide (0<(↑i26.toNat:Int)) then
 gd (decide (0<i26.toNat)) <|
 ((l5++List.drop (0+l5.length) (List.replicate (IntKind.i64.wrap ((↑l4.length:Int)+1)).toNat zW))[i25.toNat+0]?).bind fun jv=>
 gd (decide (1≤i26.toNat)&&decide (i26.toNat≤(some i27.toNat).getD ((l5++List.drop (0+l5.length) (List.replicate (IntKind.i64.wrap ((↑l4.length:Int)+1)).toNat zW)).length-i25.toNat))&&decide (0<(l5++List.drop (0+l5.length) (List.replicate (IntKind.i64.wrap ((↑l4.length:Int)+1)).toNat zW)).length)) <|
 bif decide (IntKind.i64.wrap (now-jv.At)<i11) then
 bif jv.P.aB then
 some (Sum.inr (Sum.inl (true,0,l8,l9,i10,i11,i12,i13,i14,0,0,i17,i18,i19,i20,i21,i22,i23,i24,(↑(i25.toNat+1):Int),(↑(i26.toNat-1):Int),(↑(i27.toNat-1):Int),jv.P.aH,jv.P.Sub,jv.P.Number,jv.P.Data,jv.P.az,jv.P.aQ,jv.P.aJ,true,i10,i11,i12,i13,i14,0,0,i17,i18,i19,i20,i21,i22,i23)))
 else
 some (Sum.inr (Sum.inl (true,0,l8,l9,i10,i11,i12,i13,i14,0,0,i17,i18,i19,i20,i21,i22,i23,i24,(↑(i25.toNat+1):Int),(↑(i26.toNat-1):Int),(↑(i27.toNat-1):Int),jv.P.aH,jv.P.Sub,jv.P.Number,jv.P.Data,jv.P.az,jv.P.aQ,jv.P.aJ,false,i10,i11,i12,i13,i14,0,0,i17,i18,i19,i20,i21,i22,i23)))
 else
 bif i15==0 then
 bif jv.P.aB then
 some (Sum.inr (Sum.inl (true,0,l8,l9,i10,i11,i12,i13,i14,IntKind.i64.wrap (IntKind.i64.wrap (i24+i12)+1),i16,i17,i18,i19,i20,i21,i22,i23,i24,(↑(i25.toNat+1):Int),(↑(i26.toNat-1):Int),(↑(i27.toNat-1):Int),jv.P.aH,jv.P.Sub,jv.P.Number,jv.P.Data,jv.P.az,jv.P.aQ,jv.P.aJ,true,i10,i11,i12,i13,i14,IntKind.i64.wrap (IntKind.i64.wrap (i24+i12)+1),i16,i17,i18,i19,i20,i21,i22,i23)))
 else
 some (Sum.inr (Sum.inl (true,0,l8,l9,i10,i11,i12,i13,i14,IntKind.i64.wrap (IntKind.i64.wrap (i24+i12)+1),i16,i17,i18,i19,i20,i21,i22,i23,i24,(↑(i25.toNat+1):Int),(↑(i26.toNat-1):Int),(↑(i27.toNat-1):Int),jv.P.aH,jv.P.Sub,jv.P.Number,jv.P.Data,jv.P.az,jv.P.aQ,jv.P.aJ,false,i10,i11,i12,i13,i14,IntKind.i64.wrap (IntKind.i64.wrap (i24+i12)+1),i16,i17,i18,i19,i20,i21,i22,i23)))
 else
 bif decide (IntKind.i64.wrap (i15-1)≤i24) then
 bif decide (IntKind.i64.wrap ((if IntKind.i64.wrap (i16+1)<1000000000 then IntKind.i64.wrap (i16+1) else 1000000000)+1)=0) then
 none
 else
 bif !jv.P.aJ then
 gd (decide ((l9.length+1)*56≤2^44)&&decide (l9.length+1≤2^44)) <|
 some (Sum.inl (b6,i7,l8,l9++[jv.P],i10,i11,i12,i13,i14,IntKind.i64.wrap (i15+if 1<IntKind.i64.wrap (i12.tdiv (IntKind.i64.wrap ((if IntKind.i64.wrap (i16+1)<1000000000 then IntKind.i64.wrap (i16+1) else 1000000000)+1))) then IntKind.i64.wrap (i12.tdiv (IntKind.i64.wrap ((if IntKind.i64.wrap (i16+1)<1000000000 then IntKind.i64.wrap (i16+1) else 1000000000)+1))) else 1),if IntKind.i64.wrap (i16+1)<1000000000 then IntKind.i64.wrap (i16+1) else 1000000000,i17,i18,i19,i20,i21,i22,i23,i24,(↑(i25.toNat+1):Int),(↑(i26.toNat-1):Int),(↑(i27.toNat-1):Int)))
 else
 bif jv.P.aB then
 some (Sum.inr (Sum.inl (true,0,l8,l9,i10,i11,i12,i13,i14,IntKind.i64.wrap (i15+if 1<IntKind.i64.wrap (i12.tdiv (IntKind.i64.wrap ((if IntKind.i64.wrap (i16+1)<1000000000 then IntKind.i64.wrap (i16+1) else 1000000000)+1))) then IntKind.i64.wrap (i12.tdiv (IntKind.i64.wrap ((if IntKind.i64.wrap (i16+1)<1000000000 then IntKind.i64.wrap (i16+1) else 1000000000)+1))) else 1),if IntKind.i64.wrap (i16+1)<1000000000 then IntKind.i64.wrap (i16+1) else 1000000000,i17,i18,i19,i20,i21,i22,i23,i24,(↑(i25.toNat+1):Int),(↑(i26.toNat-1):Int),(↑(i27.toNat-1):Int),jv.P.aH,jv.P.Sub,jv.P.Number,jv.P.Data,jv.P.az,jv.P.aQ,jv.P.aJ,true,i10,i11,i12,i13,i14,IntKind.i64.wrap (i15+if 1<IntKind.i64.wrap (i12.tdiv (IntKind.i64.wrap ((if IntKind.i64.wrap (i16+1)<1000000000 then IntKind.i64.wrap (i16+1) else 1000000000)+1))) then IntKind.i64.wrap (i12.tdiv (IntKind.i64.wrap ((if IntKind.i64.wrap (i16+1)<1000000000 then IntKind.i64.wrap (i16+1) else 1000000000)+1))) else 1),if IntKind.i64.wrap (i16+1)<1000000000 then IntKind.i64.wrap (i16+1) else 1000000000,i17,i18,i19,i20,i21,i22,i23)))
 else
 some (Sum.inr (Sum.inl (true,0,l8,l9,i10,i11,i12,i13,i14,IntKind.i64.wrap (i15+if 1<IntKind.i64.wrap (i12.tdiv (IntKind.i64.wrap ((if IntKind.i64.wrap (i16+1)<1000000000 then IntKind.i64.wrap (i16+1) else 1000000000)+1))) then IntKind.i64.wrap (i12.tdiv (IntKind.i64.wrap ((if IntKind.i64.wrap (i16+1)<1000000000 then IntKind.i64.wrap (i16+1) else 1000000000)+1))) else 1),if IntKind.i64.wrap (i16+1)<1000000000 then IntKind.i64.wrap (i16+1) else 1000000000,i17,i18,i19,i20,i21,i22,i23,i24,(↑(i25.toNat+1):Int),(↑(i26.toNat-1):Int),(↑(i27.toNat-1):Int),jv.P.aH,jv.P.Sub,jv.P.Number,jv.P.Data,jv.P.az,jv.P.aQ,jv.P.aJ,true,i10,i11,i12,i13,i14,IntKind.i64.wrap (i15+if 1<IntKind.i64.wrap (i12.tdiv (IntKind.i64.wrap ((if IntKind.i64.wrap (i16+1)<1000000000 then IntKind.i64.wrap (i16+1) else 1000000000)+1))) then IntKind.i64.wrap (i12.tdiv (IntKind.i64.wrap ((if IntKind.i64.wrap (i16+1)<1000000000 then IntKind.i64.wrap (i16+1) else 1000000000)+1))) else 1),if IntKind.i64.wrap (i16+1)<1000000000 then IntKind.i64.wrap (i16+1) else 1000000000,i17,i18,i19,i20,i21,i22,i23)))
 else
 bif jv.P.aB then
 some (Sum.inr (Sum.inl (true,0,l8,l9,i10,i11,i12,i13,i14,i15,i16,i17,i18,i19,i20,i21,i22,i23,i24,(↑(i25.toNat+1):Int),(↑(i26.toNat-1):Int),(↑(i27.toNat-1):Int),jv.P.aH,jv.P.Sub,jv.P.Number,jv.P.Data,jv.P.az,jv.P.aQ,jv.P.aJ,true,i10,i11,i12,i13,i14,i15,i16,i17,i18,i19,i20,i21,i22,i23)))
 else
 some (Sum.inr (Sum.inl (true,0,l8,l9,i10,i11,i12,i13,i14,i15,i16,i17,i18,i19,i20,i21,i22,i23,i24,(↑(i25.toNat+1):Int),(↑(i26.toNat-1):Int),(↑(i27.toNat-1):Int),jv.P.aH,jv.P.Sub,jv.P.Number,jv.P.Data,jv.P.az,jv.P.aQ,jv.P.aJ,false,i10,i11,i12,i13,i14,i15,i16,i17,i18,i19,i20,i21,i22,i23)))
 else
 some (Sum.inr (Sum.inr (b6,i7,l8,l9,i10,i11,i12,i13,i14,i15,i16,i17,i18,i19,i20,i21,i22,i23,i24,(↑i25.toNat:Int),(↑i26.toNat:Int),(↑i27.toNat:Int))))) (false,0,[],[],q.af.Kind,q.af.A,q.af.B,q.af.C,q.Room,q.ae.e0,q.ae.e1,q.ae.e2,q.ae.e3,q.ae.e4,q.ae.e5,q.ae.e6,now,q.bm,now,(↑0:Int),(↑(↑l3.length:Int).toNat:Int),(↑(IntKind.i64.wrap ((↑l4.length:Int)+1)).toNat:Int))).bind fun w29=>
 Sum.elim (fun (b30,i31,ko,yW,i34,i35,i36,i37,i38,i39,i40,i41,i42,i43,i44,i45,i46,i47,i48,i49,i50,i51,i52,i53,i54,i55,i56,i57,b58,b59,i60,i61,i62,i63,i64,i65,i66,i67,i68,i69,i70,i71,i72,i73)=>
 bif decide (i49.toNat+i50.toNat≤(l5++List.drop (0+l5.length) (List.replicate (IntKind.i64.wrap ((↑l4.length:Int)+1)).toNat zW)).length) then
 some (Queue.mk (af.mk i60 i61 i62 i63) i64 [List.take i50.toNat (List.drop i49.toNat (l5++List.drop (0+l5.length) (List.replicate (IntKind.i64.wrap ((↑l4.length:Int)+1)).toNat zW)))] (A8.mk i65 i66 i67 i68 i69 i70 i71 i72) i73,an.mk i52 i53 i54 i55 i56 i57 b58 b59,b30,yW,i31)
 else
 none) (fun (b74,i75,l76,l77,i78,i79,i80,i81,i82,i83,i84,i85,i86,i87,i88,i89,i90,i91,i92,i93,i94,i95)=>
 bif decide (i93.toNat+i94.toNat≤(l5++List.drop (0+l5.length) (List.replicate (IntKind.i64.wrap ((↑l4.length:Int)+1)).toNat zW)).length) then
 some (Queue.mk (af.mk i78 i79 i80 i81) i82 [List.take i94.toNat (List.drop i93.toNat (l5++List.drop (0+l5.length) (List.replicate (IntKind.i64.wrap ((↑l4.length:Int)+1)).toNat zW)))] (A8.mk 0 0 i85 i86 i87 i88 i89 i90) i91,zP,false,l77,0)
 else
 none) w29
noncomputable def Go.aa.aR(n:Int)(low:Int)(high:Int):Option Bool:=
 bif decide (low≤n) then
 some (decide (n≤high))
 else
 some false
noncomputable def Go.aa.gq(p:an):Option Bool:=
 (aa.aR p.aH 0 7).bind fun b1=>
 bif b1 then
 (aa.aR p.Sub 0 3).bind fun b2=>
 bif b2 then
 (aa.aR p.Number 0 1000000000).bind fun b3=>
 bif b3 then
 (aa.aR p.Data 0 1000000000).bind fun b4=>
 bif b4 then
 (aa.aR p.az 1 10000).bind fun b5=>
 bif b5 then
 (aa.aR p.aQ 0 10000000).bind fun b6=>
 some b6
 else
 some false
 else
 some false
 else
 some false
 else
 some false
 else
 some false
noncomputable def Go.aa.cz(s:Queue):Option Bool:=
 bif !s.af.Kind==4 then
 some false
 else
 (aa.aR s.af.A 1 1000000).bind fun b1=>
 bif !b1 then
 some false
 else
 (aa.aR s.af.B 0 1000).bind fun b2=>
 bif !b2 then
 some false
 else
 (aa.aR s.af.C 0 1000).bind fun b3=>
 bif !b3 then
 some false
 else
 (aa.aR s.Room 1 500).bind fun b4=>
 bif !b4 then
 some false
 else
 bif !(↑s.ah.length:Int)==1 then
 some false
 else
 (s.ah[0]?).bind fun l5=>
 bif decide (s.Room<(↑l5.length:Int)) then
 some false
 else
 (aa.aR s.ae.e7 0 10000000).bind fun b6=>
 bif !b6 then
 some false
 else
 (aa.aR s.ae.e0 0 1000000).bind fun b7=>
 bif !b7 then
 some false
 else
 (aa.aR s.ae.e1 0 s.ae.e7).bind fun b8=>
 bif !b8 then
 some false
 else
 (aa.aR s.ae.e2 0 10000000).bind fun b9=>
 bif !b9 then
 some false
 else
 bif !(s.ae.e3==0&&(s.ae.e4==0&&(s.ae.e5==0&&s.ae.e6==0))) then
 some false
 else
 (s.ah[0]?).bind fun mN=>
 (aX (ω:=Int×Int ⊕ Int×Int×Int) (fun ((i11,i12,i13):Int×Int×Int)=>
 bif decide (i12<(↑mN.length:Int)) then
 gd (decide (0≤i12)) <|
 (mN[i12.toNat]?).bind fun Xy=>
 (aa.aR Xy.At i13 s.ae.e7).bind fun CO=>
 bif CO then
 (aa.gq Xy.P).bind fun BN=>
 bif !BN then
 some (Sum.inr (Sum.inl (i12,Xy.At)))
 else
 some (Sum.inl (i11,IntKind.i64.wrap (i12+1),Xy.At))
 else
 some (Sum.inr (Sum.inl (i12,Xy.At)))
 else
 some (Sum.inr (Sum.inr (i11,i12,i13)))) (0,0,0)).bind fun w17=>
 Sum.elim (fun (i18,i19)=>
 some (!decide (0≤i18))) (fun (i20,i21,i22)=>
 some true) w17
noncomputable def Go.aa.fR(q:Queue):Option Bool:=
 (aa.cz q).bind fun b1=>
 some b1
noncomputable def Go.aa.dF(s:Queue)(now:Int):Option Int:=
 (s.ah[0]?).bind fun l1=>
 bif decide (0<(↑l1.length:Int)) then
 (l1[0]?).bind fun q2=>
 some (IntKind.i64.wrap (now-q2.At))
 else
 some 0
noncomputable def Go.aa.eb(n:Int):Option Int:=
 bif decide (n.tmod 1000<0) then
 some (IntKind.i64.wrap (IntKind.i64.wrap (n.tdiv 1000)-1))
 else
 some (IntKind.i64.wrap (n.tdiv 1000))
noncomputable def Go.aa.db(Mf:Int)(s:Queue)(d:Int)(o:Int):Option Int:=
 (aa.eb (IntKind.i64.wrap (s.af.B*IntKind.i64.wrap (d-s.af.A)))).bind fun i1=>
 (aa.eb (IntKind.i64.wrap (s.af.C*IntKind.i64.wrap (d-o)))).bind fun i2=>
 some (IntKind.i64.wrap (IntKind.i64.wrap (Mf+i1)+i2))
noncomputable def Go.aa.vV(q:Queue)(p:an)(now:Int):Option (Queue×(List an)×Int):=
 (aa.gq p).bind fun b1=>
 bif !b1 then
 some (zQ,[],1)
 else
 (aa.cz q).bind fun b2=>
 bif !b2 then
 some (zQ,[],1)
 else
 (aa.aR now 0 10000000).bind fun b3=>
 bif !b3 then
 some (zQ,[],1)
 else
 bif decide (now<q.ae.e7) then
 some (zQ,[],18)
 else
 (q.ah[0]?).bind fun l4=>
 (aa.ff l4).bind fun l5=>
 bif decide (IntKind.i64.wrap (now-q.ae.e1)<16000) then
 bif (↑l5.length:Int)==q.Room then
 some (Queue.mk q.af q.Room [l5] (A8.mk q.ae.e0 q.ae.e1 q.ae.e2 q.ae.e3 q.ae.e4 q.ae.e5 q.ae.e6 now) q.bm,[p],0)
 else
 (aa.cJ q.bm 1000000).bind fun (i6,i7,i8)=>
 bif decide (i6<q.ae.e0) then
 bif !p.aJ then
 some (Queue.mk q.af q.Room [l5] (A8.mk q.ae.e0 q.ae.e1 q.ae.e2 q.ae.e3 q.ae.e4 q.ae.e5 q.ae.e6 now) i7,[p],0)
 else
 bif p.aB then
 gd (decide ((l5.length+1)*64≤2^44)&&decide (l5.length+1≤2^44)) <|
 some (Queue.mk q.af q.Room [l5++[ai.mk (an.mk p.aH p.Sub p.Number p.Data p.az p.aQ p.aJ true) now]] (A8.mk q.ae.e0 q.ae.e1 q.ae.e2 q.ae.e3 q.ae.e4 q.ae.e5 q.ae.e6 now) i7,[],0)
 else
 gd (decide ((l5.length+1)*64≤2^44)&&decide (l5.length+1≤2^44)) <|
 some (Queue.mk q.af q.Room [l5++[ai.mk (an.mk p.aH p.Sub p.Number p.Data p.az p.aQ p.aJ (decide (i6<q.ae.e0))) now]] (A8.mk q.ae.e0 q.ae.e1 q.ae.e2 q.ae.e3 q.ae.e4 q.ae.e5 q.ae.e6 now) i7,[],0)
 else
 bif p.aB then
 gd (decide ((l5.length+1)*64≤2^44)&&decide (l5.length+1≤2^44)) <|
 some (Queue.mk q.af q.Room [l5++[ai.mk (an.mk p.aH p.Sub p.Number p.Data p.az p.aQ p.aJ true) now]] (A8.mk q.ae.e0 q.ae.e1 q.ae.e2 q.ae.e3 q.ae.e4 q.ae.e5 q.ae.e6 now) i7,[],0)
 else
 gd (decide ((l5.length+1)*64≤2^44)&&decide (l5.length+1≤2^44)) <|
 some (Queue.mk q.af q.Room [l5++[ai.mk (an.mk p.aH p.Sub p.Number p.Data p.az p.aQ p.aJ (decide (i6<q.ae.e0))) now]] (A8.mk q.ae.e0 q.ae.e1 q.ae.e2 q.ae.e3 q.ae.e4 q.ae.e5 q.ae.e6 now) i7,[],0)
 else
 (aa.dF (Queue.mk q.af q.Room [l5] q.ae q.bm) now).bind fun i9=>
 (aa.db q.ae.e0 (Queue.mk q.af q.Room [l5] q.ae q.bm) i9 q.ae.e2).bind fun i10=>
 bif (↑l5.length:Int)==q.Room then
 some (Queue.mk q.af q.Room [l5] (A8.mk (if (if 0<i10 then i10 else 0)<1000000 then if 0<i10 then i10 else 0 else 1000000) now i9 q.ae.e3 q.ae.e4 q.ae.e5 q.ae.e6 now) q.bm,[p],0)
 else
 (aa.cJ q.bm 1000000).bind fun (i11,i12,i13)=>
 bif decide (i11<if (if 0<i10 then i10 else 0)<1000000 then if 0<i10 then i10 else 0 else 1000000) then
 bif !p.aJ then
 some (Queue.mk q.af q.Room [l5] (A8.mk (if (if 0<i10 then i10 else 0)<1000000 then if 0<i10 then i10 else 0 else 1000000) now i9 q.ae.e3 q.ae.e4 q.ae.e5 q.ae.e6 now) i12,[p],0)
 else
 bif p.aB then
 gd (decide ((l5.length+1)*64≤2^44)&&decide (l5.length+1≤2^44)) <|
 some (Queue.mk q.af q.Room [l5++[ai.mk (an.mk p.aH p.Sub p.Number p.Data p.az p.aQ p.aJ true) now]] (A8.mk (if (if 0<i10 then i10 else 0)<1000000 then if 0<i10 then i10 else 0 else 1000000) now i9 q.ae.e3 q.ae.e4 q.ae.e5 q.ae.e6 now) i12,[],0)
 else
 gd (decide ((l5.length+1)*64≤2^44)&&decide (l5.length+1≤2^44)) <|
 some (Queue.mk q.af q.Room [l5++[ai.mk (an.mk p.aH p.Sub p.Number p.Data p.az p.aQ p.aJ (decide (i11<if (if 0<i10 then i10 else 0)<1000000 then if 0<i10 then i10 else 0 else 1000000))) now]] (A8.mk (if (if 0<i10 then i10 else 0)<1000000 then if 0<i10 then i10 else 0 else 1000000) now i9 q.ae.e3 q.ae.e4 q.ae.e5 q.ae.e6 now) i12,[],0)
 else
 bif p.aB then
 gd (decide ((l5.length+1)*64≤2^44)&&decide (l5.length+1≤2^44)) <|
 some (Queue.mk q.af q.Room [l5++[ai.mk (an.mk p.aH p.Sub p.Number p.Data p.az p.aQ p.aJ true) now]] (A8.mk (if (if 0<i10 then i10 else 0)<1000000 then if 0<i10 then i10 else 0 else 1000000) now i9 q.ae.e3 q.ae.e4 q.ae.e5 q.ae.e6 now) i12,[],0)
 else
 gd (decide ((l5.length+1)*64≤2^44)&&decide (l5.length+1≤2^44)) <|
 some (Queue.mk q.af q.Room [l5++[ai.mk (an.mk p.aH p.Sub p.Number p.Data p.az p.aQ p.aJ (decide (i11<if (if 0<i10 then i10 else 0)<1000000 then if 0<i10 then i10 else 0 else 1000000))) now]] (A8.mk (if (if 0<i10 then i10 else 0)<1000000 then if 0<i10 then i10 else 0 else 1000000) now i9 q.ae.e3 q.ae.e4 q.ae.e5 q.ae.e6 now) i12,[],0)
noncomputable def Go.aa.iZ(q:Queue)(now:Int):Option (Queue×an×Bool×(List an)×Int):=
 (aa.cz q).bind fun b1=>
 bif !b1 then
 some (zQ,zP,false,[],1)
 else
 (aa.aR now 0 10000000).bind fun b2=>
 bif !b2 then
 some (zQ,zP,false,[],1)
 else
 bif decide (now<q.ae.e7) then
 some (zQ,zP,false,[],18)
 else
 (q.ah[0]?).bind fun l3=>
 (aa.ff l3).bind fun l4=>
 bif decide (IntKind.i64.wrap (now-q.ae.e1)<16000) then
 bif (↑l4.length:Int)==0 then
 some (Queue.mk q.af q.Room [l4] (A8.mk q.ae.e0 q.ae.e1 q.ae.e2 q.ae.e3 q.ae.e4 q.ae.e5 q.ae.e6 now) q.bm,zP,false,[],0)
 else
 gd (decide (0<l4.length)) <|
 (l4[0]?).bind fun q5=>
 gd (decide (1≤l4.length)&&decide (l4.length≤none.getD (l4.length-0))&&decide (0<l4.length)) <|
 gd (decide (1+(l4.length-1)≤l4.length)) <|
 some (Queue.mk q.af q.Room [List.take (l4.length-1) (List.drop 1 l4)] (A8.mk q.ae.e0 q.ae.e1 q.ae.e2 q.ae.e3 q.ae.e4 q.ae.e5 q.ae.e6 now) q.bm,q5.P,true,[],0)
 else
 (aa.dF (Queue.mk q.af q.Room [l4] q.ae q.bm) now).bind fun i6=>
 (aa.db q.ae.e0 (Queue.mk q.af q.Room [l4] q.ae q.bm) i6 q.ae.e2).bind fun i7=>
 bif (↑l4.length:Int)==0 then
 some (Queue.mk q.af q.Room [l4] (A8.mk (if (if 0<i7 then i7 else 0)<1000000 then if 0<i7 then i7 else 0 else 1000000) now i6 q.ae.e3 q.ae.e4 q.ae.e5 q.ae.e6 now) q.bm,zP,false,[],0)
 else
 gd (decide (0<l4.length)) <|
 (l4[0]?).bind fun q8=>
 gd (decide (1≤l4.length)&&decide (l4.length≤none.getD (l4.length-0))&&decide (0<l4.length)) <|
 gd (decide (1+(l4.length-1)≤l4.length)) <|
 some (Queue.mk q.af q.Room [List.take (l4.length-1) (List.drop 1 l4)] (A8.mk (if (if 0<i7 then i7 else 0)<1000000 then if 0<i7 then i7 else 0 else 1000000) now i6 q.ae.e3 q.ae.e4 q.ae.e5 q.ae.e6 now) q.bm,q8.P,true,[],0)
noncomputable def Go.aa.bL(n:Int)(low:Int)(high:Int):Option Bool:=
 bif decide (low≤n) then
 some (decide (n≤high))
 else
 some false
noncomputable def Go.aa.eF(q:Queue):Option ((A8 Int)):=
 some (A8.mk (IntKind.i64.wrap (q.ae.e2.tdiv 32768)) (q.ae.e2.tmod 32768) (IntKind.i64.wrap (q.ae.e3.tdiv 32768)) (q.ae.e3.tmod 32768) (IntKind.i64.wrap (q.ae.e4.tdiv 32768)) (q.ae.e4.tmod 32768) (IntKind.i64.wrap (q.ae.e5.tdiv 32768)) (q.ae.e5.tmod 32768))
noncomputable def Go.aa.fP(p:an):Option Bool:=
 (aa.bL p.aH 0 7).bind fun b1=>
 bif b1 then
 (aa.bL p.Sub 0 3).bind fun b2=>
 bif b2 then
 (aa.bL p.Number 0 1000000000).bind fun b3=>
 bif b3 then
 (aa.bL p.Data 0 1000000000).bind fun b4=>
 bif b4 then
 (aa.bL p.az 1 10000).bind fun b5=>
 bif b5 then
 (aa.bL p.aQ 0 10000000).bind fun b6=>
 some b6
 else
 some false
 else
 some false
 else
 some false
 else
 some false
 else
 some false
noncomputable def Go.aa.di(l:List ai)(wZ:Int)(last:Int):Option Bool:=
 (aX (ω:=Bool ⊕ Bool×Int×Int) (fun ((b1,i2,i3):Bool×Int×Int)=>
 bif decide (i3<(↑l.length:Int)) then
 gd (decide (0≤i3)) <|
 (l[i3.toNat]?).bind fun q4=>
 (aa.fP q4.P).bind fun b5=>
 bif !b5 then
 some (Sum.inr (Sum.inl false))
 else
 bif !q4.P.aH==wZ then
 some (Sum.inr (Sum.inl false))
 else
 (aa.bL q4.At i2 last).bind fun b6=>
 bif !b6 then
 some (Sum.inr (Sum.inl false))
 else
 some (Sum.inl (b1,q4.At,IntKind.i64.wrap (i3+1)))
 else
 some (Sum.inr (Sum.inr (b1,i2,i3)))) (false,0,0)).bind fun w7=>
 Sum.elim (fun b8=>
 some b8) (fun (b9,i10,i11)=>
 some true) w7
noncomputable def Go.aa.eg(q:Queue):Option Int:=
 (aX (ω:=Int×Int) (fun ((i1,i2):Int×Int)=>
 bif decide (i2<(↑q.ah.length:Int)) then
 gd (decide (0≤i2)) <|
 (q.ah[i2.toNat]?).bind fun l3=>
 some (Sum.inl (IntKind.i64.wrap (i1+(↑l3.length:Int)),IntKind.i64.wrap (i2+1)))
 else
 some (Sum.inr (i1,i2))) (0,0)).bind fun (i4,i5)=>
 some i4
noncomputable def Go.aa.eA(q:Queue):Option Bool:=
 bif !q.af.Kind==5 then
 some false
 else
 (aa.bL q.af.A 100 10000).bind fun b1=>
 bif !b1 then
 some false
 else
 bif !q.af.B==0 then
 some false
 else
 bif !q.af.C==0 then
 some false
 else
 (aa.bL q.Room 1 500).bind fun b2=>
 bif !b2 then
 some false
 else
 bif !(↑q.ah.length:Int)==8 then
 some false
 else
 bif !q.bm==0 then
 some false
 else
 bif !v8 q.ae 6==0 then
 some false
 else
 (aa.bL (v8 q.ae 0) 0 7).bind fun b3=>
 bif !b3 then
 some false
 else
 (aa.bL (v8 q.ae 1) 0 1).bind fun b4=>
 bif !b4 then
 some false
 else
 bif v8 q.ae 1==1 then
 gd (decide (0≤v8 q.ae 0)) <|
 (q.ah[(v8 q.ae 0).toNat]?).bind fun l5=>
 bif (↑l5.length:Int)==0 then
 some false
 else
 (aa.bL (v8 q.ae 7) 0 10000000).bind fun b6=>
 bif !b6 then
 some false
 else
 (aX (ω:=Bool ⊕ Bool×Int) (fun ((b7,i8):Bool×Int)=>
 bif decide (i8<4) then
 gd (decide (0≤IntKind.i64.wrap (2+i8))) <|
 gd (decide ((IntKind.i64.wrap (2+i8)).toNat<8)) <|
 bif decide (v8 q.ae (IntKind.i64.wrap (2+i8)).toNat<0) then
 some (Sum.inr (Sum.inl false))
 else
 some (Sum.inl (b7,IntKind.i64.wrap (i8+1)))
 else
 some (Sum.inr (Sum.inr (b7,i8)))) (false,0)).bind fun w9=>
 Sum.elim (fun yf=>
 some yf) (fun (uO,i12)=>
 (aa.eF q).bind fun rf=>
 (aX (ω:=Bool ⊕ Bool×Int) (fun ((ll,i15):Bool×Int)=>
 bif decide (i15<8) then
 gd (decide (0≤i15)) <|
 gd (decide (i15.toNat<8)) <|
 (aa.bL (v8 rf i15.toNat) 0 19999).bind fun BN=>
 bif !BN then
 some (Sum.inr (Sum.inl false))
 else
 bif decide (0<v8 rf i15.toNat) then
 gd (decide (0≤i15)) <|
 (q.ah[i15.toNat]?).bind fun QL=>
 bif (↑QL.length:Int)==0 then
 some (Sum.inr (Sum.inl false))
 else
 gd (decide (0≤i15)) <|
 (q.ah[i15.toNat]?).bind fun Ew=>
 (aa.di Ew i15 (v8 q.ae 7)).bind fun Nw=>
 bif !Nw then
 some (Sum.inr (Sum.inl false))
 else
 bif v8 q.ae 1==1 then
 bif decide (0<v8 rf i15.toNat) then
 bif !v8 q.ae 0==i15 then
 gd (decide (0≤i15)) <|
 (q.ah[i15.toNat]?).bind fun jg=>
 (jg[0]?).bind fun LM=>
 bif decide (LM.P.az≤v8 rf i15.toNat) then
 some (Sum.inr (Sum.inl false))
 else
 some (Sum.inl (ll,IntKind.i64.wrap (i15+1)))
 else
 some (Sum.inl (ll,IntKind.i64.wrap (i15+1)))
 else
 some (Sum.inl (ll,IntKind.i64.wrap (i15+1)))
 else
 bif decide (0<v8 rf i15.toNat) then
 gd (decide (0≤i15)) <|
 (q.ah[i15.toNat]?).bind fun l22=>
 (l22[0]?).bind fun q23=>
 bif decide (q23.P.az≤v8 rf i15.toNat) then
 some (Sum.inr (Sum.inl false))
 else
 some (Sum.inl (ll,IntKind.i64.wrap (i15+1)))
 else
 some (Sum.inl (ll,IntKind.i64.wrap (i15+1)))
 else
 gd (decide (0≤i15)) <|
 (q.ah[i15.toNat]?).bind fun gK=>
 (aa.di gK i15 (v8 q.ae 7)).bind fun QM=>
 bif !QM then
 some (Sum.inr (Sum.inl false))
 else
 bif v8 q.ae 1==1 then
 bif decide (0<v8 rf i15.toNat) then
 bif !v8 q.ae 0==i15 then
 gd (decide (0≤i15)) <|
 (q.ah[i15.toNat]?).bind fun l26=>
 (l26[0]?).bind fun Xf=>
 bif decide (Xf.P.az≤v8 rf i15.toNat) then
 some (Sum.inr (Sum.inl false))
 else
 some (Sum.inl (ll,IntKind.i64.wrap (i15+1)))
 else
 some (Sum.inl (ll,IntKind.i64.wrap (i15+1)))
 else
 some (Sum.inl (ll,IntKind.i64.wrap (i15+1)))
 else
 bif decide (0<v8 rf i15.toNat) then
 gd (decide (0≤i15)) <|
 (q.ah[i15.toNat]?).bind fun ir=>
 (ir[0]?).bind fun q29=>
 bif decide (q29.P.az≤v8 rf i15.toNat) then
 some (Sum.inr (Sum.inl false))
 else
 some (Sum.inl (ll,IntKind.i64.wrap (i15+1)))
 else
 some (Sum.inl (ll,IntKind.i64.wrap (i15+1)))
 else
 some (Sum.inr (Sum.inr (ll,i15)))) (uO,0)).bind fun w30=>
 Sum.elim (fun V7=>
 some V7) (fun (b32,i33)=>
 (aa.eg q).bind fun i34=>
 some (decide (i34≤q.Room))) w30) w9
 else
 (aa.bL (v8 q.ae 7) 0 10000000).bind fun b35=>
 bif !b35 then
 some false
 else
 (aX (ω:=Bool ⊕ Bool×Int) (fun ((ZL,i37):Bool×Int)=>
 bif decide (i37<4) then
 gd (decide (0≤IntKind.i64.wrap (2+i37))) <|
 gd (decide ((IntKind.i64.wrap (2+i37)).toNat<8)) <|
 bif decide (v8 q.ae (IntKind.i64.wrap (2+i37)).toNat<0) then
 some (Sum.inr (Sum.inl false))
 else
 some (Sum.inl (ZL,IntKind.i64.wrap (i37+1)))
 else
 some (Sum.inr (Sum.inr (ZL,i37)))) (false,0)).bind fun w38=>
 Sum.elim (fun b39=>
 some b39) (fun (b40,i41)=>
 (aa.eF q).bind fun PQ=>
 (aX (ω:=Bool ⊕ Bool×Int) (fun ((K3,i44):Bool×Int)=>
 bif decide (i44<8) then
 gd (decide (0≤i44)) <|
 gd (decide (i44.toNat<8)) <|
 (aa.bL (v8 PQ i44.toNat) 0 19999).bind fun b45=>
 bif !b45 then
 some (Sum.inr (Sum.inl false))
 else
 bif decide (0<v8 PQ i44.toNat) then
 gd (decide (0≤i44)) <|
 (q.ah[i44.toNat]?).bind fun l46=>
 bif (↑l46.length:Int)==0 then
 some (Sum.inr (Sum.inl false))
 else
 gd (decide (0≤i44)) <|
 (q.ah[i44.toNat]?).bind fun l47=>
 (aa.di l47 i44 (v8 q.ae 7)).bind fun b48=>
 bif !b48 then
 some (Sum.inr (Sum.inl false))
 else
 bif v8 q.ae 1==1 then
 bif decide (0<v8 PQ i44.toNat) then
 bif !v8 q.ae 0==i44 then
 gd (decide (0≤i44)) <|
 (q.ah[i44.toNat]?).bind fun yX=>
 (yX[0]?).bind fun q50=>
 bif decide (q50.P.az≤v8 PQ i44.toNat) then
 some (Sum.inr (Sum.inl false))
 else
 some (Sum.inl (K3,IntKind.i64.wrap (i44+1)))
 else
 some (Sum.inl (K3,IntKind.i64.wrap (i44+1)))
 else
 some (Sum.inl (K3,IntKind.i64.wrap (i44+1)))
 else
 bif decide (0<v8 PQ i44.toNat) then
 gd (decide (0≤i44)) <|
 (q.ah[i44.toNat]?).bind fun l51=>
 (l51[0]?).bind fun kQ=>
 bif decide (kQ.P.az≤v8 PQ i44.toNat) then
 some (Sum.inr (Sum.inl false))
 else
 some (Sum.inl (K3,IntKind.i64.wrap (i44+1)))
 else
 some (Sum.inl (K3,IntKind.i64.wrap (i44+1)))
 else
 gd (decide (0≤i44)) <|
 (q.ah[i44.toNat]?).bind fun l53=>
 (aa.di l53 i44 (v8 q.ae 7)).bind fun b54=>
 bif !b54 then
 some (Sum.inr (Sum.inl false))
 else
 bif v8 q.ae 1==1 then
 bif decide (0<v8 PQ i44.toNat) then
 bif !v8 q.ae 0==i44 then
 gd (decide (0≤i44)) <|
 (q.ah[i44.toNat]?).bind fun l55=>
 (l55[0]?).bind fun q56=>
 bif decide (q56.P.az≤v8 PQ i44.toNat) then
 some (Sum.inr (Sum.inl false))
 else
 some (Sum.inl (K3,IntKind.i64.wrap (i44+1)))
 else
 some (Sum.inl (K3,IntKind.i64.wrap (i44+1)))
 else
 some (Sum.inl (K3,IntKind.i64.wrap (i44+1)))
 else
 bif decide (0<v8 PQ i44.toNat) then
 gd (decide (0≤i44)) <|
 (q.ah[i44.toNat]?).bind fun l57=>
 (l57[0]?).bind fun q58=>
 bif decide (q58.P.az≤v8 PQ i44.toNat) then
 some (Sum.inr (Sum.inl false))
 else
 some (Sum.inl (K3,IntKind.i64.wrap (i44+1)))
 else
 some (Sum.inl (K3,IntKind.i64.wrap (i44+1)))
 else
 some (Sum.inr (Sum.inr (K3,i44)))) (b40,0)).bind fun w59=>
 Sum.elim (fun ZM=>
 some ZM) (fun (Q7,i62)=>
 (aa.eg q).bind fun i63=>
 some (decide (i63≤q.Room))) w59) w38
noncomputable def Go.aa.yl(q:Queue)(p:an)(now:Int):Option (Queue×(List an)×Int):=
 (aa.fP p).bind fun b1=>
 bif !b1 then
 some (zQ,[],1)
 else
 (aa.eA q).bind fun b2=>
 bif !b2 then
 some (zQ,[],1)
 else
 (aa.bL now 0 10000000).bind fun b3=>
 bif !b3 then
 some (zQ,[],1)
 else
 bif decide (now<q.ae.e7) then
 some (zQ,[],18)
 else
 gd (true&&decide (q.ah.length=8)) <|
 (q.ah[0]?).bind fun l4=>
 (q.ah[1]?).bind fun l5=>
 (q.ah[2]?).bind fun l6=>
 (q.ah[3]?).bind fun l7=>
 (q.ah[4]?).bind fun l8=>
 (q.ah[5]?).bind fun l9=>
 (q.ah[6]?).bind fun mN=>
 (q.ah[7]?).bind fun NW=>
 ((List.replicate 8 [])[0]?:Option (List ai)).bind fun Xz=>
 ((List.replicate 8 [])[1]?:Option (List ai)).bind fun l13=>
 ((List.replicate 8 [])[2]?:Option (List ai)).bind fun NX=>
 ((List.replicate 8 [])[3]?:Option (List ai)).bind fun So=>
 ((List.replicate 8 [])[4]?:Option (List ai)).bind fun XA=>
 ((List.replicate 8 [])[5]?:Option (List ai)).bind fun QL=>
 ((List.replicate 8 [])[6]?:Option (List ai)).bind fun Ew=>
 ((List.replicate 8 [])[7]?:Option (List ai)).bind fun l19=>
 (some (IntKind.i64.wrap ((↑l4.length:Int)+1))).bind fun i20=>
 gd (decide (0≤i20)) <|
 gd (decide (0≤i20.toNat)&&decide (i20.toNat*64≤2^47)&&decide (i20.toNat<2^62)) <|
 gd (decide (0+l4.length≤i20.toNat)&&decide (0+l4.length≤(List.replicate i20.toNat zW).length)) <|
 (some (l4++List.drop (0+l4.length) (List.replicate i20.toNat zW))).bind fun yj=>
 (some 0:Option Nat).bind fun ft=>
 (some (0+l4.length)).bind fun ym=>
 (some (IntKind.i64.wrap ((↑l5.length:Int)+1))).bind fun i24=>
 gd (decide (0≤i24)) <|
 gd (decide (0≤i24.toNat)&&decide (i24.toNat*64≤2^47)&&decide (i24.toNat<2^62)) <|
 gd (decide (0+l5.length≤i24.toNat)&&decide (0+l5.length≤(List.replicate i24.toNat zW).length)) <|
 (some (l5++List.drop (0+l5.length) (List.replicate i24.toNat zW))).bind fun AU=>
 (some 0:Option Nat).bind fun fu=>
 (some (0+l5.length)).bind fun yn=>
 (some (IntKind.i64.wrap ((↑l6.length:Int)+1))).bind fun i28=>
 gd (decide (0≤i28)) <|
 gd (decide (0≤i28.toNat)&&decide (i28.toNat*64≤2^47)&&decide (i28.toNat<2^62)) <|
 gd (decide (0+l6.length≤i28.toNat)&&decide (0+l6.length≤(List.replicate i28.toNat zW).length)) <|
 (some (l6++List.drop (0+l6.length) (List.replicate i28.toNat zW))).bind fun yY=>
 (some 0:Option Nat).bind fun fw=>
 (some (0+l6.length)).bind fun yp=>
 (some (IntKind.i64.wrap ((↑l7.length:Int)+1))).bind fun i32=>
 gd (decide (0≤i32)) <|
 gd (decide (0≤i32.toNat)&&decide (i32.toNat*64≤2^47)&&decide (i32.toNat<2^62)) <|
 gd (decide (0+l7.length≤i32.toNat)&&decide (0+l7.length≤(List.replicate i32.toNat zW).length)) <|
 (some (l7++List.drop (0+l7.length) (List.replicate i32.toNat zW))).bind fun yW=>
 (some 0:Option Nat).bind fun fC=>
 (some (0+l7.length)).bind fun yq=>
 (some (IntKind.i64.wrap ((↑l8.length:Int)+1))).bind fun i36=>
 gd (decide (0≤i36)) <|
 gd (decide (0≤i36.toNat)&&decide (i36.toNat*64≤2^47)&&decide (i36.toNat<2^62)) <|
 gd (decide (0+l8.length≤i36.toNat)&&decide (0+l8.length≤(List.replicate i36.toNat zW).length)) <|
 (some (l8++List.drop (0+l8.length) (List.replicate i36.toNat zW))).bind fun AW=>
 (some 0:Option Nat).bind fun fD=>
 (some (0+l8.length)).bind fun yr=>
 (some (IntKind.i64.wrap ((↑l9.length:Int)+1))).bind fun i40=>
 gd (decide (0≤i40)) <|
 gd (decide (0≤i40.toNat)&&decide (i40.toNat*64≤2^47)&&decide (i40.toNat<2^62)) <|
 gd (decide (0+l9.length≤i40.toNat)&&decide (0+l9.length≤(List.replicate i40.toNat zW).length)) <|
 (some (l9++List.drop (0+l9.length) (List.replicate i40.toNat zW))).bind fun ml=>
 (some 0:Option Nat).bind fun fE=>
 (some (0+l9.length)).bind fun yu=>
 (some (IntKind.i64.wrap ((↑mN.length:Int)+1))).bind fun i44=>
 gd (decide (0≤i44)) <|
 gd (decide (0≤i44.toNat)&&decide (i44.toNat*64≤2^47)&&decide (i44.toNat<2^62)) <|
 gd (decide (0+mN.length≤i44.toNat)&&decide (0+mN.length≤(List.replicate i44.toNat zW).length)) <|
 (some (mN++List.drop (0+mN.length) (List.replicate i44.toNat zW))).bind fun AX=>
 (some 0:Option Nat).bind fun fF=>
 (some (0+mN.length)).bind fun yv=>
 (some (IntKind.i64.wrap ((↑NW.length:Int)+1))).bind fun i48=>
 gd (decide (0≤i48)) <|
 gd (decide (0≤i48.toNat)&&decide (i48.toNat*64≤2^47)&&decide (i48.toNat<2^62)) <|
 gd (decide (0+NW.length≤i48.toNat)&&decide (0+NW.length≤(List.replicate i48.toNat zW).length)) <|
 (some (NW++List.drop (0+NW.length) (List.replicate i48.toNat zW))).bind fun yX=>
 (some 0:Option Nat).bind fun fG=>
 (some (0+NW.length)).bind fun yw=>
 gd (lc ft ym yj) <|
 gd (lc fu yn AU) <|
 gd (lc fw yp yY) <|
 gd (lc fC yq yW) <|
 gd (lc fD yr AW) <|
 gd (lc fE yu ml) <|
 gd (lc fF yv AX) <|
 gd (lc fG yw yX) <|
 (aa.eg (Queue.mk q.af q.Room [tk ft ym yj,tk fu yn AU,tk fw yp yY,tk fC yq yW,tk fD yr AW,tk fE yu ml,tk fF yv AX,tk fG yw yX] (A8.mk q.ae.e0 q.ae.e1 q.ae.e2 q.ae.e3 q.ae.e4 q.ae.e5 q.ae.e6 now) q.bm)).bind fun i52=>
 bif i52==q.Room then
 gd (lc ft ym yj) <|
 gd (lc fu yn AU) <|
 gd (lc fw yp yY) <|
 gd (lc fC yq yW) <|
 gd (lc fD yr AW) <|
 gd (lc fE yu ml) <|
 gd (lc fF yv AX) <|
 gd (lc fG yw yX) <|
 some (Queue.mk q.af q.Room [tk ft ym yj,tk fu yn AU,tk fw yp yY,tk fC yq yW,tk fD yr AW,tk fE yu ml,tk fF yv AX,tk fG yw yX] (A8.mk q.ae.e0 q.ae.e1 q.ae.e2 q.ae.e3 q.ae.e4 q.ae.e5 q.ae.e6 now) q.bm,[p],0)
 else
 bif p.aH==Int.ofNat 0 then
 gd (decide (ym+1≤i20.toNat)&&decide (ft+ym+1≤yj.length)) <|
 gd (decide (ft+(ym+1)≤(List.take (ft+ym) yj++([ai.mk (an.mk (Int.ofNat 0) p.Sub p.Number p.Data p.az p.aQ p.aJ p.aB) now]++List.drop (ft+ym+1) yj)).length)) <|
 gd (lc fu yn AU) <|
 gd (lc fw yp yY) <|
 gd (lc fC yq yW) <|
 gd (lc fD yr AW) <|
 gd (lc fE yu ml) <|
 gd (lc fF yv AX) <|
 gd (lc fG yw yX) <|
 some (Queue.mk q.af q.Room [List.take (ym+1) (List.drop ft (List.take (ft+ym) yj++([ai.mk (an.mk (Int.ofNat 0) p.Sub p.Number p.Data p.az p.aQ p.aJ p.aB) now]++List.drop (ft+ym+1) yj))),tk fu yn AU,tk fw yp yY,tk fC yq yW,tk fD yr AW,tk fE yu ml,tk fF yv AX,tk fG yw yX] (A8.mk q.ae.e0 q.ae.e1 q.ae.e2 q.ae.e3 q.ae.e4 q.ae.e5 q.ae.e6 now) q.bm,[],0)
 else
 bif p.aH==Int.ofNat 1 then
 gd (decide (yn+1≤i24.toNat)&&decide (fu+yn+1≤AU.length)) <|
 gd (lc ft ym yj) <|
 gd (decide (fu+(yn+1)≤(List.take (fu+yn) AU++([ai.mk (an.mk (Int.ofNat 1) p.Sub p.Number p.Data p.az p.aQ p.aJ p.aB) now]++List.drop (fu+yn+1) AU)).length)) <|
 gd (lc fw yp yY) <|
 gd (lc fC yq yW) <|
 gd (lc fD yr AW) <|
 gd (lc fE yu ml) <|
 gd (lc fF yv AX) <|
 gd (lc fG yw yX) <|
 some (Queue.mk q.af q.Room [tk ft ym yj,List.take (yn+1) (List.drop fu (List.take (fu+yn) AU++([ai.mk (an.mk (Int.ofNat 1) p.Sub p.Number p.Data p.az p.aQ p.aJ p.aB) now]++List.drop (fu+yn+1) AU))),tk fw yp yY,tk fC yq yW,tk fD yr AW,tk fE yu ml,tk fF yv AX,tk fG yw yX] (A8.mk q.ae.e0 q.ae.e1 q.ae.e2 q.ae.e3 q.ae.e4 q.ae.e5 q.ae.e6 now) q.bm,[],0)
 else
 bif p.aH==Int.ofNat 2 then
 gd (decide (yp+1≤i28.toNat)&&decide (fw+yp+1≤yY.length)) <|
 gd (lc ft ym yj) <|
 gd (lc fu yn AU) <|
 gd (decide (fw+(yp+1)≤(List.take (fw+yp) yY++([ai.mk (an.mk (Int.ofNat 2) p.Sub p.Number p.Data p.az p.aQ p.aJ p.aB) now]++List.drop (fw+yp+1) yY)).length)) <|
 gd (lc fC yq yW) <|
 gd (lc fD yr AW) <|
 gd (lc fE yu ml) <|
 gd (lc fF yv AX) <|
 gd (lc fG yw yX) <|
 some (Queue.mk q.af q.Room [tk ft ym yj,tk fu yn AU,List.take (yp+1) (List.drop fw (List.take (fw+yp) yY++([ai.mk (an.mk (Int.ofNat 2) p.Sub p.Number p.Data p.az p.aQ p.aJ p.aB) now]++List.drop (fw+yp+1) yY))),tk fC yq yW,tk fD yr AW,tk fE yu ml,tk fF yv AX,tk fG yw yX] (A8.mk q.ae.e0 q.ae.e1 q.ae.e2 q.ae.e3 q.ae.e4 q.ae.e5 q.ae.e6 now) q.bm,[],0)
 else
 bif p.aH==Int.ofNat 3 then
 gd (decide (yq+1≤i32.toNat)&&decide (fC+yq+1≤yW.length)) <|
 gd (lc ft ym yj) <|
 gd (lc fu yn AU) <|
 gd (lc fw yp yY) <|
 gd (decide (fC+(yq+1)≤(List.take (fC+yq) yW++([ai.mk (an.mk (Int.ofNat 3) p.Sub p.Number p.Data p.az p.aQ p.aJ p.aB) now]++List.drop (fC+yq+1) yW)).length)) <|
 gd (lc fD yr AW) <|
 gd (lc fE yu ml) <|
 gd (lc fF yv AX) <|
 gd (lc fG yw yX) <|
 some (Queue.mk q.af q.Room [tk ft ym yj,tk fu yn AU,tk fw yp yY,List.take (yq+1) (List.drop fC (List.take (fC+yq) yW++([ai.mk (an.mk (Int.ofNat 3) p.Sub p.Number p.Data p.az p.aQ p.aJ p.aB) now]++List.drop (fC+yq+1) yW))),tk fD yr AW,tk fE yu ml,tk fF yv AX,tk fG yw yX] (A8.mk q.ae.e0 q.ae.e1 q.ae.e2 q.ae.e3 q.ae.e4 q.ae.e5 q.ae.e6 now) q.bm,[],0)
 else
 bif p.aH==Int.ofNat 4 then
 gd (decide (yr+1≤i36.toNat)&&decide (fD+yr+1≤AW.length)) <|
 gd (lc ft ym yj) <|
 gd (lc fu yn AU) <|
 gd (lc fw yp yY) <|
 gd (lc fC yq yW) <|
 gd (decide (fD+(yr+1)≤(List.take (fD+yr) AW++([ai.mk (an.mk (Int.ofNat 4) p.Sub p.Number p.Data p.az p.aQ p.aJ p.aB) now]++List.drop (fD+yr+1) AW)).length)) <|
 gd (lc fE yu ml) <|
 gd (lc fF yv AX) <|
 gd (lc fG yw yX) <|
 some (Queue.mk q.af q.Room [tk ft ym yj,tk fu yn AU,tk fw yp yY,tk fC yq yW,List.take (yr+1) (List.drop fD (List.take (fD+yr) AW++([ai.mk (an.mk (Int.ofNat 4) p.Sub p.Number p.Data p.az p.aQ p.aJ p.aB) now]++List.drop (fD+yr+1) AW))),tk fE yu ml,tk fF yv AX,tk fG yw yX] (A8.mk q.ae.e0 q.ae.e1 q.ae.e2 q.ae.e3 q.ae.e4 q.ae.e5 q.ae.e6 now) q.bm,[],0)
 else
 bif p.aH==Int.ofNat 5 then
 gd (decide (yu+1≤i40.toNat)&&decide (fE+yu+1≤ml.length)) <|
 gd (lc ft ym yj) <|
 gd (lc fu yn AU) <|
 gd (lc fw yp yY) <|
 gd (lc fC yq yW) <|
 gd (lc fD yr AW) <|
 gd (decide (fE+(yu+1)≤(List.take (fE+yu) ml++([ai.mk (an.mk (Int.ofNat 5) p.Sub p.Number p.Data p.az p.aQ p.aJ p.aB) now]++List.drop (fE+yu+1) ml)).length)) <|
 gd (lc fF yv AX) <|
 gd (lc fG yw yX) <|
 some (Queue.mk q.af q.Room [tk ft ym yj,tk fu yn AU,tk fw yp yY,tk fC yq yW,tk fD yr AW,List.take (yu+1) (List.drop fE (List.take (fE+yu) ml++([ai.mk (an.mk (Int.ofNat 5) p.Sub p.Number p.Data p.az p.aQ p.aJ p.aB) now]++List.drop (fE+yu+1) ml))),tk fF yv AX,tk fG yw yX] (A8.mk q.ae.e0 q.ae.e1 q.ae.e2 q.ae.e3 q.ae.e4 q.ae.e5 q.ae.e6 now) q.bm,[],0)
 else
 bif p.aH==Int.ofNat 6 then
 gd (decide (yv+1≤i44.toNat)&&decide (fF+yv+1≤AX.length)) <|
 gd (lc ft ym yj) <|
 gd (lc fu yn AU) <|
 gd (lc fw yp yY) <|
 gd (lc fC yq yW) <|
 gd (lc fD yr AW) <|
 gd (lc fE yu ml) <|
 gd (decide (fF+(yv+1)≤(List.take (fF+yv) AX++([ai.mk (an.mk (Int.ofNat 6) p.Sub p.Number p.Data p.az p.aQ p.aJ p.aB) now]++List.drop (fF+yv+1) AX)).length)) <|
 gd (lc fG yw yX) <|
 some (Queue.mk q.af q.Room [tk ft ym yj,tk fu yn AU,tk fw yp yY,tk fC yq yW,tk fD yr AW,tk fE yu ml,List.take (yv+1) (List.drop fF (List.take (fF+yv) AX++([ai.mk (an.mk (Int.ofNat 6) p.Sub p.Number p.Data p.az p.aQ p.aJ p.aB) now]++List.drop (fF+yv+1) AX))),tk fG yw yX] (A8.mk q.ae.e0 q.ae.e1 q.ae.e2 q.ae.e3 q.ae.e4 q.ae.e5 q.ae.e6 now) q.bm,[],0)
 else
 gd (p.aH==Int.ofNat 7) <|
 gd (decide (yw+1≤i48.toNat)&&decide (fG+yw+1≤yX.length)) <|
 gd (lc ft ym yj) <|
 gd (lc fu yn AU) <|
 gd (lc fw yp yY) <|
 gd (lc fC yq yW) <|
 gd (lc fD yr AW) <|
 gd (lc fE yu ml) <|
 gd (lc fF yv AX) <|
 gd (decide (fG+(yw+1)≤(List.take (fG+yw) yX++([ai.mk (an.mk (Int.ofNat 7) p.Sub p.Number p.Data p.az p.aQ p.aJ p.aB) now]++List.drop (fG+yw+1) yX)).length)) <|
 some (Queue.mk q.af q.Room [tk ft ym yj,tk fu yn AU,tk fw yp yY,tk fC yq yW,tk fD yr AW,tk fE yu ml,tk fF yv AX,List.take (yw+1) (List.drop fG (List.take (fG+yw) yX++([ai.mk (an.mk (Int.ofNat 7) p.Sub p.Number p.Data p.az p.aQ p.aJ p.aB) now]++List.drop (fG+yw+1) yX)))] (A8.mk q.ae.e0 q.ae.e1 q.ae.e2 q.ae.e3 q.ae.e4 q.ae.e5 q.ae.e6 now) q.bm,[],0)
noncomputable def Go.aa.bI(q:Queue)(d:A8 Int):Option Queue:=
 some (Queue.mk q.af q.Room q.ah (A8.mk q.ae.e0 q.ae.e1 (IntKind.i64.wrap (IntKind.i64.wrap (32768*d.e0)+d.e1)) (IntKind.i64.wrap (IntKind.i64.wrap (32768*d.e2)+d.e3)) (IntKind.i64.wrap (IntKind.i64.wrap (32768*d.e4)+d.e5)) (IntKind.i64.wrap (IntKind.i64.wrap (32768*d.e6)+d.e7)) q.ae.e6 q.ae.e7) q.bm)
noncomputable def Go.aa.kf(q:Queue)(now:Int):Option (Queue×an×Bool×(List an)×Int):=
 (aa.eA q).bind fun b1=>
 bif !b1 then
 some (zQ,zP,false,[],1)
 else
 (aa.bL now 0 10000000).bind fun b2=>
 bif !b2 then
 some (zQ,zP,false,[],1)
 else
 bif decide (now<q.ae.e7) then
 some (zQ,zP,false,[],18)
 else
 gd (true&&decide (q.ah.length=8)) <|
 (q.ah[0]?).bind fun l3=>
 (q.ah[1]?).bind fun l4=>
 (q.ah[2]?).bind fun l5=>
 (q.ah[3]?).bind fun l6=>
 (q.ah[4]?).bind fun l7=>
 (q.ah[5]?).bind fun l8=>
 (q.ah[6]?).bind fun l9=>
 (q.ah[7]?).bind fun mN=>
 ((List.replicate 8 [])[0]?:Option (List ai)).bind fun NW=>
 ((List.replicate 8 [])[1]?:Option (List ai)).bind fun Xz=>
 ((List.replicate 8 [])[2]?:Option (List ai)).bind fun l13=>
 ((List.replicate 8 [])[3]?:Option (List ai)).bind fun NX=>
 ((List.replicate 8 [])[4]?:Option (List ai)).bind fun So=>
 ((List.replicate 8 [])[5]?:Option (List ai)).bind fun XA=>
 ((List.replicate 8 [])[6]?:Option (List ai)).bind fun QL=>
 ((List.replicate 8 [])[7]?:Option (List ai)).bind fun Ew=>
 (some (IntKind.i64.wrap ((↑l3.length:Int)+1))).bind fun i19=>
 gd (decide (0≤i19)) <|
 gd (decide (0≤i19.toNat)&&decide (i19.toNat*64≤2^47)&&decide (i19.toNat<2^62)) <|
 gd (decide (0+l3.length≤i19.toNat)&&decide (0+l3.length≤(List.replicate i19.toNat zW).length)) <|
 (some (l3++List.drop (0+l3.length) (List.replicate i19.toNat zW))).bind fun jg=>
 (some 0:Option Nat).bind fun kF=>
 (some (0+l3.length)).bind fun ft=>
 (some (IntKind.i64.wrap ((↑l4.length:Int)+1))).bind fun i23=>
 gd (decide (0≤i23)) <|
 gd (decide (0≤i23.toNat)&&decide (i23.toNat*64≤2^47)&&decide (i23.toNat<2^62)) <|
 gd (decide (0+l4.length≤i23.toNat)&&decide (0+l4.length≤(List.replicate i23.toNat zW).length)) <|
 (some (l4++List.drop (0+l4.length) (List.replicate i23.toNat zW))).bind fun gK=>
 (some 0:Option Nat).bind fun kG=>
 (some (0+l4.length)).bind fun fu=>
 (some (IntKind.i64.wrap ((↑l5.length:Int)+1))).bind fun i27=>
 gd (decide (0≤i27)) <|
 gd (decide (0≤i27.toNat)&&decide (i27.toNat*64≤2^47)&&decide (i27.toNat<2^62)) <|
 gd (decide (0+l5.length≤i27.toNat)&&decide (0+l5.length≤(List.replicate i27.toNat zW).length)) <|
 (some (l5++List.drop (0+l5.length) (List.replicate i27.toNat zW))).bind fun ir=>
 (some 0:Option Nat).bind fun kH=>
 (some (0+l5.length)).bind fun fw=>
 (some (IntKind.i64.wrap ((↑l6.length:Int)+1))).bind fun i31=>
 gd (decide (0≤i31)) <|
 gd (decide (0≤i31.toNat)&&decide (i31.toNat*64≤2^47)&&decide (i31.toNat<2^62)) <|
 gd (decide (0+l6.length≤i31.toNat)&&decide (0+l6.length≤(List.replicate i31.toNat zW).length)) <|
 (some (l6++List.drop (0+l6.length) (List.replicate i31.toNat zW))).bind fun ko=>
 (some 0:Option Nat).bind fun kJ=>
 (some (0+l6.length)).bind fun fC=>
 (some (IntKind.i64.wrap ((↑l7.length:Int)+1))).bind fun i35=>
 gd (decide (0≤i35)) <|
 gd (decide (0≤i35.toNat)&&decide (i35.toNat*64≤2^47)&&decide (i35.toNat<2^62)) <|
 gd (decide (0+l7.length≤i35.toNat)&&decide (0+l7.length≤(List.replicate i35.toNat zW).length)) <|
 (some (l7++List.drop (0+l7.length) (List.replicate i35.toNat zW))).bind fun kx=>
 (some 0:Option Nat).bind fun kK=>
 (some (0+l7.length)).bind fun fD=>
 (some (IntKind.i64.wrap ((↑l8.length:Int)+1))).bind fun i39=>
 gd (decide (0≤i39)) <|
 gd (decide (0≤i39.toNat)&&decide (i39.toNat*64≤2^47)&&decide (i39.toNat<2^62)) <|
 gd (decide (0+l8.length≤i39.toNat)&&decide (0+l8.length≤(List.replicate i39.toNat zW).length)) <|
 (some (l8++List.drop (0+l8.length) (List.replicate i39.toNat zW))).bind fun ky=>
 (some 0:Option Nat).bind fun kL=>
 (some (0+l8.length)).bind fun fE=>
 (some (IntKind.i64.wrap ((↑l9.length:Int)+1))).bind fun i43=>
 gd (decide (0≤i43)) <|
 gd (decide (0≤i43.toNat)&&decide (i43.toNat*64≤2^47)&&decide (i43.toNat<2^62)) <|
 gd (decide (0+l9.length≤i43.toNat)&&decide (0+l9.length≤(List.replicate i43.toNat zW).length)) <|
 (some (l9++List.drop (0+l9.length) (List.replicate i43.toNat zW))).bind fun kz=>
 (some 0:Option Nat).bind fun kM=>
 (some (0+l9.length)).bind fun fF=>
 (some (IntKind.i64.wrap ((↑mN.length:Int)+1))).bind fun i47=>
 gd (decide (0≤i47)) <|
 gd (decide (0≤i47.toNat)&&decide (i47.toNat*64≤2^47)&&decide (i47.toNat<2^62)) <|
 gd (decide (0+mN.length≤i47.toNat)&&decide (0+mN.length≤(List.replicate i47.toNat zW).length)) <|
 (some (mN++List.drop (0+mN.length) (List.replicate i47.toNat zW))).bind fun kA=>
 (some 0:Option Nat).bind fun kN=>
 (some (0+mN.length)).bind fun fG=>
 gd (lc kF ft jg) <|
 gd (lc kG fu gK) <|
 gd (lc kH fw ir) <|
 gd (lc kJ fC ko) <|
 gd (lc kK fD kx) <|
 gd (lc kL fE ky) <|
 gd (lc kM fF kz) <|
 gd (lc kN fG kA) <|
 (aa.eg (Queue.mk q.af q.Room [tk kF ft jg,tk kG fu gK,tk kH fw ir,tk kJ fC ko,tk kK fD kx,tk kL fE ky,tk kM fF kz,tk kN fG kA] (A8.mk q.ae.e0 q.ae.e1 q.ae.e2 q.ae.e3 q.ae.e4 q.ae.e5 q.ae.e6 now) q.bm)).bind fun i51=>
 bif i51==0 then
 gd (lc kF ft jg) <|
 gd (lc kG fu gK) <|
 gd (lc kH fw ir) <|
 gd (lc kJ fC ko) <|
 gd (lc kK fD kx) <|
 gd (lc kL fE ky) <|
 gd (lc kM fF kz) <|
 gd (lc kN fG kA) <|
 some (Queue.mk q.af q.Room [tk kF ft jg,tk kG fu gK,tk kH fw ir,tk kJ fC ko,tk kK fD kx,tk kL fE ky,tk kM fF kz,tk kN fG kA] (A8.mk q.ae.e0 q.ae.e1 q.ae.e2 q.ae.e3 q.ae.e4 q.ae.e5 q.ae.e6 now) q.bm,zP,false,[],0)
 else
 gd (lc kF ft jg) <|
 gd (lc kG fu gK) <|
 gd (lc kH fw ir) <|
 gd (lc kJ fC ko) <|
 gd (lc kK fD kx) <|
 gd (lc kL fE ky) <|
 gd (lc kM fF kz) <|
 gd (lc kN fG kA) <|
 (aa.eF (Queue.mk q.af q.Room [tk kF ft jg,tk kG fu gK,tk kH fw ir,tk kJ fC ko,tk kK fD kx,tk kL fE ky,tk kM fF kz,tk kN fG kA] (A8.mk q.ae.e0 q.ae.e1 q.ae.e2 q.ae.e3 q.ae.e4 q.ae.e5 q.ae.e6 now) q.bm)).bind fun kQ=>
 (aX (ω:=Int×Int×Int×Int×Int×Int×Int×Int×Bool×Bool×Int×Int×Int×Int×Int×Int×Int×Int) (fun ((i53,i54,i55,i56,i57,i58,i59,i60,Q7,Sp,i63,i64,i65,i66,i67,i68,i69,i70):Int×Int×Int×Int×Int×Int×Int×Int×Bool×Bool×Int×Int×Int×Int×Int×Int×Int×Int)=>
 bif i54==Int.ofNat 0 then
 bif (↑ft:Int)==0 then
 some (Sum.inl (0,(IntKind.i64.wrap (Int.ofNat 0+1)).tmod 8,i55,i56,i57,i58,i59,i60,Q7,Sp,i63,i64,i65,i66,i67,i68,i69,i70))
 else
 bif i53==0 then
 gd (decide (0<ft)) <|
 (jg[kF+0]?).bind fun FV=>
 bif decide (FV.P.az≤IntKind.i64.wrap (i63+q.af.A)) then
 some (Sum.inr (1,Int.ofNat 0,FV.P.aH,FV.P.Sub,FV.P.Number,FV.P.Data,FV.P.az,FV.P.aQ,FV.P.aJ,FV.P.aB,IntKind.i64.wrap (i63+q.af.A),i64,i65,i66,i67,i68,i69,i70))
 else
 some (Sum.inl (0,(IntKind.i64.wrap (Int.ofNat 0+1)).tmod 8,FV.P.aH,FV.P.Sub,FV.P.Number,FV.P.Data,FV.P.az,FV.P.aQ,FV.P.aJ,FV.P.aB,IntKind.i64.wrap (i63+q.af.A),i64,i65,i66,i67,i68,i69,i70))
 else
 gd (decide (0<ft)) <|
 (jg[kF+0]?).bind fun FX=>
 bif decide (FX.P.az≤i63) then
 some (Sum.inr (i53,Int.ofNat 0,FX.P.aH,FX.P.Sub,FX.P.Number,FX.P.Data,FX.P.az,FX.P.aQ,FX.P.aJ,FX.P.aB,i63,i64,i65,i66,i67,i68,i69,i70))
 else
 some (Sum.inl (0,(IntKind.i64.wrap (Int.ofNat 0+1)).tmod 8,FX.P.aH,FX.P.Sub,FX.P.Number,FX.P.Data,FX.P.az,FX.P.aQ,FX.P.aJ,FX.P.aB,i63,i64,i65,i66,i67,i68,i69,i70))
 else
 bif i54==Int.ofNat 1 then
 bif (↑fu:Int)==0 then
 some (Sum.inl (0,(IntKind.i64.wrap (Int.ofNat 1+1)).tmod 8,i55,i56,i57,i58,i59,i60,Q7,Sp,i63,i64,i65,i66,i67,i68,i69,i70))
 else
 bif i53==0 then
 gd (decide (0<fu)) <|
 (gK[kG+0]?).bind fun FY=>
 bif decide (FY.P.az≤IntKind.i64.wrap (i64+q.af.A)) then
 some (Sum.inr (1,Int.ofNat 1,FY.P.aH,FY.P.Sub,FY.P.Number,FY.P.Data,FY.P.az,FY.P.aQ,FY.P.aJ,FY.P.aB,i63,IntKind.i64.wrap (i64+q.af.A),i65,i66,i67,i68,i69,i70))
 else
 some (Sum.inl (0,(IntKind.i64.wrap (Int.ofNat 1+1)).tmod 8,FY.P.aH,FY.P.Sub,FY.P.Number,FY.P.Data,FY.P.az,FY.P.aQ,FY.P.aJ,FY.P.aB,i63,IntKind.i64.wrap (i64+q.af.A),i65,i66,i67,i68,i69,i70))
 else
 gd (decide (0<fu)) <|
 (gK[kG+0]?).bind fun FZ=>
 bif decide (FZ.P.az≤i64) then
 some (Sum.inr (i53,Int.ofNat 1,FZ.P.aH,FZ.P.Sub,FZ.P.Number,FZ.P.Data,FZ.P.az,FZ.P.aQ,FZ.P.aJ,FZ.P.aB,i63,i64,i65,i66,i67,i68,i69,i70))
 else
 some (Sum.inl (0,(IntKind.i64.wrap (Int.ofNat 1+1)).tmod 8,FZ.P.aH,FZ.P.Sub,FZ.P.Number,FZ.P.Data,FZ.P.az,FZ.P.aQ,FZ.P.aJ,FZ.P.aB,i63,i64,i65,i66,i67,i68,i69,i70))
 else
 bif i54==Int.ofNat 2 then
 bif (↑fw:Int)==0 then
 some (Sum.inl (0,(IntKind.i64.wrap (Int.ofNat 2+1)).tmod 8,i55,i56,i57,i58,i59,i60,Q7,Sp,i63,i64,i65,i66,i67,i68,i69,i70))
 else
 bif i53==0 then
 gd (decide (0<fw)) <|
 (ir[kH+0]?).bind fun F0=>
 bif decide (F0.P.az≤IntKind.i64.wrap (i65+q.af.A)) then
 some (Sum.inr (1,Int.ofNat 2,F0.P.aH,F0.P.Sub,F0.P.Number,F0.P.Data,F0.P.az,F0.P.aQ,F0.P.aJ,F0.P.aB,i63,i64,IntKind.i64.wrap (i65+q.af.A),i66,i67,i68,i69,i70))
 else
 some (Sum.inl (0,(IntKind.i64.wrap (Int.ofNat 2+1)).tmod 8,F0.P.aH,F0.P.Sub,F0.P.Number,F0.P.Data,F0.P.az,F0.P.aQ,F0.P.aJ,F0.P.aB,i63,i64,IntKind.i64.wrap (i65+q.af.A),i66,i67,i68,i69,i70))
 else
 gd (decide (0<fw)) <|
 (ir[kH+0]?).bind fun F1=>
 bif decide (F1.P.az≤i65) then
 some (Sum.inr (i53,Int.ofNat 2,F1.P.aH,F1.P.Sub,F1.P.Number,F1.P.Data,F1.P.az,F1.P.aQ,F1.P.aJ,F1.P.aB,i63,i64,i65,i66,i67,i68,i69,i70))
 else
 some (Sum.inl (0,(IntKind.i64.wrap (Int.ofNat 2+1)).tmod 8,F1.P.aH,F1.P.Sub,F1.P.Number,F1.P.Data,F1.P.az,F1.P.aQ,F1.P.aJ,F1.P.aB,i63,i64,i65,i66,i67,i68,i69,i70))
 else
 bif i54==Int.ofNat 3 then
 bif (↑fC:Int)==0 then
 some (Sum.inl (0,(IntKind.i64.wrap (Int.ofNat 3+1)).tmod 8,i55,i56,i57,i58,i59,i60,Q7,Sp,i63,i64,i65,i66,i67,i68,i69,i70))
 else
 bif i53==0 then
 gd (decide (0<fC)) <|
 (ko[kJ+0]?).bind fun D7=>
 bif decide (D7.P.az≤IntKind.i64.wrap (i66+q.af.A)) then
 some (Sum.inr (1,Int.ofNat 3,D7.P.aH,D7.P.Sub,D7.P.Number,D7.P.Data,D7.P.az,D7.P.aQ,D7.P.aJ,D7.P.aB,i63,i64,i65,IntKind.i64.wrap (i66+q.af.A),i67,i68,i69,i70))
 else
 some (Sum.inl (0,(IntKind.i64.wrap (Int.ofNat 3+1)).tmod 8,D7.P.aH,D7.P.Sub,D7.P.Number,D7.P.Data,D7.P.az,D7.P.aQ,D7.P.aJ,D7.P.aB,i63,i64,i65,IntKind.i64.wrap (i66+q.af.A),i67,i68,i69,i70))
 else
 gd (decide (0<fC)) <|
 (ko[kJ+0]?).bind fun F2=>
 bif decide (F2.P.az≤i66) then
 some (Sum.inr (i53,Int.ofNat 3,F2.P.aH,F2.P.Sub,F2.P.Number,F2.P.Data,F2.P.az,F2.P.aQ,F2.P.aJ,F2.P.aB,i63,i64,i65,i66,i67,i68,i69,i70))
 else
 some (Sum.inl (0,(IntKind.i64.wrap (Int.ofNat 3+1)).tmod 8,F2.P.aH,F2.P.Sub,F2.P.Number,F2.P.Data,F2.P.az,F2.P.aQ,F2.P.aJ,F2.P.aB,i63,i64,i65,i66,i67,i68,i69,i70))
 else
 bif i54==Int.ofNat 4 then
 bif (↑fD:Int)==0 then
 some (Sum.inl (0,(IntKind.i64.wrap (Int.ofNat 4+1)).tmod 8,i55,i56,i57,i58,i59,i60,Q7,Sp,i63,i64,i65,i66,i67,i68,i69,i70))
 else
 bif i53==0 then
 gd (decide (0<fD)) <|
 (kx[kK+0]?).bind fun F3=>
 bif decide (F3.P.az≤IntKind.i64.wrap (i67+q.af.A)) then
 some (Sum.inr (1,Int.ofNat 4,F3.P.aH,F3.P.Sub,F3.P.Number,F3.P.Data,F3.P.az,F3.P.aQ,F3.P.aJ,F3.P.aB,i63,i64,i65,i66,IntKind.i64.wrap (i67+q.af.A),i68,i69,i70))
 else
 some (Sum.inl (0,(IntKind.i64.wrap (Int.ofNat 4+1)).tmod 8,F3.P.aH,F3.P.Sub,F3.P.Number,F3.P.Data,F3.P.az,F3.P.aQ,F3.P.aJ,F3.P.aB,i63,i64,i65,i66,IntKind.i64.wrap (i67+q.af.A),i68,i69,i70))
 else
 gd (decide (0<fD)) <|
 (kx[kK+0]?).bind fun F4=>
 bif decide (F4.P.az≤i67) then
 some (Sum.inr (i53,Int.ofNat 4,F4.P.aH,F4.P.Sub,F4.P.Number,F4.P.Data,F4.P.az,F4.P.aQ,F4.P.aJ,F4.P.aB,i63,i64,i65,i66,i67,i68,i69,i70))
 else
 some (Sum.inl (0,(IntKind.i64.wrap (Int.ofNat 4+1)).tmod 8,F4.P.aH,F4.P.Sub,F4.P.Number,F4.P.Data,F4.P.az,F4.P.aQ,F4.P.aJ,F4.P.aB,i63,i64,i65,i66,i67,i68,i69,i70))
 else
 bif i54==Int.ofNat 5 then
 bif (↑fE:Int)==0 then
 some (Sum.inl (0,(IntKind.i64.wrap (Int.ofNat 5+1)).tmod 8,i55,i56,i57,i58,i59,i60,Q7,Sp,i63,i64,i65,i66,i67,i68,i69,i70))
 else
 bif i53==0 then
 gd (decide (0<fE)) <|
 (ky[kL+0]?).bind fun F5=>
 bif decide (F5.P.az≤IntKind.i64.wrap (i68+q.af.A)) then
 some (Sum.inr (1,Int.ofNat 5,F5.P.aH,F5.P.Sub,F5.P.Number,F5.P.Data,F5.P.az,F5.P.aQ,F5.P.aJ,F5.P.aB,i63,i64,i65,i66,i67,IntKind.i64.wrap (i68+q.af.A),i69,i70))
 else
 some (Sum.inl (0,(IntKind.i64.wrap (Int.ofNat 5+1)).tmod 8,F5.P.aH,F5.P.Sub,F5.P.Number,F5.P.Data,F5.P.az,F5.P.aQ,F5.P.aJ,F5.P.aB,i63,i64,i65,i66,i67,IntKind.i64.wrap (i68+q.af.A),i69,i70))
 else
 gd (decide (0<fE)) <|
 (ky[kL+0]?).bind fun F6=>
 bif decide (F6.P.az≤i68) then
 some (Sum.inr (i53,Int.ofNat 5,F6.P.aH,F6.P.Sub,F6.P.Number,F6.P.Data,F6.P.az,F6.P.aQ,F6.P.aJ,F6.P.aB,i63,i64,i65,i66,i67,i68,i69,i70))
 else
 some (Sum.inl (0,(IntKind.i64.wrap (Int.ofNat 5+1)).tmod 8,F6.P.aH,F6.P.Sub,F6.P.Number,F6.P.Data,F6.P.az,F6.P.aQ,F6.P.aJ,F6.P.aB,i63,i64,i65,i66,i67,i68,i69,i70))
 else
 bif i54==Int.ofNat 6 then
 bif (↑fF:Int)==0 then
 some (Sum.inl (0,(IntKind.i64.wrap (Int.ofNat 6+1)).tmod 8,i55,i56,i57,i58,i59,i60,Q7,Sp,i63,i64,i65,i66,i67,i68,i69,i70))
 else
 bif i53==0 then
 gd (decide (0<fF)) <|
 (kz[kM+0]?).bind fun F7=>
 bif decide (F7.P.az≤IntKind.i64.wrap (i69+q.af.A)) then
 some (Sum.inr (1,Int.ofNat 6,F7.P.aH,F7.P.Sub,F7.P.Number,F7.P.Data,F7.P.az,F7.P.aQ,F7.P.aJ,F7.P.aB,i63,i64,i65,i66,i67,i68,IntKind.i64.wrap (i69+q.af.A),i70))
 else
 some (Sum.inl (0,(IntKind.i64.wrap (Int.ofNat 6+1)).tmod 8,F7.P.aH,F7.P.Sub,F7.P.Number,F7.P.Data,F7.P.az,F7.P.aQ,F7.P.aJ,F7.P.aB,i63,i64,i65,i66,i67,i68,IntKind.i64.wrap (i69+q.af.A),i70))
 else
 gd (decide (0<fF)) <|
 (kz[kM+0]?).bind fun F8=>
 bif decide (F8.P.az≤i69) then
 some (Sum.inr (i53,Int.ofNat 6,F8.P.aH,F8.P.Sub,F8.P.Number,F8.P.Data,F8.P.az,F8.P.aQ,F8.P.aJ,F8.P.aB,i63,i64,i65,i66,i67,i68,i69,i70))
 else
 some (Sum.inl (0,(IntKind.i64.wrap (Int.ofNat 6+1)).tmod 8,F8.P.aH,F8.P.Sub,F8.P.Number,F8.P.Data,F8.P.az,F8.P.aQ,F8.P.aJ,F8.P.aB,i63,i64,i65,i66,i67,i68,i69,i70))
 else
 bif i54==Int.ofNat 7 then
 bif (↑fG:Int)==0 then
 some (Sum.inl (0,(IntKind.i64.wrap (Int.ofNat 7+1)).tmod 8,i55,i56,i57,i58,i59,i60,Q7,Sp,i63,i64,i65,i66,i67,i68,i69,i70))
 else
 bif i53==0 then
 gd (decide (0<fG)) <|
 (kA[kN+0]?).bind fun F9=>
 bif decide (F9.P.az≤IntKind.i64.wrap (i70+q.af.A)) then
 some (Sum.inr (1,Int.ofNat 7,F9.P.aH,F9.P.Sub,F9.P.Number,F9.P.Data,F9.P.az,F9.P.aQ,F9.P.aJ,F9.P.aB,i63,i64,i65,i66,i67,i68,i69,IntKind.i64.wrap (i70+q.af.A)))
 else
 some (Sum.inl (0,(IntKind.i64.wrap (Int.ofNat 7+1)).tmod 8,F9.P.aH,F9.P.Sub,F9.P.Number,F9.P.Data,F9.P.az,F9.P.aQ,F9.P.aJ,F9.P.aB,i63,i64,i65,i66,i67,i68,i69,IntKind.i64.wrap (i70+q.af.A)))
 else
 gd (decide (0<fG)) <|
 (kA[kN+0]?).bind fun Ga=>
 bif decide (Ga.P.az≤i70) then
 some (Sum.inr (i53,Int.ofNat 7,Ga.P.aH,Ga.P.Sub,Ga.P.Number,Ga.P.Data,Ga.P.az,Ga.P.aQ,Ga.P.aJ,Ga.P.aB,i63,i64,i65,i66,i67,i68,i69,i70))
 else
 some (Sum.inl (0,(IntKind.i64.wrap (Int.ofNat 7+1)).tmod 8,Ga.P.aH,Ga.P.Sub,Ga.P.Number,Ga.P.Data,Ga.P.az,Ga.P.aQ,Ga.P.aJ,Ga.P.aB,i63,i64,i65,i66,i67,i68,i69,i70))
 else
 none) (q.ae.e1,q.ae.e0,0,0,0,0,0,0,false,false,kQ.e0,kQ.e1,kQ.e2,kQ.e3,kQ.e4,kQ.e5,kQ.e6,kQ.e7)).bind fun (i87,i88,i89,i90,i91,i92,i93,i94,Hg,Hh,i97,i98,i99,i100,i101,i102,i103,i104)=>
 bif i88==Int.ofNat 0 then
 gd (decide (1≤ft)&&decide (ft≤(some i19.toNat).getD (jg.length-kF))&&decide (0<jg.length)) <|
 bif (↑(ft-1):Int)==0 then
 gd (decide (kF+1+(ft-1)≤jg.length)) <|
 gd (lc kG fu gK) <|
 gd (lc kH fw ir) <|
 gd (lc kJ fC ko) <|
 gd (lc kK fD kx) <|
 gd (lc kL fE ky) <|
 gd (lc kM fF kz) <|
 gd (lc kN fG kA) <|
 (aa.bI (Queue.mk q.af q.Room [List.take (ft-1) (List.drop (kF+1) jg),tk kG fu gK,tk kH fw ir,tk kJ fC ko,tk kK fD kx,tk kL fE ky,tk kM fF kz,tk kN fG kA] (A8.mk ((IntKind.i64.wrap (Int.ofNat 0+1)).tmod 8) 0 q.ae.e2 q.ae.e3 q.ae.e4 q.ae.e5 q.ae.e6 now) q.bm) (A8.mk 0 i98 i99 i100 i101 i102 i103 i104)).bind fun aa9=>
 gd (decide (kF+1+(ft-1)≤jg.length)) <|
 gd (lc kG fu gK) <|
 gd (lc kH fw ir) <|
 gd (lc kJ fC ko) <|
 gd (lc kK fD kx) <|
 gd (lc kL fE ky) <|
 gd (lc kM fF kz) <|
 gd (lc kN fG kA) <|
 some (aa9,an.mk i89 i90 i91 i92 i93 i94 Hg Hh,true,[],0)
 else
 gd (decide (kF+1+(ft-1)≤jg.length)) <|
 gd (lc kG fu gK) <|
 gd (lc kH fw ir) <|
 gd (lc kJ fC ko) <|
 gd (lc kK fD kx) <|
 gd (lc kL fE ky) <|
 gd (lc kM fF kz) <|
 gd (lc kN fG kA) <|
 (aa.bI (Queue.mk q.af q.Room [List.take (ft-1) (List.drop (kF+1) jg),tk kG fu gK,tk kH fw ir,tk kJ fC ko,tk kK fD kx,tk kL fE ky,tk kM fF kz,tk kN fG kA] (A8.mk (Int.ofNat 0) i87 q.ae.e2 q.ae.e3 q.ae.e4 q.ae.e5 q.ae.e6 now) q.bm) (A8.mk (IntKind.i64.wrap (i97-i93)) i98 i99 i100 i101 i102 i103 i104)).bind fun aba=>
 gd (decide (kF+1+(ft-1)≤jg.length)) <|
 gd (lc kG fu gK) <|
 gd (lc kH fw ir) <|
 gd (lc kJ fC ko) <|
 gd (lc kK fD kx) <|
 gd (lc kL fE ky) <|
 gd (lc kM fF kz) <|
 gd (lc kN fG kA) <|
 some (aba,an.mk i89 i90 i91 i92 i93 i94 Hg Hh,true,[],0)
 else
 bif i88==Int.ofNat 1 then
 gd (decide (1≤fu)&&decide (fu≤(some i23.toNat).getD (gK.length-kG))&&decide (0<gK.length)) <|
 bif (↑(fu-1):Int)==0 then
 gd (lc kF ft jg) <|
 gd (decide (kG+1+(fu-1)≤gK.length)) <|
 gd (lc kH fw ir) <|
 gd (lc kJ fC ko) <|
 gd (lc kK fD kx) <|
 gd (lc kL fE ky) <|
 gd (lc kM fF kz) <|
 gd (lc kN fG kA) <|
 (aa.bI (Queue.mk q.af q.Room [tk kF ft jg,List.take (fu-1) (List.drop (kG+1) gK),tk kH fw ir,tk kJ fC ko,tk kK fD kx,tk kL fE ky,tk kM fF kz,tk kN fG kA] (A8.mk ((IntKind.i64.wrap (Int.ofNat 1+1)).tmod 8) 0 q.ae.e2 q.ae.e3 q.ae.e4 q.ae.e5 q.ae.e6 now) q.bm) (A8.mk i97 0 i99 i100 i101 i102 i103 i104)).bind fun abb=>
 gd (lc kF ft jg) <|
 gd (decide (kG+1+(fu-1)≤gK.length)) <|
 gd (lc kH fw ir) <|
 gd (lc kJ fC ko) <|
 gd (lc kK fD kx) <|
 gd (lc kL fE ky) <|
 gd (lc kM fF kz) <|
 gd (lc kN fG kA) <|
 some (abb,an.mk i89 i90 i91 i92 i93 i94 Hg Hh,true,[],0)
 else
 gd (lc kF ft jg) <|
 gd (decide (kG+1+(fu-1)≤gK.length)) <|
 gd (lc kH fw ir) <|
 gd (lc kJ fC ko) <|
 gd (lc kK fD kx) <|
 gd (lc kL fE ky) <|
 gd (lc kM fF kz) <|
 gd (lc kN fG kA) <|
 (aa.bI (Queue.mk q.af q.Room [tk kF ft jg,List.take (fu-1) (List.drop (kG+1) gK),tk kH fw ir,tk kJ fC ko,tk kK fD kx,tk kL fE ky,tk kM fF kz,tk kN fG kA] (A8.mk (Int.ofNat 1) i87 q.ae.e2 q.ae.e3 q.ae.e4 q.ae.e5 q.ae.e6 now) q.bm) (A8.mk i97 (IntKind.i64.wrap (i98-i93)) i99 i100 i101 i102 i103 i104)).bind fun abc=>
 gd (lc kF ft jg) <|
 gd (decide (kG+1+(fu-1)≤gK.length)) <|
 gd (lc kH fw ir) <|
 gd (lc kJ fC ko) <|
 gd (lc kK fD kx) <|
 gd (lc kL fE ky) <|
 gd (lc kM fF kz) <|
 gd (lc kN fG kA) <|
 some (abc,an.mk i89 i90 i91 i92 i93 i94 Hg Hh,true,[],0)
 else
 bif i88==Int.ofNat 2 then
 gd (decide (1≤fw)&&decide (fw≤(some i27.toNat).getD (ir.length-kH))&&decide (0<ir.length)) <|
 bif (↑(fw-1):Int)==0 then
 gd (lc kF ft jg) <|
 gd (lc kG fu gK) <|
 gd (decide (kH+1+(fw-1)≤ir.length)) <|
 gd (lc kJ fC ko) <|
 gd (lc kK fD kx) <|
 gd (lc kL fE ky) <|
 gd (lc kM fF kz) <|
 gd (lc kN fG kA) <|
 (aa.bI (Queue.mk q.af q.Room [tk kF ft jg,tk kG fu gK,List.take (fw-1) (List.drop (kH+1) ir),tk kJ fC ko,tk kK fD kx,tk kL fE ky,tk kM fF kz,tk kN fG kA] (A8.mk ((IntKind.i64.wrap (Int.ofNat 2+1)).tmod 8) 0 q.ae.e2 q.ae.e3 q.ae.e4 q.ae.e5 q.ae.e6 now) q.bm) (A8.mk i97 i98 0 i100 i101 i102 i103 i104)).bind fun Uo=>
 gd (lc kF ft jg) <|
 gd (lc kG fu gK) <|
 gd (decide (kH+1+(fw-1)≤ir.length)) <|
 gd (lc kJ fC ko) <|
 gd (lc kK fD kx) <|
 gd (lc kL fE ky) <|
 gd (lc kM fF kz) <|
 gd (lc kN fG kA) <|
 some (Uo,an.mk i89 i90 i91 i92 i93 i94 Hg Hh,true,[],0)
 else
 gd (lc kF ft jg) <|
 gd (lc kG fu gK) <|
 gd (decide (kH+1+(fw-1)≤ir.length)) <|
 gd (lc kJ fC ko) <|
 gd (lc kK fD kx) <|
 gd (lc kL fE ky) <|
 gd (lc kM fF kz) <|
 gd (lc kN fG kA) <|
 (aa.bI (Queue.mk q.af q.Room [tk kF ft jg,tk kG fu gK,List.take (fw-1) (List.drop (kH+1) ir),tk kJ fC ko,tk kK fD kx,tk kL fE ky,tk kM fF kz,tk kN fG kA] (A8.mk (Int.ofNat 2) i87 q.ae.e2 q.ae.e3 q.ae.e4 q.ae.e5 q.ae.e6 now) q.bm) (A8.mk i97 i98 (IntKind.i64.wrap (i99-i93)) i100 i101 i102 i103 i104)).bind fun abd=>
 gd (lc kF ft jg) <|
 gd (lc kG fu gK) <|
 gd (decide (kH+1+(fw-1)≤ir.length)) <|
 gd (lc kJ fC ko) <|
 gd (lc kK fD kx) <|
 gd (lc kL fE ky) <|
 gd (lc kM fF kz) <|
 gd (lc kN fG kA) <|
 some (abd,an.mk i89 i90 i91 i92 i93 i94 Hg Hh,true,[],0)
 else
 bif i88==Int.ofNat 3 then
 gd (decide (1≤fC)&&decide (fC≤(some i31.toNat).getD (ko.length-kJ))&&decide (0<ko.length)) <|
 bif (↑(fC-1):Int)==0 then
 gd (lc kF ft jg) <|
 gd (lc kG fu gK) <|
 gd (lc kH fw ir) <|
 gd (decide (kJ+1+(fC-1)≤ko.length)) <|
 gd (lc kK fD kx) <|
 gd (lc kL fE ky) <|
 gd (lc kM fF kz) <|
 gd (lc kN fG kA) <|
 (aa.bI (Queue.mk q.af q.Room [tk kF ft jg,tk kG fu gK,tk kH fw ir,List.take (fC-1) (List.drop (kJ+1) ko),tk kK fD kx,tk kL fE ky,tk kM fF kz,tk kN fG kA] (A8.mk ((IntKind.i64.wrap (Int.ofNat 3+1)).tmod 8) 0 q.ae.e2 q.ae.e3 q.ae.e4 q.ae.e5 q.ae.e6 now) q.bm) (A8.mk i97 i98 i99 0 i101 i102 i103 i104)).bind fun abe=>
 gd (lc kF ft jg) <|
 gd (lc kG fu gK) <|
 gd (lc kH fw ir) <|
 gd (decide (kJ+1+(fC-1)≤ko.length)) <|
 gd (lc kK fD kx) <|
 gd (lc kL fE ky) <|
 gd (lc kM fF kz) <|
 gd (lc kN fG kA) <|
 some (abe,an.mk i89 i90 i91 i92 i93 i94 Hg Hh,true,[],0)
 else
 gd (lc kF ft jg) <|
 gd (lc kG fu gK) <|
 gd (lc kH fw ir) <|
 gd (decide (kJ+1+(fC-1)≤ko.length)) <|
 gd (lc kK fD kx) <|
 gd (lc kL fE ky) <|
 gd (lc kM fF kz) <|
 gd (lc kN fG kA) <|
 (aa.bI (Queue.mk q.af q.Room [tk kF ft jg,tk kG fu gK,tk kH fw ir,List.take (fC-1) (List.drop (kJ+1) ko),tk kK fD kx,tk kL fE ky,tk kM fF kz,tk kN fG kA] (A8.mk (Int.ofNat 3) i87 q.ae.e2 q.ae.e3 q.ae.e4 q.ae.e5 q.ae.e6 now) q.bm) (A8.mk i97 i98 i99 (IntKind.i64.wrap (i100-i93)) i101 i102 i103 i104)).bind fun abf=>
 gd (lc kF ft jg) <|
 gd (lc kG fu gK) <|
 gd (lc kH fw ir) <|
 gd (decide (kJ+1+(fC-1)≤ko.length)) <|
 gd (lc kK fD kx) <|
 gd (lc kL fE ky) <|
 gd (lc kM fF kz) <|
 gd (lc kN fG kA) <|
 some (abf,an.mk i89 i90 i91 i92 i93 i94 Hg Hh,true,[],0)
 else
 bif i88==Int.ofNat 4 then
 gd (decide (1≤fD)&&decide (fD≤(some i35.toNat).getD (kx.length-kK))&&decide (0<kx.length)) <|
 bif (↑(fD-1):Int)==0 then
 gd (lc kF ft jg) <|
 gd (lc kG fu gK) <|
 gd (lc kH fw ir) <|
 gd (lc kJ fC ko) <|
 gd (decide (kK+1+(fD-1)≤kx.length)) <|
 gd (lc kL fE ky) <|
 gd (lc kM fF kz) <|
 gd (lc kN fG kA) <|
 (aa.bI (Queue.mk q.af q.Room [tk kF ft jg,tk kG fu gK,tk kH fw ir,tk kJ fC ko,List.take (fD-1) (List.drop (kK+1) kx),tk kL fE ky,tk kM fF kz,tk kN fG kA] (A8.mk ((IntKind.i64.wrap (Int.ofNat 4+1)).tmod 8) 0 q.ae.e2 q.ae.e3 q.ae.e4 q.ae.e5 q.ae.e6 now) q.bm) (A8.mk i97 i98 i99 i100 0 i102 i103 i104)).bind fun abg=>
 gd (lc kF ft jg) <|
 gd (lc kG fu gK) <|
 gd (lc kH fw ir) <|
 gd (lc kJ fC ko) <|
 gd (decide (kK+1+(fD-1)≤kx.length)) <|
 gd (lc kL fE ky) <|
 gd (lc kM fF kz) <|
 gd (lc kN fG kA) <|
 some (abg,an.mk i89 i90 i91 i92 i93 i94 Hg Hh,true,[],0)
 else
 gd (lc kF ft jg) <|
 gd (lc kG fu gK) <|
 gd (lc kH fw ir) <|
 gd (lc kJ fC ko) <|
 gd (decide (kK+1+(fD-1)≤kx.length)) <|
 gd (lc kL fE ky) <|
 gd (lc kM fF kz) <|
 gd (lc kN fG kA) <|
 (aa.bI (Queue.mk q.af q.Room [tk kF ft jg,tk kG fu gK,tk kH fw ir,tk kJ fC ko,List.take (fD-1) (List.drop (kK+1) kx),tk kL fE ky,tk kM fF kz,tk kN fG kA] (A8.mk (Int.ofNat 4) i87 q.ae.e2 q.ae.e3 q.ae.e4 q.ae.e5 q.ae.e6 now) q.bm) (A8.mk i97 i98 i99 i100 (IntKind.i64.wrap (i101-i93)) i102 i103 i104)).bind fun Up=>
 gd (lc kF ft jg) <|
 gd (lc kG fu gK) <|
 gd (lc kH fw ir) <|
 gd (lc kJ fC ko) <|
 gd (decide (kK+1+(fD-1)≤kx.length)) <|
 gd (lc kL fE ky) <|
 gd (lc kM fF kz) <|
 gd (lc kN fG kA) <|
 some (Up,an.mk i89 i90 i91 i92 i93 i94 Hg Hh,true,[],0)
 else
 bif i88==Int.ofNat 5 then
 gd (decide (1≤fE)&&decide (fE≤(some i39.toNat).getD (ky.length-kL))&&decide (0<ky.length)) <|
 bif (↑(fE-1):Int)==0 then
 gd (lc kF ft jg) <|
 gd (lc kG fu gK) <|
 gd (lc kH fw ir) <|
 gd (lc kJ fC ko) <|
 gd (lc kK fD kx) <|
 gd (decide (kL+1+(fE-1)≤ky.length)) <|
 gd (lc kM fF kz) <|
 gd (lc kN fG kA) <|
 (aa.bI (Queue.mk q.af q.Room [tk kF ft jg,tk kG fu gK,tk kH fw ir,tk kJ fC ko,tk kK fD kx,List.take (fE-1) (List.drop (kL+1) ky),tk kM fF kz,tk kN fG kA] (A8.mk ((IntKind.i64.wrap (Int.ofNat 5+1)).tmod 8) 0 q.ae.e2 q.ae.e3 q.ae.e4 q.ae.e5 q.ae.e6 now) q.bm) (A8.mk i97 i98 i99 i100 i101 0 i103 i104)).bind fun abh=>
 gd (lc kF ft jg) <|
 gd (lc kG fu gK) <|
 gd (lc kH fw ir) <|
 gd (lc kJ fC ko) <|
 gd (lc kK fD kx) <|
 gd (decide (kL+1+(fE-1)≤ky.length)) <|
 gd (lc kM fF kz) <|
 gd (lc kN fG kA) <|
 some (abh,an.mk i89 i90 i91 i92 i93 i94 Hg Hh,true,[],0)
 else
 gd (lc kF ft jg) <|
 gd (lc kG fu gK) <|
 gd (lc kH fw ir) <|
 gd (lc kJ fC ko) <|
 gd (lc kK fD kx) <|
 gd (decide (kL+1+(fE-1)≤ky.length)) <|
 gd (lc kM fF kz) <|
 gd (lc kN fG kA) <|
 (aa.bI (Queue.mk q.af q.Room [tk kF ft jg,tk kG fu gK,tk kH fw ir,tk kJ fC ko,tk kK fD kx,List.take (fE-1) (List.drop (kL+1) ky),tk kM fF kz,tk kN fG kA] (A8.mk (Int.ofNat 5) i87 q.ae.e2 q.ae.e3 q.ae.e4 q.ae.e5 q.ae.e6 now) q.bm) (A8.mk i97 i98 i99 i100 i101 (IntKind.i64.wrap (i102-i93)) i103 i104)).bind fun abi=>
 gd (lc kF ft jg) <|
 gd (lc kG fu gK) <|
 gd (lc kH fw ir) <|
 gd (lc kJ fC ko) <|
 gd (lc kK fD kx) <|
 gd (decide (kL+1+(fE-1)≤ky.length)) <|
 gd (lc kM fF kz) <|
 gd (lc kN fG kA) <|
 some (abi,an.mk i89 i90 i91 i92 i93 i94 Hg Hh,true,[],0)
 else
 bif i88==Int.ofNat 6 then
 gd (decide (1≤fF)&&decide (fF≤(some i43.toNat).getD (kz.length-kM))&&decide (0<kz.length)) <|
 bif (↑(fF-1):Int)==0 then
 gd (lc kF ft jg) <|
 gd (lc kG fu gK) <|
 gd (lc kH fw ir) <|
 gd (lc kJ fC ko) <|
 gd (lc kK fD kx) <|
 gd (lc kL fE ky) <|
 gd (decide (kM+1+(fF-1)≤kz.length)) <|
 gd (lc kN fG kA) <|
 (aa.bI (Queue.mk q.af q.Room [tk kF ft jg,tk kG fu gK,tk kH fw ir,tk kJ fC ko,tk kK fD kx,tk kL fE ky,List.take (fF-1) (List.drop (kM+1) kz),tk kN fG kA] (A8.mk ((IntKind.i64.wrap (Int.ofNat 6+1)).tmod 8) 0 q.ae.e2 q.ae.e3 q.ae.e4 q.ae.e5 q.ae.e6 now) q.bm) (A8.mk i97 i98 i99 i100 i101 i102 0 i104)).bind fun Uq=>
 gd (lc kF ft jg) <|
 gd (lc kG fu gK) <|
 gd (lc kH fw ir) <|
 gd (lc kJ fC ko) <|
 gd (lc kK fD kx) <|
 gd (lc kL fE ky) <|
 gd (decide (kM+1+(fF-1)≤kz.length)) <|
 gd (lc kN fG kA) <|
 some (Uq,an.mk i89 i90 i91 i92 i93 i94 Hg Hh,true,[],0)
 else
 gd (lc kF ft jg) <|
 gd (lc kG fu gK) <|
 gd (lc kH fw ir) <|
 gd (lc kJ fC ko) <|
 gd (lc kK fD kx) <|
 gd (lc kL fE ky) <|
 gd (decide (kM+1+(fF-1)≤kz.length)) <|
 gd (lc kN fG kA) <|
 (aa.bI (Queue.mk q.af q.Room [tk kF ft jg,tk kG fu gK,tk kH fw ir,tk kJ fC ko,tk kK fD kx,tk kL fE ky,List.take (fF-1) (List.drop (kM+1) kz),tk kN fG kA] (A8.mk (Int.ofNat 6) i87 q.ae.e2 q.ae.e3 q.ae.e4 q.ae.e5 q.ae.e6 now) q.bm) (A8.mk i97 i98 i99 i100 i101 i102 (IntKind.i64.wrap (i103-i93)) i104)).bind fun abj=>
 gd (lc kF ft jg) <|
 gd (lc kG fu gK) <|
 gd (lc kH fw ir) <|
 gd (lc kJ fC ko) <|
 gd (lc kK fD kx) <|
 gd (lc kL fE ky) <|
 gd (decide (kM+1+(fF-1)≤kz.length)) <|
 gd (lc kN fG kA) <|
 some (abj,an.mk i89 i90 i91 i92 i93 i94 Hg Hh,true,[],0)
 else
 gd (i88==Int.ofNat 7) <|
 gd (decide (1≤fG)&&decide (fG≤(some i47.toNat).getD (kA.length-kN))&&decide (0<kA.length)) <|
 bif (↑(fG-1):Int)==0 then
 gd (lc kF ft jg) <|
 gd (lc kG fu gK) <|
 gd (lc kH fw ir) <|
 gd (lc kJ fC ko) <|
 gd (lc kK fD kx) <|
 gd (lc kL fE ky) <|
 gd (lc kM fF kz) <|
 gd (decide (kN+1+(fG-1)≤kA.length)) <|
 (aa.bI (Queue.mk q.af q.Room [tk kF ft jg,tk kG fu gK,tk kH fw ir,tk kJ fC ko,tk kK fD kx,tk kL fE ky,tk kM fF kz,List.take (fG-1) (List.drop (kN+1) kA)] (A8.mk ((IntKind.i64.wrap (Int.ofNat 7+1)).tmod 8) 0 q.ae.e2 q.ae.e3 q.ae.e4 q.ae.e5 q.ae.e6 now) q.bm) (A8.mk i97 i98 i99 i100 i101 i102 i103 0)).bind fun abk=>
 gd (lc kF ft jg) <|
 gd (lc kG fu gK) <|
 gd (lc kH fw ir) <|
 gd (lc kJ fC ko) <|
 gd (lc kK fD kx) <|
 gd (lc kL fE ky) <|
 gd (lc kM fF kz) <|
 gd (decide (kN+1+(fG-1)≤kA.length)) <|
 some (abk,an.mk i89 i90 i91 i92 i93 i94 Hg Hh,true,[],0)
 else
 gd (lc kF ft jg) <|
 gd (lc kG fu gK) <|
 gd (lc kH fw ir) <|
 gd (lc kJ fC ko) <|
 gd (lc kK fD kx) <|
 gd (lc kL fE ky) <|
 gd (lc kM fF kz) <|
 gd (decide (kN+1+(fG-1)≤kA.length)) <|
 (aa.bI (Queue.mk q.af q.Room [tk kF ft jg,tk kG fu gK,tk kH fw ir,tk kJ fC ko,tk kK fD kx,tk kL fE ky,tk kM fF kz,List.take (fG-1) (List.drop (kN+1) kA)] (A8.mk (Int.ofNat 7) i87 q.ae.e2 q.ae.e3 q.ae.e4 q.ae.e5 q.ae.e6 now) q.bm) (A8.mk i97 i98 i99 i100 i101 i102 i103 (IntKind.i64.wrap (i104-i93)))).bind fun abl=>
 gd (lc kF ft jg) <|
 gd (lc kG fu gK) <|
 gd (lc kH fw ir) <|
 gd (lc kJ fC ko) <|
 gd (lc kK fD kx) <|
 gd (lc kL fE ky) <|
 gd (lc kM fF kz) <|
 gd (decide (kN+1+(fG-1)≤kA.length)) <|
 some (abl,an.mk i89 i90 i91 i92 i93 i94 Hg Hh,true,[],0)
noncomputable def Go.aa.cK(n:Int)(low:Int)(high:Int):Option Bool:=
 bif decide (low≤n) then
 some (decide (n≤high))
 else
 some false
noncomputable def Go.aa.gT(n:Int):Option Bool:=
 (aa.cK n 0 10000000).bind fun b1=>
 some b1
noncomputable def Go.aa.iY(p:an):Option Bool:=
 (aa.cK p.aH 0 7).bind fun b1=>
 bif b1 then
 (aa.cK p.Sub 0 3).bind fun b2=>
 bif b2 then
 (aa.cK p.Number 0 1000000000).bind fun b3=>
 bif b3 then
 (aa.cK p.Data 0 1000000000).bind fun b4=>
 bif b4 then
 (aa.cK p.az 1 10000).bind fun b5=>
 bif b5 then
 (aa.gT p.aQ).bind fun b6=>
 some b6
 else
 some false
 else
 some false
 else
 some false
 else
 some false
 else
 some false
noncomputable def Go.aa.lP(l:List ai)(last:Int)(Ib:Bool):Option Bool:=
 (aX (ω:=Bool ⊕ Bool×Int×Int) (fun ((b1,i2,i3):Bool×Int×Int)=>
 bif decide (i3<(↑l.length:Int)) then
 gd (decide (0≤i3)) <|
 (l[i3.toNat]?).bind fun q4=>
 (aa.iY q4.P).bind fun b5=>
 bif !b5 then
 some (Sum.inr (Sum.inl false))
 else
 bif !q4.P.aJ==Ib then
 some (Sum.inr (Sum.inl false))
 else
 (aa.cK q4.At i2 last).bind fun b6=>
 bif !b6 then
 some (Sum.inr (Sum.inl false))
 else
 some (Sum.inl (b1,q4.At,IntKind.i64.wrap (i3+1)))
 else
 some (Sum.inr (Sum.inr (b1,i2,i3)))) (false,0,0)).bind fun w7=>
 Sum.elim (fun b8=>
 some b8) (fun (b9,i10,i11)=>
 some true) w7
noncomputable def Go.aa.jo(q:Queue):Option Bool:=
 bif !q.af.Kind==6 then
 some false
 else
 (aa.cK q.af.A 0 1000000).bind fun b1=>
 bif !b1 then
 some false
 else
 (aa.cK q.af.B 0 1000).bind fun b2=>
 bif !b2 then
 some false
 else
 bif !q.af.C==0 then
 some false
 else
 (aa.cK q.Room 1 500).bind fun b3=>
 bif !b3 then
 some false
 else
 bif !(↑q.ah.length:Int)==2 then
 some false
 else
 (aa.cK q.ae.e0 0 15).bind fun b4=>
 bif !b4 then
 some false
 else
 (aa.gT q.ae.e7).bind fun b5=>
 bif !b5 then
 some false
 else
 (q.ah[0]?).bind fun l6=>
 (q.ah[1]?).bind fun l7=>
 bif decide (q.Room<IntKind.i64.wrap ((↑l6.length:Int)+(↑l7.length:Int))) then
 some false
 else
 (aX (ω:=Bool ⊕ Bool×Int) (fun ((b8,i9):Bool×Int)=>
 bif decide (i9<7) then
 gd (decide (0≤i9)) <|
 bif decide (i9.toNat=0) then
 bif !q.ae.e0==0 then
 some (Sum.inr (Sum.inl false))
 else
 some (Sum.inl (b8,IntKind.i64.wrap (i9+1)))
 else
 bif decide (i9.toNat=1) then
 bif !q.ae.e1==0 then
 some (Sum.inr (Sum.inl false))
 else
 some (Sum.inl (b8,IntKind.i64.wrap (i9+1)))
 else
 bif decide (i9.toNat=2) then
 bif !q.ae.e2==0 then
 some (Sum.inr (Sum.inl false))
 else
 some (Sum.inl (b8,IntKind.i64.wrap (i9+1)))
 else
 bif decide (i9.toNat=3) then
 bif !q.ae.e3==0 then
 some (Sum.inr (Sum.inl false))
 else
 some (Sum.inl (b8,IntKind.i64.wrap (i9+1)))
 else
 bif decide (i9.toNat=4) then
 bif !q.ae.e4==0 then
 some (Sum.inr (Sum.inl false))
 else
 some (Sum.inl (b8,IntKind.i64.wrap (i9+1)))
 else
 bif decide (i9.toNat=5) then
 bif !q.ae.e5==0 then
 some (Sum.inr (Sum.inl false))
 else
 some (Sum.inl (b8,IntKind.i64.wrap (i9+1)))
 else
 bif decide (i9.toNat=6) then
 bif !q.ae.e6==0 then
 some (Sum.inr (Sum.inl false))
 else
 some (Sum.inl (b8,IntKind.i64.wrap (i9+1)))
 else
 gd (decide (i9.toNat=7)) <|
 bif !q.ae.e7==0 then
 some (Sum.inr (Sum.inl false))
 else
 some (Sum.inl (b8,IntKind.i64.wrap (i9+1)))
 else
 some (Sum.inr (Sum.inr (b8,i9)))) (false,1)).bind fun w10=>
 Sum.elim (fun uO=>
 some uO) (fun (D8,i13)=>
 (q.ah[0]?).bind fun NX=>
 (aa.lP NX q.ae.e7 true).bind fun CO=>
 bif CO then
 (q.ah[1]?).bind fun XA=>
 (aa.lP XA q.ae.e7 false).bind fun FU=>
 some FU
 else
 some false) w10
noncomputable def Go.aa.Gb(q:Queue)(p:an)(now:Int):Option (Queue×(List an)×Int):=
 (aa.iY p).bind fun b1=>
 bif !b1 then
 some (zQ,[],1)
 else
 (aa.jo q).bind fun b2=>
 bif !b2 then
 some (zQ,[],1)
 else
 (aa.gT now).bind fun b3=>
 bif !b3 then
 some (zQ,[],1)
 else
 bif decide (now<q.ae.e7) then
 some (zQ,[],18)
 else
 gd (true&&decide (q.ah.length=2)) <|
 (q.ah[0]?).bind fun l4=>
 (q.ah[1]?).bind fun l5=>
 gd (decide ((↑l4.length:Int).toNat*64≤2^47)&&decide ((↑l4.length:Int).toNat<2^62)) <|
 gd (decide (0+(List.replicate (↑l4.length:Int).toNat zW).length≤(List.replicate (↑l4.length:Int).toNat zW).length)&&decide (l4.length≤(List.replicate (↑l4.length:Int).toNat zW).length)) <|
 (some (l4++List.drop (0+l4.length) (List.replicate (↑l4.length:Int).toNat zW))).bind fun l6=>
 gd (decide ((↑l5.length:Int).toNat*64≤2^47)&&decide ((↑l5.length:Int).toNat<2^62)) <|
 gd (decide (0+(List.replicate (↑l5.length:Int).toNat zW).length≤(List.replicate (↑l5.length:Int).toNat zW).length)&&decide (l5.length≤(List.replicate (↑l5.length:Int).toNat zW).length)) <|
 (some (l5++List.drop (0+l5.length) (List.replicate (↑l5.length:Int).toNat zW))).bind fun l7=>
 bif decide (q.Room≤IntKind.i64.wrap ((↑l6.length:Int)+(↑l7.length:Int))) then
 some (Queue.mk q.af q.Room [l6,l7] (A8.mk q.ae.e0 q.ae.e1 q.ae.e2 q.ae.e3 q.ae.e4 q.ae.e5 q.ae.e6 now) q.bm,[p],0)
 else
 bif p.aJ then
 bif decide (l6.length+1≤(↑l4.length:Int).toNat) then
 none
 else
 gd (decide ((l6.length+1)*64≤2^44)&&decide (l6.length+1≤2^44)) <|
 some (Queue.mk q.af q.Room [l6++[ai.mk p now],l7] (A8.mk q.ae.e0 q.ae.e1 q.ae.e2 q.ae.e3 q.ae.e4 q.ae.e5 q.ae.e6 now) q.bm,[],0)
 else
 bif decide (l7.length+1≤(↑l5.length:Int).toNat) then
 none
 else
 gd (decide ((l7.length+1)*64≤2^44)&&decide (l7.length+1≤2^44)) <|
 some (Queue.mk q.af q.Room [l6,l7++[ai.mk p now]] (A8.mk q.ae.e0 q.ae.e1 q.ae.e2 q.ae.e3 q.ae.e4 q.ae.e5 q.ae.e6 now) q.bm,[],0)
noncomputable def Go.aa.bW(x:lQ):Option Int:=
 bif (↑x.ah.e1.length:Int)==0 then
 some 0
 else
 (x.ah.e1[0]?).bind fun q1=>
 some (if IntKind.i64.wrap (x.Q.af.B*IntKind.i64.wrap (x.dm-q1.At))<1000000 then IntKind.i64.wrap (x.Q.af.B*IntKind.i64.wrap (x.dm-q1.At)) else 1000000)
noncomputable def Go.aa.pU(q:Queue)(now:Int):Option (Queue×an×Bool×(List an)×Int):=
 (aa.jo q).bind fun b1=>
 bif !b1 then
 some (zQ,zP,false,[],1)
 else
 (aa.gT now).bind fun b2=>
 bif !b2 then
 some (zQ,zP,false,[],1)
 else
 bif decide (now<q.ae.e7) then
 some (zQ,zP,false,[],18)
 else
 gd (true&&decide (q.ah.length=2)) <|
 (q.ah[0]?).bind fun l3=>
 (q.ah[1]?).bind fun l4=>
 gd (decide ((↑l3.length:Int).toNat*64≤2^47)&&decide ((↑l3.length:Int).toNat<2^62)) <|
 gd (decide (0+(List.replicate (↑l3.length:Int).toNat zW).length≤(List.replicate (↑l3.length:Int).toNat zW).length)&&decide (l3.length≤(List.replicate (↑l3.length:Int).toNat zW).length)) <|
 (some (l3++List.drop (0+l3.length) (List.replicate (↑l3.length:Int).toNat zW))).bind fun l5=>
 gd (decide ((↑l4.length:Int).toNat*64≤2^47)&&decide ((↑l4.length:Int).toNat<2^62)) <|
 gd (decide (0+(List.replicate (↑l4.length:Int).toNat zW).length≤(List.replicate (↑l4.length:Int).toNat zW).length)&&decide (l4.length≤(List.replicate (↑l4.length:Int).toNat zW).length)) <|
 (some (l4++List.drop (0+l4.length) (List.replicate (↑l4.length:Int).toNat zW))).bind fun l6=>
 (aX (ω:=Bool×Int×List an×Int×Int×Int×Int×Int×Int×Bool×Bool×List an×Int×Int×Int×Int×Int×Int×Bool×Bool×Int×Int×Int×Int×Int×Int×Int×Int×Int×Int×Int×Int×Int×Int×Int×Int×Int×Int×Int×Int×Int×Int×Int×Int×Int×Int×Int×Int×Int×Int×Int×Int×Int×Int×Int) (fun ((b7,i8,b9,mN,i11,i12,i13,i14,i15,i16,FU,LN,i19,i20,i21,i22,i23,gK,i25,i26,i27,i28,i29,i30,i31,i32,i33,i34,i35,i36,i37,i38,i39,i40,ml):Bool×Int×Bool×List an×Int×Int×Int×Int×Int×Int×Bool×Bool×Int×Int×Int×Int×Int×List (List ai)×Int×Int×Int×Int×Int×Int×Int×Int×Int×Int×Int×Int×Int×Int×Int×Int×List an)=>
 bif IntKind.i64.wrap ((↑i35.toNat:Int)+(↑i38.toNat:Int))==0 then
 some (Sum.inr (false,0,mN,i11,i12,i13,i14,i15,i16,FU,LN,ml,0,0,0,0,0,0,false,false,i19,i20,i21,i22,i23,0,i26,i27,i28,i29,i30,i31,i32,i33,i19,i20,i21,i22,i23,0,i26,i27,i28,i29,i30,i31,i32,i33,(↑i34.toNat:Int),(↑i35.toNat:Int),(↑i36.toNat:Int),(↑i37.toNat:Int),(↑i38.toNat:Int),(↑i39.toNat:Int),i40))
 else
 bif decide (0<(↑i38.toNat:Int)) then
 bif (↑i35.toNat:Int)==0 then
 gd (decide (i34.toNat+i35.toNat≤l5.length)) <|
 gd (decide (i37.toNat+i38.toNat≤l6.length)) <|
 (aa.bW (lQ.mk (Queue.mk (af.mk i19 i20 i21 i22) i23 gK (A8.mk 0 i26 i27 i28 i29 i30 i31 i32) i33) (A2.mk (List.take i35.toNat (List.drop i34.toNat l5)) (List.take i38.toNat (List.drop i37.toNat l6))) i40 ml)).bind fun i42=>
 gd (decide (0<i38.toNat)) <|
 (l6[i37.toNat+0]?).bind fun Gc=>
 gd (decide (1≤i38.toNat)&&decide (i38.toNat≤(some i39.toNat).getD (l6.length-i37.toNat))&&decide (0<l6.length)) <|
 (aa.cJ i33 1000000).bind fun (i44,i45,i46)=>
 bif decide (i44<IntKind.i64.wrap ((IntKind.i64.wrap (i42*i42)).tdiv 1000000)) then
 gd (decide ((ml.length+1)*56≤2^44)&&decide (ml.length+1≤2^44)) <|
 some (Sum.inl (b7,i8,false,mN,0,0,0,0,0,0,false,false,i19,i20,i21,i22,i23,gK,0,i26,i27,i28,i29,i30,i31,i32,i45,(↑i34.toNat:Int),(↑i35.toNat:Int),(↑i36.toNat:Int),(↑(i37.toNat+1):Int),(↑(i38.toNat-1):Int),(↑(i39.toNat-1):Int),i40,ml++[Gc.P]))
 else
 some (Sum.inr (true,0,mN,Gc.P.aH,Gc.P.Sub,Gc.P.Number,Gc.P.Data,Gc.P.az,Gc.P.aQ,Gc.P.aJ,Gc.P.aB,ml,Gc.P.aH,Gc.P.Sub,Gc.P.Number,Gc.P.Data,Gc.P.az,Gc.P.aQ,Gc.P.aJ,Gc.P.aB,i19,i20,i21,i22,i23,0,i26,i27,i28,i29,i30,i31,i32,i45,i19,i20,i21,i22,i23,0,i26,i27,i28,i29,i30,i31,i32,i45,(↑i34.toNat:Int),(↑i35.toNat:Int),(↑i36.toNat:Int),(↑(i37.toNat+1):Int),(↑(i38.toNat-1):Int),(↑(i39.toNat-1):Int),i40))
 else
 bif decide (15≤i25) then
 gd (decide (i34.toNat+i35.toNat≤l5.length)) <|
 gd (decide (i37.toNat+i38.toNat≤l6.length)) <|
 (aa.bW (lQ.mk (Queue.mk (af.mk i19 i20 i21 i22) i23 gK (A8.mk 0 i26 i27 i28 i29 i30 i31 i32) i33) (A2.mk (List.take i35.toNat (List.drop i34.toNat l5)) (List.take i38.toNat (List.drop i37.toNat l6))) i40 ml)).bind fun i47=>
 gd (decide (0<i38.toNat)) <|
 (l6[i37.toNat+0]?).bind fun D9=>
 gd (decide (1≤i38.toNat)&&decide (i38.toNat≤(some i39.toNat).getD (l6.length-i37.toNat))&&decide (0<l6.length)) <|
 (aa.cJ i33 1000000).bind fun (i49,i50,i51)=>
 bif decide (i49<IntKind.i64.wrap ((IntKind.i64.wrap (i47*i47)).tdiv 1000000)) then
 gd (decide ((ml.length+1)*56≤2^44)&&decide (ml.length+1≤2^44)) <|
 some (Sum.inl (b7,i8,false,mN,0,0,0,0,0,0,false,false,i19,i20,i21,i22,i23,gK,0,i26,i27,i28,i29,i30,i31,i32,i50,(↑i34.toNat:Int),(↑i35.toNat:Int),(↑i36.toNat:Int),(↑(i37.toNat+1):Int),(↑(i38.toNat-1):Int),(↑(i39.toNat-1):Int),i40,ml++[D9.P]))
 else
 some (Sum.inr (true,0,mN,D9.P.aH,D9.P.Sub,D9.P.Number,D9.P.Data,D9.P.az,D9.P.aQ,D9.P.aJ,D9.P.aB,ml,D9.P.aH,D9.P.Sub,D9.P.Number,D9.P.Data,D9.P.az,D9.P.aQ,D9.P.aJ,D9.P.aB,i19,i20,i21,i22,i23,0,i26,i27,i28,i29,i30,i31,i32,i50,i19,i20,i21,i22,i23,0,i26,i27,i28,i29,i30,i31,i32,i50,(↑i34.toNat:Int),(↑i35.toNat:Int),(↑i36.toNat:Int),(↑(i37.toNat+1):Int),(↑(i38.toNat-1):Int),(↑(i39.toNat-1):Int),i40))
 else
 bif (↑i38.toNat:Int)==0 then
 gd (decide (0<i35.toNat)) <|
 (l5[i34.toNat+0]?).bind fun kQ=>
 gd (decide (1≤i35.toNat)&&decide (i35.toNat≤(some i36.toNat).getD (l5.length-i34.toNat))&&decide (0<l5.length)) <|
 bif decide (i20≤IntKind.i64.wrap (i40-kQ.At)) then
 some (Sum.inr (true,0,mN,kQ.P.aH,kQ.P.Sub,kQ.P.Number,kQ.P.Data,kQ.P.az,kQ.P.aQ,kQ.P.aJ,true,ml,kQ.P.aH,kQ.P.Sub,kQ.P.Number,kQ.P.Data,kQ.P.az,kQ.P.aQ,kQ.P.aJ,true,i19,i20,i21,i22,i23,0,i26,i27,i28,i29,i30,i31,i32,i33,i19,i20,i21,i22,i23,0,i26,i27,i28,i29,i30,i31,i32,i33,(↑(i34.toNat+1):Int),(↑(i35.toNat-1):Int),(↑(i36.toNat-1):Int),(↑i37.toNat:Int),(↑i38.toNat:Int),(↑i39.toNat:Int),i40))
 else
 gd (decide (i34.toNat+1+(i35.toNat-1)≤l5.length)) <|
 gd (decide (i37.toNat+i38.toNat≤l6.length)) <|
 (aa.bW (lQ.mk (Queue.mk (af.mk i19 i20 i21 i22) i23 gK (A8.mk 0 i26 i27 i28 i29 i30 i31 i32) i33) (A2.mk (List.take (i35.toNat-1) (List.drop (i34.toNat+1) l5)) (List.take i38.toNat (List.drop i37.toNat l6))) i40 ml)).bind fun i53=>
 (aa.cJ i33 1000000).bind fun (i54,i55,i56)=>
 bif decide (i54<IntKind.i64.wrap (2*i53)) then
 some (Sum.inr (true,0,mN,kQ.P.aH,kQ.P.Sub,kQ.P.Number,kQ.P.Data,kQ.P.az,kQ.P.aQ,kQ.P.aJ,true,ml,kQ.P.aH,kQ.P.Sub,kQ.P.Number,kQ.P.Data,kQ.P.az,kQ.P.aQ,kQ.P.aJ,true,i19,i20,i21,i22,i23,0,i26,i27,i28,i29,i30,i31,i32,i55,i19,i20,i21,i22,i23,0,i26,i27,i28,i29,i30,i31,i32,i55,(↑(i34.toNat+1):Int),(↑(i35.toNat-1):Int),(↑(i36.toNat-1):Int),(↑i37.toNat:Int),(↑i38.toNat:Int),(↑i39.toNat:Int),i40))
 else
 some (Sum.inr (true,0,mN,kQ.P.aH,kQ.P.Sub,kQ.P.Number,kQ.P.Data,kQ.P.az,kQ.P.aQ,kQ.P.aJ,kQ.P.aB,ml,kQ.P.aH,kQ.P.Sub,kQ.P.Number,kQ.P.Data,kQ.P.az,kQ.P.aQ,kQ.P.aJ,kQ.P.aB,i19,i20,i21,i22,i23,0,i26,i27,i28,i29,i30,i31,i32,i55,i19,i20,i21,i22,i23,0,i26,i27,i28,i29,i30,i31,i32,i55,(↑(i34.toNat+1):Int),(↑(i35.toNat-1):Int),(↑(i36.toNat-1):Int),(↑i37.toNat:Int),(↑i38.toNat:Int),(↑i39.toNat:Int),i40))
 else
 gd (decide (0<i35.toNat)) <|
 (l5[i34.toNat+0]?).bind fun nV=>
 gd (decide (1≤i35.toNat)&&decide (i35.toNat≤(some i36.toNat).getD (l5.length-i34.toNat))&&decide (0<l5.length)) <|
 bif decide (i20≤IntKind.i64.wrap (i40-nV.At)) then
 some (Sum.inr (true,0,mN,nV.P.aH,nV.P.Sub,nV.P.Number,nV.P.Data,nV.P.az,nV.P.aQ,nV.P.aJ,true,ml,nV.P.aH,nV.P.Sub,nV.P.Number,nV.P.Data,nV.P.az,nV.P.aQ,nV.P.aJ,true,i19,i20,i21,i22,i23,IntKind.i64.wrap (i25+1),i26,i27,i28,i29,i30,i31,i32,i33,i19,i20,i21,i22,i23,IntKind.i64.wrap (i25+1),i26,i27,i28,i29,i30,i31,i32,i33,(↑(i34.toNat+1):Int),(↑(i35.toNat-1):Int),(↑(i36.toNat-1):Int),(↑i37.toNat:Int),(↑i38.toNat:Int),(↑i39.toNat:Int),i40))
 else
 gd (decide (i34.toNat+1+(i35.toNat-1)≤l5.length)) <|
 gd (decide (i37.toNat+i38.toNat≤l6.length)) <|
 (aa.bW (lQ.mk (Queue.mk (af.mk i19 i20 i21 i22) i23 gK (A8.mk (IntKind.i64.wrap (i25+1)) i26 i27 i28 i29 i30 i31 i32) i33) (A2.mk (List.take (i35.toNat-1) (List.drop (i34.toNat+1) l5)) (List.take i38.toNat (List.drop i37.toNat l6))) i40 ml)).bind fun i58=>
 (aa.cJ i33 1000000).bind fun (i59,i60,i61)=>
 bif decide (i59<IntKind.i64.wrap (2*i58)) then
 some (Sum.inr (true,0,mN,nV.P.aH,nV.P.Sub,nV.P.Number,nV.P.Data,nV.P.az,nV.P.aQ,nV.P.aJ,true,ml,nV.P.aH,nV.P.Sub,nV.P.Number,nV.P.Data,nV.P.az,nV.P.aQ,nV.P.aJ,true,i19,i20,i21,i22,i23,IntKind.i64.wrap (i25+1),i26,i27,i28,i29,i30,i31,i32,i60,i19,i20,i21,i22,i23,IntKind.i64.wrap (i25+1),i26,i27,i28,i29,i30,i31,i32,i60,(↑(i34.toNat+1):Int),(↑(i35.toNat-1):Int),(↑(i36.toNat-1):Int),(↑i37.toNat:Int),(↑i38.toNat:Int),(↑i39.toNat:Int),i40))
 else
 some (Sum.inr (true,0,mN,nV.P.aH,nV.P.Sub,nV.P.Number,nV.P.Data,nV.P.az,nV.P.aQ,nV.P.aJ,nV.P.aB,ml,nV.P.aH,nV.P.Sub,nV.P.Number,nV.P.Data,nV.P.az,nV.P.aQ,nV.P.aJ,nV.P.aB,i19,i20,i21,i22,i23,IntKind.i64.wrap (i25+1),i26,i27,i28,i29,i30,i31,i32,i60,i19,i20,i21,i22,i23,IntKind.i64.wrap (i25+1),i26,i27,i28,i29,i30,i31,i32,i60,(↑(i34.toNat+1):Int),(↑(i35.toNat-1):Int),(↑(i36.toNat-1):Int),(↑i37.toNat:Int),(↑i38.toNat:Int),(↑i39.toNat:Int),i40))
 else
 bif (↑i38.toNat:Int)==0 then
 gd (decide (0<i35.toNat)) <|
 (l5[i34.toNat+0]?).bind fun nL=>
 gd (decide (1≤i35.toNat)&&decide (i35.toNat≤(some i36.toNat).getD (l5.length-i34.toNat))&&decide (0<l5.length)) <|
 bif decide (i20≤IntKind.i64.wrap (i40-nL.At)) then
 some (Sum.inr (true,0,mN,nL.P.aH,nL.P.Sub,nL.P.Number,nL.P.Data,nL.P.az,nL.P.aQ,nL.P.aJ,true,ml,nL.P.aH,nL.P.Sub,nL.P.Number,nL.P.Data,nL.P.az,nL.P.aQ,nL.P.aJ,true,i19,i20,i21,i22,i23,0,i26,i27,i28,i29,i30,i31,i32,i33,i19,i20,i21,i22,i23,0,i26,i27,i28,i29,i30,i31,i32,i33,(↑(i34.toNat+1):Int),(↑(i35.toNat-1):Int),(↑(i36.toNat-1):Int),(↑i37.toNat:Int),(↑i38.toNat:Int),(↑i39.toNat:Int),i40))
 else
 gd (decide (i34.toNat+1+(i35.toNat-1)≤l5.length)) <|
 gd (decide (i37.toNat+i38.toNat≤l6.length)) <|
 (aa.bW (lQ.mk (Queue.mk (af.mk i19 i20 i21 i22) i23 gK (A8.mk 0 i26 i27 i28 i29 i30 i31 i32) i33) (A2.mk (List.take (i35.toNat-1) (List.drop (i34.toNat+1) l5)) (List.take i38.toNat (List.drop i37.toNat l6))) i40 ml)).bind fun i63=>
 (aa.cJ i33 1000000).bind fun (i64,i65,i66)=>
 bif decide (i64<IntKind.i64.wrap (2*i63)) then
 some (Sum.inr (true,0,mN,nL.P.aH,nL.P.Sub,nL.P.Number,nL.P.Data,nL.P.az,nL.P.aQ,nL.P.aJ,true,ml,nL.P.aH,nL.P.Sub,nL.P.Number,nL.P.Data,nL.P.az,nL.P.aQ,nL.P.aJ,true,i19,i20,i21,i22,i23,0,i26,i27,i28,i29,i30,i31,i32,i65,i19,i20,i21,i22,i23,0,i26,i27,i28,i29,i30,i31,i32,i65,(↑(i34.toNat+1):Int),(↑(i35.toNat-1):Int),(↑(i36.toNat-1):Int),(↑i37.toNat:Int),(↑i38.toNat:Int),(↑i39.toNat:Int),i40))
 else
 some (Sum.inr (true,0,mN,nL.P.aH,nL.P.Sub,nL.P.Number,nL.P.Data,nL.P.az,nL.P.aQ,nL.P.aJ,nL.P.aB,ml,nL.P.aH,nL.P.Sub,nL.P.Number,nL.P.Data,nL.P.az,nL.P.aQ,nL.P.aJ,nL.P.aB,i19,i20,i21,i22,i23,0,i26,i27,i28,i29,i30,i31,i32,i65,i19,i20,i21,i22,i23,0,i26,i27,i28,i29,i30,i31,i32,i65,(↑(i34.toNat+1):Int),(↑(i35.toNat-1):Int),(↑(i36.toNat-1):Int),(↑i37.toNat:Int),(↑i38.toNat:Int),(↑i39.toNat:Int),i40))
 else
 bif decide (0<i35.toNat) then
 (l5[i34.toNat+0]?).bind fun nM=>
 gd (decide (1≤i35.toNat)&&decide (i35.toNat≤(some i36.toNat).getD (l5.length-i34.toNat))&&decide (0<l5.length)) <|
 bif decide (i20≤IntKind.i64.wrap (i40-nM.At)) then
 some (Sum.inr (true,0,mN,nM.P.aH,nM.P.Sub,nM.P.Number,nM.P.Data,nM.P.az,nM.P.aQ,nM.P.aJ,true,ml,nM.P.aH,nM.P.Sub,nM.P.Number,nM.P.Data,nM.P.az,nM.P.aQ,nM.P.aJ,true,i19,i20,i21,i22,i23,IntKind.i64.wrap (i25+1),i26,i27,i28,i29,i30,i31,i32,i33,i19,i20,i21,i22,i23,IntKind.i64.wrap (i25+1),i26,i27,i28,i29,i30,i31,i32,i33,(↑(i34.toNat+1):Int),(↑(i35.toNat-1):Int),(↑(i36.toNat-1):Int),(↑i37.toNat:Int),(↑i38.toNat:Int),(↑i39.toNat:Int),i40))
 else
 gd (decide (i34.toNat+1+(i35.toNat-1)≤l5.length)) <|
 gd (decide (i37.toNat+i38.toNat≤l6.length)) <|
 (aa.bW (lQ.mk (Queue.mk (af.mk i19 i20 i21 i22) i23 gK (A8.mk (IntKind.i64.wrap (i25+1)) i26 i27 i28 i29 i30 i31 i32) i33) (A2.mk (List.take (i35.toNat-1) (List.drop (i34.toNat+1) l5)) (List.take i38.toNat (List.drop i37.toNat l6))) i40 ml)).bind fun i68=>
 (aa.cJ i33 1000000).bind fun (i69,i70,i71)=>
 bif decide (i69<IntKind.i64.wrap (2*i68)) then
 some (Sum.inr (true,0,mN,nM.P.aH,nM.P.Sub,nM.P.Number,nM.P.Data,nM.P.az,nM.P.aQ,nM.P.aJ,true,ml,nM.P.aH,nM.P.Sub,nM.P.Number,nM.P.Data,nM.P.az,nM.P.aQ,nM.P.aJ,true,i19,i20,i21,i22,i23,IntKind.i64.wrap (i25+1),i26,i27,i28,i29,i30,i31,i32,i70,i19,i20,i21,i22,i23,IntKind.i64.wrap (i25+1),i26,i27,i28,i29,i30,i31,i32,i70,(↑(i34.toNat+1):Int),(↑(i35.toNat-1):Int),(↑(i36.toNat-1):Int),(↑i37.toNat:Int),(↑i38.toNat:Int),(↑i39.toNat:Int),i40))
 else
 some (Sum.inr (true,0,mN,nM.P.aH,nM.P.Sub,nM.P.Number,nM.P.Data,nM.P.az,nM.P.aQ,nM.P.aJ,nM.P.aB,ml,nM.P.aH,nM.P.Sub,nM.P.Number,nM.P.Data,nM.P.az,nM.P.aQ,nM.P.aJ,nM.P.aB,i19,i20,i21,i22,i23,IntKind.i64.wrap (i25+1),i26,i27,i28,i29,i30,i31,i32,i70,i19,i20,i21,i22,i23,IntKind.i64.wrap (i25+1),i26,i27,i28,i29,i30,i31,i32,i70,(↑(i34.toNat+1):Int),(↑(i35.toNat-1):Int),(↑(i36.toNat-1):Int),(↑i37.toNat:Int),(↑i38.toNat:Int),(↑i39.toNat:Int),i40))
 else
 none) (false,0,false,[],0,0,0,0,0,0,false,false,q.af.Kind,q.af.A,q.af.B,q.af.C,q.Room,q.ah,q.ae.e0,q.ae.e1,q.ae.e2,q.ae.e3,q.ae.e4,q.ae.e5,q.ae.e6,now,q.bm,(↑0:Int),(↑l5.length:Int),(↑(↑l3.length:Int).toNat:Int),(↑0:Int),(↑l6.length:Int),(↑(↑l4.length:Int).toNat:Int),now,[])).bind fun (b72,i73,l74,i75,i76,i77,i78,i79,i80,b81,b82,l83,i84,i85,i86,i87,i88,i89,b90,b91,i92,i93,i94,i95,i96,i97,i98,i99,i100,i101,i102,i103,i104,i105,i106,i107,i108,i109,i110,i111,i112,i113,i114,i115,i116,i117,i118,i119,i120,i121,i122,i123,i124,i125,i126)=>
 gd (decide (i120.toNat+i121.toNat≤l5.length)) <|
 gd (decide (i123.toNat+i124.toNat≤l6.length)) <|
 some (Queue.mk (af.mk i92 i93 i94 i95) i96 [List.take i121.toNat (List.drop i120.toNat l5),List.take i124.toNat (List.drop i123.toNat l6)] (A8.mk i97 i98 i99 i100 i101 i102 i103 i104) i105,an.mk i84 i85 i86 i87 i88 i89 b90 b91,b72,l83,i73)
noncomputable def Go.aa.CP(p:af)(room:Int):Option (Queue×Int):=
 bif decide (p.Kind<1) then
 some (zQ,9)
 else
 bif decide (6<p.Kind) then
 some (zQ,9)
 else
 gd (decide (0≤p.Kind)) <|
 bif decide (p.Kind.toNat=0) then
 none
 else
 bif decide (p.Kind.toNat=1) then
 (aa.lk (Queue.mk p room (List.replicate 1 []) (A8.mk 0 0 0 0 0 0 0 0) 0):Option Bool).bind fun b1=>
 bif !b1 then
 some (zQ,1)
 else
 some (Queue.mk p room (List.replicate 1 []) (A8.mk 0 0 0 0 0 0 0 0) 0,0)
 else
 bif decide (p.Kind.toNat=2) then
 (aa.fY (Queue.mk p room (List.replicate 1 []) (A8.mk 0 0 0 0 0 0 0 0) 0):Option Bool).bind fun b2=>
 bif !b2 then
 some (zQ,1)
 else
 some (Queue.mk p room (List.replicate 1 []) (A8.mk 0 0 0 0 0 0 0 0) 0,0)
 else
 bif decide (p.Kind.toNat=3) then
 (aa.eu (Queue.mk p room (List.replicate 1 []) (A8.mk 0 0 0 0 0 0 0 0) 0):Option Bool).bind fun b3=>
 bif !b3 then
 some (zQ,1)
 else
 some (Queue.mk p room (List.replicate 1 []) (A8.mk 0 0 0 0 0 0 0 0) 0,0)
 else
 bif decide (p.Kind.toNat=4) then
 (aa.fR (Queue.mk p room (List.replicate 1 []) (A8.mk 0 0 0 0 0 0 0 0) 0):Option Bool).bind fun b4=>
 bif !b4 then
 some (zQ,1)
 else
 some (Queue.mk p room (List.replicate 1 []) (A8.mk 0 0 0 0 0 0 0 0) 0,0)
 else
 bif decide (p.Kind.toNat=5) then
 (aa.eA (Queue.mk p room (List.replicate 8 []) (A8.mk 0 0 0 0 0 0 0 0) 0):Option Bool).bind fun b5=>
 bif !b5 then
 some (zQ,1)
 else
 some (Queue.mk p room (List.replicate 8 []) (A8.mk 0 0 0 0 0 0 0 0) 0,0)
 else
 gd (decide (p.Kind.toNat=6)) <|
 (aa.jo (Queue.mk p room (List.replicate 2 []) (A8.mk 0 0 0 0 0 0 0 0) 0):Option Bool).bind fun b6=>
 bif !b6 then
 some (zQ,1)
 else
 some (Queue.mk p room (List.replicate 2 []) (A8.mk 0 0 0 0 0 0 0 0) 0,0)
noncomputable def Go.aa.cV(n:Int)(low:Int)(high:Int):Option Bool:=
 bif decide (low≤n) then
 some (decide (n≤high))
 else
 some false
noncomputable def Go.aa.oz(q:Queue):Option Bool:=
 bif decide (q.af.Kind<1) then
 some false
 else
 bif decide (6<q.af.Kind) then
 some false
 else
 gd (decide (0≤q.af.Kind)) <|
 bif decide (q.af.Kind.toNat=0) then
 none
 else
 bif decide (q.af.Kind.toNat=1) then
 (aa.lk q).bind fun b1=>
 some b1
 else
 bif decide (q.af.Kind.toNat=2) then
 (aa.fY q).bind fun b2=>
 some b2
 else
 bif decide (q.af.Kind.toNat=3) then
 (aa.eu q).bind fun b3=>
 some b3
 else
 bif decide (q.af.Kind.toNat=4) then
 (aa.fR q).bind fun b4=>
 some b4
 else
 bif decide (q.af.Kind.toNat=5) then
 (aa.eA q).bind fun b5=>
 some b5
 else
 gd (decide (q.af.Kind.toNat=6)) <|
 (aa.jo q).bind fun b6=>
 some b6
noncomputable def Go.aa.jH(n:Int):Option Bool:=
 (aa.cV n 0 10000000).bind fun b1=>
 some b1
noncomputable def Go.aa.jb(p:an):Option Bool:=
 (aa.cV p.aH 0 7).bind fun b1=>
 bif b1 then
 (aa.cV p.Sub 0 3).bind fun b2=>
 bif b2 then
 (aa.cV p.Number 0 1000000000).bind fun b3=>
 bif b3 then
 (aa.cV p.Data 0 1000000000).bind fun b4=>
 bif b4 then
 (aa.cV p.az 1 10000).bind fun b5=>
 bif b5 then
 (aa.jH p.aQ).bind fun b6=>
 some b6
 else
 some false
 else
 some false
 else
 some false
 else
 some false
 else
 some false
noncomputable def Go.aa.lq(q:Queue):Option Int:=
 (aX (ω:=Int×Int) (fun ((i1,i2):Int×Int)=>
 bif decide (i1<(↑q.ah.length:Int)) then
 gd (decide (0≤i1)) <|
 (q.ah[i1.toNat]?).bind fun l3=>
 some (Sum.inl (IntKind.i64.wrap (i1+1),IntKind.i64.wrap (i2+(↑l3.length:Int))))
 else
 some (Sum.inr (i1,i2))) (0,0)).bind fun (i4,i5)=>
 some i5
noncomputable def Go.aa.jq(l:bf):Option Bool:=
 (aa.cV l.dv 1 1000000).bind fun b1=>
 bif !b1 then
 some false
 else
 (aa.cV l.dc 0 1000000).bind fun b2=>
 bif !b2 then
 some false
 else
 (aa.oz l.Queue).bind fun b3=>
 bif !b3 then
 some false
 else
 bif l.iu then
 (aa.jb l.dm).bind fun b4=>
 bif b4 then
 (aa.cV l.cB l.Queue.ae.e7 20000000).bind fun b5=>
 some b5
 else
 some false
 else
 bif l.dm.aH==0&&(l.dm.Sub==0&&(l.dm.Number==0&&(l.dm.Data==0&&(l.dm.az==0&&(l.dm.aQ==0&&(l.dm.aJ==false&&l.dm.aB==false)))))) then
 bif l.cB==0 then
 (aa.lq l.Queue).bind fun i6=>
 some (i6==0)
 else
 some false
 else
 some false
noncomputable def Go.aa.Gd(fh:Int)(Sq:Int)(q:Queue):Option (bf×Int):=
 (aa.jq (bf.mk fh Sq q false zP 0)).bind fun b1=>
 bif !b1 then
 some (bf.mk 0 0 (zQ) false zP 0,1)
 else
 some (bf.mk fh Sq q false zP 0,0)
noncomputable def Go.aa.Ge(p:af)(room:Int)(fh:Int):Option (bf×Bool):=
 (aa.CP p room).bind fun (q1,i2)=>
 (aa.Gd fh 0 q1).bind fun (q3,i4)=>
 bif i2==0 then
 some (q3,i4==0)
 else
 some (q3,false)
noncomputable def Go.aa.xp(q:Queue)(p:an)(now:Int):Option (Queue×(List an)×Int):=
 bif decide (q.af.Kind<1) then
 some (zQ,[],9)
 else
 bif decide (6<q.af.Kind) then
 some (zQ,[],9)
 else
 gd (decide (0≤q.af.Kind)) <|
 bif decide (q.af.Kind.toNat=0) then
 none
 else
 bif decide (q.af.Kind.toNat=1) then
 (aa.FT q p now).bind fun (q1,l2,i3)=>
 some (q1,l2,i3)
 else
 bif decide (q.af.Kind.toNat=2) then
 (aa.CN q p now).bind fun (q4,l5,i6)=>
 some (q4,l5,i6)
 else
 bif decide (q.af.Kind.toNat=3) then
 (aa.yk q p now).bind fun (q7,l8,i9)=>
 some (q7,l8,i9)
 else
 bif decide (q.af.Kind.toNat=4) then
 (aa.vV q p now).bind fun (q10,NW,i12)=>
 some (q10,NW,i12)
 else
 bif decide (q.af.Kind.toNat=5) then
 (aa.yl q p now).bind fun (rf,NX,i15)=>
 some (rf,NX,i15)
 else
 gd (decide (q.af.Kind.toNat=6)) <|
 (aa.Gb q p now).bind fun (q16,QL,i18)=>
 some (q16,QL,i18)
noncomputable def Go.aa.bS(q:Queue)(now:Int):Option (Queue×an×Bool×(List an)×Int):=
 bif decide (q.af.Kind<1) then
 some (zQ,zP,false,[],9)
 else
 bif decide (6<q.af.Kind) then
 some (zQ,zP,false,[],9)
 else
 gd (decide (0≤q.af.Kind)) <|
 bif decide (q.af.Kind.toNat=0) then
 none
 else
 bif decide (q.af.Kind.toNat=1) then
 (aa.pS q now).bind fun (q1,q2,b3,l4,i5)=>
 some (q1,q2,b3,l4,i5)
 else
 bif decide (q.af.Kind.toNat=2) then
 (aa.nx q now).bind fun (q6,q7,b8,l9,i10)=>
 some (q6,q7,b8,l9,i10)
 else
 bif decide (q.af.Kind.toNat=3) then
 (aa.ke q now).bind fun (T8,BA,ue,NX,i15)=>
 some (T8,BA,ue,NX,i15)
 else
 bif decide (q.af.Kind.toNat=4) then
 (aa.iZ q now).bind fun (q16,Wb,LN,l19,i20)=>
 some (q16,Wb,LN,l19,i20)
 else
 bif decide (q.af.Kind.toNat=5) then
 (aa.kf q now).bind fun (LM,q22,PS,gK,i25)=>
 some (LM,q22,PS,gK,i25)
 else
 gd (decide (q.af.Kind.toNat=6)) <|
 (aa.pU q now).bind fun (XB,Xf,b28,yY,i30)=>
 some (XB,Xf,b28,yY,i30)
noncomputable def Go.aa.yx(l:bf)(p:an)(now:Int):Option (bf×(List an)×Int):=
 (aa.jq l).bind fun b1=>
 bif !b1 then
 some (bf.mk 0 0 (zQ) false zP 0,[],1)
 else
 (aa.jb p).bind fun b2=>
 bif !b2 then
 some (bf.mk 0 0 (zQ) false zP 0,[],1)
 else
 (aa.jH now).bind fun b3=>
 bif !b3 then
 some (bf.mk 0 0 (zQ) false zP 0,[],1)
 else
 bif decide (now<l.Queue.ae.e7) then
 some (bf.mk 0 0 (zQ) false zP 0,[],18)
 else
 bif l.iu then
 bif decide (l.cB<now) then
 some (bf.mk 0 0 (zQ) false zP 0,[],18)
 else
 (aa.xp l.Queue p now).bind fun (q4,l5,i6)=>
 bif !i6==0 then
 none /- "op" -/
 else
 bif l5.isEmpty then
 bif !l.iu then
 (aa.bS q4 now).bind fun (q7,q8,b9,mN,i11)=>
 bif !i11==0 then
 none /- "op" -/
 else
 bif b9 then
 bif decide (l.dv=0) then
 none
 else
 bif mN.isEmpty then
 some (bf.mk l.dv l.dc q7 b9 q8 (IntKind.i64.wrap (now+IntKind.i64.wrap ((IntKind.i64.wrap (IntKind.i64.wrap (IntKind.i64.wrap (1000*q8.az)+l.dv)-1)).tdiv l.dv))),[],0)
 else
 gd (decide (mN.length*56≤2^44)&&decide (mN.length≤2^44)) <|
 some (bf.mk l.dv l.dc q7 b9 q8 (IntKind.i64.wrap (now+IntKind.i64.wrap ((IntKind.i64.wrap (IntKind.i64.wrap (IntKind.i64.wrap (1000*q8.az)+l.dv)-1)).tdiv l.dv))),mN,0)
 else
 bif mN.isEmpty then
 some (bf.mk l.dv l.dc q7 b9 q8 0,[],0)
 else
 gd (decide (mN.length*56≤2^44)&&decide (mN.length≤2^44)) <|
 some (bf.mk l.dv l.dc q7 b9 q8 0,mN,0)
 else
 some (bf.mk l.dv l.dc q4 l.iu l.dm l.cB,[],0)
 else
 gd (decide (l5.length*56≤2^44)&&decide (l5.length≤2^44)) <|
 bif !l.iu then
 (aa.bS q4 now).bind fun (BA,rf,ll,So,i16)=>
 bif !i16==0 then
 none /- "op" -/
 else
 bif ll then
 bif decide (l.dv=0) then
 none
 else
 gd (decide ((l5.length+So.length)*56≤2^44)&&decide (l5.length+So.length≤2^44)) <|
 some (bf.mk l.dv l.dc BA ll rf (IntKind.i64.wrap (now+IntKind.i64.wrap ((IntKind.i64.wrap (IntKind.i64.wrap (IntKind.i64.wrap (1000*rf.az)+l.dv)-1)).tdiv l.dv))),l5++So,0)
 else
 gd (decide ((l5.length+So.length)*56≤2^44)&&decide (l5.length+So.length≤2^44)) <|
 some (bf.mk l.dv l.dc BA ll rf 0,l5++So,0)
 else
 some (bf.mk l.dv l.dc q4 l.iu l.dm l.cB,l5,0)
 else
 (aa.xp l.Queue p now).bind fun (Wb,Ew,i19)=>
 bif !i19==0 then
 none /- "op" -/
 else
 bif Ew.isEmpty then
 bif !l.iu then
 (aa.bS Wb now).bind fun (ZN,LM,JW,Sr,i24)=>
 bif !i24==0 then
 none /- "op" -/
 else
 bif JW then
 bif decide (l.dv=0) then
 none
 else
 bif Sr.isEmpty then
 some (bf.mk l.dv l.dc ZN JW LM (IntKind.i64.wrap (now+IntKind.i64.wrap ((IntKind.i64.wrap (IntKind.i64.wrap (IntKind.i64.wrap (1000*LM.az)+l.dv)-1)).tdiv l.dv))),[],0)
 else
 gd (decide (Sr.length*56≤2^44)&&decide (Sr.length≤2^44)) <|
 some (bf.mk l.dv l.dc ZN JW LM (IntKind.i64.wrap (now+IntKind.i64.wrap ((IntKind.i64.wrap (IntKind.i64.wrap (IntKind.i64.wrap (1000*LM.az)+l.dv)-1)).tdiv l.dv))),Sr,0)
 else
 bif Sr.isEmpty then
 some (bf.mk l.dv l.dc ZN JW LM 0,[],0)
 else
 gd (decide (Sr.length*56≤2^44)&&decide (Sr.length≤2^44)) <|
 some (bf.mk l.dv l.dc ZN JW LM 0,Sr,0)
 else
 some (bf.mk l.dv l.dc Wb l.iu l.dm l.cB,[],0)
 else
 gd (decide (Ew.length*56≤2^44)&&decide (Ew.length≤2^44)) <|
 bif !l.iu then
 (aa.bS Wb now).bind fun (Sn,XB,PO,ir,i29)=>
 bif !i29==0 then
 none /- "op" -/
 else
 bif PO then
 bif decide (l.dv=0) then
 none
 else
 gd (decide ((Ew.length+ir.length)*56≤2^44)&&decide (Ew.length+ir.length≤2^44)) <|
 some (bf.mk l.dv l.dc Sn PO XB (IntKind.i64.wrap (now+IntKind.i64.wrap ((IntKind.i64.wrap (IntKind.i64.wrap (IntKind.i64.wrap (1000*XB.az)+l.dv)-1)).tdiv l.dv))),Ew++ir,0)
 else
 gd (decide ((Ew.length+ir.length)*56≤2^44)&&decide (Ew.length+ir.length≤2^44)) <|
 some (bf.mk l.dv l.dc Sn PO XB 0,Ew++ir,0)
 else
 some (bf.mk l.dv l.dc Wb l.iu l.dm l.cB,Ew,0)
noncomputable def Go.aa.mV(l:bf)(now:Int):Option (bf×an×(List an)×Int):=
 (aa.jq l).bind fun b1=>
 bif !b1 then
 some (bf.mk 0 0 (zQ) false zP 0,zP,[],1)
 else
 (aa.jH now).bind fun b2=>
 bif !b2 then
 some (bf.mk 0 0 (zQ) false zP 0,zP,[],1)
 else
 bif !l.iu then
 some (bf.mk 0 0 (zQ) false zP 0,zP,[],6)
 else
 bif !now==l.cB then
 some (bf.mk 0 0 (zQ) false zP 0,zP,[],18)
 else
 (aa.bS l.Queue now).bind fun (q3,q4,b5,l6,i7)=>
 bif !i7==0 then
 none /- "op" -/
 else
 bif b5 then
 bif decide (l.dv=0) then
 none
 else
 bif l6.isEmpty then
 some (bf.mk l.dv l.dc q3 b5 q4 (IntKind.i64.wrap (now+IntKind.i64.wrap ((IntKind.i64.wrap (IntKind.i64.wrap (IntKind.i64.wrap (1000*q4.az)+l.dv)-1)).tdiv l.dv))),l.dm,[],0)
 else
 gd (decide (l6.length*56≤2^44)&&decide (l6.length≤2^44)) <|
 some (bf.mk l.dv l.dc q3 b5 q4 (IntKind.i64.wrap (now+IntKind.i64.wrap ((IntKind.i64.wrap (IntKind.i64.wrap (IntKind.i64.wrap (1000*q4.az)+l.dv)-1)).tdiv l.dv))),l.dm,l6,0)
 else
 bif l6.isEmpty then
 some (bf.mk l.dv l.dc q3 b5 q4 0,l.dm,[],0)
 else
 gd (decide (l6.length*56≤2^44)&&decide (l6.length≤2^44)) <|
 some (bf.mk l.dv l.dc q3 b5 q4 0,l.dm,l6,0)
noncomputable def Go.aa.sL(q:Queue):Option Bool:=
 (aX (ω:=Bool ⊕ Bool×Int) (fun ((b1,i2):Bool×Int)=>
 bif decide (i2<(↑q.ah.length:Int)) then
 gd (decide (0≤i2)) <|
 (q.ah[i2.toNat]?).bind fun l3=>
 bif decide (600<(↑l3.length:Int)) then
 some (Sum.inr (Sum.inl false))
 else
 some (Sum.inl (b1,IntKind.i64.wrap (i2+1)))
 else
 some (Sum.inr (Sum.inr (b1,i2)))) (false,0)).bind fun w4=>
 Sum.elim (fun b5=>
 some b5) (fun (b6,i7)=>
 some (decide ((↑q.ah.length:Int)≤20))) w4
noncomputable def Go.aa.sM(l:bf):Option Bool:=
 (aa.sL l.Queue).bind fun b1=>
 some b1
noncomputable def Go.aa.nC(n:Int):Option Bool:=
 bif decide (1≤n) then
 some (decide (n≤1000000))
 else
 some false
noncomputable def Go.aa.dU(n:Int):Option Bool:=
 bif decide (0≤n) then
 some (decide (n≤10000000))
 else
 some false
noncomputable def Go.aa.mH(n:Int):Option Bool:=
 bif decide (0≤n) then
 some (decide (n≤1000000000))
 else
 some false
noncomputable def Go.aa.kg(p:an):Option Bool:=
 bif decide (0≤p.aH) then
 bif decide (p.aH<8) then
 bif decide (0≤p.Sub) then
 bif decide (p.Sub<4) then
 (aa.mH p.Number).bind fun b1=>
 bif b1 then
 (aa.mH p.Data).bind fun b2=>
 bif b2 then
 bif decide (1≤p.az) then
 bif decide (p.az≤10000) then
 (aa.dU p.aQ).bind fun b3=>
 some b3
 else
 some false
 else
 some false
 else
 some false
 else
 some false
 else
 some false
 else
 some false
 else
 some false
 else
 some false
noncomputable def Go.aa.dy(l:List ai)(last:Int):Option Bool:=
 (aX (ω:=Bool ⊕ Bool×Int) (fun ((b1,i2):Bool×Int)=>
 bif decide (i2<(↑l.length:Int)) then
 gd (decide (0≤i2)) <|
 (l[i2.toNat]?).bind fun q3=>
 (aa.kg q3.P).bind fun b4=>
 bif !b4 then
 some (Sum.inr (Sum.inl false))
 else
 gd (decide (0≤i2)) <|
 (l[i2.toNat]?).bind fun q5=>
 (aa.dU q5.At).bind fun b6=>
 bif !b6 then
 some (Sum.inr (Sum.inl false))
 else
 gd (decide (0≤i2)) <|
 (l[i2.toNat]?).bind fun q7=>
 bif decide (last<q7.At) then
 some (Sum.inr (Sum.inl false))
 else
 bif decide (0<i2) then
 gd (decide (0≤i2)) <|
 (l[i2.toNat]?).bind fun q8=>
 gd (decide (0≤IntKind.i64.wrap (i2-1))) <|
 (l[(IntKind.i64.wrap (i2-1)).toNat]?).bind fun q9=>
 bif decide (q8.At<q9.At) then
 some (Sum.inr (Sum.inl false))
 else
 some (Sum.inl (b1,IntKind.i64.wrap (i2+1)))
 else
 some (Sum.inl (b1,IntKind.i64.wrap (i2+1)))
 else
 some (Sum.inr (Sum.inr (b1,i2)))) (false,0)).bind fun w10=>
 Sum.elim (fun uO=>
 some uO) (fun (D8,i13)=>
 some true) w10
noncomputable def Go.aa.oj(q:Queue):Option Bool:=
 bif !(q.af.Kind==1&&(q.af.A==0&&(q.af.B==0&&q.af.C==0))) then
 some false
 else
 bif decide (q.Room<1) then
 some false
 else
 bif decide (500<q.Room) then
 some false
 else
 bif !(↑q.ah.length:Int)==1 then
 some false
 else
 bif !q.bm==0 then
 some false
 else
 (aa.dU (v8 q.ae 7)).bind fun b1=>
 bif !b1 then
 some false
 else
 (aX (ω:=Bool ⊕ Bool×Int) (fun ((b2,i3):Bool×Int)=>
 bif decide (i3<7) then
 gd (decide (0≤i3)) <|
 gd (decide (i3.toNat<8)) <|
 bif !v8 q.ae i3.toNat==0 then
 some (Sum.inr (Sum.inl false))
 else
 some (Sum.inl (b2,IntKind.i64.wrap (i3+1)))
 else
 some (Sum.inr (Sum.inr (b2,i3)))) (false,0)).bind fun w4=>
 Sum.elim (fun b5=>
 some b5) (fun (b6,i7)=>
 (q.ah[0]?).bind fun l8=>
 bif decide ((↑l8.length:Int)≤q.Room) then
 (q.ah[0]?).bind fun l9=>
 (aa.dy l9 (v8 q.ae 7)).bind fun yf=>
 some yf
 else
 some false) w4
noncomputable def Go.aa.oq(q:Queue):Option Bool:=
 bif !q.af.Kind==2 then
 some false
 else
 bif decide (q.af.A<1) then
 some false
 else
 bif decide (q.af.B≤q.af.A) then
 some false
 else
 bif decide (500<q.af.B) then
 some false
 else
 bif decide (q.af.C<0) then
 some false
 else
 bif decide (10<q.af.C) then
 some false
 else
 bif decide (q.Room<1) then
 some false
 else
 bif decide (500<q.Room) then
 some false
 else
 bif !(↑q.ah.length:Int)==1 then
 some false
 else
 (aX (ω:=Bool ⊕ Bool×Int) (fun ((b1,i2):Bool×Int)=>
 bif decide (i2<7) then
 gd (decide (0≤i2)) <|
 gd (decide (i2.toNat<8)) <|
 bif !v8 q.ae i2.toNat==0 then
 some (Sum.inr (Sum.inl false))
 else
 some (Sum.inl (b1,IntKind.i64.wrap (i2+1)))
 else
 some (Sum.inr (Sum.inr (b1,i2)))) (false,1)).bind fun w3=>
 Sum.elim (fun b4=>
 some b4) (fun (b5,i6)=>
 (aa.dU (v8 q.ae 7)).bind fun b7=>
 (q.ah[0]?).bind fun l8=>
 (aa.dy l8 (v8 q.ae 7)).bind fun b9=>
 bif b7 then
 bif b9 then
 bif decide (0≤v8 q.ae 0) then
 bif decide (v8 q.ae 0≤512000) then
 (q.ah[0]?).bind fun mN=>
 some (decide ((↑mN.length:Int)≤q.Room))
 else
 some false
 else
 some false
 else
 some false
 else
 some false) w3
noncomputable def Go.aa.ot(q:Queue):Option Bool:=
 bif !q.af.Kind==3 then
 some false
 else
 bif decide (q.af.A<0) then
 some false
 else
 bif decide (1000000<q.af.A) then
 some false
 else
 bif decide (q.af.B<1) then
 some false
 else
 bif decide (1000000<q.af.B) then
 some false
 else
 bif !q.af.C==0 then
 some false
 else
 bif decide (q.Room<1) then
 some false
 else
 bif decide (500<q.Room) then
 some false
 else
 bif !(↑q.ah.length:Int)==1 then
 some false
 else
 bif !q.bm==0 then
 some false
 else
 (aa.dU (v8 q.ae 7)).bind fun b1=>
 bif !b1 then
 some false
 else
 bif decide (v8 q.ae 0<0) then
 some false
 else
 bif decide (IntKind.i64.wrap (IntKind.i64.wrap (v8 q.ae 7+q.af.B)+1)<v8 q.ae 0) then
 some false
 else
 bif decide (v8 q.ae 1<0) then
 some false
 else
 bif decide (1000000000<v8 q.ae 1) then
 some false
 else
 bif v8 q.ae 0==0 then
 bif !v8 q.ae 1==0 then
 some false
 else
 (aX (ω:=Bool ⊕ Bool×Int) (fun ((b2,i3):Bool×Int)=>
 bif decide (i3<7) then
 gd (decide (0≤i3)) <|
 gd (decide (i3.toNat<8)) <|
 bif !v8 q.ae i3.toNat==0 then
 some (Sum.inr (Sum.inl false))
 else
 some (Sum.inl (b2,IntKind.i64.wrap (i3+1)))
 else
 some (Sum.inr (Sum.inr (b2,i3)))) (false,2)).bind fun w4=>
 Sum.elim (fun b5=>
 some b5) (fun (b6,i7)=>
 (q.ah[0]?).bind fun l8=>
 bif decide ((↑l8.length:Int)≤q.Room) then
 (q.ah[0]?).bind fun l9=>
 (aa.dy l9 (v8 q.ae 7)).bind fun yf=>
 some yf
 else
 some false) w4
 else
 (aX (ω:=Bool ⊕ Bool×Int) (fun ((uO,i12):Bool×Int)=>
 bif decide (i12<7) then
 gd (decide (0≤i12)) <|
 gd (decide (i12.toNat<8)) <|
 bif !v8 q.ae i12.toNat==0 then
 some (Sum.inr (Sum.inl false))
 else
 some (Sum.inl (uO,IntKind.i64.wrap (i12+1)))
 else
 some (Sum.inr (Sum.inr (uO,i12)))) (false,2)).bind fun w13=>
 Sum.elim (fun ll=>
 some ll) (fun (CO,i16)=>
 (q.ah[0]?).bind fun QL=>
 bif decide ((↑QL.length:Int)≤q.Room) then
 (q.ah[0]?).bind fun Ew=>
 (aa.dy Ew (v8 q.ae 7)).bind fun Nw=>
 some Nw
 else
 some false) w13
noncomputable def Go.aa.mJ(p:af):Option Bool:=
 bif p.Kind==4 then
 bif decide (1≤p.A) then
 bif decide (p.A≤1000000) then
 bif decide (0≤p.B) then
 bif decide (p.B≤1000) then
 bif decide (0≤p.C) then
 some (decide (p.C≤1000))
 else
 some false
 else
 some false
 else
 some false
 else
 some false
 else
 some false
 else
 some false
noncomputable def Go.aa.ou(q:Queue):Option Bool:=
 (aa.mJ q.af).bind fun b1=>
 bif !b1 then
 some false
 else
 bif decide (q.Room<1) then
 some false
 else
 bif decide (500<q.Room) then
 some false
 else
 bif !(↑q.ah.length:Int)==1 then
 some false
 else
 (aa.dU (v8 q.ae 7)).bind fun b2=>
 bif !b2 then
 some false
 else
 bif decide (v8 q.ae 0<0) then
 some false
 else
 bif decide (1000000<v8 q.ae 0) then
 some false
 else
 (aa.dU (v8 q.ae 1)).bind fun b3=>
 bif !b3 then
 some false
 else
 bif decide (v8 q.ae 7<v8 q.ae 1) then
 some false
 else
 (aa.dU (v8 q.ae 2)).bind fun b4=>
 bif !b4 then
 some false
 else
 (aX (ω:=Bool ⊕ Bool×Int) (fun ((b5,i6):Bool×Int)=>
 bif decide (i6<7) then
 gd (decide (0≤i6)) <|
 gd (decide (i6.toNat<8)) <|
 bif !v8 q.ae i6.toNat==0 then
 some (Sum.inr (Sum.inl false))
 else
 some (Sum.inl (b5,IntKind.i64.wrap (i6+1)))
 else
 some (Sum.inr (Sum.inr (b5,i6)))) (false,3)).bind fun w7=>
 Sum.elim (fun b8=>
 some b8) (fun (b9,i10)=>
 (q.ah[0]?).bind fun NW=>
 bif decide ((↑NW.length:Int)≤q.Room) then
 (q.ah[0]?).bind fun Xz=>
 (aa.dy Xz (v8 q.ae 7)).bind fun ue=>
 some ue
 else
 some false) w7
noncomputable def Go.aa.ja(q:Queue)(wZ:Int):Option Int:=
 gd (decide (0≤IntKind.i64.wrap (2+IntKind.i64.wrap (wZ.tdiv 2)))) <|
 gd (decide ((IntKind.i64.wrap (2+IntKind.i64.wrap (wZ.tdiv 2))).toNat<8)) <|
 bif wZ.tmod 2==0 then
 some (IntKind.i64.wrap ((v8 q.ae (IntKind.i64.wrap (2+IntKind.i64.wrap (wZ.tdiv 2))).toNat).tdiv 32768))
 else
 some ((v8 q.ae (IntKind.i64.wrap (2+IntKind.i64.wrap (wZ.tdiv 2))).toNat).tmod 32768)
noncomputable def Go.aa.qm(q:Queue):Option Int:=
 (aX (ω:=Int×Int) (fun ((i1,i2):Int×Int)=>
 bif decide (i2<(↑q.ah.length:Int)) then
 gd (decide (0≤i2)) <|
 (q.ah[i2.toNat]?).bind fun l3=>
 some (Sum.inl (IntKind.i64.wrap (i1+(↑l3.length:Int)),IntKind.i64.wrap (i2+1)))
 else
 some (Sum.inr (i1,i2))) (0,0)).bind fun (i4,i5)=>
 some i4
noncomputable def Go.aa.ox(q:Queue):Option Bool:=
 bif !q.af.Kind==5 then
 some false
 else
 bif decide (q.af.A<100) then
 some false
 else
 bif decide (10000<q.af.A) then
 some false
 else
 bif !q.af.B==0 then
 some false
 else
 bif !q.af.C==0 then
 some false
 else
 bif decide (q.Room<1) then
 some false
 else
 bif decide (500<q.Room) then
 some false
 else
 bif !(↑q.ah.length:Int)==8 then
 some false
 else
 bif !q.bm==0 then
 some false
 else
 bif !v8 q.ae 6==0 then
 some false
 else
 (aa.dU (v8 q.ae 7)).bind fun b1=>
 bif !b1 then
 some false
 else
 bif decide (v8 q.ae 0<0) then
 some false
 else
 bif decide (7<v8 q.ae 0) then
 some false
 else
 bif decide (v8 q.ae 1<0) then
 some false
 else
 bif decide (1<v8 q.ae 1) then
 some false
 else
 bif v8 q.ae 1==1 then
 gd (decide (0≤v8 q.ae 0)) <|
 (q.ah[(v8 q.ae 0).toNat]?).bind fun l2=>
 bif (↑l2.length:Int)==0 then
 some false
 else
 (aX (ω:=Bool ⊕ Bool×Int) (fun ((b3,i4):Bool×Int)=>
 bif decide (i4<8) then
 gd (decide (0≤i4)) <|
 (q.ah[i4.toNat]?).bind fun l5=>
 (aa.dy l5 (v8 q.ae 7)).bind fun b6=>
 (aa.ja q i4).bind fun i7=>
 bif !b6 then
 some (Sum.inr (Sum.inl false))
 else
 gd (decide (0≤IntKind.i64.wrap (2+IntKind.i64.wrap (i4.tdiv 2)))) <|
 gd (decide ((IntKind.i64.wrap (2+IntKind.i64.wrap (i4.tdiv 2))).toNat<8)) <|
 bif decide (v8 q.ae (IntKind.i64.wrap (2+IntKind.i64.wrap (i4.tdiv 2))).toNat<0) then
 some (Sum.inr (Sum.inl false))
 else
 bif decide (19999<i7) then
 some (Sum.inr (Sum.inl false))
 else
 bif (↑l5.length:Int)==0 then
 bif !i7==0 then
 some (Sum.inr (Sum.inl false))
 else
 bif v8 q.ae 0==i4 then
 bif decide (0<(↑l5.length:Int)) then
 bif !v8 q.ae 1==1 then
 (l5[0]?).bind fun q8=>
 bif decide (q8.P.az≤i7) then
 some (Sum.inr (Sum.inl false))
 else
 (aX (ω:=Bool ⊕ Bool×Int) (fun ((b9,i10):Bool×Int)=>
 bif decide (i10<(↑l5.length:Int)) then
 gd (decide (0≤i10)) <|
 (l5[i10.toNat]?).bind fun T8=>
 bif !T8.P.aH==i4 then
 some (Sum.inr (Sum.inl false))
 else
 some (Sum.inl (b9,IntKind.i64.wrap (i10+1)))
 else
 some (Sum.inr (Sum.inr (b9,i10)))) (b3,0)).bind fun w12=>
 Sum.elim (fun ue=>
 some (Sum.inr (Sum.inl ue))) (fun (ll,i15)=>
 some (Sum.inl (ll,IntKind.i64.wrap (i4+1)))) w12
 else
 (aX (ω:=Bool ⊕ Bool×Int) (fun ((BN,i17):Bool×Int)=>
 bif decide (i17<(↑l5.length:Int)) then
 gd (decide (0≤i17)) <|
 (l5[i17.toNat]?).bind fun q18=>
 bif !q18.P.aH==i4 then
 some (Sum.inr (Sum.inl false))
 else
 some (Sum.inl (BN,IntKind.i64.wrap (i17+1)))
 else
 some (Sum.inr (Sum.inr (BN,i17)))) (b3,0)).bind fun w19=>
 Sum.elim (fun Ur=>
 some (Sum.inr (Sum.inl Ur))) (fun (Us,i22)=>
 some (Sum.inl (Us,IntKind.i64.wrap (i4+1)))) w19
 else
 (aX (ω:=Bool ⊕ Bool×Int) (fun ((PS,i24):Bool×Int)=>
 bif decide (i24<(↑l5.length:Int)) then
 gd (decide (0≤i24)) <|
 (l5[i24.toNat]?).bind fun Sn=>
 bif !Sn.P.aH==i4 then
 some (Sum.inr (Sum.inl false))
 else
 some (Sum.inl (PS,IntKind.i64.wrap (i24+1)))
 else
 some (Sum.inr (Sum.inr (PS,i24)))) (b3,0)).bind fun w26=>
 Sum.elim (fun PO=>
 some (Sum.inr (Sum.inl PO))) (fun (b28,i29)=>
 some (Sum.inl (b28,IntKind.i64.wrap (i4+1)))) w26
 else
 bif decide (0<(↑l5.length:Int)) then
 (l5[0]?).bind fun q30=>
 bif decide (q30.P.az≤i7) then
 some (Sum.inr (Sum.inl false))
 else
 (aX (ω:=Bool ⊕ Bool×Int) (fun ((V7,i32):Bool×Int)=>
 bif decide (i32<(↑l5.length:Int)) then
 gd (decide (0≤i32)) <|
 (l5[i32.toNat]?).bind fun q33=>
 bif !q33.P.aH==i4 then
 some (Sum.inr (Sum.inl false))
 else
 some (Sum.inl (V7,IntKind.i64.wrap (i32+1)))
 else
 some (Sum.inr (Sum.inr (V7,i32)))) (b3,0)).bind fun w34=>
 Sum.elim (fun b35=>
 some (Sum.inr (Sum.inl b35))) (fun (ZL,i37)=>
 some (Sum.inl (ZL,IntKind.i64.wrap (i4+1)))) w34
 else
 (aX (ω:=Bool ⊕ Bool×Int) (fun ((b38,i39):Bool×Int)=>
 bif decide (i39<(↑l5.length:Int)) then
 gd (decide (0≤i39)) <|
 (l5[i39.toNat]?).bind fun q40=>
 bif !q40.P.aH==i4 then
 some (Sum.inr (Sum.inl false))
 else
 some (Sum.inl (b38,IntKind.i64.wrap (i39+1)))
 else
 some (Sum.inr (Sum.inr (b38,i39)))) (b3,0)).bind fun w41=>
 Sum.elim (fun b42=>
 some (Sum.inr (Sum.inl b42))) (fun (K3,i44)=>
 some (Sum.inl (K3,IntKind.i64.wrap (i4+1)))) w41
 else
 bif v8 q.ae 0==i4 then
 bif decide (0<(↑l5.length:Int)) then
 bif !v8 q.ae 1==1 then
 (l5[0]?).bind fun q45=>
 bif decide (q45.P.az≤i7) then
 some (Sum.inr (Sum.inl false))
 else
 (aX (ω:=Bool ⊕ Bool×Int) (fun ((b46,i47):Bool×Int)=>
 bif decide (i47<(↑l5.length:Int)) then
 gd (decide (0≤i47)) <|
 (l5[i47.toNat]?).bind fun D9=>
 bif !D9.P.aH==i4 then
 some (Sum.inr (Sum.inl false))
 else
 some (Sum.inl (b46,IntKind.i64.wrap (i47+1)))
 else
 some (Sum.inr (Sum.inr (b46,i47)))) (b3,0)).bind fun w49=>
 Sum.elim (fun b50=>
 some (Sum.inr (Sum.inl b50))) (fun (b51,i52)=>
 some (Sum.inl (b51,IntKind.i64.wrap (i4+1)))) w49
 else
 (aX (ω:=Bool ⊕ Bool×Int) (fun ((b53,i54):Bool×Int)=>
 bif decide (i54<(↑l5.length:Int)) then
 gd (decide (0≤i54)) <|
 (l5[i54.toNat]?).bind fun q55=>
 bif !q55.P.aH==i4 then
 some (Sum.inr (Sum.inl false))
 else
 some (Sum.inl (b53,IntKind.i64.wrap (i54+1)))
 else
 some (Sum.inr (Sum.inr (b53,i54)))) (b3,0)).bind fun w56=>
 Sum.elim (fun b57=>
 some (Sum.inr (Sum.inl b57))) (fun (b58,i59)=>
 some (Sum.inl (b58,IntKind.i64.wrap (i4+1)))) w56
 else
 (aX (ω:=Bool ⊕ Bool×Int) (fun ((ZM,i61):Bool×Int)=>
 bif decide (i61<(↑l5.length:Int)) then
 gd (decide (0≤i61)) <|
 (l5[i61.toNat]?).bind fun nL=>
 bif !nL.P.aH==i4 then
 some (Sum.inr (Sum.inl false))
 else
 some (Sum.inl (ZM,IntKind.i64.wrap (i61+1)))
 else
 some (Sum.inr (Sum.inr (ZM,i61)))) (b3,0)).bind fun w63=>
 Sum.elim (fun b64=>
 some (Sum.inr (Sum.inl b64))) (fun (b65,i66)=>
 some (Sum.inl (b65,IntKind.i64.wrap (i4+1)))) w63
 else
 bif decide (0<(↑l5.length:Int)) then
 (l5[0]?).bind fun nM=>
 bif decide (nM.P.az≤i7) then
 some (Sum.inr (Sum.inl false))
 else
 (aX (ω:=Bool ⊕ Bool×Int) (fun ((b68,i69):Bool×Int)=>
 bif decide (i69<(↑l5.length:Int)) then
 gd (decide (0≤i69)) <|
 (l5[i69.toNat]?).bind fun q70=>
 bif !q70.P.aH==i4 then
 some (Sum.inr (Sum.inl false))
 else
 some (Sum.inl (b68,IntKind.i64.wrap (i69+1)))
 else
 some (Sum.inr (Sum.inr (b68,i69)))) (b3,0)).bind fun w71=>
 Sum.elim (fun b72=>
 some (Sum.inr (Sum.inl b72))) (fun (b73,i74)=>
 some (Sum.inl (b73,IntKind.i64.wrap (i4+1)))) w71
 else
 (aX (ω:=Bool ⊕ Bool×Int) (fun ((b75,i76):Bool×Int)=>
 bif decide (i76<(↑l5.length:Int)) then
 gd (decide (0≤i76)) <|
 (l5[i76.toNat]?).bind fun D7=>
 bif !D7.P.aH==i4 then
 some (Sum.inr (Sum.inl false))
 else
 some (Sum.inl (b75,IntKind.i64.wrap (i76+1)))
 else
 some (Sum.inr (Sum.inr (b75,i76)))) (b3,0)).bind fun w78=>
 Sum.elim (fun b79=>
 some (Sum.inr (Sum.inl b79))) (fun (b80,i81)=>
 some (Sum.inl (b80,IntKind.i64.wrap (i4+1)))) w78
 else
 some (Sum.inr (Sum.inr (b3,i4)))) (false,0)).bind fun w82=>
 Sum.elim (fun b83=>
 some b83) (fun (b84,i85)=>
 (aa.qm q).bind fun i86=>
 some (decide (i86≤q.Room))) w82
 else
 (aX (ω:=Bool ⊕ Bool×Int) (fun ((NY,i88):Bool×Int)=>
 bif decide (i88<8) then
 gd (decide (0≤i88)) <|
 (q.ah[i88.toNat]?).bind fun uS=>
 (aa.dy uS (v8 q.ae 7)).bind fun b90=>
 (aa.ja q i88).bind fun i91=>
 bif !b90 then
 some (Sum.inr (Sum.inl false))
 else
 gd (decide (0≤IntKind.i64.wrap (2+IntKind.i64.wrap (i88.tdiv 2)))) <|
 gd (decide ((IntKind.i64.wrap (2+IntKind.i64.wrap (i88.tdiv 2))).toNat<8)) <|
 bif decide (v8 q.ae (IntKind.i64.wrap (2+IntKind.i64.wrap (i88.tdiv 2))).toNat<0) then
 some (Sum.inr (Sum.inl false))
 else
 bif decide (19999<i91) then
 some (Sum.inr (Sum.inl false))
 else
 bif (↑uS.length:Int)==0 then
 bif !i91==0 then
 some (Sum.inr (Sum.inl false))
 else
 bif v8 q.ae 0==i88 then
 bif decide (0<(↑uS.length:Int)) then
 bif !v8 q.ae 1==1 then
 (uS[0]?).bind fun q92=>
 bif decide (q92.P.az≤i91) then
 some (Sum.inr (Sum.inl false))
 else
 (aX (ω:=Bool ⊕ Bool×Int) (fun ((b93,i94):Bool×Int)=>
 bif decide (i94<(↑uS.length:Int)) then
 gd (decide (0≤i94)) <|
 (uS[i94.toNat]?).bind fun q95=>
 bif !q95.P.aH==i88 then
 some (Sum.inr (Sum.inl false))
 else
 some (Sum.inl (b93,IntKind.i64.wrap (i94+1)))
 else
 some (Sum.inr (Sum.inr (b93,i94)))) (NY,0)).bind fun w96=>
 Sum.elim (fun b97=>
 some (Sum.inr (Sum.inl b97))) (fun (b98,i99)=>
 some (Sum.inl (b98,IntKind.i64.wrap (i88+1)))) w96
 else
 (aX (ω:=Bool ⊕ Bool×Int) (fun ((XC,i101):Bool×Int)=>
 bif decide (i101<(↑uS.length:Int)) then
 gd (decide (0≤i101)) <|
 (uS[i101.toNat]?).bind fun abr=>
 bif !abr.P.aH==i88 then
 some (Sum.inr (Sum.inl false))
 else
 some (Sum.inl (XC,IntKind.i64.wrap (i101+1)))
 else
 some (Sum.inr (Sum.inr (XC,i101)))) (NY,0)).bind fun abt=>
 Sum.elim (fun abu=>
 some (Sum.inr (Sum.inl abu))) (fun (abv,i106)=>
 some (Sum.inl (abv,IntKind.i64.wrap (i88+1)))) abt
 else
 (aX (ω:=Bool ⊕ Bool×Int) (fun ((XD,i108):Bool×Int)=>
 bif decide (i108<(↑uS.length:Int)) then
 gd (decide (0≤i108)) <|
 (uS[i108.toNat]?).bind fun Uo=>
 bif !Uo.P.aH==i88 then
 some (Sum.inr (Sum.inl false))
 else
 some (Sum.inl (XD,IntKind.i64.wrap (i108+1)))
 else
 some (Sum.inr (Sum.inr (XD,i108)))) (NY,0)).bind fun abw=>
 Sum.elim (fun abx=>
 some (Sum.inr (Sum.inl abx))) (fun (aby,i113)=>
 some (Sum.inl (aby,IntKind.i64.wrap (i88+1)))) abw
 else
 bif decide (0<(↑uS.length:Int)) then
 (uS[0]?).bind fun Up=>
 bif decide (Up.P.az≤i91) then
 some (Sum.inr (Sum.inl false))
 else
 (aX (ω:=Bool ⊕ Bool×Int) (fun ((XE,i116):Bool×Int)=>
 bif decide (i116<(↑uS.length:Int)) then
 gd (decide (0≤i116)) <|
 (uS[i116.toNat]?).bind fun Uq=>
 bif !Uq.P.aH==i88 then
 some (Sum.inr (Sum.inl false))
 else
 some (Sum.inl (XE,IntKind.i64.wrap (i116+1)))
 else
 some (Sum.inr (Sum.inr (XE,i116)))) (NY,0)).bind fun abz=>
 Sum.elim (fun abA=>
 some (Sum.inr (Sum.inl abA))) (fun (abB,i121)=>
 some (Sum.inl (abB,IntKind.i64.wrap (i88+1)))) abz
 else
 (aX (ω:=Bool ⊕ Bool×Int) (fun ((XF,i123):Bool×Int)=>
 bif decide (i123<(↑uS.length:Int)) then
 gd (decide (0≤i123)) <|
 (uS[i123.toNat]?).bind fun abC=>
 bif !abC.P.aH==i88 then
 some (Sum.inr (Sum.inl false))
 else
 some (Sum.inl (XF,IntKind.i64.wrap (i123+1)))
 else
 some (Sum.inr (Sum.inr (XF,i123)))) (NY,0)).bind fun abD=>
 Sum.elim (fun abE=>
 some (Sum.inr (Sum.inl abE))) (fun (abF,i128)=>
 some (Sum.inl (abF,IntKind.i64.wrap (i88+1)))) abD
 else
 bif v8 q.ae 0==i88 then
 bif decide (0<(↑uS.length:Int)) then
 bif !v8 q.ae 1==1 then
 (uS[0]?).bind fun abG=>
 bif decide (abG.P.az≤i91) then
 some (Sum.inr (Sum.inl false))
 else
 (aX (ω:=Bool ⊕ Bool×Int) (fun ((XG,i131):Bool×Int)=>
 bif decide (i131<(↑uS.length:Int)) then
 gd (decide (0≤i131)) <|
 (uS[i131.toNat]?).bind fun abH=>
 bif !abH.P.aH==i88 then
 some (Sum.inr (Sum.inl false))
 else
 some (Sum.inl (XG,IntKind.i64.wrap (i131+1)))
 else
 some (Sum.inr (Sum.inr (XG,i131)))) (NY,0)).bind fun abI=>
 Sum.elim (fun abJ=>
 some (Sum.inr (Sum.inl abJ))) (fun (abK,i136)=>
 some (Sum.inl (abK,IntKind.i64.wrap (i88+1)))) abI
 else
 (aX (ω:=Bool ⊕ Bool×Int) (fun ((XH,i138):Bool×Int)=>
 bif decide (i138<(↑uS.length:Int)) then
 gd (decide (0≤i138)) <|
 (uS[i138.toNat]?).bind fun abL=>
 bif !abL.P.aH==i88 then
 some (Sum.inr (Sum.inl false))
 else
 some (Sum.inl (XH,IntKind.i64.wrap (i138+1)))
 else
 some (Sum.inr (Sum.inr (XH,i138)))) (NY,0)).bind fun abM=>
 Sum.elim (fun abN=>
 some (Sum.inr (Sum.inl abN))) (fun (abO,i143)=>
 some (Sum.inl (abO,IntKind.i64.wrap (i88+1)))) abM
 else
 (aX (ω:=Bool ⊕ Bool×Int) (fun ((XI,i145):Bool×Int)=>
 bif decide (i145<(↑uS.length:Int)) then
 gd (decide (0≤i145)) <|
 (uS[i145.toNat]?).bind fun abP=>
 bif !abP.P.aH==i88 then
 some (Sum.inr (Sum.inl false))
 else
 some (Sum.inl (XI,IntKind.i64.wrap (i145+1)))
 else
 some (Sum.inr (Sum.inr (XI,i145)))) (NY,0)).bind fun abQ=>
 Sum.elim (fun abR=>
 some (Sum.inr (Sum.inl abR))) (fun (abS,i150)=>
 some (Sum.inl (abS,IntKind.i64.wrap (i88+1)))) abQ
 else
 bif decide (0<(↑uS.length:Int)) then
 (uS[0]?).bind fun abT=>
 bif decide (abT.P.az≤i91) then
 some (Sum.inr (Sum.inl false))
 else
 (aX (ω:=Bool ⊕ Bool×Int) (fun ((XJ,i153):Bool×Int)=>
 bif decide (i153<(↑uS.length:Int)) then
 gd (decide (0≤i153)) <|
 (uS[i153.toNat]?).bind fun abU=>
 bif !abU.P.aH==i88 then
 some (Sum.inr (Sum.inl false))
 else
 some (Sum.inl (XJ,IntKind.i64.wrap (i153+1)))
 else
 some (Sum.inr (Sum.inr (XJ,i153)))) (NY,0)).bind fun abV=>
 Sum.elim (fun abW=>
 some (Sum.inr (Sum.inl abW))) (fun (abX,i158)=>
 some (Sum.inl (abX,IntKind.i64.wrap (i88+1)))) abV
 else
 (aX (ω:=Bool ⊕ Bool×Int) (fun ((XK,i160):Bool×Int)=>
 bif decide (i160<(↑uS.length:Int)) then
 gd (decide (0≤i160)) <|
 (uS[i160.toNat]?).bind fun abY=>
 bif !abY.P.aH==i88 then
 some (Sum.inr (Sum.inl false))
 else
 some (Sum.inl (XK,IntKind.i64.wrap (i160+1)))
 else
 some (Sum.inr (Sum.inr (XK,i160)))) (NY,0)).bind fun abZ=>
 Sum.elim (fun ab0=>
 some (Sum.inr (Sum.inl ab0))) (fun (ab1,i165)=>
 some (Sum.inl (ab1,IntKind.i64.wrap (i88+1)))) abZ
 else
 some (Sum.inr (Sum.inr (NY,i88)))) (false,0)).bind fun ab2=>
 Sum.elim (fun ab3=>
 some ab3) (fun (ahc,i169)=>
 (aa.qm q).bind fun i170=>
 some (decide (i170≤q.Room))) ab2
noncomputable def Go.aa.nB(l:List ai)(is:Bool):Option Bool:=
 (aX (ω:=Bool ⊕ Bool×Int) (fun ((b1,i2):Bool×Int)=>
 bif decide (i2<(↑l.length:Int)) then
 gd (decide (0≤i2)) <|
 (l[i2.toNat]?).bind fun q3=>
 bif !q3.P.aJ==is then
 some (Sum.inr (Sum.inl false))
 else
 some (Sum.inl (b1,IntKind.i64.wrap (i2+1)))
 else
 some (Sum.inr (Sum.inr (b1,i2)))) (false,0)).bind fun w4=>
 Sum.elim (fun b5=>
 some b5) (fun (b6,i7)=>
 some true) w4
noncomputable def Go.aa.ow(q:Queue):Option Bool:=
 bif !q.af.Kind==6 then
 some false
 else
 bif decide (q.af.A<0) then
 some false
 else
 bif decide (1000000<q.af.A) then
 some false
 else
 bif decide (q.af.B<0) then
 some false
 else
 bif decide (1000<q.af.B) then
 some false
 else
 bif !q.af.C==0 then
 some false
 else
 bif decide (q.Room<1) then
 some false
 else
 bif decide (500<q.Room) then
 some false
 else
 bif !(↑q.ah.length:Int)==2 then
 some false
 else
 (aa.dU (v8 q.ae 7)).bind fun b1=>
 bif !b1 then
 some false
 else
 bif decide (v8 q.ae 0<0) then
 some false
 else
 bif decide (15<v8 q.ae 0) then
 some false
 else
 (aX (ω:=Bool ⊕ Bool×Int) (fun ((b2,i3):Bool×Int)=>
 bif decide (i3<7) then
 gd (decide (0≤i3)) <|
 gd (decide (i3.toNat<8)) <|
 bif !v8 q.ae i3.toNat==0 then
 some (Sum.inr (Sum.inl false))
 else
 some (Sum.inl (b2,IntKind.i64.wrap (i3+1)))
 else
 some (Sum.inr (Sum.inr (b2,i3)))) (false,1)).bind fun w4=>
 Sum.elim (fun b5=>
 some b5) (fun (b6,i7)=>
 (q.ah[0]?).bind fun l8=>
 (q.ah[1]?).bind fun l9=>
 bif decide (q.Room<IntKind.i64.wrap ((↑l8.length:Int)+(↑l9.length:Int))) then
 some false
 else
 (q.ah[0]?).bind fun mN=>
 (aa.nB mN true).bind fun uO=>
 bif !uO then
 some false
 else
 (q.ah[1]?).bind fun Xz=>
 (aa.nB Xz false).bind fun ue=>
 bif !ue then
 some false
 else
 (q.ah[0]?).bind fun NX=>
 (aa.dy NX (v8 q.ae 7)).bind fun CO=>
 bif CO then
 (q.ah[1]?).bind fun XA=>
 (aa.dy XA (v8 q.ae 7)).bind fun FU=>
 some FU
 else
 some false) w4
noncomputable def Go.aa.oy(q:Queue):Option Bool:=
 bif q.af.Kind==1 then
 (aa.oj q).bind fun b1=>
 some b1
 else
 bif q.af.Kind==2 then
 (aa.oq q).bind fun b2=>
 some b2
 else
 bif q.af.Kind==3 then
 (aa.ot q).bind fun b3=>
 some b3
 else
 bif q.af.Kind==4 then
 (aa.ou q).bind fun b4=>
 some b4
 else
 bif q.af.Kind==5 then
 (aa.ox q).bind fun b5=>
 some b5
 else
 bif q.af.Kind==6 then
 (aa.ow q).bind fun b6=>
 some b6
 else
 some false
noncomputable def Go.aa.qn(q:Queue):Option Int:=
 (aX (ω:=Int×Int) (fun ((i1,i2):Int×Int)=>
 bif decide (i2<(↑q.ah.length:Int)) then
 gd (decide (0≤i2)) <|
 (q.ah[i2.toNat]?).bind fun l3=>
 some (Sum.inl (IntKind.i64.wrap (i1+(↑l3.length:Int)),IntKind.i64.wrap (i2+1)))
 else
 some (Sum.inr (i1,i2))) (0,0)).bind fun (i4,i5)=>
 some i4
noncomputable def Go.aa.jI(l:bf):Option Bool:=
 (aa.nC l.dv).bind fun b1=>
 bif !b1 then
 some false
 else
 bif decide (l.dc<0) then
 some false
 else
 bif decide (1000000<l.dc) then
 some false
 else
 (aa.oy l.Queue).bind fun b2=>
 bif !b2 then
 some false
 else
 bif !l.iu then
 bif l.dm.aH==0&&(l.dm.Sub==0&&(l.dm.Number==0&&(l.dm.Data==0&&(l.dm.az==0&&(l.dm.aQ==0&&(l.dm.aJ==false&&l.dm.aB==false)))))) then
 bif l.cB==0 then
 (aa.qn l.Queue).bind fun i3=>
 some (i3==0)
 else
 some false
 else
 some false
 else
 (aa.kg l.dm).bind fun b4=>
 bif b4 then
 bif decide (l.Queue.ae.e7≤l.cB) then
 some (decide (l.cB≤20000000))
 else
 some false
 else
 some false
noncomputable def Go.aa.nD(l:bf)(fh:Int):Option (bf×Int):=
 (aa.jq l).bind fun b1=>
 bif !b1 then
 some (bf.mk 0 0 (zQ) false zP 0,1)
 else
 (aa.cV fh 1 1000000).bind fun b2=>
 bif !b2 then
 some (bf.mk 0 0 (zQ) false zP 0,1)
 else
 some (bf.mk fh l.dc l.Queue l.iu l.dm l.cB,0)
noncomputable def Go.aa.kh(a:List ai)(b:List ai):Option Bool:=
 bif !(↑a.length:Int)==(↑b.length:Int) then
 some false
 else
 (aX (ω:=Bool ⊕ Bool×Int) (fun ((b1,i2):Bool×Int)=>
 bif decide (i2<(↑a.length:Int)) then
 gd (decide (0≤i2)) <|
 (a[i2.toNat]?).bind fun q3=>
 gd (decide (0≤i2)) <|
 (b[i2.toNat]?).bind fun q4=>
 bif !(q3.P.aH==q4.P.aH&&(q3.P.Sub==q4.P.Sub&&(q3.P.Number==q4.P.Number&&(q3.P.Data==q4.P.Data&&(q3.P.az==q4.P.az&&(q3.P.aQ==q4.P.aQ&&(q3.P.aJ==q4.P.aJ&&(q3.P.aB==q4.P.aB&&q3.At==q4.At)))))))) then
 some (Sum.inr (Sum.inl false))
 else
 some (Sum.inl (b1,IntKind.i64.wrap (i2+1)))
 else
 some (Sum.inr (Sum.inr (b1,i2)))) (false,0)).bind fun w5=>
 Sum.elim (fun b6=>
 some b6) (fun (b7,i8)=>
 some true) w5
noncomputable def Go.aa.nE(a:Queue)(b:Queue):Option Bool:=
 bif !(a.af.Kind==b.af.Kind&&(a.af.A==b.af.A&&(a.af.B==b.af.B&&a.af.C==b.af.C))) then
 some false
 else
 bif !a.Room==b.Room then
 some false
 else
 bif !(a.ae.e0==b.ae.e0&&(a.ae.e1==b.ae.e1&&(a.ae.e2==b.ae.e2&&(a.ae.e3==b.ae.e3&&(a.ae.e4==b.ae.e4&&(a.ae.e5==b.ae.e5&&(a.ae.e6==b.ae.e6&&a.ae.e7==b.ae.e7))))))) then
 some false
 else
 bif !a.bm==b.bm then
 some false
 else
 bif !(↑a.ah.length:Int)==(↑b.ah.length:Int) then
 some false
 else
 (aX (ω:=Bool ⊕ Bool×Int) (fun ((b1,i2):Bool×Int)=>
 bif decide (i2<(↑a.ah.length:Int)) then
 gd (decide (0≤i2)) <|
 (a.ah[i2.toNat]?).bind fun l3=>
 gd (decide (0≤i2)) <|
 (b.ah[i2.toNat]?).bind fun l4=>
 (aa.kh l3 l4).bind fun b5=>
 bif !b5 then
 some (Sum.inr (Sum.inl false))
 else
 some (Sum.inl (b1,IntKind.i64.wrap (i2+1)))
 else
 some (Sum.inr (Sum.inr (b1,i2)))) (false,0)).bind fun w6=>
 Sum.elim (fun b7=>
 some b7) (fun (b8,i9)=>
 some true) w6
noncomputable def Go.aa.jr(a:bf)(b:bf):Option Bool:=
 bif a.dv==b.dv then
 bif a.dc==b.dc then
 (aa.nE a.Queue b.Queue).bind fun b1=>
 bif b1 then
 bif a.iu==b.iu then
 bif a.dm.aH==b.dm.aH&&(a.dm.Sub==b.dm.Sub&&(a.dm.Number==b.dm.Number&&(a.dm.Data==b.dm.Data&&(a.dm.az==b.dm.az&&(a.dm.aQ==b.dm.aQ&&(a.dm.aJ==b.dm.aJ&&a.dm.aB==b.dm.aB)))))) then
 some (a.cB==b.cB)
 else
 some false
 else
 some false
 else
 some false
 else
 some false
 else
 some false
noncomputable def Go.aa.gI(x:bf)(e:Int):Option Bool:=
 bif e==0 then
 (aa.jI x).bind fun b1=>
 bif b1 then
 bif x.iu then
 some true
 else
 (aa.lq x.Queue).bind fun i2=>
 bif i2==0 then
 some true
 else
 bif !e==0 then
 (aa.jr x (bf.mk 0 0 (zQ) false zP 0):Option Bool).bind fun b3=>
 some b3
 else
 some false
 else
 bif !e==0 then
 (aa.jr x (bf.mk 0 0 (zQ) false zP 0):Option Bool).bind fun b4=>
 some b4
 else
 some false
 else
 bif !e==0 then
 (aa.jr x (bf.mk 0 0 (zQ) false zP 0):Option Bool).bind fun b5=>
 some b5
 else
 some false
noncomputable def Go.aa.yZ(l:bf)(p:an)(now:Int)(fh:Int):Option Bool:=
 (aa.uv).bind fun b1=>
 (aa.sM l).bind fun b2=>
 bif !b2 then
 some b1
 else
 (aa.jI l).bind fun b3=>
 bif !b3 then
 some b1
 else
 (aa.yx l p now).bind fun (q4,l5,i6)=>
 (aa.mV l now).bind fun (q7,q8,l9,i10)=>
 (aa.nD l fh).bind fun (T8,i12)=>
 bif b1 then
 (aa.gI q4 i6).bind fun ue=>
 bif ue then
 (aa.gI q7 i10).bind fun ll=>
 bif ll then
 (aa.gI T8 i12).bind fun CO=>
 some CO
 else
 some false
 else
 some false
 else
 some false
noncomputable def Go.aa.lG(a:List an)(b:List an):Option Bool:=
 bif !(↑a.length:Int)==(↑b.length:Int) then
 some false
 else
 (aX (ω:=Bool ⊕ Bool×Int) (fun ((b1,i2):Bool×Int)=>
 bif decide (i2<(↑a.length:Int)) then
 gd (decide (0≤i2)) <|
 (a[i2.toNat]?).bind fun q3=>
 gd (decide (0≤i2)) <|
 (b[i2.toNat]?).bind fun q4=>
 bif !(q3.aH==q4.aH&&(q3.Sub==q4.Sub&&(q3.Number==q4.Number&&(q3.Data==q4.Data&&(q3.az==q4.az&&(q3.aQ==q4.aQ&&(q3.aJ==q4.aJ&&q3.aB==q4.aB))))))) then
 some (Sum.inr (Sum.inl false))
 else
 some (Sum.inl (b1,IntKind.i64.wrap (i2+1)))
 else
 some (Sum.inr (Sum.inr (b1,i2)))) (false,0)).bind fun w5=>
 Sum.elim (fun b6=>
 some b6) (fun (b7,i8)=>
 some true) w5
noncomputable def Go.aa.jt(p:an)(fh:Int):Option Int:=
 bif decide (fh=0) then
 none
 else
 some (IntKind.i64.wrap ((IntKind.i64.wrap (IntKind.i64.wrap (IntKind.i64.wrap (1000*p.az)+fh)-1)).tdiv fh))
noncomputable def Go.aa.fJ(l:bf)(fh:Int):Option Bool:=
 (aa.uv).bind fun b1=>
 (aa.sM l).bind fun b2=>
 bif !b2 then
 some b1
 else
 (aa.jI l).bind fun b3=>
 bif !b3 then
 some b1
 else
 (aa.nC fh).bind fun b4=>
 bif !b4 then
 some b1
 else
 (aa.nD l fh).bind fun (q5,i6)=>
 bif !i6==0 then
 some false
 else
 (aa.jr q5 (bf.mk fh l.dc l.Queue l.iu l.dm l.cB)).bind fun b7=>
 bif !b7 then
 some false
 else
 bif !l.iu then
 some b1
 else
 bif decide (10000000<l.cB) then
 some b1
 else
 (aa.mV l l.cB).bind fun (q8,q9,mN,i11)=>
 (aa.mV q5 l.cB).bind fun (BA,rf,NX,i15)=>
 bif !i11==i15 then
 bif b1 then
 some (i11==i15)
 else
 some false
 else
 bif !i11==0 then
 bif b1 then
 some (i11==i15)
 else
 some false
 else
 bif b1 then
 bif q9.aH==l.dm.aH&&(q9.Sub==l.dm.Sub&&(q9.Number==l.dm.Number&&(q9.Data==l.dm.Data&&(q9.az==l.dm.az&&(q9.aQ==l.dm.aQ&&(q9.aJ==l.dm.aJ&&q9.aB==l.dm.aB)))))) then
 bif rf.aH==q9.aH&&(rf.Sub==q9.Sub&&(rf.Number==q9.Number&&(rf.Data==q9.Data&&(rf.az==q9.az&&(rf.aQ==q9.aQ&&(rf.aJ==q9.aJ&&rf.aB==q9.aB)))))) then
 (aa.lG mN NX).bind fun BN=>
 bif BN then
 bif q8.iu==BA.iu then
 bif q8.dm.aH==BA.dm.aH&&(q8.dm.Sub==BA.dm.Sub&&(q8.dm.Number==BA.dm.Number&&(q8.dm.Data==BA.dm.Data&&(q8.dm.az==BA.dm.az&&(q8.dm.aQ==BA.dm.aQ&&(q8.dm.aJ==BA.dm.aJ&&q8.dm.aB==BA.dm.aB)))))) then
 (aa.nE q8.Queue BA.Queue).bind fun FU=>
 bif FU then
 bif !BA.iu then
 some true
 else
 (aa.jt BA.dm fh).bind fun i18=>
 some (BA.cB==IntKind.i64.wrap (l.cB+i18))
 else
 some false
 else
 some false
 else
 some false
 else
 some false
 else
 some false
 else
 some false
 else
 some false
namespace Go.Proofs.YtpodhambaehlkaaGreatDoor
noncomputable def hints:List (Nat×Nat×Hint):=[(167,2002,⟨[(4,.val 3),(8,.val 3)],[9,10,5,11,12,13,14,15,16,17,18],[(1,.one (.val 2))],[⟨none,[(4,.val 3)],[],[],[]⟩,⟨some 0,[(4,.val 3),(8,.val 3)],[],[],[]⟩]⟩),(118,3,⟨[(2,.val 4),(3,.val 3),(14,.val 3)],[15,16,17,5,18,19,20,21,22,23,24,25,26,27,28,29,30,31,32,33,34,35,36,37],[],[⟨none,[(2,.val 4)],[.jc],[],[]⟩,⟨some 0,[(2,.val 4),(3,.val 3),(14,.val 3)],[],[],[]⟩]⟩),(161,4,⟨[(4,.val 26),(9,.val 3)],[10,11,5,12,13,14,15,16,17,18,19,20,21,22,23,24,25],[],[⟨some 0,[(4,.val 26),(9,.val 3)],[],[],[]⟩]⟩),(99,3010,⟨[(2,.val 4),(5,.val 3),(98,.val 3)],[99,100,101,7,102,103,104,105,106,107,108,109,110,111,112,113,114,115,116,117],[],[⟨none,[(2,.val 4)],[.jc],[],[]⟩,⟨some 0,[(2,.val 4),(5,.val 3),(98,.val 3)],[],[],[]⟩]⟩),(101,10006,⟨[(6,.val 4),(7,.own 8 3),(8,.val 37)],[27,28,29,30,31,32,33,34,13,35,36,37,38,39,40,41,42,43,44,45,46,47,48,49,14,50,51,52,53,54,55,56,57,58,59,60,61,62,63,64,65,66,67,68,69,70,71,72,73,74,75],[(3,.list 30),(8,.one (.own 8 9)),(9,.list 30),(5,.agg [.val 2,.val 2,.val 2,.val 2,.val 2,.FI 1 7 none (some 1),.val 2,.val 2,.val 2,.val 2,.val 2,.val 2,.val 2,.val 2,.val 26,.val 2]),(7,.one (.tv 9 6 2 true))],[⟨none,[(6,.val 4),(7,.own 8 9),(8,.val 37)],[.jc],[],[(2,.agg [.val 2,.val 2,.val 2,.val 2,.val 2,.val 2,.val 4,.val 4]),(1,.agg [.val 2,.val 2,.val 2,.val 2,.val 2,.FI 1 7 none (some 1),.val 2,.val 2,.val 2,.val 2,.val 2,.val 2,.val 2,.val 2,.val 26])]⟩,⟨some 0,[(6,.val 4),(7,.own 8 3),(8,.val 37)],[],[],[]⟩]⟩),(167,3002,⟨[(4,.val 3),(8,.val 3)],[9,10,5,11,12,13,14,15,16,17,18],[(2,.one (.val 2))],[⟨none,[(4,.val 3)],[],[],[]⟩,⟨some 0,[(4,.val 3),(8,.val 3)],[],[],[]⟩]⟩),(139,3,⟨[(6,.val 4),(7,.val 3),(12,.val 3)],[13,14,15,9,16,17,18,19,20,21,22,23,24,25,26,27,28,29,30,31,32,33,34,35,36,37],[],[⟨none,[(6,.val 4)],[.jc],[],[]⟩,⟨some 0,[(6,.val 4),(7,.val 3),(12,.val 3)],[],[],[]⟩]⟩),(140,1003,⟨[(3,.val 3),(9,.val 3)],[10,11,12,5,13,14,15,16,17],[],[⟨some 0,[(3,.val 3),(9,.val 3)],[],[],[]⟩]⟩),(105,3007,⟨[(2,.val 4),(85,.val 3)],[86,87,5,88,89,90,91,92,93],[],[⟨none,[(2,.val 4)],[],[],[]⟩,⟨some 0,[(2,.val 4),(85,.val 3)],[],[],[]⟩]⟩),(105,3013,⟨[(2,.val 4),(96,.val 3)],[97,98,99,6,7,100,101,102,103,104,105,106,107,108,109,110,111,112,113,114,115,116,117,118,119,120,121,122,123,124,125,126,127,128,129,130,131,132,133,134,135,136,8,137,138,139,140,141,142,143,144,145,146,147,148,149,150,151,152,153,154,155,156],[],[⟨none,[(2,.val 4)],[],[],[]⟩,⟨some 2,[(2,.val 4),(96,.val 3)],[],[],[]⟩]⟩),(107,18008,⟨[(12,.val 3),(11,.val 3)],[42,43,44,45,46,14,47,48,49,50,51,52,53,54,55,56,57,58,59,60,61,62,63,64,65,66,67,68,69,39,40,41],[(17,.agg [.val 2,.val 2,.val 2,.val 2,.val 2,.val 2,.val 4,.val 4]),(16,.agg [.val 2,.val 2,.val 2,.val 2,.val 2,.val 2,.val 2,.val 2])],[⟨some 0,[(12,.val 3),(11,.val 3)],[],[],[]⟩]⟩),(146,3,⟨[(6,.val 4),(7,.val 3),(12,.val 3)],[13,14,15,9,16,17,18,19,20,21,22,23,24,25,26,27,28,29,30,31,32,33,34,35,36,37],[],[⟨none,[(6,.val 4)],[.jc],[],[]⟩,⟨some 0,[(6,.val 4),(7,.val 3),(12,.val 3)],[],[],[]⟩]⟩),(108,3007,⟨[(2,.val 4),(5,.val 3)],[68,69,72,73,74,75,70,71],[],[⟨none,[(2,.val 4)],[],[],[]⟩,⟨some 0,[(2,.val 4),(5,.val 3)],[],[],[]⟩]⟩),(110,10006,⟨[(6,.val 4),(7,.own 8 3),(8,.val 37),(12,.val 4)],[25,26,27,28,29,30,31,32,33,34,35,36,37,38,39,40,41,42,43,44,45,46,47,48,49,50,51,52,13,53,54,55,56,57,58,59,60,61,62,63,64,65,66,67,68,69,70,71,72,73,74,75,76,77,78,79,81,82,80,83,84,85,86,87,88,89,90,91,92,93],[(3,.list 30),(9,.agg [.val 2,.val 2,.val 2,.val 2,.val 2,.val 2,.val 4,.val 4]),(5,.agg [.val 2,.val 2,.val 2,.val 2,.val 2,.val 24,.val 2,.val 2,.val 2,.val 2,.val 2,.val 2,.val 2,.val 2,.val 26,.tv 9 7 2 true,.tv 9 8 2 true,.val 2,.own 8 6]),(6,.list 30)],[⟨none,[(6,.val 4),(7,.own 8 6),(8,.val 37)],[],[],[(2,.agg [.val 2,.val 2,.val 2,.val 2,.val 2,.val 2,.val 4,.val 4]),(1,.agg [.val 2,.val 2,.val 2,.val 2,.val 2,.jw 5 0 15 2 2,.val 2,.val 2,.val 2,.val 2,.val 2,.val 2,.val 2,.val 2,.val 26]),(5,.agg [.val 2,.val 2,.val 2,.val 2,.val 2,.hole,.val 2,.val 2,.val 2,.val 2,.val 2,.val 2,.val 2,.val 2,.val 26,.tv 9 7 2 true,.tv 9 8 2 true,.val 2,.own 8 6])]⟩]⟩),(22,2004,⟨[(11,.val 3)],[12,13,14,6,15,16,17,18],[(1,.one (.val 2))],[⟨some 0,[(11,.val 3)],[],[],[]⟩]⟩),(8,1002,⟨[(2,.val 4),(3,.val 3)],[4,5,6,7,8,11,12,13,14,15,16,17,9,10],[],[⟨none,[(2,.val 4)],[],[],[]⟩,⟨some 0,[(2,.val 4),(3,.val 3)],[],[],[]⟩]⟩),(73,1003,⟨[(3,.val 3),(4,.val 3)],[5,6,7,8,9,12,13,14,15,16,17,18,19,10,11],[],[⟨some 0,[(3,.val 3),(4,.val 3)],[],[],[]⟩]⟩),(61,1020,⟨[(2,.val 4),(9,.val 3)],[178,179,180,181,184,185,186,187,188,189,190,191,182,183],[],[⟨none,[(2,.val 4)],[],[],[]⟩,⟨some 2,[(2,.val 4),(9,.val 3)],[],[],[]⟩]⟩),(61,1009,⟨[(2,.val 4),(4,.val 3)],[110,111,114,115,116,117,118,5,119,120,121,122,123,6,124,125,126,7,127,128,129,130,131,132,133,134,135,136,137,138,139,140,141,142,143,144,145,146,147,148,149,150,151,152,153,154,155,156,157,158,159,160,161,8,162,163,164,165,166,167,168,169,170,171,172,173,174,175,176,177,9,178,179,180,181,184,185,186,187,188,189,190,191,182,183,112,113],[],[⟨none,[(2,.val 4)],[],[],[]⟩,⟨some 0,[(2,.val 4),(4,.val 3)],[],[],[]⟩]⟩),(83,2,⟨[(4,.val 4),(5,.val 3)],[6,7,8,9,12,13,14,15,16,17,18,19,20,21,22,23,24,25,26,27,28,29,30,31,32,33,34,35,36,37,38,39,40,41,42,43,44,45,46,47,48,49,50,51,52,53,54,10,11],[],[⟨none,[(4,.val 4)],[],[],[]⟩,⟨some 0,[(4,.val 4),(5,.val 3)],[],[],[]⟩]⟩),(57,1004,⟨[(2,.val 4),(3,.val 3)],[36,37,40,41,42,43,44,38,39],[],[⟨none,[(2,.val 4)],[],[],[]⟩,⟨some 0,[(2,.val 4),(3,.val 3)],[],[],[]⟩]⟩),(58,2005,⟨[(2,.val 4),(4,.val 3)],[55,56,59,60,61,62,63,57,58],[],[⟨none,[(2,.val 4)],[],[],[]⟩,⟨some 0,[(2,.val 4),(4,.val 3)],[],[],[]⟩]⟩),(59,2007,⟨[(2,.val 4),(4,.val 3)],[104,105,108,109,110,111,112,106,107],[],[⟨none,[(2,.val 4)],[],[],[]⟩,⟨some 0,[(2,.val 4),(4,.val 3)],[],[],[]⟩]⟩),(60,1006,⟨[(2,.val 4),(3,.val 3)],[64,65,68,69,70,71,72,66,67],[],[⟨none,[(2,.val 4)],[],[],[]⟩,⟨some 0,[(2,.val 4),(3,.val 3)],[],[],[]⟩]⟩),(86,2,⟨[(4,.val 4),(5,.val 3)],[6,7,8,9,12,13,14,15,16,17,18,19,10,11],[],[⟨none,[(4,.val 4)],[],[],[]⟩,⟨some 0,[(4,.val 4),(5,.val 3)],[],[],[]⟩]⟩),(62,2005,⟨[(2,.val 4),(4,.val 3)],[70,71,74,75,76,77,78,72,73],[],[⟨none,[(2,.val 4)],[],[],[]⟩,⟨some 0,[(2,.val 4),(4,.val 3)],[],[],[]⟩]⟩),(41,1003,⟨[(3,.val 3),(4,.val 3)],[5,6,7,8,9,12,13,14,15,16,17,18,19,10,11],[],[⟨some 0,[(3,.val 3),(4,.val 3)],[],[],[]⟩]⟩),(43,4,⟨[(4,.val 4),(5,.val 3)],[11,12,13,14,17,18,19,20,21,22,23,24,25,15,16],[],[⟨none,[(4,.val 4)],[],[],[]⟩,⟨some 0,[(4,.val 4),(5,.val 3)],[],[],[]⟩]⟩),(24,2004,⟨[(4,.val 4),(5,.val 3)],[41,42,43,44,45,48,49,50,51,52,53,54,55,56,57,58,59,46,47],[],[⟨none,[(4,.val 4)],[],[],[]⟩,⟨some 0,[(4,.val 4),(5,.val 3)],[],[],[]⟩]⟩),(18,4,⟨[(4,.val 4),(5,.val 3)],[11,12,13,14,17,18,19,20,21,22,23,24,25,15,16],[],[⟨none,[(4,.val 4)],[],[],[]⟩,⟨some 0,[(4,.val 4),(5,.val 3)],[],[],[]⟩]⟩)]
def xf:FuncId→Nat→Bool:=fun f _=>Nat.beq f 156||Nat.beq f 138||Nat.beq f 143||Nat.beq f 148||Nat.beq f 162||Nat.beq f 6
noncomputable def ab4:List (Nat×yT T):=[(152,⟨[3,3,3],[4],fun x=>Go.aa.dH x.1 x.2.1 x.2.2⟩),
 (114,⟨[105],[57],fun x=>Go.aa.bH x⟩),
 (112,⟨[30],[4],fun x=>Go.aa.lO x⟩),
 (153,⟨[105],[4],fun x=>Go.aa.gF x⟩),
 (111,⟨[105],[4],fun x=>Go.aa.eY x⟩),
 (93,⟨[28],[4],fun x=>Go.aa.lk x⟩),
 (113,⟨[105,3],[37],fun x=>Go.aa.kc x.1 x.2⟩),
 (115,⟨[105,57,3],[28],fun x=>Go.aa.eN x.1 x.2.1 x.2.2⟩),
 (116,⟨[24],[57],fun x=>Go.aa.lJ x⟩),
 (94,⟨[28,30,3],[28,36,37],fun x=>Go.aa.FT x.1 x.2.1 x.2.2⟩),
 (95,⟨[28,3],[28,30,4,36,37],fun x=>Go.aa.pS x.1 x.2⟩),
 (117,⟨[3,3,3],[4],fun x=>Go.aa.eO x.1 x.2.1 x.2.2⟩),
 (119,⟨[30],[4],fun x=>Go.aa.gS x⟩),
 (118,⟨[110],[4],fun x=>Go.aa.gk x⟩),
 (96,⟨[28],[4],fun x=>Go.aa.fY x⟩),
 (161,⟨[26],[26,26],fun x=>Go.aa.oi x⟩),
 (136,⟨[26,3],[3,26,37],fun x=>Go.aa.cJ x.1 x.2⟩),
 (97,⟨[28,30,3],[28,36,37],fun x=>Go.aa.CN x.1 x.2.1 x.2.2⟩),
 (98,⟨[28,3],[28,30,4,36,37],fun x=>Go.aa.nx x.1 x.2⟩),
 (123,⟨[3,3,3],[4],fun x=>Go.aa.bo x.1 x.2.1 x.2.2⟩),
 (124,⟨[3],[4],fun x=>Go.aa.eR x⟩),
 (127,⟨[30],[4],fun x=>Go.aa.eE x⟩),
 (99,⟨[28],[4],fun x=>Go.aa.eu x⟩),
 (100,⟨[28,30,3],[28,36,37],fun x=>Go.aa.yk x.1 x.2.1 x.2.2⟩),
 (101,⟨[28,3],[28,30,4,36,37],fun x=>Go.aa.ke x.1 x.2⟩),
 (157,⟨[3,3,3],[4],fun x=>Go.aa.aR x.1 x.2.1 x.2.2⟩),
 (134,⟨[30],[4],fun x=>Go.aa.gq x⟩),
 (133,⟨[123],[4],fun x=>Go.aa.cz x⟩),
 (102,⟨[28],[4],fun x=>Go.aa.fR x⟩),
 (168,⟨[123,3],[3],fun x=>Go.aa.dF x.1 x.2⟩),
 (171,⟨[3],[3],fun x=>Go.aa.eb x⟩),
 (170,⟨[3,1123,1003,1003],[3],fun x=>Go.aa.db x.1 x.2.1 x.2.2.1 x.2.2.2⟩),
 (103,⟨[28,30,3],[28,36,37],fun x=>Go.aa.vV x.1 x.2.1 x.2.2⟩),
 (104,⟨[28,3],[28,30,4,36,37],fun x=>Go.aa.iZ x.1 x.2⟩),
 (137,⟨[3,3,3],[4],fun x=>Go.aa.bL x.1 x.2.1 x.2.2⟩),
 (138,⟨[28],[25],fun x=>Go.aa.eF x⟩),
 (141,⟨[30],[4],fun x=>Go.aa.fP x⟩),
 (139,⟨[57,3,3],[4],fun x=>Go.aa.di x.1 x.2.1 x.2.2⟩),
 (140,⟨[28],[3],fun x=>Go.aa.eg x⟩),
 (105,⟨[28],[4],fun x=>Go.aa.eA x⟩),
 (106,⟨[28,30,3],[28,36,37],fun x=>Go.aa.yl x.1 x.2.1 x.2.2⟩),
 (143,⟨[28,25],[28],fun x=>Go.aa.bI x.1 x.2⟩),
 (107,⟨[28,3],[28,30,4,36,37],fun x=>Go.aa.kf x.1 x.2⟩),
 (144,⟨[3,3,3],[4],fun x=>Go.aa.cK x.1 x.2.1 x.2.2⟩),
 (145,⟨[3],[4],fun x=>Go.aa.gT x⟩),
 (147,⟨[30],[4],fun x=>Go.aa.iY x⟩),
 (146,⟨[57,3,4],[4],fun x=>Go.aa.lP x.1 x.2.1 x.2.2⟩),
 (108,⟨[28],[4],fun x=>Go.aa.jo x⟩),
 (109,⟨[28,30,3],[28,36,37],fun x=>Go.aa.Gb x.1 x.2.1 x.2.2⟩),
 (165,⟨[132],[3],fun x=>Go.aa.bW x⟩),
 (110,⟨[28,3],[28,30,4,36,37],fun x=>Go.aa.pU x.1 x.2⟩),
 (44,⟨[23,3],[28,37],fun x=>Go.aa.CP x.1 x.2⟩),
 (38,⟨[3,3,3],[4],fun x=>Go.aa.cV x.1 x.2.1 x.2.2⟩),
 (39,⟨[28],[4],fun x=>Go.aa.oz x⟩),
 (28,⟨[3],[4],fun x=>Go.aa.jH x⟩),
 (27,⟨[30],[4],fun x=>Go.aa.jb x⟩),
 (22,⟨[28],[3],fun x=>Go.aa.lq x⟩),
 (19,⟨[32],[4],fun x=>Go.aa.jq x⟩),
 (15,⟨[3,3,28],[32,37],fun x=>Go.aa.Gd x.1 x.2.1 x.2.2⟩),
 (26,⟨[23,3,3],[32,4],fun x=>Go.aa.Ge x.1 x.2.1 x.2.2⟩),
 (45,⟨[28,30,3],[28,36,37],fun x=>Go.aa.xp x.1 x.2.1 x.2.2⟩),
 (55,⟨[28,3],[28,30,4,36,37],fun x=>Go.aa.bS x.1 x.2⟩),
 (9,⟨[32,30,3],[32,36,37],fun x=>Go.aa.yx x.1 x.2.1 x.2.2⟩),
 (11,⟨[32,3],[32,30,36,37],fun x=>Go.aa.mV x.1 x.2⟩),
 (6,⟨[],[4],fun x=>Go.aa.uv ⟩),
 (8,⟨[28],[4],fun x=>Go.aa.sL x⟩),
 (7,⟨[32],[4],fun x=>Go.aa.sM x⟩),
 (23,⟨[3],[4],fun x=>Go.aa.nC x⟩),
 (33,⟨[3],[4],fun x=>Go.aa.dU x⟩),
 (47,⟨[3],[4],fun x=>Go.aa.mH x⟩),
 (32,⟨[30],[4],fun x=>Go.aa.kg x⟩),
 (83,⟨[57,3],[4],fun x=>Go.aa.dy x.1 x.2⟩),
 (57,⟨[28],[4],fun x=>Go.aa.oj x⟩),
 (58,⟨[28],[4],fun x=>Go.aa.oq x⟩),
 (59,⟨[28],[4],fun x=>Go.aa.ot x⟩),
 (84,⟨[23],[4],fun x=>Go.aa.mJ x⟩),
 (60,⟨[28],[4],fun x=>Go.aa.ou x⟩),
 (85,⟨[28,3],[3],fun x=>Go.aa.ja x.1 x.2⟩),
 (73,⟨[28],[3],fun x=>Go.aa.qm x⟩),
 (61,⟨[28],[4],fun x=>Go.aa.ox x⟩),
 (86,⟨[57,4],[4],fun x=>Go.aa.nB x.1 x.2⟩),
 (62,⟨[28],[4],fun x=>Go.aa.ow x⟩),
 (40,⟨[28],[4],fun x=>Go.aa.oy x⟩),
 (41,⟨[28],[3],fun x=>Go.aa.qn x⟩),
 (20,⟨[32],[4],fun x=>Go.aa.jI x⟩),
 (13,⟨[32,3],[32,37],fun x=>Go.aa.nD x.1 x.2⟩),
 (43,⟨[57,57],[4],fun x=>Go.aa.kh x.1 x.2⟩),
 (24,⟨[28,28],[4],fun x=>Go.aa.nE x.1 x.2⟩),
 (17,⟨[32,32],[4],fun x=>Go.aa.jr x.1 x.2⟩),
 (21,⟨[32,37],[4],fun x=>Go.aa.gI x.1 x.2⟩),
 (4,⟨[32,30,3,3],[4],fun x=>Go.aa.yZ x.1 x.2.1 x.2.2.1 x.2.2.2⟩),
 (18,⟨[36,36],[4],fun x=>Go.aa.lG x.1 x.2⟩),
 (25,⟨[30,3],[3],fun x=>Go.aa.jt x.1 x.2⟩),
 (5,⟨[32,3],[4],fun x=>Go.aa.fJ x.1 x.2⟩)]
noncomputable abbrev S(n:Nat):qX:=PT C T NZ (Go.PI.CJ hints) xf ab4 n nU yS tws
theorem s0:(S 0).Ok:=N0 TOk nP ZOk xk
end Go.Proofs.YtpodhambaehlkaaGreatDoor
end
