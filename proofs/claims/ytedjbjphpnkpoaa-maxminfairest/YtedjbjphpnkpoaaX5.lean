/- Part 5 of the proof: texts of this session laid one behind the other. -/
import Derived.Test.YtedjbjphpnkpoaaProg
import Derived.KernelRfl
import Derived.Test.YtedjbjphpnkpoaaX4
set_option linter.unusedVariables false
set_option linter.unusedSimpArgs false
section
/- The types of this seat: what must hold of them (printed by gen_tys.py out of the dump). -/
set_option maxRecDepth 100000
namespace Go.Proofs.Ytedjbjphpnkpoaa
open Go.PI
theorem JV{H:ah den}{v:V}{vs:List V}{l:List AV}:RL T H (v::vs) l↔∃ c cs,l=c::cs∧R T H v c∧RL T H vs cs:=EP (T:=T)
theorem Wd{H:ah den}{l:List AV}:RL T H [] l↔l=[]:=GN (T:=T)
theorem UY(x:cw)(a:AV)(H:ah den)(h:Jx x a):R T H (Pr x) a:=by
 obtain⟨a0,a1,a2,h0,h1,h2,rfl⟩:=h
 unfold Pr
 simp only[R]
 refine⟨_,rfl,?_⟩
 simp only[RL,R,and_true,true_and]
 exact⟨h0,h1,h2⟩
theorem UZ(v:V)(x:cw)(a:AV)(H:ah den)(h:Ps v=some x)(hr:R T H v a):Jx x a:=by
 unfold Ps at h
 split at h
 ·simp only[Option.bind_eq_some_iff,Option.some.injEq]at h
  obtain⟨b0,g0,b1,g1,b2,g2,rfl⟩:=h
  simp only[R]at hr
  obtain⟨_,rfl,hl⟩:=hr
  obtain⟨c0,_,rfl,r0,hl⟩:=JV.1 hl
  obtain⟨c1,_,rfl,r1,hl⟩:=JV.1 hl
  obtain⟨c2,_,rfl,r2,hl⟩:=JV.1 hl
  cases Wd.1 hl
  have e0:=gv (T:=T) (e:=3) (fun _ _ _ h hr=>fc (T:=T) h hr) g0 r0
  have e1:=gv (T:=T) (e:=22) (fun _ _ _ h hr=>gv (T:=T) (e:=3) (fun _ _ _ h hr=>fc (T:=T) h hr) h hr) g1 r1
  have e2:=gv (T:=T) (e:=3) (fun _ _ _ h hr=>fc (T:=T) h hr) g2 r2
  exact⟨_,_,_,e0,e1,e2,rfl⟩
 ·simp at h
theorem U0(x:cw)(a:AV)(h:Jx x a):aC true 3 a=true∧closed a=true:=by
 obtain⟨a0,a1,a2,h0,h1,h2,rfl⟩:=h
 have k0:=eG h0
 have k1:=eG h1
 have k2:=eG h2
 exact⟨by simp[aC,uq,ri,ur,k0.2.2,k1.2.2,k2.2.2],by simp[closed,aZ,k0.2.1,k1.2.1,k2.2.1]⟩
theorem U1(x:aj)(a:AV)(H:ah den)(h:xe x a):R T H (Pt x) a:=by
 unfold xe at h; subst h
 unfold Pt
 simp only[R]
 refine⟨_,rfl,?_⟩
 simp only[RL,R,and_true,true_and]
theorem Py(v:V)(x:aj)(a:AV)(H:ah den)(h:MS v=some x)(hr:R T H v a):xe x a:=by
 unfold MS at h
 split at h
 ·simp only[Option.bind_eq_some_iff,Option.some.injEq]at h
  obtain⟨b0,g0,b1,g1,rfl⟩:=h
  simp only[R]at hr
  obtain⟨_,rfl,hl⟩:=hr
  obtain⟨c0,_,rfl,r0,hl⟩:=JV.1 hl
  obtain⟨c1,_,rfl,r1,hl⟩:=JV.1 hl
  cases Wd.1 hl
  cases fc (T:=T) g0 r0
  cases fc (T:=T) g1 r1
  exact rfl
 ·simp at h
theorem R6(x:aj)(a:AV)(h:xe x a):aC true 2 a=true∧closed a=true:=by
 unfold xe at h; subst h
 exact⟨by simp[aC,uq,ri,ur],by simp[closed,aZ]⟩
theorem Sf(x:ck)(a:AV)(H:ah den)(h:Jy x a):R T H (MT x) a:=by
 obtain⟨a0,a1,a2,a3,a4,h0,h1,h2,h3,h4,rfl⟩:=h
 unfold MT
 simp only[R]
 refine⟨_,rfl,?_⟩
 simp only[RL,R,and_true,true_and]
 exact⟨h0,h1,h2,h3,h4⟩
theorem Sg(v:V)(x:ck)(a:AV)(H:ah den)(h:MU v=some x)(hr:R T H v a):Jy x a:=by
 unfold MU at h
 split at h
 ·simp only[Option.bind_eq_some_iff,Option.some.injEq]at h
  obtain⟨b0,g0,b1,g1,b2,g2,b3,g3,b4,g4,rfl⟩:=h
  simp only[R]at hr
  obtain⟨_,rfl,hl⟩:=hr
  obtain⟨c0,_,rfl,r0,hl⟩:=JV.1 hl
  obtain⟨c1,_,rfl,r1,hl⟩:=JV.1 hl
  obtain⟨c2,_,rfl,r2,hl⟩:=JV.1 hl
  obtain⟨c3,_,rfl,r3,hl⟩:=JV.1 hl
  obtain⟨c4,_,rfl,r4,hl⟩:=JV.1 hl
  cases Wd.1 hl
  have e0:=gv (T:=T) (e:=3) (fun _ _ _ h hr=>fc (T:=T) h hr) g0 r0
  have e1:=gv (T:=T) (e:=22) (fun _ _ _ h hr=>gv (T:=T) (e:=3) (fun _ _ _ h hr=>fc (T:=T) h hr) h hr) g1 r1
  have e2:=gv (T:=T) (e:=3) (fun _ _ _ h hr=>fc (T:=T) h hr) g2 r2
  have e3:=gv (T:=T) (e:=4) (fun _ _ _ h hr=>MQ (T:=T) h hr) g3 r3
  have e4:=gv (T:=T) (e:=35) (fun _ _ _ h hr=>Py _ _ _ H h hr) g4 r4
  exact⟨_,_,_,_,_,e0,e1,e2,e3,e4,rfl⟩
 ·simp at h
theorem U2(x:ck)(a:AV)(h:Jy x a):aC true 5 a=true∧closed a=true:=by
 obtain⟨a0,a1,a2,a3,a4,h0,h1,h2,h3,h4,rfl⟩:=h
 have k0:=eG h0
 have k1:=eG h1
 have k2:=eG h2
 have k3:=eG h3
 have k4:=eG h4
 exact⟨by simp[aC,uq,ri,ur,k0.2.2,k1.2.2,k2.2.2,k3.2.2,k4.2.2],by simp[closed,aZ,k0.2.1,k1.2.1,k2.2.1,k3.2.1,k4.2.1]⟩
theorem U3(x:dY)(a:AV)(H:ah den)(h:ES x a):R T H (Pv x) a:=by
 unfold ES at h; subst h
 obtain⟨b,n⟩:=x
 cases b<;>simp[Pv,R]
theorem Si(v:V)(x:dY)(a:AV)(H:ah den)(h:MV v=some x)(hr:R T H v a):ES x a:=by
 unfold MV at h
 split at h
 ·rename_i t w
  simp only[Option.bind_eq_some_iff]at h
  obtain⟨n,g,h⟩:=h
  simp only[R]at hr
  obtain⟨a',rfl,hr⟩:=hr
  have e:=fc (T:=T) g hr
  subst e
  cases h1:Nat.beq t 57 with
  |true=>
   rw[h1]at h
   obtain rfl:=Nat.eq_of_beq_eq_true h1
   cases h
   rfl
  |false=>
   rw[h1]at h
   cases h2:Nat.beq t 58 with
   |true=>
    rw[h2]at h
    obtain rfl:=Nat.eq_of_beq_eq_true h2
    cases h
    rfl
   |false=>rw[h2]at h; cases h
 ·simp at h
theorem U4(x:dY)(a:AV)(h:ES x a):aC false 1 a=true∧closed a=true:=by
 unfold ES at h; subst h
 exact⟨rfl,rfl⟩
theorem U5(x:aj)(a:AV)(H:ah den)(h:GO x a):R T H (Pw x) a:=by
 unfold GO at h; subst h
 unfold Pw
 simp only[R]
 refine⟨_,rfl,?_⟩
 simp only[RL,R,and_true,true_and]
theorem U6(v:V)(x:aj)(a:AV)(H:ah den)(h:Px v=some x)(hr:R T H v a):GO x a:=by
 unfold Px at h
 split at h
 ·simp only[Option.bind_eq_some_iff,Option.some.injEq]at h
  obtain⟨b0,g0,b1,g1,rfl⟩:=h
  simp only[R]at hr
  obtain⟨_,rfl,hl⟩:=hr
  obtain⟨c0,_,rfl,r0,hl⟩:=JV.1 hl
  obtain⟨c1,_,rfl,r1,hl⟩:=JV.1 hl
  cases Wd.1 hl
  cases fc (T:=T) g0 r0
  cases fc (T:=T) g1 r1
  exact rfl
 ·simp at h
theorem U7(x:aj)(a:AV)(h:GO x a):aC true 2 a=true∧closed a=true:=by
 unfold GO at h; subst h
 exact⟨by simp[aC,uq,ri,ur],by simp[closed,aZ]⟩
theorem YP(t:Nat)(x:den t)(a:AV)(H:ah den)(h:rp t x a):R T H (up t x) a:=by
 unfold rp at h
 split at h
 ·exact uL (T:=T) h
 ·exact uL (T:=T) h
 ·exact uL (T:=T) h
 ·exact uL (T:=T) h
 ·exact uL (T:=T) h
 ·exact uG (T:=T) (e:=3) h
 ·exact uG (T:=T) (e:=22) h
 ·exact UY _ _ H h
 ·exact UY _ _ H h
 ·exact uG (T:=T) (e:=35) h
 ·exact uL (T:=T) h
 ·exact U1 _ _ H h
 ·exact U1 _ _ H h
 ·exact uG (T:=T) (e:=73) h
 ·exact uG (T:=T) (e:=4) h
 ·exact Sf _ _ H h
 ·exact Sf _ _ H h
 ·exact uG (T:=T) (e:=82) h
 ·exact uL (T:=T) h
 ·exact uL (T:=T) h
 ·exact uL (T:=T) h
 ·exact uL (T:=T) h
 ·exact U3 _ _ H h
 ·exact U3 _ _ H h
 ·exact U5 _ _ H h
 ·exact U5 _ _ H h
 ·exact uL (T:=T) h
 ·exact uL (T:=T) h
 ·exact uL (T:=T) h
 ·exact uL (T:=T) h
 ·exact uP (T:=T) (fun b hb=>Sf _ _ H hb) rfl h
 ·exact h.elim
theorem YQ(t:Nat)(v:V)(x:den t)(a:AV)(H:ah den)(h:dn t v=some x)(hr:R T H v a):rp t x a:=by
 revert x h hr
 refine dn.fun_cases_unfolding (motive:=fun t v r=>∀ (x:den t),r=some x→R T H v a→rp t x a) ?_ ?_ ?_ ?_ ?_ ?_ ?_ ?_ ?_ ?_ ?_ ?_ ?_ ?_ ?_ ?_ ?_ ?_ ?_ ?_ ?_ ?_ ?_ ?_ ?_ ?_ ?_ ?_ ?_ ?_ ?_ ?_ t v
 ·intro v x h hr; exact fc (T:=T) h hr
 ·intro v x h hr; exact fc (T:=T) h hr
 ·intro v x h hr; exact MQ (T:=T) h hr
 ·intro v x h hr; exact fc (T:=T) h hr
 ·intro v x h hr; exact UJ (T:=T) h hr
 ·intro v x h hr; exact gv (T:=T) (e:=3) (fun _ _ _ h hr=>fc (T:=T) h hr) h hr
 ·intro v x h hr; exact gv (T:=T) (e:=22) (fun _ _ _ h hr=>gv (T:=T) (e:=3) (fun _ _ _ h hr=>fc (T:=T) h hr) h hr) h hr
 ·intro v x h hr; exact UZ _ _ _ H h hr
 ·intro v x h hr; exact UZ _ _ _ H h hr
 ·intro v x h hr; exact gv (T:=T) (e:=35) (fun _ _ _ h hr=>Py _ _ _ H h hr) h hr
 ·intro v x h hr; exact fc (T:=T) h hr
 ·intro v x h hr; exact Py _ _ _ H h hr
 ·intro v x h hr; exact Py _ _ _ H h hr
 ·intro v x h hr; exact gv (T:=T) (e:=73) (fun _ _ _ h hr=>fc (T:=T) h hr) h hr
 ·intro v x h hr; exact gv (T:=T) (e:=4) (fun _ _ _ h hr=>MQ (T:=T) h hr) h hr
 ·intro v x h hr; exact Sg _ _ _ H h hr
 ·intro v x h hr; exact Sg _ _ _ H h hr
 ·intro v x h hr; exact gv (T:=T) (e:=82) (fun _ _ _ h hr=>Si _ _ _ H h hr) h hr
 ·intro v x h hr; exact fc (T:=T) h hr
 ·intro v x h hr; exact fc (T:=T) h hr
 ·intro v x h hr; exact fc (T:=T) h hr
 ·intro v x h hr; exact fc (T:=T) h hr
 ·intro v x h hr; exact Si _ _ _ H h hr
 ·intro v x h hr; exact Si _ _ _ H h hr
 ·intro v x h hr; exact U6 _ _ _ H h hr
 ·intro v x h hr; exact U6 _ _ _ H h hr
 ·intro v x h hr; exact fc (T:=T) h hr
 ·intro v x h hr; exact fc (T:=T) h hr
 ·intro v x h hr; exact fc (T:=T) h hr
 ·intro v x h hr; exact fc (T:=T) h hr
 ·intro v x h hr; exact Sc (T:=T) (fun _ _ h hr=>Sg _ _ _ H h hr) h hr
 ·intros; rename_i h _; cases h
theorem U8(t:Nat)(x:den t)(a:AV)(h:rp t x a):aC (UU t) (Qw t) a=true∧closed a=true:=by
 unfold rp at h
 split at h
 ·exact zu (eI h)
 ·exact zu (eI h)
 ·exact zu (eB h)
 ·exact zu (eI h)
 ·exact zu (eS h)
 ·exact zu (eG h)
 ·exact zu (eG h)
 ·exact U0 _ _ h
 ·exact U0 _ _ h
 ·exact zu (eG h)
 ·exact zu (eI h)
 ·exact R6 _ _ h
 ·exact R6 _ _ h
 ·exact zu (eG h)
 ·exact zu (eG h)
 ·exact U2 _ _ h
 ·exact U2 _ _ h
 ·exact zu (eG h)
 ·exact zu (eI h)
 ·exact zu (eI h)
 ·exact zu (eI h)
 ·exact zu (eI h)
 ·exact U4 _ _ h
 ·exact U4 _ _ h
 ·exact U7 _ _ h
 ·exact U7 _ _ h
 ·exact zu (eI h)
 ·exact zu (eI h)
 ·exact zu (eI h)
 ·exact zu (eI h)
 ·exact zu (eP h)
 ·exact h.elim
theorem U9(t:Nat)(f:(den t→Bool)×(den t→V)×(den t→V))(h:Se t=some f)(x:den t):(bif f.1 x then f.2.1 x else f.2.2 x)=up t x:=by
 unfold Se at h
 split at h
 ·cases h; rfl
 ·cases h; rfl
 ·cases h
theorem Z8:T.Ok:=⟨fun t x a H h=>YP t x a H h,fun t v x a H h hr=>YQ t v x a H h hr,fun t x a h=>(U8 t x a h).1,fun t x a h=>(U8 t x a h).2,fun t f h x=>U9 t f h x⟩
theorem RB:gO.Ok ⟨Try.prog,Cf,fun _=>false⟩:=gO.Ok.of (by kernel_rfl) (by kernel_rfl) (by kernel_rfl) (by kernel_rfl) (by kernel_rfl)
def ZP(q:Nat×kp):Prop:=∀ z za,Qx q.1=some z→q.2.zero=some za→rp q.1 z za
theorem Z9:T.uh ⟨Try.prog,Cf,fun _=>false⟩:=by
 intro t m z za h1 h2 h3
 have hm:=eU h1
 have all:∀ q,q∈Cf→ZP q:=by
  unfold Cf
  intro q hq
  simp only[List.mem_cons,List.not_mem_nil,or_false]at hq
  rcases hq with rfl|rfl|rfl|rfl|rfl|rfl|rfl|rfl|rfl|rfl|rfl|rfl|rfl|rfl|rfl|rfl|rfl|rfl|rfl|rfl|rfl|rfl|rfl|rfl|rfl|rfl|rfl|rfl|rfl|rfl|rfl|rfl|rfl|rfl|rfl|rfl|rfl|rfl|rfl|rfl|rfl|rfl|rfl|rfl|rfl|rfl|rfl|rfl|rfl|rfl|rfl|rfl|rfl|rfl|rfl|rfl|rfl|rfl|rfl|rfl|rfl|rfl|rfl|rfl|rfl|rfl|rfl|rfl|rfl|rfl|rfl|rfl|rfl|rfl|rfl|rfl|rfl|rfl|rfl|rfl|rfl|rfl|rfl|rfl|rfl|rfl|rfl|rfl|rfl|rfl|rfl|rfl|rfl|rfl|rfl|rfl|rfl|rfl|rfl|rfl|rfl|rfl|rfl|rfl|rfl|rfl|rfl|rfl|rfl|rfl|rfl|rfl|rfl|rfl|rfl|rfl|rfl|rfl|rfl|rfl|rfl|rfl|rfl|rfl|rfl|rfl|rfl|rfl|rfl|rfl|rfl
  ·exact fun _ _ h _=>zn h
  ·exact fun _ _ h1 h2=>zz h1 h2 (rfl)
  ·exact fun _ _ h1 h2=>zz h1 h2 (rfl)
  ·exact fun _ _ h1 h2=>zz h1 h2 (rfl)
  ·exact fun _ _ h1 h2=>zz h1 h2 (rfl)
  ·exact fun _ _ h _=>zn h
  ·exact fun _ _ h _=>zn h
  ·exact fun _ _ h _=>zn h
  ·exact fun _ _ h1 h2=>zz h1 h2 (rfl)
  ·exact fun _ _ h _=>zn h
  ·exact fun _ _ h _=>zn h
  ·exact fun _ _ h _=>zn h
  ·exact fun _ _ h _=>zn h
  ·exact fun _ _ h _=>zn h
  ·exact fun _ _ h _=>zn h
  ·exact fun _ _ h _=>zn h
  ·exact fun _ _ h _=>zn h
  ·exact fun _ _ h _=>zn h
  ·exact fun _ _ h _=>zn h
  ·exact fun _ _ h _=>zn h
  ·exact fun _ _ h _=>zn h
  ·exact fun _ _ h1 h2=>zz h1 h2 (.inr ⟨rfl,rfl⟩)
  ·exact fun _ _ h1 h2=>zz h1 h2 (.inr ⟨rfl,rfl⟩)
  ·exact fun _ _ h1 h2=>zz h1 h2 (⟨_,_,_,.inr ⟨rfl,rfl⟩,.inr ⟨rfl,rfl⟩,.inr ⟨rfl,rfl⟩,rfl⟩)
  ·exact fun _ _ h1 h2=>zz h1 h2 (⟨_,_,_,.inr ⟨rfl,rfl⟩,.inr ⟨rfl,rfl⟩,.inr ⟨rfl,rfl⟩,rfl⟩)
  ·exact fun _ _ h1 h2=>zz h1 h2 (.inr ⟨rfl,rfl⟩)
  ·exact fun _ _ h _=>zn h
  ·exact fun _ _ h _=>zn h
  ·exact fun _ _ h1 h2=>zz h1 h2 (rfl)
  ·exact fun _ _ h _=>zn h
  ·exact fun _ _ h _=>zn h
  ·exact fun _ _ h _=>zn h
  ·exact fun _ _ h1 h2=>zz h1 h2 (rfl)
  ·exact fun _ _ h1 h2=>zz h1 h2 (rfl)
  ·exact fun _ _ h1 h2=>zz h1 h2 (.inr ⟨rfl,rfl⟩)
  ·exact fun _ _ h _=>zn h
  ·exact fun _ _ h _=>zn h
  ·exact fun _ _ h _=>zn h
  ·exact fun _ _ h _=>zn h
  ·exact fun _ _ h _=>zn h
  ·exact fun _ _ h _=>zn h
  ·exact fun _ _ h _=>zn h
  ·exact fun _ _ h _=>zn h
  ·exact fun _ _ h _=>zn h
  ·exact fun _ _ h _=>zn h
  ·exact fun _ _ h _=>zn h
  ·exact fun _ _ h _=>zn h
  ·exact fun _ _ h _=>zn h
  ·exact fun _ _ h _=>zn h
  ·exact fun _ _ h1 h2=>zz h1 h2 (.inr ⟨rfl,rfl⟩)
  ·exact fun _ _ h1 h2=>zz h1 h2 (⟨_,_,_,_,_,.inr ⟨rfl,rfl⟩,.inr ⟨rfl,rfl⟩,.inr ⟨rfl,rfl⟩,.inr ⟨rfl,rfl⟩,.inr ⟨rfl,rfl⟩,rfl⟩)
  ·exact fun _ _ h1 h2=>zz h1 h2 (⟨_,_,_,_,_,.inr ⟨rfl,rfl⟩,.inr ⟨rfl,rfl⟩,.inr ⟨rfl,rfl⟩,.inr ⟨rfl,rfl⟩,.inr ⟨rfl,rfl⟩,rfl⟩)
  ·exact fun _ _ h1 h2=>zz h1 h2 (.inr ⟨rfl,rfl⟩)
  ·exact fun _ _ h1 h2=>zz h1 h2 (rfl)
  ·exact fun _ _ h1 h2=>zz h1 h2 (rfl)
  ·exact fun _ _ h _=>zn h
  ·exact fun _ _ h _=>zn h
  ·exact fun _ _ h _=>zn h
  ·exact fun _ _ h _=>zn h
  ·exact fun _ _ h _=>zn h
  ·exact fun _ _ h _=>zn h
  ·exact fun _ _ h _=>zn h
  ·exact fun _ _ h _=>zn h
  ·exact fun _ _ h _=>zn h
  ·exact fun _ _ h _=>zn h
  ·exact fun _ _ h _=>zn h
  ·exact fun _ _ h _=>zn h
  ·exact fun _ _ h _=>zn h
  ·exact fun _ _ h1 h2=>zz h1 h2 (rfl)
  ·exact fun _ _ h _=>zn h
  ·exact fun _ _ h _=>zn h
  ·exact fun _ _ h _=>zn h
  ·exact fun _ _ h1 h2=>zz h1 h2 (rfl)
  ·exact fun _ _ h _=>zn h
  ·exact fun _ _ h _=>zn h
  ·exact fun _ _ h _=>zn h
  ·exact fun _ _ h _=>zn h
  ·exact fun _ _ h _=>zn h
  ·exact fun _ _ h _=>zn h
  ·exact fun _ _ h _=>zn h
  ·exact fun _ _ h1 h2=>zz h1 h2 (rfl)
  ·exact fun _ _ h1 h2=>zz h1 h2 (rfl)
  ·exact fun _ _ h _=>zn h
  ·exact fun _ _ h _=>zn h
  ·exact fun _ _ h _=>zn h
  ·exact fun _ _ h _=>zn h
  ·exact fun _ _ h _=>zn h
  ·exact fun _ _ h _=>zn h
  ·exact fun _ _ h _=>zn h
  ·exact fun _ _ h _=>zn h
  ·exact fun _ _ h1 h2=>zz h1 h2 (rfl)
  ·exact fun _ _ h _=>zn h
  ·exact fun _ _ h _=>zn h
  ·exact fun _ _ h _=>zn h
  ·exact fun _ _ h _=>zn h
  ·exact fun _ _ h _=>zn h
  ·exact fun _ _ h1 h2=>zz h1 h2 (rfl)
  ·exact fun _ _ h _=>zn h
  ·exact fun _ _ h1 h2=>zz h1 h2 (rfl)
  ·exact fun _ _ h _=>zn h
  ·exact fun _ _ h _=>zn h
  ·exact fun _ _ h _=>zn h
  ·exact fun _ _ h _=>zn h
  ·exact fun _ _ h _=>zn h
  ·exact fun _ _ h _=>zn h
  ·exact fun _ _ h _=>zn h
  ·exact fun _ _ h _=>zn h
  ·exact fun _ _ h1 h2=>zz h1 h2 (rfl)
  ·exact fun _ _ h _=>zn h
  ·exact fun _ _ h _=>zn h
  ·exact fun _ _ h _=>zn h
  ·exact fun _ _ h _=>zn h
  ·exact fun _ _ h _=>zn h
  ·exact fun _ _ h _=>zn h
  ·exact fun _ _ h _=>zn h
  ·exact fun _ _ h _=>zn h
  ·exact fun _ _ h _=>zn h
  ·exact fun _ _ h _=>zn h
  ·exact fun _ _ h _=>zn h
  ·exact fun _ _ h _=>zn h
  ·exact fun _ _ h _=>zn h
  ·exact fun _ _ h _=>zn h
  ·exact fun _ _ h _=>zn h
  ·exact fun _ _ h _=>zn h
  ·exact fun _ _ h _=>zn h
  ·exact fun _ _ h _=>zn h
  ·exact fun _ _ h _=>zn h
  ·exact fun _ _ h _=>zn h
  ·exact fun _ _ h _=>zn h
  ·exact fun _ _ h _=>zn h
  ·exact fun _ _ h _=>zn h
 exact all _ hm z za h3 h2
theorem YR:Try.prog.underlying 3=some (.int .i64):=by kernel_rfl
def YS(x:Int):Prop:=IntKind.min .i64≤x∧x≤IntKind.max .i64
theorem sh3{n:Nat}{l:List AV}(h:Shape Try.prog n 3 l):∃ x,YS x∧∃ a,l=[a]∧NM x a:=by
 obtain⟨m,rfl,h1⟩:=Bi YR h
 exact⟨m,h1,_,rfl,rfl⟩
theorem YT:Try.prog.underlying 22=some (.slice 3):=by kernel_rfl
theorem YU:(Try.prog.underlying 3).isSome=true:=by kernel_rfl
theorem YV:(Try.prog.underlying 3).map dT=some false:=by kernel_rfl
theorem YW:Try.prog.underlying 3=Try.prog.underlying 3:=by kernel_rfl
def MW(x:List Int):Prop:=x.length≤maxLen∧∀ y,y∈x→YS y
theorem Sj{n:Nat}{l:List AV}(h:Shape Try.prog n 22 l):∃ x,MW x∧∃ a,l=[a]∧ER x a:=by
 obtain⟨d,hd⟩:=Option.isSome_iff_exists.1 YU
 have o6:dT d=false:=by have:=YV; rw[hd]at this; simpa using this
 obtain⟨ys,xs,rfl,h1,h2⟩:=qz (Q:=fun y x=>YS y∧NM y x) YT hd h (by
  rintro k x ⟨cl,h1,h2⟩
  rw[o6]at h1
  simp only[Bool.false_eq_true,if_false]at h1
  replace h2:=iC YW h2
  subst h1
  obtain⟨y,hy,a,ha,r⟩:=sh3 h2
  simp only[List.cons.injEq,and_true]at ha
  subst ha
  exact⟨y,hy,r⟩)
 refine⟨ys,⟨h2,?_⟩,_,rfl,.inl ⟨xs,rfl,h1.mono fun _ _ h=>h.2⟩⟩
 intro y hy
 obtain⟨i,hi⟩:=List.getElem?_of_mem hy
 obtain⟨_,_,h3⟩:=h1.get hi
 exact h3.1
theorem YX:Try.prog.underlying 23=some (.slice 22):=by kernel_rfl
theorem YY:(Try.prog.underlying 22).isSome=true:=by kernel_rfl
theorem YZ:(Try.prog.underlying 22).map dT=some false:=by kernel_rfl
theorem Y0:Try.prog.underlying 22=Try.prog.underlying 22:=by kernel_rfl
def Va(x:List (List Int)):Prop:=x.length≤maxLen∧∀ y,y∈x→MW y
theorem Y1{n:Nat}{l:List AV}(h:Shape Try.prog n 23 l):∃ x,Va x∧∃ a,l=[a]∧Pq x a:=by
 obtain⟨d,hd⟩:=Option.isSome_iff_exists.1 YY
 have o6:dT d=false:=by have:=YZ; rw[hd]at this; simpa using this
 obtain⟨ys,xs,rfl,h1,h2⟩:=qz (Q:=fun y x=>MW y∧ER y x) YX hd h (by
  rintro k x ⟨cl,h1,h2⟩
  rw[o6]at h1
  simp only[Bool.false_eq_true,if_false]at h1
  replace h2:=iC Y0 h2
  subst h1
  obtain⟨y,hy,a,ha,r⟩:=Sj h2
  simp only[List.cons.injEq,and_true]at ha
  subst ha
  exact⟨y,hy,r⟩)
 refine⟨ys,⟨h2,?_⟩,_,rfl,.inl ⟨xs,rfl,h1.mono fun _ _ h=>h.2⟩⟩
 intro y hy
 obtain⟨i,hi⟩:=List.getElem?_of_mem hy
 obtain⟨_,_,h3⟩:=h1.get hi
 exact h3.1
def Y2(x:cw):Prop:=MW x.aQ∧Va x.af∧MW x.aG
theorem Sk:Try.prog.underlying 22=Try.prog.underlying 22:=by kernel_rfl
theorem Sl:Try.prog.underlying 23=Try.prog.underlying 23:=by kernel_rfl
theorem Sm:Try.prog.underlying 22=Try.prog.underlying 22:=by kernel_rfl
theorem Yt{n:Nat}{l:List AV}(h:Shape Try.prog n 24 l):∃ x,Y2 x∧Jx x (.agg l):=by
 obtain⟨hl,k,hf⟩:=Ct RB (t:=24) rfl rfl h
 rw[oX RB (t:=24) rfl]at hl
 have h0:=hf (0,22) (by simp)
 rw[oX RB (t:=22) rfl]at h0
 replace h0:=iC (Sk) h0
 have h1:=hf (1,23) (by simp)
 rw[oX RB (t:=23) rfl]at h1
 replace h1:=iC (Sl) h1
 have h2:=hf (2,22) (by simp)
 rw[oX RB (t:=22) rfl]at h2
 replace h2:=iC (Sm) h2
 match l,hl with
 |[a0,a1,a2],_=>
  replace h0:Shape Try.prog k 22 [a0]:=h0
  obtain⟨x0,w0,b0,e0,r0⟩:=Sj h0
  simp only[List.cons.injEq,and_true]at e0
  subst e0
  have s0:=r0
  replace h1:Shape Try.prog k 23 [a1]:=h1
  obtain⟨x1,w1,b1,e1,r1⟩:=Y1 h1
  simp only[List.cons.injEq,and_true]at e1
  subst e1
  have s1:=r1
  replace h2:Shape Try.prog k 22 [a2]:=h2
  obtain⟨x2,w2,b2,e2,r2⟩:=Sj h2
  simp only[List.cons.injEq,and_true]at e2
  subst e2
  have s2:=r2
  exact⟨⟨x0,x1,x2⟩,⟨w0,w1,w2⟩,⟨_,_,_,s0,s1,s2,rfl⟩⟩
theorem Y3:Try.prog.underlying 73=some (.int .u16):=by kernel_rfl
def Sn(x:Int):Prop:=IntKind.min .u16≤x∧x≤IntKind.max .u16
theorem Y4{n:Nat}{l:List AV}(h:Shape Try.prog n 73 l):∃ x,Sn x∧∃ a,l=[a]∧Pu x a:=by
 obtain⟨m,rfl,h1⟩:=Bi Y3 h
 exact⟨m,h1,_,rfl,rfl⟩
theorem Y5:Try.prog.underlying 36=some (.slice 73):=by kernel_rfl
theorem Y6:(Try.prog.underlying 73).isSome=true:=by kernel_rfl
theorem Y7:(Try.prog.underlying 73).map dT=some false:=by kernel_rfl
theorem Y8:Try.prog.underlying 73=Try.prog.underlying 73:=by kernel_rfl
def Y9(x:List Int):Prop:=x.length≤maxLen∧∀ y,y∈x→Sn y
theorem Yu{n:Nat}{l:List AV}(h:Shape Try.prog n 36 l):∃ x,Y9 x∧∃ a,l=[a]∧UO x a:=by
 obtain⟨d,hd⟩:=Option.isSome_iff_exists.1 Y6
 have o6:dT d=false:=by have:=Y7; rw[hd]at this; simpa using this
 obtain⟨ys,xs,rfl,h1,h2⟩:=qz (Q:=fun y x=>Sn y∧Pu y x) Y5 hd h (by
  rintro k x ⟨cl,h1,h2⟩
  rw[o6]at h1
  simp only[Bool.false_eq_true,if_false]at h1
  replace h2:=iC Y8 h2
  subst h1
  obtain⟨y,hy,a,ha,r⟩:=Y4 h2
  simp only[List.cons.injEq,and_true]at ha
  subst ha
  exact⟨y,hy,r⟩)
 refine⟨ys,⟨h2,?_⟩,_,rfl,.inl ⟨xs,rfl,h1.mono fun _ _ h=>h.2⟩⟩
 intro y hy
 obtain⟨i,hi⟩:=List.getElem?_of_mem hy
 obtain⟨_,_,h3⟩:=h1.get hi
 exact h3.1
end Go.Proofs.Ytedjbjphpnkpoaa
end
section
/- Copies of slices in this seat: what the library's functions come to (printed by gen_lib.py). -/
namespace Go.Proofs.Ytedjbjphpnkpoaa.qy
open Go.PI
noncomputable def C0:Ctx where
 P:=Try.prog
 kind:=fun f=>if f=61 then .imp else .pure
 jL:=fun _=>none
 acc:=fun _ _=>false
instance:iy C0:=⟨rfl,rfl⟩
noncomputable def R(t:Nat):bu:=(ff Try.prog t).getD ⟨.bool,0,0,none,false⟩
theorem JD:aH C0.P 22=some (R 3):=by kernel_rfl
theorem JE:bN C0.P 22=true:=by kernel_rfl
theorem Zb:(bR (R 3)).isSome=true:=by kernel_rfl
theorem V9:(R 3).size=1:=by kernel_rfl
theorem ag3:(R 3).isAgg=false:=by kernel_rfl
theorem by3:(R 3).bytes=8:=by kernel_rfl
theorem Zc:C0.P.funcs[61]?=some Try.f61:=by kernel_rfl
theorem Vb:bN C0.P 23=true:=by kernel_rfl
theorem st3:bN C0.P 3=false:=by kernel_rfl
theorem YR:C0.P.underlying 3=some (.int .i64):=by kernel_rfl
noncomputable def wO:AV:=(bR (R 3)).getD .undef
theorem zv3:bR (R 3)=some wO:=by kernel_rfl
theorem zo3:aC (R 3).isAgg (R 3).size wO=true:=by kernel_rfl
theorem JF:iv C0 61 [.lit bV,int 0] []=some (.val (.lit bV),[]):=
 (aX (jm C0 61 [.lit bV,int 0] [])).2 ⟨100,by kernel_rfl⟩
theorem M0(n:Nat)(hn:0<n)(h1:n*(R 3).bytes≤2^44)(h2:n≤2^44):iv C0 61 [.lit bV,int n] []=some (.val (.bh (R 3).size 0 n 0 0 none),[some (.arr true true false (List.replicate n wO))]):=by
 rw[xh (fn:=Try.f61) Zc rfl]
 have xd:∀ f d,C0.acc f d=false:=fun _ _=>rfl
 have hr:0<(R 3).size:=by rw[V9]; decide
 have hw:IntKind.i64.wrap ((n:Int)-0)=(n:Int):=by rw[IntWalk.i64_in _ (by omega)]; omega
 have Vm:IntKind.i64.wrap (0-0)=(0:Int):=by decide
 have So:¬((n:Int)<0):=by omega
 have dV:(0:Int)<(n:Int):=by omega
 have IE:Option.map (ay [AV.lit bV]) none=(none:Option AV):=rfl
 simp (decide:=true) only [Try.f61,zp,xd,Pz JE,PA JE,MY,PB,PC JD,PD JD hn,GP,MZ JD st3 YR zv3 hr zo3 hn h1 h2,hw,Vm,So,dV,bol,Option.map_none,gd,ia,o7,eL,List.map_cons,List.map_nil,dG,jq,mJ,nQ,KS,jU,nR,mH,jT,uR,ay,mY,gR,fR,bD,eA,FJ,yb,jr,ya,qG,Hj,Hk,cZ,tx,yd,BI,BJ,BH,List.getElem?_toArray,List.replicate_succ,List.replicate_zero,Nat.reduceSub,Nat.reduceAdd,Option.bind_some,Option.map_some,decide_true,decide_false,r9,List.length_nil,List.length_cons,List.nil_append,List.cons_append,Nat.zero_add,Nr,Ns,Nt,Nu,jQ,nJ]
theorem UA:C0.P.funcs[40]?=some Try.f40:=by kernel_rfl
theorem Zd:ff C0.P 22=some (R 22):=by kernel_rfl
theorem Vc:(R 22).isAgg=false:=by kernel_rfl
theorem Vd:(R 22).size=1:=by kernel_rfl
theorem Ze:aH C0.P 23=some (R 22):=by kernel_rfl
theorem Zf:arrayElem C0.P 23=none:=by kernel_rfl
theorem Ve{nm:Nat}{ev:Operand→AV}{dst:Option Tmp}{type:TypeId}{pos:String}{after:Array Edge}{guard:Option (Nat×Bool)}{hp:ag}{x:Operand}:
  (aK C0.P nm ev ⟨dst,.load 22 x,type,pos,after,guard⟩).run hp=KU (Hn false 1 hp (ev x)):=by rw[N8 Zd,Oa Vc Vd]
theorem Vf(x ix:AV):fj C0.P 23 x ix=(asNat ix).bind fun i=>nS false 1 i x:=by rw[KY Ze Zf,Vc,Vd]
def I1(ls:List (List AV))(k:Nat)(s:St):Prop:=
 ∃ (i:Nat) (j1 j4 j5 j6 j7 j8 M1 M3 M4 M5 M6 M7 M8 M9 Na Nb Nc Nd Nf Vg Vh Qz Ng Nh Ni Nj Nk Nl Nm Nn:AV),k=ls.length-i∧i≤ls.length∧s=⟨40,[.sl (ls.map .sl),j1,.lit bV,int ((ls.take i).flatten.length:Nat),j4,j5,j6,j7,j8,.sl (ls.map .sl),int ls.length,int i,M1,M3,M4,M5,M6,M7,M8,M9,Na,Nb,Nc,Nd,Nf,Vg,Vh,Qz,Ng,Nh,Ni,Nj,Nk,Nl,Nm,Nn],[]⟩
def P1(ls:List (List AV))(o:Out):Prop:=
 ∃ (QA j1 j4 j5 j6 j7 j8 M1 M3 M4 M5 M6 M7 M8 M9 Na Nb Nc Nd Nf Vg Vh Qz Ng Nh Ni Nj Nk Nl Nm Nn:AV),o=.exit 0 ⟨40,[.sl (ls.map .sl),j1,.lit bV,int (ls.flatten.length:Nat),j4,j5,j6,j7,j8,.sl (ls.map .sl),int ls.length,QA,M1,M3,M4,M5,M6,M7,M8,M9,Na,Nb,Nc,Nd,Nf,Vg,Vh,Qz,Ng,Nh,Ni,Nj,Nk,Nl,Nm,Nn],[]⟩
theorem Ia{α:Type}(ls:List (List α))(i:Nat):(ls.take i).flatten.length≤ls.flatten.length:=by
 have h:ls.flatten.length=(ls.take i).flatten.length+(ls.drop i).flatten.length:=by
  rw[←List.length_append,←List.flatten_append,List.take_append_drop]
 omega
theorem Bk{α:Type}(ls:List (List α))(i:Nat)(h:i<ls.length):(ls.take (i+1)).flatten=(ls.take i).flatten++ls[i]:=by
 rw[List.take_succ_eq_append_getElem h,List.flatten_append]; simp only[List.flatten_cons,List.flatten_nil,List.append_nil]
noncomputable def cur(ls:List (List AV))(i:Nat):AV:=if ls.flatten.length=0 then .lit bV else .bh (R 3).size 0 ls.flatten.length 0 (ls.take i).flatten.length none
noncomputable def ta(ls:List (List AV))(i:Nat):ag:=if ls.flatten.length=0 then [] else [some (.arr true true false ((ls.take i).flatten++List.replicate (ls.flatten.length-(ls.take i).flatten.length) wO))]
theorem No(ls:List (List AV))(h1:ls.flatten.length*(R 3).bytes≤2^44)(h2:ls.flatten.length≤2^44):iv C0 61 [.lit (.slice none 0 0),int ls.flatten.length] []=some (.val (cur ls 0),ta ls 0):=by
 unfold cur ta
 by_cases h:ls.flatten.length=0
 ·rw[if_pos h,if_pos h,h]; exact JF
 ·rw[if_neg h,if_neg h]
  simpa using M0 _ (by omega) h1 h2
theorem JG(ls:List (List AV))(i:Nat):gX 0 (cur ls i) (ta ls i)=ta ls i:=by
 unfold cur ta gX
 by_cases h:ls.flatten.length=0
 ·rw[if_pos h,if_pos h]; simp
 ·rw[if_neg h,if_neg h]; simp[below]
theorem GR(ls:List (List AV))(i:Nat):forget (ta ls i).length (cur ls (i+1))=cur ls (i+1):=by
 apply Iz
 unfold cur ta
 by_cases h:ls.flatten.length=0
 ·rw[if_pos h,if_pos h]; rfl
 ·rw[if_neg h,if_neg h]; simp[below]
theorem JH(ls:List (List AV))(i:Nat)(f:Nat)(fr:List AV):gW (ta ls i).length ⟨f,fr,ta ls (i+1)⟩=⟨f,fr.map (forget (ta ls i).length),ta ls (i+1)⟩:=by
 have hl:(ta ls i).length=(ta ls (i+1)).length:=by
  unfold ta
  by_cases h:ls.flatten.length=0
  ·rw[if_pos h,if_pos h]
  ·rw[if_neg h,if_neg h]; rfl
 have ht:(ta ls (i+1)).take (ta ls i).length=ta ls (i+1):=by rw[hl]; exact List.take_length
 rw[Da]
 ·simp only[ht]
 ·simp only[ht]
  unfold ta
  by_cases h:ls.flatten.length=0
  ·rw[if_pos h]; rfl
  ·rw[if_neg h]; rfl
theorem Cu(a ys:List AV)(k:Nat)(z:AV)(h:ys.length≤k):bz (a++List.replicate k z) a.length ys=a++ys++List.replicate (k-ys.length) z:=by
 induction ys generalizing a k with
 |nil=>simp[bz]
 |cons y ys ih=>
  obtain⟨k,rfl⟩:∃ m,k=m+1:=⟨k-1,by simp at h; omega⟩
  have:=ih (a++[y]) k (by simp at h; omega)
  simp only[bz,List.replicate_succ]
  simp only[List.length_append,List.length_cons,List.length_nil]at this
  rw[List.set_append_right _ _ (Nat.le_refl _),Nat.sub_self,List.set_cons_zero]
  simpa[List.append_assoc] using this
theorem PF(ls:List (List AV))(i:Nat)(hi:i<ls.length)(bg:ls[i].all (aC (R 3).isAgg (R 3).size)=true):
  ∃ wr,(∀ nm,(eJ C0.P nm 22 22 (cur ls i) (.sl ls[i])).run (ta ls i)=some ⟨cur ls (i+1),wr⟩)∧ai (ta ls i) wr=ta ls (i+1):=by
 have hr:0<(R 3).size:=by rw[V9]; decide
 have hf:=Bk ls i hi
 have hle:=Ia ls (i+1)
 have hlen:(ls.take (i+1)).flatten.length=(ls.take i).flatten.length+ls[i].length:=by rw[hf,List.length_append]
 by_cases h:ls.flatten.length=0
 ·have he:ls[i]=[]:=List.length_eq_zero_iff.1 (by omega)
  refine⟨[],fun nm=>?_,?_⟩
  ·unfold cur ta
   rw[if_pos h,if_pos h,if_pos h,he]
   simp[eJ,JD,uy,JE,fG,RM.run_bind,RM.run_pure,Zb,hr]
  ·unfold ta; rw[if_pos h,if_pos h]; rfl
 ·by_cases he:ls[i]=[]
  ·have xf:ls[i].length=0:=by rw[he]; rfl
   rw[xf]at hlen
   have gZ:(ls.take (i+1)).flatten=(ls.take i).flatten:=by rw[hf,he,List.append_nil]
   refine⟨[],fun nm=>?_,?_⟩
   ·unfold cur ta
    rw[if_neg h,if_neg h,if_neg h,he,gZ]
    simp[eJ,JD,uy,JE,fG,RM.run_bind,RM.run_pure,Zb,hr]
   ·unfold ta; rw[if_neg h,if_neg h,gZ]; rfl
  ·have dA:ls[i].isEmpty=false:=by cases hq:ls[i]<;>simp_all
   have cF:((ls.take i).flatten++List.replicate (ls.flatten.length-(ls.take i).flatten.length) wO).length=ls.flatten.length:=by
    rw[List.length_append,List.length_replicate]; omega
   refine⟨[(0,.arr true true false ((ls.take (i+1)).flatten++List.replicate (ls.flatten.length-(ls.take (i+1)).flatten.length) wO))],fun nm=>?_,?_⟩
   ·unfold cur ta
    rw[if_neg h,if_neg h,if_neg h]
    have ho:=RM.yh (hp:=[some (.arr true true false ((ls.take i).flatten++List.replicate (ls.flatten.length-(ls.take i).flatten.length) wO))]) (n:=0) rfl
    rw[cF]at ho
    have Ei:=Cu (ls.take i).flatten ls[i] (ls.flatten.length-(ls.take i).flatten.length) wO (by omega)
    simp only[eJ,JD,uy,JE,fG,RM.run_bind,RM.run_pure,Option.bind_some,Zb,hr,bg,decide_true,Bool.and_self,dA,ho]
    rw[if_neg (by rintro (h1|h1|h1); (exact absurd h1 (by decide)); (rw[cF]at h1; omega); (exact h1 rfl)),if_pos (by simp only[Option.getD_none]; omega),if_pos (by rw[cF]; omega)]
    simp only[RM.run_pure,Nat.zero_add,Ei,hlen,←hf]
    rw[Nat.sub_sub]
   ·unfold ta; rw[if_neg h,if_neg h]; rfl
def I2(ls:List (List AV))(k:Nat)(s:St):Prop:=
 ∃ (i:Nat) (j1 j4 j5 j7 j8 j9 Vi QA M1 M3 M4 M5 M6 M7 M8 M9 Na Nb Nc Nd Nf Ng Nh Ni Nj Nk Nl Nm Nn:AV),k=ls.length-i∧i≤ls.length∧s=⟨40,[.sl (ls.map .sl),j1,.lit bV,int (ls.flatten.length:Nat),j4,j5,cur ls i,j7,j8,j9,Vi,QA,M1,M3,M4,M5,M6,M7,M8,M9,Na,Nb,Nc,Nd,Nf,.sl (ls.map .sl),int ls.length,int i,Ng,Nh,Ni,Nj,Nk,Nl,Nm,Nn],ta ls i⟩
def P2(ls:List (List AV))(o:Out):Prop:=
 ∃ (Qz j1 j4 j5 j7 j8 j9 Vi QA M1 M3 M4 M5 M6 M7 M8 M9 Na Nb Nc Nd Nf Ng Nh Ni Nj Nk Nl Nm Nn:AV),o=.exit 2 ⟨40,[.sl (ls.map .sl),j1,.lit bV,int (ls.flatten.length:Nat),j4,j5,cur ls ls.length,j7,j8,j9,Vi,QA,M1,M3,M4,M5,M6,M7,M8,M9,Na,Nb,Nc,Nd,Nf,.sl (ls.map .sl),int ls.length,Qz,Ng,Nh,Ni,Nj,Nk,Nl,Nm,Nn],ta ls ls.length⟩
theorem GF(ls:List (List AV))(hn:ls.length≤2^44)(bg:∀ l∈ls,l.all (aC (R 3).isAgg (R 3).size)=true)(Ui:ls.flatten.length*(R 3).bytes≤2^44)(hT:ls.flatten.length≤2^44):∃ res dQ,iv C0 40 [.sl (ls.map .sl)] []=some (.val res,dQ)∧(a9 1000 res).run dQ=some (.sl ls.flatten):=by
 have key:iv C0 40 [.sl (ls.map .sl)] []=some (.val (cur ls ls.length),ta ls ls.length):=by
  rw[xh (fn:=Try.f40) UA rfl]
  have xd:∀ f d,C0.acc f d=false:=fun _ _=>rfl
  have hr:0<(R 3).size:=by rw[V9]; decide
  simp (decide:=true) only [Try.f40,zp,xd,FK Vb,List.length_map,gd,ia,o7,eL,List.map_cons,List.map_nil,dG,jq,mJ,jU,KT,mH,jT,ay,mY,gR,fR,bD,eA,jr,cZ,List.getElem?_toArray,List.replicate_succ,List.replicate_zero,Nat.reduceSub,Option.bind_some,List.length_nil,List.length_cons,List.nil_append,List.cons_append,Nat.zero_add,Nr,Ns,Nt,Nu,lP,Option.bind_assoc,BK]
  refine Ax (I1 ls) (P1 ls) ls.length ?_ ?_ ?_
  ·exact⟨0,_,_,_,_,_,_,_,_,_,_,_,_,_,_,_,_,_,_,_,_,_,_,_,_,_,_,_,_,_,_,rfl,Nat.zero_le _,rfl⟩
  ·rintro k s ⟨i,j1,j4,j5,j6,j7,j8,M1,M3,M4,M5,M6,M7,M8,M9,Na,Nb,Nc,Nd,Nf,Vg,Vh,Qz,Ng,Nh,Ni,Nj,Nk,Nl,Nm,Nn,hk,hi,rfl⟩
   have Np:IntKind.i64.wrap ((i:Int)+1)=((i+1:Nat):Int):=by
    rw[IntWalk.i64_in _ (by omega)]; omega
   by_cases bL:i<ls.length
   ·have lQ:(ls.map AV.sl)[i]?=some (.sl ls[i]):=by simp[bL]
    have bI:aC false 1 (.sl ls[i])=true:=by simp[aC,bf]
    have hp0:e9 false 1 (.sl ls[i]) 0=some (.sl ls[i]):=by simp[e9,bf]
    have yk:((i:Int)<(ls.length:Int)):=by omega
    have hf:=Bk ls i bL
    have hle:=Ia ls (i+1)
    have hlen:(ls.take (i+1)).flatten.length=(ls.take i).flatten.length+ls[i].length:=by rw[hf,List.length_append]
    have kZ:IntKind.i64.wrap (((ls.take i).flatten.length:Int)+(ls[i].length:Int))=(((ls.take (i+1)).flatten.length:Nat):Int):=by
     rw[IntWalk.i64_in _ (by omega)]; omega
    have So:¬(((ls.take (i+1)).flatten.length:Int)<0):=by omega
    left
    refine⟨_,by simp (decide:=true) only [lQ,bI,yk,Np,kZ,So,Ve,Vf,FK JE,bol,gd,ia,o7,eL,List.map_cons,List.map_nil,dG,jq,mJ,Hl,nQ,tG,jU,nR,mH,jT,uR,ay,mY,gR,fR,bD,eA,FJ,yb,jr,qG,BF,cZ,List.getElem?_toArray,Option.bind_some,Option.map_some,decide_true,decide_false,List.length_nil,bf,KU,e9,if_true,Nr,Ns,Nt,Nu,lP,jQ,v7,tH,sd,nS,Hn,nJ,BK]; rfl,ls.length-(i+1),by omega,?_⟩
    rw[Da (by simp)]
    exact⟨i+1,_,_,_,_,_,_,_,_,_,_,_,_,_,_,_,_,_,_,_,_,_,_,_,_,_,_,_,_,_,_,rfl,by omega,rfl⟩
   ·have yk:¬((i:Int)<(ls.length:Int)):=by omega
    have R2:i=ls.length:=by omega
    right
    refine⟨_,by simp (decide:=true) only [yk,bol,gd,ia,o7,eL,List.map_cons,List.map_nil,dG,jq,nQ,uR,ay,fR,bD,eA,yb,jr,qG,cZ,tI,List.getElem?_toArray,Option.bind_some,Option.map_some,decide_false,List.length_nil,Nr,Ns,Nt,Nu,jQ,uJ]; rfl,by simp,?_⟩
    have:ls.take i=ls:=by rw[R2]; exact List.take_length
    rw[this]
    exact⟨_,_,_,_,_,_,_,_,_,_,_,_,_,_,_,_,_,_,_,_,_,_,_,_,_,_,_,_,_,_,_,rfl⟩
  ·rintro o ⟨QA,j1,j4,j5,j6,j7,j8,M1,M3,M4,M5,M6,M7,M8,M9,Na,Nb,Nc,Nd,Nf,Vg,Vh,Qz,Ng,Nh,Ni,Nj,Nk,Nl,Nm,Nn,rfl⟩
   simp (decide:=true) only [gd,ia,o7,eL,List.map_cons,List.map_nil,dG,mJ,mH,ay,mY,gR,fR,bD,eA,jr,cZ,List.getElem?_toArray,Option.bind_some,List.length_nil,nN,FI,Nr,Ns,Nt,Nu,Ay,Option.bind_assoc]
   have Zg:C0.kind 61=.imp:=rfl
   have Vj:∀ a t,au (Op.call ⟨.value (.func 61),a,t⟩)=false:=fun _ _=>rfl
   simp only[ot,rH,Vj,Zg]
   rw[No ls Ui hT]
   simp only[Option.bind_some,G8,List.length_nil,JG]
   simp (decide:=true) only [FK Vb,List.length_map,gd,ia,o7,eL,List.map_cons,List.map_nil,dG,jq,mJ,jU,nR,mH,jT,ay,mY,gR,fR,bD,eA,jr,cZ,List.getElem?_toArray,Option.bind_some,Nr,Ns,Nt,Nu,lP,Option.bind_assoc,BK]
   refine Ax (I2 ls) (P2 ls) ls.length ?_ ?_ ?_
   ·exact⟨0,_,_,_,_,_,_,_,_,_,_,_,_,_,_,_,_,_,_,_,_,_,_,_,_,_,_,_,_,_,rfl,Nat.zero_le _,rfl⟩
   ·rintro k s ⟨i,j1,j4,j5,j7,j8,j9,Vi,QA,M1,M3,M4,M5,M6,M7,M8,M9,Na,Nb,Nc,Nd,Nf,Ng,Nh,Ni,Nj,Nk,Nl,Nm,Nn,hk,hi,rfl⟩
    have Np:IntKind.i64.wrap ((i:Int)+1)=((i+1:Nat):Int):=by
     rw[IntWalk.i64_in _ (by omega)]; omega
    by_cases bL:i<ls.length
    ·have lQ:(ls.map AV.sl)[i]?=some (.sl ls[i]):=by simp[bL]
     have bI:aC false 1 (.sl ls[i])=true:=by simp[aC,bf]
     have hp0:e9 false 1 (.sl ls[i]) 0=some (.sl ls[i]):=by simp[e9,bf]
     have yk:((i:Int)<(ls.length:Int)):=by omega
     obtain⟨wr,WB,E7⟩:=PF ls i bL (bg _ (List.getElem_mem bL))
     left
     refine⟨_,by simp (decide:=true) only [lQ,bI,yk,Np,GP,WB,E7,Ve,Vf,bol,gd,ia,o7,eL,List.map_cons,List.map_nil,dG,jq,mJ,Hl,nQ,tG,jU,nR,mH,jT,uR,ay,mY,gR,fR,bD,eA,FJ,jr,qG,BF,cZ,List.getElem?_toArray,Option.bind_some,Option.map_some,decide_true,bf,KU,e9,if_true,Nr,Ns,Nt,Nu,lP,jQ,v7,tH,sd,nS,Hn,nJ]; rfl,ls.length-(i+1),by omega,?_⟩
     rw[JH]
     simp only[List.map_cons,List.map_nil,GR]
     exact⟨i+1,_,_,_,_,_,_,_,_,_,_,_,_,_,_,_,_,_,_,_,_,_,_,_,_,_,_,_,_,_,rfl,by omega,rfl⟩
    ·have yk:¬((i:Int)<(ls.length:Int)):=by omega
     have R2:i=ls.length:=by omega
     right
     refine⟨_,by simp (decide:=true) only [yk,bol,gd,ia,o7,eL,List.map_cons,List.map_nil,dG,jq,nQ,uR,ay,fR,bD,eA,yb,jr,qG,cZ,tI,List.getElem?_toArray,Option.bind_some,Option.map_some,decide_false,Nr,Ns,Nt,Nu,jQ,uJ]; rfl,by simp,?_⟩
     subst R2
     exact⟨_,_,_,_,_,_,_,_,_,_,_,_,_,_,_,_,_,_,_,_,_,_,_,_,_,_,_,_,_,_,rfl⟩
   ·rintro o ⟨Qz,j1,j4,j5,j7,j8,j9,Vi,QA,M1,M3,M4,M5,M6,M7,M8,M9,Na,Nb,Nc,Nd,Nf,Ng,Nh,Ni,Nj,Nk,Nl,Nm,Nn,rfl⟩
    simp (decide:=true) only [gd,ia,o7,eL,List.map_cons,List.map_nil,dG,jq,mJ,nR,mH,jT,ay,fR,bD,eA,jr,cZ,tx,yd,BI,BJ,BH,List.getElem?_toArray,Option.bind_some,Option.map_some,Nr,Ns,Nt,Nu,Ay]
 refine⟨_,_,key,?_⟩
 unfold cur ta
 by_cases h:ls.flatten.length=0
 ·rw[if_pos h,if_pos h,List.length_eq_zero_iff.1 h]; rfl
 ·rw[if_neg h,if_neg h]
  simp only[List.take_length,Nat.sub_self,List.replicate_zero,List.append_nil]
  exact GQ (RM.yh rfl)
end Go.Proofs.Ytedjbjphpnkpoaa.qy
end
section
/- Copies of slices of ratios: what the library does. -/
namespace Go.Proofs.Ytedjbjphpnkpoaa.od
open Go.PI
noncomputable def C0:Ctx where
 P:=Try.prog
 kind:=fun f=>if f=61 then .imp else .pure
 jL:=fun _=>none
 acc:=fun _ _=>false
instance:iy C0:=⟨rfl,rfl⟩
theorem UC:C0.P.funcs[23]?=some Try.f23:=by kernel_rfl
noncomputable def R(t:Nat):bu:=(ff Try.prog t).getD ⟨.bool,0,0,none,false⟩
theorem Vk:aH C0.P 26=some (R 35):=by kernel_rfl
theorem Zh:bN C0.P 26=true:=by kernel_rfl
theorem Vl:(bR (R 35)).isSome=true:=by kernel_rfl
theorem UB:(R 35).size=2:=by kernel_rfl
theorem X9:(R 35).isAgg=true:=by kernel_rfl
theorem Ya:(R 35).bytes=16:=by kernel_rfl
theorem nil_eq(xs:List AV)(c:Nat)(x y:Operand):fh C0.P .eql 26 x y (.kW xs c) (.lit (.slice none 0 0))=some (bol false):=by
 unfold fh
 have h:ep C0.P .eql 26 (.kW xs c) (.lit (.slice none 0 0))=none:=by kernel_rfl
 rw[h]
 show mX C0.P .eql 26 (.kW xs c) (.slice none 0 0)=_
 kernel_rfl
theorem Jr:iv C0 23 [.lit bV] []=some (.val (.lit bV),[]):=
 (aX (jm C0 23 [.lit bV] [])).2 ⟨100,by kernel_rfl⟩
theorem EI(cap:Nat):∃ n cl dQ,iv C0 23 [.kW [] cap] []=some (.val (.bh (R 35).size n 0 0 0 (some 0)),dQ)∧dQ[n]?=some (some (.arr false cl false [])):=
 ⟨0,true,[some (.arr false true false [])],(aX (jm C0 23 [.kW [] cap] [])).2 ⟨100,by kernel_rfl⟩,rfl⟩
theorem Js(xs:List AV)(cap:Nat)(hx:xs≠[])(bg:xs.all (aC (R 35).isAgg (R 35).size)=true)(h1:xs.length*(R 35).bytes≤2^44)(h2:xs.length≤2^44):∃ n cl dQ,iv C0 23 [.kW xs cap] []=some (.val (.bh (R 35).size n xs.length 0 xs.length none),dQ)∧dQ[n]?=some (some (.arr true cl false xs)):=by
 rw[xh (fn:=Try.f23) UC rfl]
 have xd:∀ f d,C0.acc f d=false:=fun _ _=>rfl
 have hr:0<(R 35).size:=by rw[UB]; decide
 simp (decide:=true) only [Try.f23,zp,xd,Jz Vk Vl hr,GP,nil_eq,bol,gd,ia,o7,eL,List.map_cons,List.map_nil,dG,jq,mJ,zH,nQ,jU,nR,mH,jT,uR,ay,mY,gR,fR,bD,eA,yb,jr,ya,cZ,tx,yd,BI,BJ,BH,List.getElem?_toArray,List.replicate_succ,List.replicate_zero,Nat.reduceSub,Option.bind_some,Option.map_some,r9,List.length_nil,List.length_cons,List.nil_append,List.cons_append,Nat.zero_add,Nr,Ns,Nt,Nu,jQ,Option.bind_assoc,nJ]
 rw[JA Vk Zh Vl hr bg hx rfl h1 h2]
 simp (decide:=true) only [jr,ya,Option.bind_some,r9,List.length_nil,List.length_cons,List.nil_append,List.cons_append,Nat.zero_add]
 exact⟨_,_,_,rfl,rfl⟩
end Go.Proofs.Ytedjbjphpnkpoaa.od
end
section
/- The context of this seat, contracts of library functions, the greatest common divisor. -/
set_option maxRecDepth 100000
set_option maxHeartbeats 0
namespace Go.Proofs.Ytedjbjphpnkpoaa
open Go.PI
def wL:bu:=⟨.struct #[],2,16,none,true⟩
def EH:bu:=⟨.bool,1,8,none,false⟩
noncomputable def C:Ctx where
 P:=Try.prog
 kind:=fun f=>match Go.PI.cq [(19,()),(24,()),(26,()),(30,()),(37,()),(45,()),(47,()),(49,()),(56,()),(63,()),(73,()),(84,()),(85,()),(87,()),(89,()),(90,()),(91,()),(92,()),(93,()),(94,()),(97,()),(98,()),(111,()),(112,()),(113,()),(119,()),(120,()),(123,())] f with|some _=>.imp|none=>.pure
 jL:=fun g=>Go.PI.cq [(40,mW EH)] g
 acc:=fun _ _=>true
 fY:=fun g=>Go.PI.cq [(23,qx wL)] g
 rk:=fun f d=>(Go.PI.HK [(6,38,[(0,1),(2,1)]),(8,6,[(0,1),(1,1),(2,1)])] f d).getD []
theorem GD : ∀ (f : FuncId) (fn : Func), Try.prog.funcs[f]? = some fn → fn.body.isSome = true → (fn.name == "runtime.NumGoroutine") = false := by
 have h : (Try.prog.funcs.toList.all fun fn => !(fn.name == "runtime.NumGoroutine") || !fn.body.isSome) = true := by kernel_rfl
 intro f fn hf hb
 have hm:fn∈Try.prog.funcs.toList:=by
  have:=Array.mem_of_getElem? hf
  exact Array.mem_toList_iff.2 this
 have:=List.all_eq_true.1 h fn hm
 rw[hb]at this
 simpa using this
theorem Ph:qy.C0.Ok where
 name:=GD
 jL:=fun g h al r hg=>by simp[qy.C0]at hg
 pB:=fun g h al hp e h1=>by cases h1
 BO:=fun g h hg=>by simp[qy.C0]at hg
 fY:=fun g h al r dQ hg=>by simp[qy.C0]at hg
 xl:=fun g h hg=>by simp[qy.C0]at hg
theorem Pj:od.C0.Ok where
 name:=GD
 jL:=fun g h al r hg=>by simp[od.C0]at hg
 pB:=fun g h al hp e h1=>by cases h1
 BO:=fun g h hg=>by simp[od.C0]at hg
 fY:=fun g h al r dQ hg=>by simp[od.C0]at hg
 xl:=fun g h hg=>by simp[od.C0]at hg
theorem MH{g:FuncId}{h:List AV→Option (AV×ag)}(hg:C.fY g=some h):g=23∧h=qx wL:=by
 have:=eU (show Go.PI.cq [(23,qx wL)] g=some h from hg)
 simp only[List.mem_singleton,Prod.mk.injEq]at this
 exact this
theorem MI{g:FuncId}{h:List AV→Option AV}(hg:C.jL g=some h):g=40∧h=mW EH:=by
 have:=eU (show Go.PI.cq [(40,mW EH)] g=some h from hg)
 simp only[List.mem_singleton,Prod.mk.injEq]at this
 exact this
theorem Cok:C.Ok where
 name:=GD
 jL:=by
  intro g h al r hg hr Ec w vs hI ha
  obtain⟨rfl,rfl⟩:=MI hg
  exact Jp (r:=EH) Ph (fun ls h0 h1 h2 h3=>qy.GF ls h0 (by rw[qy.ag3,qy.V9]; exact h1) (by rw[qy.by3]; exact h2) h3) hr Ec w vs hI ha
 BO:=by
  intro g h hg
  obtain⟨rfl,rfl⟩:=MI hg
  exact⟨_,qy.UA,rfl⟩
 pB:=fun g h al hp e h1=>by cases h1
 fY:=by
  intro g h al r dQ hg hr Ec w vs hI ha
  obtain⟨rfl,rfl⟩:=MH hg
  exact Jq (r:=wL) Pj od.Jr (fun cap=>od.EI cap) (fun xs cap h0 h1 h2 h3=>od.Js xs cap h0 (by rw[od.X9,od.UB]; exact h1) (by rw[od.Ya]; exact h2) h3) hr Ec w vs hI ha
 xl:=by
  intro g h hg
  obtain⟨rfl,rfl⟩:=MH hg
  exact⟨_,od.UC,rfl⟩
theorem ok3(x:Int)(a:AV)(h:NM x a):aC EH.isAgg EH.size a=true:=(zu (eI h)).1
def _root_.Go.aa.ig(s:List (List Int)):Option (List Int):=tT 8 s
theorem RC:qn C T 40 ⟨[23],[22],fun x=>Go.aa.ig x⟩:=
 GG (C:=C) (T:=T) (g:=40) (t:=23) (u:=22) (I:=mW EH) (F:=Go.aa.ig) rfl rfl fun x a y h hy=>by
  obtain⟨l,h1,h2⟩:=GH (r:=EH) (rpe:=NM) (x:=x) (y:=y) ok3 h hy
  exact⟨l,h1,.inl ⟨l,rfl,h2⟩⟩
def _root_.Go.aa.yQ:Option Bool:=some true
theorem Yb(x:aj)(a:AV)(h:xe x a):aC wL.isAgg wL.size a=true:=(R6 x a h).1
theorem R7(x:aj)(a:AV)(h:xe x a):flat a=true:=by
 unfold xe at h
 subst h
 rfl
def _root_.Go.aa.jv(s:List aj):Option (List aj):=GI 16 s
theorem UD:A4 C T 23 ⟨[26],35,2,fun x=>Go.aa.jv x⟩:=
 GJ (C:=C) (T:=T) (g:=23) (t:=26) (el:=35) (esz:=2) (I:=qx wL) (F:=Go.aa.jv) rfl R7 fun x a y h hy=>
  GK (r:=wL) (rpe:=xe) (x:=x) (y:=y) Yb h hy
noncomputable def kA:List (Nat×wA T):=[(23,⟨[26],35,2,fun x=>Go.aa.jv x⟩)]
theorem sH:∀ (g:FuncId) (σ:wA T),cq kA g=some σ→A4 C T g σ:=by
 intro g σ h
 have:=eU h
 simp only[kA,List.mem_singleton,Prod.mk.injEq]at this
 obtain⟨rfl,rfl⟩:=this
 exact UD
def tY:FuncId→Nat→Bool:=fun _ _=>false
def Ud:FuncId→Tmp→List Tw:=fun _ _=>[]
def _root_.Go.aa.F9:Nat→Int→Int→Option Int
 |0,_,_=>none
 |n+1,a,b=>bif b==0 then some a else bif decide (b=0) then none else (Go.aa.F9 n b (a.tmod b)).bind fun i=>some i
noncomputable def gS(n:Nat):oF:=HU C T Cf (fun _ _=>none) (fun _ _=>false) [(82,⟨[3,3],[3],fun x=>Go.aa.F9 n x.1 x.2⟩)] 1 kA tY Ud
theorem MJ:∀ n,qn C T 82 ⟨[3,3],[3],fun x=>Go.aa.F9 n x.1 x.2⟩
 |0=>⟨rfl,fun x al y _ h=>by cases h⟩
 |n+1=>by
  have h0:(HU C T Cf (fun _ _=>none) (fun _ _=>false) [(82,⟨[3,3],[3],fun x=>Go.aa.F9 n x.1 x.2⟩)] 0 kA tY Ud).Ok:=D7 Z8 RB Z9 sH
  have h1:(gS n).Ok:=ue h0 rfl (MJ n)
  exact EJ (S:=gS n) (k:=400) (σ:=⟨[3,3],[3],fun x=>Go.aa.F9 (n+1) x.1 x.2⟩) h1 rfl rfl fun x=>by kernel_rfl
def _root_.Go.aa.km(a b:Int):Option Int:=Go.aa.F9 200 a b
theorem RF:qn C T 82 ⟨[3,3],[3],fun x=>Go.aa.km x.1 x.2⟩:=MJ 200
end Go.Proofs.Ytedjbjphpnkpoaa
end
section
/- Models of the functions of this seat, and that they hold (printed by chain.py). -/
set_option maxRecDepth 100000
set_option maxHeartbeats 0
namespace Go.Proofs.Ytedjbjphpnkpoaa
open Go.PI
end Go.Proofs.Ytedjbjphpnkpoaa
open Go Go.PI Go.Proofs Go.Proofs.Ytedjbjphpnkpoaa
noncomputable def Go.aa.n5(n:Int)(low:Int)(high:Int):Option Bool:=
 bif decide (low≤n) then
 some (decide (n≤high))
 else
 some false
noncomputable def Go.aa.kn(l:List Int)(L7:Int):Option Bool:=
 (aI (ω:=Bool ⊕ Bool×Int) (fun ((b1,i2):Bool×Int)=>
 bif decide (i2<(↑l.length:Int)) then
 bif decide (0≤i2) then
 (l[i2.toNat]?).bind fun i3=>
 (aa.n5 i3 0 (IntKind.i64.wrap (L7-1))).bind fun b4=>
 bif !b4 then
 some (Sum.inr (Sum.inl false))
 else
 bif decide (0<i2) then
 bif decide (0≤IntKind.i64.wrap (i2-1)) then
 (l[(IntKind.i64.wrap (i2-1)).toNat]?).bind fun i5=>
 bif decide (i3≤i5) then
 some (Sum.inr (Sum.inl false))
 else
 some (Sum.inl (b1,IntKind.i64.wrap (i2+1)))
 else
 none
 else
 some (Sum.inl (b1,IntKind.i64.wrap (i2+1)))
 else
 none
 else
 some (Sum.inr (Sum.inr (b1,i2)))) (false,0)).bind fun w6=>
 Sum.elim (fun b7=>
 some b7) (fun (b8,i9)=>
 (aa.n5 (↑l.length:Int) 1 6).bind fun VX=>
 some VX) w6
noncomputable def Go.aa.ju(n:cw):Option Bool:=
 bif decide (8<(↑n.aQ.length:Int)) then
 some false
 else
 bif decide (8<(↑n.af.length:Int)) then
 some false
 else
 bif !(↑n.aG.length:Int)==(↑n.af.length:Int) then
 some false
 else
 (aa.ig [n.aQ,n.aG]).bind fun l1=>
 (aI (ω:=Bool ⊕ Bool×Int) (fun ((b2,i3):Bool×Int)=>
 bif decide (i3<(↑l1.length:Int)) then
 bif decide (0≤i3) then
 (l1[i3.toNat]?).bind fun i4=>
 (aa.n5 i4 0 1000).bind fun b5=>
 bif !b5 then
 some (Sum.inr (Sum.inl false))
 else
 some (Sum.inl (b2,IntKind.i64.wrap (i3+1)))
 else
 none
 else
 some (Sum.inr (Sum.inr (b2,i3)))) (false,0)).bind fun w6=>
 Sum.elim (fun b7=>
 some b7) (fun (b8,i9)=>
 (aI (ω:=Bool ⊕ Bool×Int) (fun ((VX,i11):Bool×Int)=>
 bif decide (i11<(↑n.af.length:Int)) then
 bif decide (0≤i11) then
 (n.af[i11.toNat]?).bind fun CA=>
 (aa.kn CA (↑n.aQ.length:Int)).bind fun Qd=>
 bif !Qd then
 some (Sum.inr (Sum.inl false))
 else
 some (Sum.inl (VX,IntKind.i64.wrap (i11+1)))
 else
 none
 else
 some (Sum.inr (Sum.inr (VX,i11)))) (b8,0)).bind fun w14=>
 Sum.elim (fun VY=>
 some VY) (fun (Xq,i17)=>
 some true) w14) w6
noncomputable def Go.aa.oE(s:List Bool)(v:Bool):Option Int:=
 (aI (ω:=Int ⊕ Int×Int) (fun ((i1,i2):Int×Int)=>
 bif decide (i2<(↑s.length:Int)) then
 bif decide (0≤i2) then
 (s[i2.toNat]?).bind fun b3=>
 bif v==b3 then
 some (Sum.inr (Sum.inl i2))
 else
 some (Sum.inl (i1,IntKind.i64.wrap (i2+1)))
 else
 none
 else
 some (Sum.inr (Sum.inr (i1,i2)))) (0,0)).bind fun w4=>
 Sum.elim (fun i5=>
 some i5) (fun (i6,i7)=>
 some (-1)) w4
noncomputable def Go.aa.fu(s:List Bool)(v:Bool):Option Bool:=
 (aa.oE s v).bind fun i1=>
 some (decide (0≤i1))
noncomputable def Go.aa.bP(f:aj):Option Bool:=
 bif decide ((if f.dW<IntKind.i64.wrap (0-f.dW) then IntKind.i64.wrap (0-f.dW) else f.dW)≤1000000000) then
 bif decide (1≤f.Den) then
 some (decide (f.Den≤1000000000))
 else
 some false
 else
 some false
noncomputable def Go.aa.cU(f:aj):Option aj:=
 (aa.km (if f.dW<IntKind.i64.wrap (0-f.dW) then IntKind.i64.wrap (0-f.dW) else f.dW) (if f.Den<IntKind.i64.wrap (0-f.Den) then IntKind.i64.wrap (0-f.Den) else f.Den)).bind fun i1=>
 bif decide (f.Den<0) then
 bif decide (IntKind.i64.wrap (0-i1)=0) then
 none
 else
 bif decide (IntKind.i64.wrap (0-i1)=0) then
 none
 else
 some (aj.mk (IntKind.i64.wrap (f.dW.tdiv (IntKind.i64.wrap (0-i1)))) (IntKind.i64.wrap (f.Den.tdiv (IntKind.i64.wrap (0-i1)))))
 else
 bif decide (i1=0) then
 none
 else
 bif decide (i1=0) then
 none
 else
 some (aj.mk (IntKind.i64.wrap (f.dW.tdiv i1)) (IntKind.i64.wrap (f.Den.tdiv i1)))
noncomputable def Go.aa.cO(a:aj):Option Bool:=
 bif decide (-1000000000≤a.dW) then
 (aa.bP a).bind fun b1=>
 bif b1 then
 (aa.cU a).bind fun q2=>
 some (q2.dW==a.dW&&q2.Den==a.Den)
 else
 some false
 else
 some false
noncomputable def Go.aa.jW(x:Int):Option Bool:=
 some (!x==x)
noncomputable def Go.aa.p9(x:Int)(y:Int):Option Int:=
 (aa.jW x).bind fun b1=>
 (aa.jW y).bind fun b2=>
 bif b1 then
 bif b2 then
 some 0
 else
 some (-1)
 else
 bif b2 then
 some 1
 else
 bif decide (x<y) then
 some (-1)
 else
 bif decide (y<x) then
 some 1
 else
 some 0
noncomputable def Go.aa.qN(a:aj)(b:aj):Option (Int×Int):=
 (aa.cO a).bind fun b1=>
 bif !b1 then
 some (0,1)
 else
 (aa.cO b).bind fun b2=>
 bif !b2 then
 some (0,1)
 else
 (aa.p9 (IntKind.i64.wrap (a.dW*b.Den)) (IntKind.i64.wrap (b.dW*a.Den))).bind fun i3=>
 some (i3,0)
noncomputable def Go.aa.gg(a:aj)(b:aj):Option Bool:=
 (aa.qN a b).bind fun (i1,i2)=>
 some (decide (i1<0))
noncomputable def Go.aa.oD(l:List Int)(L7:Int):Option Bool:=
 (aI (ω:=Bool ⊕ Bool×Int) (fun ((b1,i2):Bool×Int)=>
 bif decide (i2<(↑l.length:Int)) then
 bif decide (0≤i2) then
 (l[i2.toNat]?).bind fun i3=>
 bif decide (i3<0) then
 some (Sum.inr (Sum.inl false))
 else
 bif decide (0≤i2) then
 (l[i2.toNat]?).bind fun i4=>
 bif decide (L7≤i4) then
 some (Sum.inr (Sum.inl false))
 else
 bif decide (0<i2) then
 bif decide (0≤i2) then
 (l[i2.toNat]?).bind fun i5=>
 bif decide (0≤IntKind.i64.wrap (i2-1)) then
 (l[(IntKind.i64.wrap (i2-1)).toNat]?).bind fun i6=>
 bif decide (i5≤i6) then
 some (Sum.inr (Sum.inl false))
 else
 some (Sum.inl (b1,IntKind.i64.wrap (i2+1)))
 else
 none
 else
 none
 else
 some (Sum.inl (b1,IntKind.i64.wrap (i2+1)))
 else
 none
 else
 none
 else
 some (Sum.inr (Sum.inr (b1,i2)))) (false,0)).bind fun w7=>
 Sum.elim (fun b8=>
 some b8) (fun (b9,i10)=>
 bif decide (1≤(↑l.length:Int)) then
 some (decide ((↑l.length:Int)≤6))
 else
 some false) w7
noncomputable def Go.aa.iU(n:cw):Option Bool:=
 bif decide (8<(↑n.aQ.length:Int)) then
 some false
 else
 bif decide (8<(↑n.af.length:Int)) then
 some false
 else
 bif !(↑n.aG.length:Int)==(↑n.af.length:Int) then
 some false
 else
 (aI (ω:=Bool ⊕ Bool×Int) (fun ((b1,i2):Bool×Int)=>
 bif decide (i2<(↑n.aQ.length:Int)) then
 bif decide (0≤i2) then
 (n.aQ[i2.toNat]?).bind fun i3=>
 bif decide (i3<0) then
 some (Sum.inr (Sum.inl false))
 else
 bif decide (0≤i2) then
 (n.aQ[i2.toNat]?).bind fun i4=>
 bif decide (1000<i4) then
 some (Sum.inr (Sum.inl false))
 else
 some (Sum.inl (b1,IntKind.i64.wrap (i2+1)))
 else
 none
 else
 none
 else
 some (Sum.inr (Sum.inr (b1,i2)))) (false,0)).bind fun w5=>
 Sum.elim (fun b6=>
 some b6) (fun (b7,i8)=>
 (aI (ω:=Bool ⊕ Bool×Int) (fun ((b9,i10):Bool×Int)=>
 bif decide (i10<(↑n.af.length:Int)) then
 bif decide (0≤i10) then
 (n.af[i10.toNat]?).bind fun sM=>
 (aa.oD sM (↑n.aQ.length:Int)).bind fun L8=>
 bif !L8 then
 some (Sum.inr (Sum.inl false))
 else
 bif decide (0≤i10) then
 (n.aG[i10.toNat]?).bind fun i13=>
 bif decide (i13<0) then
 some (Sum.inr (Sum.inl false))
 else
 bif decide (0≤i10) then
 (n.aG[i10.toNat]?).bind fun i14=>
 bif decide (1000<i14) then
 some (Sum.inr (Sum.inl false))
 else
 some (Sum.inl (b9,IntKind.i64.wrap (i10+1)))
 else
 none
 else
 none
 else
 none
 else
 some (Sum.inr (Sum.inr (b9,i10)))) (b7,0)).bind fun w15=>
 Sum.elim (fun Xq=>
 some Xq) (fun (b17,i18)=>
 some true) w15) w5
noncomputable def Go.aa.qf(l:List Int)(link:Int):Option Bool:=
 (aI (ω:=Bool ⊕ Bool×Int) (fun ((b1,i2):Bool×Int)=>
 bif decide (i2<(↑l.length:Int)) then
 bif decide (0≤i2) then
 (l[i2.toNat]?).bind fun i3=>
 bif i3==link then
 some (Sum.inr (Sum.inl true))
 else
 some (Sum.inl (b1,IntKind.i64.wrap (i2+1)))
 else
 none
 else
 some (Sum.inr (Sum.inr (b1,i2)))) (false,0)).bind fun w4=>
 Sum.elim (fun b5=>
 some b5) (fun (b6,i7)=>
 some false) w4
noncomputable def Go.aa.mc(num:Int)(ky:Int):Option Bool:=
 bif decide (-1000000000≤num) then
 bif decide (num≤1000000000) then
 bif decide (1≤ky) then
 some (decide (ky≤1000000000))
 else
 some false
 else
 some false
 else
 some false
noncomputable def Go.aa.n6(n:Int):Option Int:=
 some (if n<IntKind.i64.wrap (0-n) then IntKind.i64.wrap (0-n) else n)
noncomputable def Go.aa.fD(a:Int)(b:Int):Option Int:=
 (aI (ω:=Int×Int) (fun ((i1,i2):Int×Int)=>
 bif !i2==0 then
 bif decide (i2=0) then
 none
 else
 some (Sum.inl (i2,i1.tmod i2))
 else
 some (Sum.inr (i1,i2))) (a,b)).bind fun (i3,i4)=>
 some i3
noncomputable def Go.aa.cP(a:aj):Option Bool:=
 (aa.mc a.dW a.Den).bind fun b1=>
 bif b1 then
 (aa.n6 a.dW).bind fun i2=>
 (aa.fD i2 a.Den).bind fun i3=>
 some (i3==1)
 else
 some false
noncomputable def Go.aa.ku(num:Int)(ky:Int):Option (aj×Int):=
 bif decide (ky<0) then
 (aa.n6 (IntKind.i64.wrap (0-num))).bind fun i1=>
 (aa.fD i1 (IntKind.i64.wrap (0-ky))).bind fun i2=>
 bif decide (i2=0) then
 none
 else
 bif decide (i2=0) then
 none
 else
 (aa.mc (IntKind.i64.wrap ((IntKind.i64.wrap (0-num)).tdiv i2)) (IntKind.i64.wrap ((IntKind.i64.wrap (0-ky)).tdiv i2))).bind fun b3=>
 bif !b3 then
 some (aj.mk 0 0,3)
 else
 bif decide (i2=0) then
 none
 else
 bif decide (i2=0) then
 none
 else
 some (aj.mk (IntKind.i64.wrap ((IntKind.i64.wrap (0-num)).tdiv i2)) (IntKind.i64.wrap ((IntKind.i64.wrap (0-ky)).tdiv i2)),0)
 else
 (aa.n6 num).bind fun i4=>
 (aa.fD i4 ky).bind fun i5=>
 bif decide (i5=0) then
 none
 else
 bif decide (i5=0) then
 none
 else
 (aa.mc (IntKind.i64.wrap (num.tdiv i5)) (IntKind.i64.wrap (ky.tdiv i5))).bind fun b6=>
 bif !b6 then
 some (aj.mk 0 0,3)
 else
 bif decide (i5=0) then
 none
 else
 bif decide (i5=0) then
 none
 else
 some (aj.mk (IntKind.i64.wrap (num.tdiv i5)) (IntKind.i64.wrap (ky.tdiv i5)),0)
noncomputable def Go.aa.AU(a:aj)(b:aj):Option (aj×Int):=
 (aa.cP a).bind fun b1=>
 bif !b1 then
 some (aj.mk 0 0,1)
 else
 (aa.cP b).bind fun b2=>
 bif !b2 then
 some (aj.mk 0 0,1)
 else
 (aa.ku (IntKind.i64.wrap (IntKind.i64.wrap (a.dW*b.Den)-IntKind.i64.wrap (b.dW*a.Den))) (IntKind.i64.wrap (a.Den*b.Den))).bind fun (q3,i4)=>
 some (q3,i4)
noncomputable def Go.aa.AW(a:aj)(b:aj):Option (aj×Int):=
 (aa.cP a).bind fun b1=>
 bif !b1 then
 some (aj.mk 0 0,1)
 else
 (aa.cP b).bind fun b2=>
 bif !b2 then
 some (aj.mk 0 0,1)
 else
 bif b.dW==0 then
 some (aj.mk 0 0,14)
 else
 (aa.ku (IntKind.i64.wrap (a.dW*b.Den)) (IntKind.i64.wrap (a.Den*b.dW))).bind fun (q3,i4)=>
 some (q3,i4)
noncomputable def Go.aa.wC(n:cw)(fixed:List Bool)(x:List aj)(link:Int):Option (aj×Int):=
 bif decide (0≤link) then
 (n.aQ[link.toNat]?).bind fun i1=>
 (aI (ω:=Int×Int×Int×Int) (fun ((i2,i3,i4,i5):Int×Int×Int×Int)=>
 bif decide (i3<(↑n.af.length:Int)) then
 bif decide (0≤i3) then
 (n.af[i3.toNat]?).bind fun l6=>
 (aa.qf l6 link).bind fun b7=>
 bif b7 then
 bif decide (0≤i3) then
 (fixed[i3.toNat]?).bind fun b8=>
 bif b8 then
 bif decide (0≤i3) then
 (x[i3.toNat]?).bind fun q9=>
 (aa.AU (aj.mk i4 i5) q9).bind fun (JQ,i11)=>
 bif b7 then
 bif decide (0≤i3) then
 (fixed[i3.toNat]?).bind fun L8=>
 bif !L8 then
 some (Sum.inl (IntKind.i64.wrap (i2+1),IntKind.i64.wrap (i3+1),JQ.dW,JQ.Den))
 else
 some (Sum.inl (i2,IntKind.i64.wrap (i3+1),JQ.dW,JQ.Den))
 else
 none
 else
 some (Sum.inl (i2,IntKind.i64.wrap (i3+1),JQ.dW,JQ.Den))
 else
 none
 else
 bif b7 then
 bif decide (0≤i3) then
 (fixed[i3.toNat]?).bind fun Qd=>
 bif !Qd then
 some (Sum.inl (IntKind.i64.wrap (i2+1),IntKind.i64.wrap (i3+1),i4,i5))
 else
 some (Sum.inl (i2,IntKind.i64.wrap (i3+1),i4,i5))
 else
 none
 else
 some (Sum.inl (i2,IntKind.i64.wrap (i3+1),i4,i5))
 else
 none
 else
 bif b7 then
 bif decide (0≤i3) then
 (fixed[i3.toNat]?).bind fun b14=>
 bif !b14 then
 some (Sum.inl (IntKind.i64.wrap (i2+1),IntKind.i64.wrap (i3+1),i4,i5))
 else
 some (Sum.inl (i2,IntKind.i64.wrap (i3+1),i4,i5))
 else
 none
 else
 some (Sum.inl (i2,IntKind.i64.wrap (i3+1),i4,i5))
 else
 none
 else
 some (Sum.inr (i2,i3,i4,i5))) (0,0,i1,1)).bind fun (i15,i16,i17,i18)=>
 bif i15==0 then
 some (aj.mk i17 i18,0)
 else
 (aa.AW (aj.mk i17 i18) (aj.mk i15 1)).bind fun (Xr,i20)=>
 some (Xr,i15)
 else
 none
noncomputable def Go.aa.jX(a:aj)(b:aj):Option (Int×Int):=
 (aa.cP a).bind fun b1=>
 bif !b1 then
 some (0,1)
 else
 (aa.cP b).bind fun b2=>
 bif !b2 then
 some (0,1)
 else
 bif decide (IntKind.i64.wrap (a.dW*b.Den)<IntKind.i64.wrap (b.dW*a.Den)) then
 some (-1,0)
 else
 bif decide (IntKind.i64.wrap (b.dW*a.Den)<IntKind.i64.wrap (a.dW*b.Den)) then
 some (1,0)
 else
 some (0,0)
noncomputable def Go.aa.D4(n:cw):Option ((List aj)×Int):=
 (aa.iU n).bind fun b1=>
 bif !b1 then
 some ([],1)
 else
 bif decide ((↑n.af.length:Int).toNat*16≤2^47)&&decide ((↑n.af.length:Int).toNat<2^62) then
 bif decide ((↑n.af.length:Int).toNat*1≤2^47)&&decide ((↑n.af.length:Int).toNat<2^62) then
 (aI (ω:=Int×List aj×List Bool) (fun ((i2,l3,l4):Int×List aj×List Bool)=>
 bif decide (0<i2) then
 (aI (ω:=Int×Int×Int×Int) (fun ((i5,i6,i7,i8):Int×Int×Int×Int)=>
 bif decide (i6<(↑n.aQ.length:Int)) then
 (aa.wC n l4 l3 i6).bind fun (q9,i10)=>
 (aa.jX q9 (aj.mk i7 i8)).bind fun (i11,i12)=>
 bif decide (0<i10) then
 bif decide (i11<0) then
 some (Sum.inl (i6,IntKind.i64.wrap (i6+1),q9.dW,q9.Den))
 else
 some (Sum.inl (i5,IntKind.i64.wrap (i6+1),i7,i8))
 else
 some (Sum.inl (i5,IntKind.i64.wrap (i6+1),i7,i8))
 else
 some (Sum.inr (i5,i6,i7,i8))) (-1,0,1000000,1)).bind fun (i13,i14,i15,i16)=>
 (aI (ω:=Int×Int×Int×Int×Int) (fun ((i17,i18,i19,i20,i21):Int×Int×Int×Int×Int)=>
 bif decide (i19<(↑n.af.length:Int)) then
 bif decide (0≤i19) then
 (n.aG[i19.toNat]?).bind fun i22=>
 (aa.jX (aj.mk i22 1) (aj.mk i20 i21)).bind fun (i23,i24)=>
 bif decide (0≤i19) then
 bif decide (i19.toNat<l4.length) then
 (l4[0+i19.toNat]?).bind fun b25=>
 bif !b25 then
 bif decide (0≤i19) then
 (n.aG[i19.toNat]?).bind fun i26=>
 bif decide (0<i26) then
 bif decide (i23<0) then
 some (Sum.inl (i19,-1,IntKind.i64.wrap (i19+1),i22,1))
 else
 some (Sum.inl (i17,i18,IntKind.i64.wrap (i19+1),i20,i21))
 else
 some (Sum.inl (i17,i18,IntKind.i64.wrap (i19+1),i20,i21))
 else
 none
 else
 some (Sum.inl (i17,i18,IntKind.i64.wrap (i19+1),i20,i21))
 else
 none
 else
 none
 else
 none
 else
 some (Sum.inr (i17,i18,i19,i20,i21))) (-1,i13,0,i15,i16)).bind fun (i27,i28,i29,i30,i31)=>
 (aI (ω:=Int×Int×List aj×List Bool) (fun ((i32,i33,qg,tc):Int×Int×List aj×List Bool)=>
 bif decide (i33<(↑n.af.length:Int)) then
 bif decide (0≤i28) then
 bif decide (0≤i33) then
 (n.af[i33.toNat]?).bind fun l36=>
 (aa.qf l36 i28).bind fun b37=>
 bif decide (0≤i33) then
 bif decide (i33.toNat<tc.length) then
 (tc[0+i33.toNat]?).bind fun Rx=>
 bif !Rx then
 bif b37 then
 bif decide (0≤i33) then
 bif decide (i33.toNat<tc.length) then
 (tc[0+i33.toNat]?).bind fun ZV=>
 bif decide (0≤i33) then
 bif decide (i33.toNat<qg.length) then
 (qg[0+i33.toNat]?).bind fun q40=>
 bif decide ((qg.set (0+i33.toNat) (aj.mk i30 i31)).length=l3.length) then
 bif decide ((tc.set (0+i33.toNat) true).length=l4.length) then
 some (Sum.inl (IntKind.i64.wrap (i32-1),IntKind.i64.wrap (i33+1),qg.set (0+i33.toNat) (aj.mk i30 i31),tc.set (0+i33.toNat) true))
 else
 none
 else
 none
 else
 none
 else
 none
 else
 none
 else
 none
 else
 bif decide (i28<0) then
 bif i33==i27 then
 bif decide (0≤i33) then
 bif decide (i33.toNat<tc.length) then
 (tc[0+i33.toNat]?).bind fun ZW=>
 bif decide (0≤i33) then
 bif decide (i33.toNat<qg.length) then
 (qg[0+i33.toNat]?).bind fun q42=>
 bif decide ((qg.set (0+i33.toNat) (aj.mk i30 i31)).length=l3.length) then
 bif decide ((tc.set (0+i33.toNat) true).length=l4.length) then
 some (Sum.inl (IntKind.i64.wrap (i32-1),IntKind.i64.wrap (i33+1),qg.set (0+i33.toNat) (aj.mk i30 i31),tc.set (0+i33.toNat) true))
 else
 none
 else
 none
 else
 none
 else
 none
 else
 none
 else
 none
 else
 bif decide (qg.length=l3.length) then
 bif decide (tc.length=l4.length) then
 some (Sum.inl (i32,IntKind.i64.wrap (i33+1),qg,tc))
 else
 none
 else
 none
 else
 bif decide (qg.length=l3.length) then
 bif decide (tc.length=l4.length) then
 some (Sum.inl (i32,IntKind.i64.wrap (i33+1),qg,tc))
 else
 none
 else
 none
 else
 bif decide (qg.length=l3.length) then
 bif decide (tc.length=l4.length) then
 some (Sum.inl (i32,IntKind.i64.wrap (i33+1),qg,tc))
 else
 none
 else
 none
 else
 none
 else
 none
 else
 none
 else
 bif decide (0≤i33) then
 bif decide (i33.toNat<tc.length) then
 (tc[0+i33.toNat]?).bind fun Xs=>
 bif !Xs then
 bif decide (i28<0) then
 bif i33==i27 then
 bif decide (0≤i33) then
 bif decide (i33.toNat<tc.length) then
 (tc[0+i33.toNat]?).bind fun ZX=>
 bif decide (0≤i33) then
 bif decide (i33.toNat<qg.length) then
 (qg[0+i33.toNat]?).bind fun Xt=>
 bif decide ((qg.set (0+i33.toNat) (aj.mk i30 i31)).length=l3.length) then
 bif decide ((tc.set (0+i33.toNat) true).length=l4.length) then
 some (Sum.inl (IntKind.i64.wrap (i32-1),IntKind.i64.wrap (i33+1),qg.set (0+i33.toNat) (aj.mk i30 i31),tc.set (0+i33.toNat) true))
 else
 none
 else
 none
 else
 none
 else
 none
 else
 none
 else
 none
 else
 bif decide (qg.length=l3.length) then
 bif decide (tc.length=l4.length) then
 some (Sum.inl (i32,IntKind.i64.wrap (i33+1),qg,tc))
 else
 none
 else
 none
 else
 bif decide (qg.length=l3.length) then
 bif decide (tc.length=l4.length) then
 some (Sum.inl (i32,IntKind.i64.wrap (i33+1),qg,tc))
 else
 none
 else
 none
 else
 bif decide (qg.length=l3.length) then
 bif decide (tc.length=l4.length) then
 some (Sum.inl (i32,IntKind.i64.wrap (i33+1),qg,tc))
 else
 none
 else
 none
 else
 none
 else
 none
 else
 bif decide (qg.length=l3.length) then
 bif decide (tc.length=l4.length) then
 some (Sum.inr (i32,i33,qg,tc))
 else
 none
 else
 none) (i2,0,l3,l4)).bind fun (i46,i47,OZ,SD)=>
 bif decide (OZ.length=(List.replicate (↑n.af.length:Int).toNat (aj.mk 0 0)).length) then
 bif decide (SD.length=(List.replicate (↑n.af.length:Int).toNat false).length) then
 some (Sum.inl (i46,OZ,SD))
 else
 none
 else
 none
 else
 bif decide (l3.length=(List.replicate (↑n.af.length:Int).toNat (aj.mk 0 0)).length) then
 bif decide (l4.length=(List.replicate (↑n.af.length:Int).toNat false).length) then
 some (Sum.inr (i2,l3,l4))
 else
 none
 else
 none) ((↑n.af.length:Int),List.replicate (↑n.af.length:Int).toNat (aj.mk 0 0),List.replicate (↑n.af.length:Int).toNat false)).bind fun (i50,SE,l52)=>
 some (SE,0)
 else
 none
 else
 none
noncomputable def Go.aa.dE(n:Int):Option aj:=
 some (aj.mk n 1)
noncomputable def Go.aa.nd(s:List Int)(v:Int):Option Int:=
 (aI (ω:=Int ⊕ Int×Int) (fun ((i1,i2):Int×Int)=>
 bif decide (i2<(↑s.length:Int)) then
 bif decide (0≤i2) then
 (s[i2.toNat]?).bind fun i3=>
 bif v==i3 then
 some (Sum.inr (Sum.inl i2))
 else
 some (Sum.inl (i1,IntKind.i64.wrap (i2+1)))
 else
 none
 else
 some (Sum.inr (Sum.inr (i1,i2)))) (0,0)).bind fun w4=>
 Sum.elim (fun i5=>
 some i5) (fun (i6,i7)=>
 some (-1)) w4
noncomputable def Go.aa.bO(s:List Int)(v:Int):Option Bool:=
 (aa.nd s v).bind fun i1=>
 some (decide (0≤i1))
noncomputable def Go.aa.bt(f:aj):Option (aj×Int):=
 (aa.cU f).bind fun q1=>
 (aa.bP q1).bind fun b2=>
 bif !b2 then
 some (aj.mk 0 0,3)
 else
 some (q1,0)
noncomputable def Go.aa.AX(a:aj)(b:aj):Option (aj×Int):=
 (aa.cO a).bind fun b1=>
 bif !b1 then
 some (aj.mk 0 0,1)
 else
 (aa.cO b).bind fun b2=>
 bif !b2 then
 some (aj.mk 0 0,1)
 else
 bif IntKind.i64.wrap (a.Den*b.Den)==0 then
 some (aj.mk 0 0,14)
 else
 (aa.bt (aj.mk (IntKind.i64.wrap (IntKind.i64.wrap (a.dW*b.Den)+IntKind.i64.wrap (b.dW*a.Den))) (IntKind.i64.wrap (a.Den*b.Den)))).bind fun (q3,i4)=>
 some (q3,i4)
noncomputable def Go.aa.mU(s:ck)(l:Int):Option (aj×Bool):=
 (aa.dE 0).bind fun q1=>
 (aI (ω:=Int×Int×Bool×Int×Int ⊕ Int×Int×Int) (fun ((i2,i3,i4):Int×Int×Int)=>
 bif decide (i2<(↑s.Net.af.length:Int)) then
 bif decide (0≤i2) then
 (s.Net.af[i2.toNat]?).bind fun l5=>
 (aa.bO l5 l).bind fun b6=>
 bif b6 then
 bif decide (0≤i2) then
 (s.DI[i2.toNat]?).bind fun q7=>
 (aa.AX (aj.mk i3 i4) q7).bind fun (q8,i9)=>
 bif !i9==0 then
 some (Sum.inr (Sum.inl (i3,i4,false,i3,i4)))
 else
 some (Sum.inl (IntKind.i64.wrap (i2+1),q8.dW,q8.Den))
 else
 none
 else
 some (Sum.inl (IntKind.i64.wrap (i2+1),i3,i4))
 else
 none
 else
 some (Sum.inr (Sum.inr (i2,i3,i4)))) (0,q1.dW,q1.Den)).bind fun T6=>
 Sum.elim (fun (i11,i12,Qd,i14,i15)=>
 some (aj.mk i14 i15,Qd)) (fun (i16,i17,i18)=>
 bif decide (0≤l) then
 (s.Net.aQ[l.toNat]?).bind fun i19=>
 (aa.dE i19).bind fun q20=>
 (aa.gg q20 (aj.mk i17 i18)).bind fun Xu=>
 some (aj.mk i17 i18,!Xu)
 else
 none) T6
noncomputable def Go.aa.ud(n:cw)(x:List aj):Option Bool:=
 (aa.ju n).bind fun b1=>
 bif !b1 then
 some false
 else
 bif !(↑x.length:Int)==(↑n.af.length:Int) then
 some false
 else
 (aI (ω:=Bool ⊕ Bool×Int) (fun ((b2,i3):Bool×Int)=>
 bif decide (i3<(↑x.length:Int)) then
 bif decide (0≤i3) then
 (x[i3.toNat]?).bind fun q4=>
 (aa.cO q4).bind fun b5=>
 bif !b5 then
 some (Sum.inr (Sum.inl false))
 else
 bif decide (q4.dW<0) then
 some (Sum.inr (Sum.inl false))
 else
 bif decide (0≤i3) then
 (n.aG[i3.toNat]?).bind fun i6=>
 bif decide (0<i6) then
 bif decide (0≤i3) then
 (n.aG[i3.toNat]?).bind fun i7=>
 (aa.dE i7).bind fun q8=>
 (aa.gg q8 q4).bind fun b9=>
 bif b9 then
 some (Sum.inr (Sum.inl false))
 else
 some (Sum.inl (b2,IntKind.i64.wrap (i3+1)))
 else
 none
 else
 some (Sum.inl (b2,IntKind.i64.wrap (i3+1)))
 else
 none
 else
 none
 else
 some (Sum.inr (Sum.inr (b2,i3)))) (false,0)).bind fun T6=>
 Sum.elim (fun Xv=>
 some Xv) (fun (L8,i13)=>
 bif decide ((↑x.length:Int).toNat*1≤2^47)&&decide ((↑x.length:Int).toNat<2^62) then
 (aI (ω:=Int×List Bool) (fun ((i14,zt):Int×List Bool)=>
 bif decide (i14<(↑n.aG.length:Int)) then
 bif decide (0≤i14) then
 (n.aG[i14.toNat]?).bind fun i16=>
 bif decide (0<i16) then
 bif decide (0≤i14) then
 (x[i14.toNat]?).bind fun L9=>
 (aa.dE i16).bind fun SF=>
 bif decide (0≤i14) then
 bif decide (i14.toNat<zt.length) then
 (zt[0+i14.toNat]?).bind fun b19=>
 bif decide ((zt.set (0+i14.toNat) (L9.dW==SF.dW&&L9.Den==SF.Den)).length=(List.replicate (↑x.length:Int).toNat false).length) then
 some (Sum.inl (IntKind.i64.wrap (i14+1),zt.set (0+i14.toNat) (L9.dW==SF.dW&&L9.Den==SF.Den)))
 else
 none
 else
 none
 else
 none
 else
 none
 else
 bif decide (0≤i14) then
 bif decide (i14.toNat<zt.length) then
 (zt[0+i14.toNat]?).bind fun ZY=>
 bif decide ((zt.set (0+i14.toNat) false).length=(List.replicate (↑x.length:Int).toNat false).length) then
 some (Sum.inl (IntKind.i64.wrap (i14+1),zt.set (0+i14.toNat) false))
 else
 none
 else
 none
 else
 none
 else
 none
 else
 bif decide (zt.length=(List.replicate (↑x.length:Int).toNat false).length) then
 some (Sum.inr (i14,zt))
 else
 none) (0,List.replicate (↑x.length:Int).toNat false)).bind fun (i21,HT)=>
 (aI (ω:=Bool×List Bool ⊕ Bool×Int×List Bool) (fun ((ZZ,i24,JT):Bool×Int×List Bool)=>
 bif decide (i24<(↑n.aQ.length:Int)) then
 (aa.mU (ck.mk n [] x) i24:Option (aj×Bool)).bind fun (VZ,b27)=>
 bif !b27 then
 bif decide (JT.length=HT.length) then
 some (Sum.inr (Sum.inl (false,JT)))
 else
 none
 else
 (aI (ω:=Int×List Bool) (fun ((i28,yB):Int×List Bool)=>
 bif decide (i28<(↑n.af.length:Int)) then
 bif decide (0≤i28) then
 (n.af[i28.toNat]?).bind fun l30=>
 (aa.bO l30 i24).bind fun b31=>
 bif b31 then
 (aI (ω:=Int×Bool) (fun ((i32,Xw):Int×Bool)=>
 bif decide (i32<(↑n.af.length:Int)) then
 bif decide (0≤i32) then
 (n.af[i32.toNat]?).bind fun qg=>
 (aa.bO qg i24).bind fun Xx=>
 bif Xx then
 bif Xw then
 bif decide (0≤i28) then
 (x[i28.toNat]?).bind fun q36=>
 bif decide (0≤i32) then
 (x[i32.toNat]?).bind fun q37=>
 (aa.gg q36 q37).bind fun Rx=>
 some (Sum.inl (IntKind.i64.wrap (i32+1),!Rx))
 else
 none
 else
 none
 else
 some (Sum.inl (IntKind.i64.wrap (i32+1),false))
 else
 some (Sum.inl (IntKind.i64.wrap (i32+1),Xw))
 else
 none
 else
 some (Sum.inr (i32,Xw))) (0,true)).bind fun (i39,Xy)=>
 bif decide (0≤i28) then
 bif decide (i28.toNat<yB.length) then
 (yB[0+i28.toNat]?).bind fun ZW=>
 bif ZW then
 bif decide (0≤i28) then
 bif decide (i28.toNat<yB.length) then
 (yB[0+i28.toNat]?).bind fun b42=>
 bif decide ((yB.set (0+i28.toNat) true).length=JT.length) then
 some (Sum.inl (IntKind.i64.wrap (i28+1),yB.set (0+i28.toNat) true))
 else
 none
 else
 none
 else
 none
 else
 bif Xy then
 bif decide (0≤i24) then
 (n.aQ[i24.toNat]?).bind fun i43=>
 (aa.dE i43).bind fun V0=>
 bif decide (0≤i28) then
 bif decide (i28.toNat<yB.length) then
 (yB[0+i28.toNat]?).bind fun b45=>
 bif decide ((yB.set (0+i28.toNat) (VZ.dW==V0.dW&&VZ.Den==V0.Den)).length=JT.length) then
 some (Sum.inl (IntKind.i64.wrap (i28+1),yB.set (0+i28.toNat) (VZ.dW==V0.dW&&VZ.Den==V0.Den)))
 else
 none
 else
 none
 else
 none
 else
 none
 else
 bif decide (0≤i28) then
 bif decide (i28.toNat<yB.length) then
 (yB[0+i28.toNat]?).bind fun SG=>
 bif decide ((yB.set (0+i28.toNat) false).length=JT.length) then
 some (Sum.inl (IntKind.i64.wrap (i28+1),yB.set (0+i28.toNat) false))
 else
 none
 else
 none
 else
 none
 else
 none
 else
 none
 else
 bif decide (yB.length=JT.length) then
 some (Sum.inl (IntKind.i64.wrap (i28+1),yB))
 else
 none
 else
 none
 else
 bif decide (yB.length=JT.length) then
 some (Sum.inr (i28,yB))
 else
 none) (0,JT)).bind fun (i47,OZ)=>
 bif decide (OZ.length=HT.length) then
 some (Sum.inl (ZZ,IntKind.i64.wrap (i24+1),OZ))
 else
 none
 else
 bif decide (JT.length=HT.length) then
 some (Sum.inr (Sum.inr (ZZ,i24,JT)))
 else
 none) (L8,0,HT)).bind fun w49=>
 Sum.elim (fun (b50,SE)=>
 some b50) (fun (Z0,i53,Ma)=>
 (aa.fu Ma false).bind fun Xz=>
 some !Xz) w49
 else
 none) T6
noncomputable def Go.aa.AY(a:aj)(b:aj):Option (aj×Int):=
 (aa.cP a).bind fun b1=>
 bif !b1 then
 some (aj.mk 0 0,1)
 else
 (aa.cP b).bind fun b2=>
 bif !b2 then
 some (aj.mk 0 0,1)
 else
 (aa.ku (IntKind.i64.wrap (IntKind.i64.wrap (a.dW*b.Den)+IntKind.i64.wrap (b.dW*a.Den))) (IntKind.i64.wrap (a.Den*b.Den))).bind fun (q3,i4)=>
 some (q3,i4)
noncomputable def Go.aa.sN(n:cw)(x:List aj)(link:Int):Option (aj×Bool):=
 (aI (ω:=Bool×Int×Int×Int×Int ⊕ Bool×Int×Int×Int) (fun ((b1,i2,i3,i4):Bool×Int×Int×Int)=>
 bif decide (i2<(↑n.af.length:Int)) then
 bif decide (0≤i2) then
 (n.af[i2.toNat]?).bind fun l5=>
 (aa.qf l5 link).bind fun b6=>
 bif b6 then
 bif decide (0≤i2) then
 (x[i2.toNat]?).bind fun q7=>
 (aa.AY (aj.mk i3 i4) q7).bind fun (q8,i9)=>
 bif !i9==0 then
 some (Sum.inr (Sum.inl (false,i3,i4,i3,i4)))
 else
 some (Sum.inl (b1,IntKind.i64.wrap (i2+1),q8.dW,q8.Den))
 else
 none
 else
 some (Sum.inl (b1,IntKind.i64.wrap (i2+1),i3,i4))
 else
 none
 else
 some (Sum.inr (Sum.inr (b1,i2,i3,i4)))) (false,0,0,1)).bind fun T6=>
 Sum.elim (fun (Xv,i12,i13,i14,i15)=>
 some (aj.mk i14 i15,Xv)) (fun (Xq,i17,i18,i19)=>
 some (aj.mk i18 i19,true)) T6
noncomputable def Go.aa.oJ(n:cw)(x:List aj)(Gq:Int)(link:Int):Option Bool:=
 (aa.sN n x link).bind fun (q1,b2)=>
 (aI (ω:=Bool ⊕ Bool×Int) (fun ((b3,i4):Bool×Int)=>
 bif decide (i4<(↑n.af.length:Int)) then
 bif decide (0≤i4) then
 (n.af[i4.toNat]?).bind fun l5=>
 (aa.qf l5 link).bind fun b6=>
 bif decide (0≤i4) then
 (x[i4.toNat]?).bind fun q7=>
 bif decide (0≤Gq) then
 (x[Gq.toNat]?).bind fun q8=>
 (aa.jX q7 q8).bind fun (i9,i10)=>
 bif b6 then
 bif decide (0<i9) then
 some (Sum.inr (Sum.inl false))
 else
 some (Sum.inl (b3,IntKind.i64.wrap (i4+1)))
 else
 some (Sum.inl (b3,IntKind.i64.wrap (i4+1)))
 else
 none
 else
 none
 else
 none
 else
 some (Sum.inr (Sum.inr (b3,i4)))) (false,0)).bind fun XA=>
 Sum.elim (fun L8=>
 some L8) (fun (Qd,i14)=>
 bif q1.Den==1 then
 bif decide (0≤link) then
 (n.aQ[link.toNat]?).bind fun i15=>
 some (q1.dW==i15)
 else
 none
 else
 some false) XA
noncomputable def Go.aa.D5(n:cw)(x:List aj):Option Bool:=
 (aa.iU n).bind fun b1=>
 bif !b1 then
 some false
 else
 bif !(↑x.length:Int)==(↑n.af.length:Int) then
 some false
 else
 (aI (ω:=Bool ⊕ Bool×Int) (fun ((b2,i3):Bool×Int)=>
 bif decide (i3<(↑x.length:Int)) then
 bif decide (0≤i3) then
 (x[i3.toNat]?).bind fun q4=>
 (aa.cP q4).bind fun b5=>
 bif !b5 then
 some (Sum.inr (Sum.inl false))
 else
 bif decide (0≤i3) then
 (x[i3.toNat]?).bind fun q6=>
 bif decide (q6.dW<0) then
 some (Sum.inr (Sum.inl false))
 else
 bif decide (0≤i3) then
 (n.aG[i3.toNat]?).bind fun i7=>
 bif decide (0<i7) then
 bif decide (0≤i3) then
 (x[i3.toNat]?).bind fun q8=>
 bif decide (0≤i3) then
 (n.aG[i3.toNat]?).bind fun i9=>
 bif decide (0≤i3) then
 (x[i3.toNat]?).bind fun JQ=>
 bif decide (IntKind.i64.wrap (i9*JQ.Den)<q8.dW) then
 some (Sum.inr (Sum.inl false))
 else
 some (Sum.inl (b2,IntKind.i64.wrap (i3+1)))
 else
 none
 else
 none
 else
 none
 else
 some (Sum.inl (b2,IntKind.i64.wrap (i3+1)))
 else
 none
 else
 none
 else
 none
 else
 some (Sum.inr (Sum.inr (b2,i3)))) (false,0)).bind fun XA=>
 Sum.elim (fun L8=>
 some L8) (fun (Qd,i14)=>
 (aI (ω:=Bool ⊕ Bool×Int) (fun ((VY,i16):Bool×Int)=>
 bif decide (i16<(↑n.aQ.length:Int)) then
 (aa.sN n x i16).bind fun (L9,XB)=>
 bif !XB then
 some (Sum.inr (Sum.inl false))
 else
 bif decide (0≤i16) then
 (n.aQ[i16.toNat]?).bind fun i19=>
 bif decide (IntKind.i64.wrap (i19*L9.Den)<L9.dW) then
 some (Sum.inr (Sum.inl false))
 else
 some (Sum.inl (VY,IntKind.i64.wrap (i16+1)))
 else
 none
 else
 some (Sum.inr (Sum.inr (VY,i16)))) (Qd,0)).bind fun w20=>
 Sum.elim (fun Xu=>
 some Xu) (fun (b22,i23)=>
 (aI (ω:=Bool ⊕ Bool×Int) (fun ((V1,i25):Bool×Int)=>
 bif decide (i25<(↑x.length:Int)) then
 bif decide (0≤i25) then
 (n.aG[i25.toNat]?).bind fun i26=>
 bif decide (0<i26) then
 bif decide (0≤i25) then
 (x[i25.toNat]?).bind fun q27=>
 bif q27.Den==1 then
 bif decide (0≤i25) then
 (x[i25.toNat]?).bind fun T7=>
 bif decide (0≤i25) then
 (n.aG[i25.toNat]?).bind fun i29=>
 (aI (ω:=Bool×Int) (fun ((XC,i31):Bool×Int)=>
 bif decide (0≤i25) then
 (n.af[i25.toNat]?).bind fun l32=>
 bif decide (i31<(↑l32.length:Int)) then
 bif !XC then
 bif decide (0≤i25) then
 (n.af[i25.toNat]?).bind fun l33=>
 bif decide (0≤i31) then
 (l33[i31.toNat]?).bind fun i34=>
 (aa.oJ n x i25 i34).bind fun Xx=>
 some (Sum.inl (Xx,IntKind.i64.wrap (i31+1)))
 else
 none
 else
 none
 else
 some (Sum.inr (XC,i31))
 else
 some (Sum.inr (XC,i31))
 else
 none) (T7.dW==i29,0)).bind fun (b36,i37)=>
 bif !b36 then
 some (Sum.inr (Sum.inl false))
 else
 some (Sum.inl (V1,IntKind.i64.wrap (i25+1)))
 else
 none
 else
 none
 else
 (aI (ω:=Bool×Int) (fun ((Rx,i39):Bool×Int)=>
 bif decide (0≤i25) then
 (n.af[i25.toNat]?).bind fun VM=>
 bif decide (i39<(↑VM.length:Int)) then
 bif !Rx then
 bif decide (0≤i25) then
 (n.af[i25.toNat]?).bind fun l41=>
 bif decide (0≤i39) then
 (l41[i39.toNat]?).bind fun i42=>
 (aa.oJ n x i25 i42).bind fun Xs=>
 some (Sum.inl (Xs,IntKind.i64.wrap (i39+1)))
 else
 none
 else
 none
 else
 some (Sum.inr (Rx,i39))
 else
 some (Sum.inr (Rx,i39))
 else
 none) (false,0)).bind fun (ZX,i45)=>
 bif !ZX then
 some (Sum.inr (Sum.inl false))
 else
 some (Sum.inl (V1,IntKind.i64.wrap (i25+1)))
 else
 none
 else
 (aI (ω:=Bool×Int) (fun ((SG,i47):Bool×Int)=>
 bif decide (0≤i25) then
 (n.af[i25.toNat]?).bind fun OZ=>
 bif decide (i47<(↑OZ.length:Int)) then
 bif !SG then
 bif decide (0≤i25) then
 (n.af[i25.toNat]?).bind fun SD=>
 bif decide (0≤i47) then
 (SD[i47.toNat]?).bind fun i50=>
 (aa.oJ n x i25 i50).bind fun b51=>
 some (Sum.inl (b51,IntKind.i64.wrap (i47+1)))
 else
 none
 else
 none
 else
 some (Sum.inr (SG,i47))
 else
 some (Sum.inr (SG,i47))
 else
 none) (false,0)).bind fun (Z0,i53)=>
 bif !Z0 then
 some (Sum.inr (Sum.inl false))
 else
 some (Sum.inl (V1,IntKind.i64.wrap (i25+1)))
 else
 none
 else
 some (Sum.inr (Sum.inr (V1,i25)))) (b22,0)).bind fun w54=>
 Sum.elim (fun Xz=>
 some Xz) (fun (b56,i57)=>
 some true) w54) w20) XA
noncomputable def Go.aa.qO(n:cw):Option Bool:=
 (aI (ω:=Bool ⊕ Bool×Int) (fun ((b1,i2):Bool×Int)=>
 bif decide (i2<(↑n.af.length:Int)) then
 bif decide (i2<50) then
 bif decide (0≤i2) then
 (n.af[i2.toNat]?).bind fun l3=>
 bif decide (50<(↑l3.length:Int)) then
 some (Sum.inr (Sum.inl false))
 else
 some (Sum.inl (b1,IntKind.i64.wrap (i2+1)))
 else
 none
 else
 some (Sum.inr (Sum.inr (b1,i2)))
 else
 some (Sum.inr (Sum.inr (b1,i2)))) (false,0)).bind fun w4=>
 Sum.elim (fun b5=>
 some b5) (fun (b6,i7)=>
 bif decide ((↑n.aQ.length:Int)≤50) then
 bif decide ((↑n.af.length:Int)≤50) then
 some (decide ((↑n.aG.length:Int)≤50))
 else
 some false
 else
 some false) w4
noncomputable def Go.aa.yO(a:List aj)(b:List aj):Option Bool:=
 bif !(↑a.length:Int)==(↑b.length:Int) then
 some false
 else
 (aI (ω:=Bool ⊕ Bool×Int) (fun ((b1,i2):Bool×Int)=>
 bif decide (i2<(↑a.length:Int)) then
 bif decide (0≤i2) then
 (a[i2.toNat]?).bind fun q3=>
 bif decide (0≤i2) then
 (b[i2.toNat]?).bind fun q4=>
 bif !(q3.dW==q4.dW&&q3.Den==q4.Den) then
 some (Sum.inr (Sum.inl false))
 else
 some (Sum.inl (b1,IntKind.i64.wrap (i2+1)))
 else
 none
 else
 none
 else
 some (Sum.inr (Sum.inr (b1,i2)))) (false,0)).bind fun w5=>
 Sum.elim (fun b6=>
 some b6) (fun (b7,i8)=>
 some true) w5
noncomputable def Go.aa.n4(a:aj)(b:aj):Option (aj×Int):=
 (aa.cO a).bind fun b1=>
 bif !b1 then
 some (aj.mk 0 0,1)
 else
 (aa.cO b).bind fun b2=>
 bif !b2 then
 some (aj.mk 0 0,1)
 else
 bif IntKind.i64.wrap (a.Den*b.Den)==0 then
 some (aj.mk 0 0,14)
 else
 (aa.bt (aj.mk (IntKind.i64.wrap (IntKind.i64.wrap (a.dW*b.Den)-IntKind.i64.wrap (b.dW*a.Den))) (IntKind.i64.wrap (a.Den*b.Den)))).bind fun (q3,i4)=>
 some (q3,i4)
noncomputable def Go.aa.qM(a:aj)(b:aj):Option (aj×Int):=
 (aa.cO a).bind fun b1=>
 bif !b1 then
 some (aj.mk 0 0,1)
 else
 (aa.cO b).bind fun b2=>
 bif !b2 then
 some (aj.mk 0 0,1)
 else
 bif IntKind.i64.wrap (a.Den*b.dW)==0 then
 some (aj.mk 0 0,14)
 else
 (aa.bt (aj.mk (IntKind.i64.wrap (a.dW*b.Den)) (IntKind.i64.wrap (a.Den*b.dW)))).bind fun (q3,i4)=>
 some (q3,i4)
noncomputable def Go.aa.cm(l:Int)(s:ck):Option (aj×Bool):=
 bif decide (0≤l) then
 (s.Net.aQ[l.toNat]?).bind fun i1=>
 (aa.dE i1).bind fun q2=>
 (aI (ω:=Int×Int×Int×Int) (fun ((i3,i4,i5,i6):Int×Int×Int×Int)=>
 bif decide (i3<(↑s.Net.af.length:Int)) then
 bif decide (0≤i3) then
 (s.Net.af[i3.toNat]?).bind fun l7=>
 (aa.bO l7 l).bind fun b8=>
 bif b8 then
 bif decide (0≤i3) then
 (s.DH[i3.toNat]?).bind fun b9=>
 bif !b9 then
 some (Sum.inl (IntKind.i64.wrap (i3+1),IntKind.i64.wrap (i4+1),i5,i6))
 else
 bif decide (0≤i3) then
 (s.DI[i3.toNat]?).bind fun JQ=>
 (aa.n4 (aj.mk i5 i6) JQ).bind fun (TJ,i12)=>
 some (Sum.inl (IntKind.i64.wrap (i3+1),i4,TJ.dW,TJ.Den))
 else
 none
 else
 none
 else
 some (Sum.inl (IntKind.i64.wrap (i3+1),i4,i5,i6))
 else
 none
 else
 some (Sum.inr (i3,i4,i5,i6))) (0,0,q2.dW,q2.Den)).bind fun (i13,i14,i15,i16)=>
 bif i14==0 then
 some (aj.mk i15 i16,false)
 else
 (aa.dE i14).bind fun L9=>
 (aa.qM (aj.mk i15 i16) L9).bind fun (SF,i19)=>
 some (SF,true)
 else
 none
noncomputable def Go.aa.fS(l:Int)(s:ck)(Gq:Int):Option Bool:=
 bif decide (0≤Gq) then
 (s.Net.af[Gq.toNat]?).bind fun l1=>
 (aa.bO l1 l).bind fun b2=>
 some b2
 else
 none
noncomputable def Go.aa.cC(l:Int)(s:ck):Option (aj×Bool):=
 bif decide (0≤l) then
 (s.Net.aG[l.toNat]?).bind fun i1=>
 (aa.dE i1).bind fun q2=>
 bif decide (0≤l) then
 (s.Net.aG[l.toNat]?).bind fun i3=>
 bif decide (0<i3) then
 bif decide (0≤l) then
 (s.DH[l.toNat]?).bind fun b4=>
 some (q2,!b4)
 else
 none
 else
 some (q2,false)
 else
 none
 else
 none
noncomputable def Go.aa.ml(l:Int)(s:ck)(Gq:Int):Option Bool:=
 some (l==Gq)
noncomputable def Go.aa.gK(n:cw):Option ((List aj)×Int):=
 (aa.ju n).bind fun b1=>
 bif !b1 then
 some ([],1)
 else
 bif decide ((↑n.af.length:Int).toNat*1≤2^47)&&decide ((↑n.af.length:Int).toNat<2^62) then
 bif decide ((↑n.af.length:Int).toNat*16≤2^47)&&decide ((↑n.af.length:Int).toNat<2^62) then
 (aI (ω:=Int×List dY) (fun ((i2,l3):Int×List dY)=>
 bif decide (i2<(↑n.aQ.length:Int)) then
 bif decide ((l3.length+1)*16≤2^44)&&decide (l3.length+1≤2^44) then
 some (Sum.inl (IntKind.i64.wrap (i2+1),l3++[dY.mk true i2]))
 else
 none
 else
 some (Sum.inr (i2,l3))) (0,[])).bind fun (i4,l5)=>
 (aI (ω:=Int×List dY) (fun ((i6,l7):Int×List dY)=>
 bif decide (i6<(↑n.aG.length:Int)) then
 bif decide ((l7.length+1)*16≤2^44)&&decide (l7.length+1≤2^44) then
 some (Sum.inl (IntKind.i64.wrap (i6+1),l7++[dY.mk false i6]))
 else
 none
 else
 some (Sum.inr (i6,l7))) (0,l5)).bind fun (i8,l9)=>
 (aI (ω:=List aj×List Bool) (fun ((O0,sM):List aj×List Bool)=>
 (aa.fu sM false).bind fun L8=>
 bif L8 then
 (aI (ω:=Int×List aj×List dY) (fun ((i13,LM,zt):Int×List aj×List dY)=>
 bif decide (i13<(↑l9.length:Int)) then
 bif decide (0≤i13) then
 bif decide (i13.toNat<l9.length) then
 (l9[0+i13.toNat]?).bind fun T8=>
 bif T8.A then
 (aa.cm T8.N (ck.mk n sM O0)).bind fun (L9,XB)=>
 bif XB then
 bif decide ((LM.length+1)*16≤2^44)&&decide (LM.length+1≤2^44) then
 bif decide ((zt.length+1)*16≤2^44)&&decide (zt.length+1≤2^44) then
 some (Sum.inl (IntKind.i64.wrap (i13+1),LM++[L9],zt++[dY.mk true T8.N]))
 else
 none
 else
 none
 else
 some (Sum.inl (IntKind.i64.wrap (i13+1),LM,zt))
 else
 (aa.cC T8.N (ck.mk n sM O0)).bind fun (Xr,ZY)=>
 bif ZY then
 bif decide ((LM.length+1)*16≤2^44)&&decide (LM.length+1≤2^44) then
 bif decide ((zt.length+1)*16≤2^44)&&decide (zt.length+1≤2^44) then
 some (Sum.inl (IntKind.i64.wrap (i13+1),LM++[Xr],zt++[dY.mk false T8.N]))
 else
 none
 else
 none
 else
 some (Sum.inl (IntKind.i64.wrap (i13+1),LM,zt))
 else
 none
 else
 none
 else
 some (Sum.inr (i13,LM,zt))) (0,[],[])).bind fun (i21,HT,JS)=>
 bif decide (0<HT.length) then
 (HT[0]?).bind fun Z1=>
 (aI (ω:=Int×Int×Int) (fun ((i25,i26,i27):Int×Int×Int)=>
 bif decide (i25<(↑HT.length:Int)) then
 bif decide (0≤i25) then
 bif decide (i25.toNat<HT.length) then
 (HT[0+i25.toNat]?).bind fun T7=>
 (aa.gg T7 (aj.mk i26 i27)).bind fun b29=>
 bif b29 then
 some (Sum.inl (IntKind.i64.wrap (i25+1),T7.dW,T7.Den))
 else
 some (Sum.inl (IntKind.i64.wrap (i25+1),i26,i27))
 else
 none
 else
 none
 else
 some (Sum.inr (i25,i26,i27))) (0,Z1.dW,Z1.Den)).bind fun (i30,i31,i32)=>
 (aI (ω:=Int×List Int) (fun ((i33,qg):Int×List Int)=>
 bif decide (i33<(↑JS.length:Int)) then
 bif decide (0≤i33) then
 bif decide (i33.toNat<JS.length) then
 (JS[0+i33.toNat]?).bind fun XD=>
 bif XD.A then
 (aI (ω:=Int×List Int) (fun ((i36,O1):Int×List Int)=>
 bif decide (i36<(↑n.af.length:Int)) then
 bif decide (0≤i33) then
 bif decide (i33.toNat<HT.length) then
 (HT[0+i33.toNat]?).bind fun Z2=>
 bif Z2.dW==i31&&Z2.Den==i32 then
 bif decide (0≤i36) then
 bif decide (i36.toNat<sM.length) then
 (sM[0+i36.toNat]?).bind fun ZV=>
 bif !ZV then
 (aa.fS XD.N (ck.mk n sM O0) i36).bind fun Xy=>
 bif Xy then
 bif decide ((O1.length+1)*8≤2^44)&&decide (O1.length+1≤2^44) then
 some (Sum.inl (IntKind.i64.wrap (i36+1),O1++[i36]))
 else
 none
 else
 some (Sum.inl (IntKind.i64.wrap (i36+1),O1))
 else
 some (Sum.inl (IntKind.i64.wrap (i36+1),O1))
 else
 none
 else
 none
 else
 some (Sum.inl (IntKind.i64.wrap (i36+1),O1))
 else
 none
 else
 none
 else
 some (Sum.inr (i36,O1))) (0,qg)).bind fun (i41,l42)=>
 some (Sum.inl (IntKind.i64.wrap (i33+1),l42))
 else
 (aI (ω:=Int×List Int) (fun ((i43,Ry):Int×List Int)=>
 bif decide (i43<(↑n.af.length:Int)) then
 bif decide (0≤i33) then
 bif decide (i33.toNat<HT.length) then
 (HT[0+i33.toNat]?).bind fun Xt=>
 bif Xt.dW==i31&&Xt.Den==i32 then
 bif decide (0≤i43) then
 bif decide (i43.toNat<sM.length) then
 (sM[0+i43.toNat]?).bind fun SG=>
 bif !SG then
 (aa.ml XD.N (ck.mk n sM O0) i43).bind fun b47=>
 bif b47 then
 bif decide ((Ry.length+1)*8≤2^44)&&decide (Ry.length+1≤2^44) then
 some (Sum.inl (IntKind.i64.wrap (i43+1),Ry++[i43]))
 else
 none
 else
 some (Sum.inl (IntKind.i64.wrap (i43+1),Ry))
 else
 some (Sum.inl (IntKind.i64.wrap (i43+1),Ry))
 else
 none
 else
 none
 else
 some (Sum.inl (IntKind.i64.wrap (i43+1),Ry))
 else
 none
 else
 none
 else
 some (Sum.inr (i43,Ry))) (0,qg)).bind fun (i48,SD)=>
 some (Sum.inl (IntKind.i64.wrap (i33+1),SD))
 else
 none
 else
 none
 else
 some (Sum.inr (i33,qg))) (0,[])).bind fun (i50,SE)=>
 (aI (ω:=Int×List aj×List Bool) (fun ((i52,SH,Ma):Int×List aj×List Bool)=>
 bif decide (i52<(↑SE.length:Int)) then
 bif decide (0≤i52) then
 bif decide (i52.toNat<SE.length) then
 (SE[0+i52.toNat]?).bind fun i55=>
 bif decide (0≤i55) then
 bif decide (i55.toNat<Ma.length) then
 (Ma[0+i55.toNat]?).bind fun b56=>
 bif decide (0≤i55) then
 bif decide (i55.toNat<SH.length) then
 (SH[0+i55.toNat]?).bind fun q57=>
 bif decide ((SH.set (0+i55.toNat) (aj.mk i31 i32)).length=O0.length) then
 bif decide ((Ma.set (0+i55.toNat) true).length=sM.length) then
 some (Sum.inl (IntKind.i64.wrap (i52+1),SH.set (0+i55.toNat) (aj.mk i31 i32),Ma.set (0+i55.toNat) true))
 else
 none
 else
 none
 else
 none
 else
 none
 else
 none
 else
 none
 else
 none
 else
 none
 else
 bif decide (SH.length=O0.length) then
 bif decide (Ma.length=sM.length) then
 some (Sum.inr (i52,SH,Ma))
 else
 none
 else
 none) (0,O0,sM)).bind fun (i58,Z3,Rz)=>
 bif decide (Z3.length=(List.replicate (↑n.af.length:Int).toNat (aj.mk 0 0)).length) then
 bif decide (Rz.length=(List.replicate (↑n.af.length:Int).toNat false).length) then
 some (Sum.inl (Z3,Rz))
 else
 none
 else
 none
 else
 none
 else
 bif decide (O0.length=(List.replicate (↑n.af.length:Int).toNat (aj.mk 0 0)).length) then
 bif decide (sM.length=(List.replicate (↑n.af.length:Int).toNat false).length) then
 some (Sum.inr (O0,sM))
 else
 none
 else
 none) (List.replicate (↑n.af.length:Int).toNat (aj.mk 0 0),List.replicate (↑n.af.length:Int).toNat false)).bind fun (l61,l62)=>
 some (l61,0)
 else
 none
 else
 none
noncomputable def Go.aa.D6(n:Int):Option aj:=
 some (aj.mk n 1)
noncomputable def Go.aa.Mb(n:cw)(want:List aj):Option Bool:=
 (aa.gK n).bind fun (l1,i2)=>
 (aa.ud n want).bind fun b3=>
 bif i2==0 then
 bif b3 then
 (aa.yO l1 want).bind fun b4=>
 some b4
 else
 some false
 else
 some false
noncomputable def Go.aa.gh(r:aj)(num:Int)(ky:Int):Option Int:=
 some (IntKind.i64.wrap (IntKind.i64.wrap (r.dW*ky)-IntKind.i64.wrap (num*r.Den)))
noncomputable def Go.aa.Gr(x:Int):Option Int:=
 bif decide (65536≤x) then
 bif decide (256≤x.fdiv (2^min 16 32)) then
 (if 0≤IntKind.u8.wrap ((x.fdiv (2^min 16 32)).fdiv (2^min 8 32)) then
 match (ByteArray.mk (([0,1,2,2,3,3,3,3,4,4,4,4,4,4,4,4,5,5,5,5,5,5,5,5,5,5,5,5,5,5,5,5,6,6,6,6,6,6,6,6,6,6,6,6,6,6,6,6,6,6,6,6,6,6,6,6,6,6,6,6,6,6,6,6].append [7,7,7,7,7,7,7,7,7,7,7,7,7,7,7,7,7,7,7,7,7,7,7,7,7,7,7,7,7,7,7,7,7,7,7,7,7,7,7,7,7,7,7,7,7,7,7,7,7,7,7,7,7,7,7,7,7,7,7,7,7,7,7,7]).append ([8,8,8,8,8,8,8,8,8,8,8,8,8,8,8,8,8,8,8,8,8,8,8,8,8,8,8,8,8,8,8,8,8,8,8,8,8,8,8,8,8,8,8,8,8,8,8,8,8,8,8,8,8,8,8,8,8,8,8,8,8,8,8,8].append [8,8,8,8,8,8,8,8,8,8,8,8,8,8,8,8,8,8,8,8,8,8,8,8,8,8,8,8,8,8,8,8,8,8,8,8,8,8,8,8,8,8,8,8,8,8,8,8,8,8,8,8,8,8,8,8,8,8,8,8,8,8,8,8])).toArray)[(IntKind.u8.wrap ((x.fdiv (2^min (Int.toNat 16) IntKind.u32.bits)).fdiv (2^min (Int.toNat 8) IntKind.u32.bits))).toNat]? with
 |some x=>some ((fun b=>(↑b.toNat:Int)) x)
 |none=>none
else none).bind fun i1=>
 some (IntKind.i64.wrap (IntKind.i64.wrap (16+8)+IntKind.i64.wrap i1))
 else
 (if 0≤IntKind.u8.wrap (x.fdiv (2^min 16 32)) then
 match (ByteArray.mk (([0,1,2,2,3,3,3,3,4,4,4,4,4,4,4,4,5,5,5,5,5,5,5,5,5,5,5,5,5,5,5,5,6,6,6,6,6,6,6,6,6,6,6,6,6,6,6,6,6,6,6,6,6,6,6,6,6,6,6,6,6,6,6,6].append [7,7,7,7,7,7,7,7,7,7,7,7,7,7,7,7,7,7,7,7,7,7,7,7,7,7,7,7,7,7,7,7,7,7,7,7,7,7,7,7,7,7,7,7,7,7,7,7,7,7,7,7,7,7,7,7,7,7,7,7,7,7,7,7]).append ([8,8,8,8,8,8,8,8,8,8,8,8,8,8,8,8,8,8,8,8,8,8,8,8,8,8,8,8,8,8,8,8,8,8,8,8,8,8,8,8,8,8,8,8,8,8,8,8,8,8,8,8,8,8,8,8,8,8,8,8,8,8,8,8].append [8,8,8,8,8,8,8,8,8,8,8,8,8,8,8,8,8,8,8,8,8,8,8,8,8,8,8,8,8,8,8,8,8,8,8,8,8,8,8,8,8,8,8,8,8,8,8,8,8,8,8,8,8,8,8,8,8,8,8,8,8,8,8,8])).toArray)[(IntKind.u8.wrap (x.fdiv (2^min (Int.toNat 16) IntKind.u32.bits))).toNat]? with
 |some x=>some ((fun b=>(↑b.toNat:Int)) x)
 |none=>none
else none).bind fun i2=>
 some (IntKind.i64.wrap (16+IntKind.i64.wrap i2))
 else
 bif decide (256≤x) then
 (if 0≤IntKind.u8.wrap (x.fdiv (2^min 8 32)) then
 match (ByteArray.mk (([0,1,2,2,3,3,3,3,4,4,4,4,4,4,4,4,5,5,5,5,5,5,5,5,5,5,5,5,5,5,5,5,6,6,6,6,6,6,6,6,6,6,6,6,6,6,6,6,6,6,6,6,6,6,6,6,6,6,6,6,6,6,6,6].append [7,7,7,7,7,7,7,7,7,7,7,7,7,7,7,7,7,7,7,7,7,7,7,7,7,7,7,7,7,7,7,7,7,7,7,7,7,7,7,7,7,7,7,7,7,7,7,7,7,7,7,7,7,7,7,7,7,7,7,7,7,7,7,7]).append ([8,8,8,8,8,8,8,8,8,8,8,8,8,8,8,8,8,8,8,8,8,8,8,8,8,8,8,8,8,8,8,8,8,8,8,8,8,8,8,8,8,8,8,8,8,8,8,8,8,8,8,8,8,8,8,8,8,8,8,8,8,8,8,8].append [8,8,8,8,8,8,8,8,8,8,8,8,8,8,8,8,8,8,8,8,8,8,8,8,8,8,8,8,8,8,8,8,8,8,8,8,8,8,8,8,8,8,8,8,8,8,8,8,8,8,8,8,8,8,8,8,8,8,8,8,8,8,8,8])).toArray)[(IntKind.u8.wrap (x.fdiv (2^min (Int.toNat 8) IntKind.u32.bits))).toNat]? with
 |some x=>some ((fun b=>(↑b.toNat:Int)) x)
 |none=>none
else none).bind fun i3=>
 some (IntKind.i64.wrap (IntKind.i64.wrap (0+8)+IntKind.i64.wrap i3))
 else
 (if 0≤IntKind.u8.wrap x then
 match (ByteArray.mk (([0,1,2,2,3,3,3,3,4,4,4,4,4,4,4,4,5,5,5,5,5,5,5,5,5,5,5,5,5,5,5,5,6,6,6,6,6,6,6,6,6,6,6,6,6,6,6,6,6,6,6,6,6,6,6,6,6,6,6,6,6,6,6,6].append [7,7,7,7,7,7,7,7,7,7,7,7,7,7,7,7,7,7,7,7,7,7,7,7,7,7,7,7,7,7,7,7,7,7,7,7,7,7,7,7,7,7,7,7,7,7,7,7,7,7,7,7,7,7,7,7,7,7,7,7,7,7,7,7]).append ([8,8,8,8,8,8,8,8,8,8,8,8,8,8,8,8,8,8,8,8,8,8,8,8,8,8,8,8,8,8,8,8,8,8,8,8,8,8,8,8,8,8,8,8,8,8,8,8,8,8,8,8,8,8,8,8,8,8,8,8,8,8,8,8].append [8,8,8,8,8,8,8,8,8,8,8,8,8,8,8,8,8,8,8,8,8,8,8,8,8,8,8,8,8,8,8,8,8,8,8,8,8,8,8,8,8,8,8,8,8,8,8,8,8,8,8,8,8,8,8,8,8,8,8,8,8,8,8,8])).toArray)[(IntKind.u8.wrap x).toNat]? with
 |some x=>some ((fun b=>(↑b.toNat:Int)) x)
 |none=>none
else none).bind fun i4=>
 some (IntKind.i64.wrap (0+IntKind.i64.wrap i4))
noncomputable def Go.aa.yP(x:Int):Option Int:=
 bif decide (4294967296≤x) then
 bif decide (65536≤x.fdiv (2^min 32 64)) then
 bif decide (256≤(x.fdiv (2^min 32 64)).fdiv (2^min 16 64)) then
 (if 0≤IntKind.u8.wrap (((x.fdiv (2^min 32 64)).fdiv (2^min 16 64)).fdiv (2^min 8 64)) then
 match (ByteArray.mk (([0,1,2,2,3,3,3,3,4,4,4,4,4,4,4,4,5,5,5,5,5,5,5,5,5,5,5,5,5,5,5,5,6,6,6,6,6,6,6,6,6,6,6,6,6,6,6,6,6,6,6,6,6,6,6,6,6,6,6,6,6,6,6,6].append [7,7,7,7,7,7,7,7,7,7,7,7,7,7,7,7,7,7,7,7,7,7,7,7,7,7,7,7,7,7,7,7,7,7,7,7,7,7,7,7,7,7,7,7,7,7,7,7,7,7,7,7,7,7,7,7,7,7,7,7,7,7,7,7]).append ([8,8,8,8,8,8,8,8,8,8,8,8,8,8,8,8,8,8,8,8,8,8,8,8,8,8,8,8,8,8,8,8,8,8,8,8,8,8,8,8,8,8,8,8,8,8,8,8,8,8,8,8,8,8,8,8,8,8,8,8,8,8,8,8].append [8,8,8,8,8,8,8,8,8,8,8,8,8,8,8,8,8,8,8,8,8,8,8,8,8,8,8,8,8,8,8,8,8,8,8,8,8,8,8,8,8,8,8,8,8,8,8,8,8,8,8,8,8,8,8,8,8,8,8,8,8,8,8,8])).toArray)[(IntKind.u8.wrap (((x.fdiv (2^min (Int.toNat 32) IntKind.u64.bits)).fdiv (2^min (Int.toNat 16) IntKind.u64.bits)).fdiv (2^min (Int.toNat 8) IntKind.u64.bits))).toNat]? with
 |some x=>some ((fun b=>(↑b.toNat:Int)) x)
 |none=>none
else none).bind fun i1=>
 some (IntKind.i64.wrap (IntKind.i64.wrap (IntKind.i64.wrap (32+16)+8)+IntKind.i64.wrap i1))
 else
 (if 0≤IntKind.u8.wrap ((x.fdiv (2^min 32 64)).fdiv (2^min 16 64)) then
 match (ByteArray.mk (([0,1,2,2,3,3,3,3,4,4,4,4,4,4,4,4,5,5,5,5,5,5,5,5,5,5,5,5,5,5,5,5,6,6,6,6,6,6,6,6,6,6,6,6,6,6,6,6,6,6,6,6,6,6,6,6,6,6,6,6,6,6,6,6].append [7,7,7,7,7,7,7,7,7,7,7,7,7,7,7,7,7,7,7,7,7,7,7,7,7,7,7,7,7,7,7,7,7,7,7,7,7,7,7,7,7,7,7,7,7,7,7,7,7,7,7,7,7,7,7,7,7,7,7,7,7,7,7,7]).append ([8,8,8,8,8,8,8,8,8,8,8,8,8,8,8,8,8,8,8,8,8,8,8,8,8,8,8,8,8,8,8,8,8,8,8,8,8,8,8,8,8,8,8,8,8,8,8,8,8,8,8,8,8,8,8,8,8,8,8,8,8,8,8,8].append [8,8,8,8,8,8,8,8,8,8,8,8,8,8,8,8,8,8,8,8,8,8,8,8,8,8,8,8,8,8,8,8,8,8,8,8,8,8,8,8,8,8,8,8,8,8,8,8,8,8,8,8,8,8,8,8,8,8,8,8,8,8,8,8])).toArray)[(IntKind.u8.wrap ((x.fdiv (2^min (Int.toNat 32) IntKind.u64.bits)).fdiv (2^min (Int.toNat 16) IntKind.u64.bits))).toNat]? with
 |some x=>some ((fun b=>(↑b.toNat:Int)) x)
 |none=>none
else none).bind fun i2=>
 some (IntKind.i64.wrap (IntKind.i64.wrap (32+16)+IntKind.i64.wrap i2))
 else
 bif decide (256≤x.fdiv (2^min 32 64)) then
 (if 0≤IntKind.u8.wrap ((x.fdiv (2^min 32 64)).fdiv (2^min 8 64)) then
 match (ByteArray.mk (([0,1,2,2,3,3,3,3,4,4,4,4,4,4,4,4,5,5,5,5,5,5,5,5,5,5,5,5,5,5,5,5,6,6,6,6,6,6,6,6,6,6,6,6,6,6,6,6,6,6,6,6,6,6,6,6,6,6,6,6,6,6,6,6].append [7,7,7,7,7,7,7,7,7,7,7,7,7,7,7,7,7,7,7,7,7,7,7,7,7,7,7,7,7,7,7,7,7,7,7,7,7,7,7,7,7,7,7,7,7,7,7,7,7,7,7,7,7,7,7,7,7,7,7,7,7,7,7,7]).append ([8,8,8,8,8,8,8,8,8,8,8,8,8,8,8,8,8,8,8,8,8,8,8,8,8,8,8,8,8,8,8,8,8,8,8,8,8,8,8,8,8,8,8,8,8,8,8,8,8,8,8,8,8,8,8,8,8,8,8,8,8,8,8,8].append [8,8,8,8,8,8,8,8,8,8,8,8,8,8,8,8,8,8,8,8,8,8,8,8,8,8,8,8,8,8,8,8,8,8,8,8,8,8,8,8,8,8,8,8,8,8,8,8,8,8,8,8,8,8,8,8,8,8,8,8,8,8,8,8])).toArray)[(IntKind.u8.wrap ((x.fdiv (2^min (Int.toNat 32) IntKind.u64.bits)).fdiv (2^min (Int.toNat 8) IntKind.u64.bits))).toNat]? with
 |some x=>some ((fun b=>(↑b.toNat:Int)) x)
 |none=>none
else none).bind fun i3=>
 some (IntKind.i64.wrap (IntKind.i64.wrap (32+8)+IntKind.i64.wrap i3))
 else
 (if 0≤IntKind.u8.wrap (x.fdiv (2^min 32 64)) then
 match (ByteArray.mk (([0,1,2,2,3,3,3,3,4,4,4,4,4,4,4,4,5,5,5,5,5,5,5,5,5,5,5,5,5,5,5,5,6,6,6,6,6,6,6,6,6,6,6,6,6,6,6,6,6,6,6,6,6,6,6,6,6,6,6,6,6,6,6,6].append [7,7,7,7,7,7,7,7,7,7,7,7,7,7,7,7,7,7,7,7,7,7,7,7,7,7,7,7,7,7,7,7,7,7,7,7,7,7,7,7,7,7,7,7,7,7,7,7,7,7,7,7,7,7,7,7,7,7,7,7,7,7,7,7]).append ([8,8,8,8,8,8,8,8,8,8,8,8,8,8,8,8,8,8,8,8,8,8,8,8,8,8,8,8,8,8,8,8,8,8,8,8,8,8,8,8,8,8,8,8,8,8,8,8,8,8,8,8,8,8,8,8,8,8,8,8,8,8,8,8].append [8,8,8,8,8,8,8,8,8,8,8,8,8,8,8,8,8,8,8,8,8,8,8,8,8,8,8,8,8,8,8,8,8,8,8,8,8,8,8,8,8,8,8,8,8,8,8,8,8,8,8,8,8,8,8,8,8,8,8,8,8,8,8,8])).toArray)[(IntKind.u8.wrap (x.fdiv (2^min (Int.toNat 32) IntKind.u64.bits))).toNat]? with
 |some x=>some ((fun b=>(↑b.toNat:Int)) x)
 |none=>none
else none).bind fun i4=>
 some (IntKind.i64.wrap (32+IntKind.i64.wrap i4))
 else
 bif decide (65536≤x) then
 bif decide (256≤x.fdiv (2^min 16 64)) then
 (if 0≤IntKind.u8.wrap ((x.fdiv (2^min 16 64)).fdiv (2^min 8 64)) then
 match (ByteArray.mk (([0,1,2,2,3,3,3,3,4,4,4,4,4,4,4,4,5,5,5,5,5,5,5,5,5,5,5,5,5,5,5,5,6,6,6,6,6,6,6,6,6,6,6,6,6,6,6,6,6,6,6,6,6,6,6,6,6,6,6,6,6,6,6,6].append [7,7,7,7,7,7,7,7,7,7,7,7,7,7,7,7,7,7,7,7,7,7,7,7,7,7,7,7,7,7,7,7,7,7,7,7,7,7,7,7,7,7,7,7,7,7,7,7,7,7,7,7,7,7,7,7,7,7,7,7,7,7,7,7]).append ([8,8,8,8,8,8,8,8,8,8,8,8,8,8,8,8,8,8,8,8,8,8,8,8,8,8,8,8,8,8,8,8,8,8,8,8,8,8,8,8,8,8,8,8,8,8,8,8,8,8,8,8,8,8,8,8,8,8,8,8,8,8,8,8].append [8,8,8,8,8,8,8,8,8,8,8,8,8,8,8,8,8,8,8,8,8,8,8,8,8,8,8,8,8,8,8,8,8,8,8,8,8,8,8,8,8,8,8,8,8,8,8,8,8,8,8,8,8,8,8,8,8,8,8,8,8,8,8,8])).toArray)[(IntKind.u8.wrap ((x.fdiv (2^min (Int.toNat 16) IntKind.u64.bits)).fdiv (2^min (Int.toNat 8) IntKind.u64.bits))).toNat]? with
 |some x=>some ((fun b=>(↑b.toNat:Int)) x)
 |none=>none
else none).bind fun i5=>
 some (IntKind.i64.wrap (IntKind.i64.wrap (IntKind.i64.wrap (0+16)+8)+IntKind.i64.wrap i5))
 else
 (if 0≤IntKind.u8.wrap (x.fdiv (2^min 16 64)) then
 match (ByteArray.mk (([0,1,2,2,3,3,3,3,4,4,4,4,4,4,4,4,5,5,5,5,5,5,5,5,5,5,5,5,5,5,5,5,6,6,6,6,6,6,6,6,6,6,6,6,6,6,6,6,6,6,6,6,6,6,6,6,6,6,6,6,6,6,6,6].append [7,7,7,7,7,7,7,7,7,7,7,7,7,7,7,7,7,7,7,7,7,7,7,7,7,7,7,7,7,7,7,7,7,7,7,7,7,7,7,7,7,7,7,7,7,7,7,7,7,7,7,7,7,7,7,7,7,7,7,7,7,7,7,7]).append ([8,8,8,8,8,8,8,8,8,8,8,8,8,8,8,8,8,8,8,8,8,8,8,8,8,8,8,8,8,8,8,8,8,8,8,8,8,8,8,8,8,8,8,8,8,8,8,8,8,8,8,8,8,8,8,8,8,8,8,8,8,8,8,8].append [8,8,8,8,8,8,8,8,8,8,8,8,8,8,8,8,8,8,8,8,8,8,8,8,8,8,8,8,8,8,8,8,8,8,8,8,8,8,8,8,8,8,8,8,8,8,8,8,8,8,8,8,8,8,8,8,8,8,8,8,8,8,8,8])).toArray)[(IntKind.u8.wrap (x.fdiv (2^min (Int.toNat 16) IntKind.u64.bits))).toNat]? with
 |some x=>some ((fun b=>(↑b.toNat:Int)) x)
 |none=>none
else none).bind fun i6=>
 some (IntKind.i64.wrap (IntKind.i64.wrap (0+16)+IntKind.i64.wrap i6))
 else
 bif decide (256≤x) then
 (if 0≤IntKind.u8.wrap (x.fdiv (2^min 8 64)) then
 match (ByteArray.mk (([0,1,2,2,3,3,3,3,4,4,4,4,4,4,4,4,5,5,5,5,5,5,5,5,5,5,5,5,5,5,5,5,6,6,6,6,6,6,6,6,6,6,6,6,6,6,6,6,6,6,6,6,6,6,6,6,6,6,6,6,6,6,6,6].append [7,7,7,7,7,7,7,7,7,7,7,7,7,7,7,7,7,7,7,7,7,7,7,7,7,7,7,7,7,7,7,7,7,7,7,7,7,7,7,7,7,7,7,7,7,7,7,7,7,7,7,7,7,7,7,7,7,7,7,7,7,7,7,7]).append ([8,8,8,8,8,8,8,8,8,8,8,8,8,8,8,8,8,8,8,8,8,8,8,8,8,8,8,8,8,8,8,8,8,8,8,8,8,8,8,8,8,8,8,8,8,8,8,8,8,8,8,8,8,8,8,8,8,8,8,8,8,8,8,8].append [8,8,8,8,8,8,8,8,8,8,8,8,8,8,8,8,8,8,8,8,8,8,8,8,8,8,8,8,8,8,8,8,8,8,8,8,8,8,8,8,8,8,8,8,8,8,8,8,8,8,8,8,8,8,8,8,8,8,8,8,8,8,8,8])).toArray)[(IntKind.u8.wrap (x.fdiv (2^min (Int.toNat 8) IntKind.u64.bits))).toNat]? with
 |some x=>some ((fun b=>(↑b.toNat:Int)) x)
 |none=>none
else none).bind fun i7=>
 some (IntKind.i64.wrap (IntKind.i64.wrap (0+8)+IntKind.i64.wrap i7))
 else
 (if 0≤IntKind.u8.wrap x then
 match (ByteArray.mk (([0,1,2,2,3,3,3,3,4,4,4,4,4,4,4,4,5,5,5,5,5,5,5,5,5,5,5,5,5,5,5,5,6,6,6,6,6,6,6,6,6,6,6,6,6,6,6,6,6,6,6,6,6,6,6,6,6,6,6,6,6,6,6,6].append [7,7,7,7,7,7,7,7,7,7,7,7,7,7,7,7,7,7,7,7,7,7,7,7,7,7,7,7,7,7,7,7,7,7,7,7,7,7,7,7,7,7,7,7,7,7,7,7,7,7,7,7,7,7,7,7,7,7,7,7,7,7,7,7]).append ([8,8,8,8,8,8,8,8,8,8,8,8,8,8,8,8,8,8,8,8,8,8,8,8,8,8,8,8,8,8,8,8,8,8,8,8,8,8,8,8,8,8,8,8,8,8,8,8,8,8,8,8,8,8,8,8,8,8,8,8,8,8,8,8].append [8,8,8,8,8,8,8,8,8,8,8,8,8,8,8,8,8,8,8,8,8,8,8,8,8,8,8,8,8,8,8,8,8,8,8,8,8,8,8,8,8,8,8,8,8,8,8,8,8,8,8,8,8,8,8,8,8,8,8,8,8,8,8,8])).toArray)[(IntKind.u8.wrap x).toNat]? with
 |some x=>some ((fun b=>(↑b.toNat:Int)) x)
 |none=>none
else none).bind fun i8=>
 some (IntKind.i64.wrap (0+IntKind.i64.wrap i8))
noncomputable def Go.aa.tW(x:Int):Option Int:=
 (aa.yP x).bind fun i1=>
 some i1
noncomputable def Go.aa.fK(p:aj)(q:aj):Option Int:=
 (aa.jX p q).bind fun (i1,i2)=>
 some i1
noncomputable def Go.aa.qb(x:Int)(y:Int):Option Bool:=
 (aa.jW x).bind fun b1=>
 bif b1 then
 (aa.jW y).bind fun b2=>
 bif !b2 then
 some true
 else
 some (decide (x<y))
 else
 some (decide (x<y))
noncomputable def Go.aa.eK(n:cw)(parts:List Int)(ky:Int):Option Bool:=
 (aa.yQ).bind fun b1=>
 (aa.qO n).bind fun b2=>
 bif b2 then
 (aa.iU n).bind fun b3=>
 bif !b3 then
 some b1
 else
 bif decide ((↑n.aQ.length:Int).toNat*8≤2^47)&&decide ((↑n.aQ.length:Int).toNat<2^62) then
 (aI (ω:=Int×List Int) (fun ((i4,l5):Int×List Int)=>
 bif decide (i4<(↑n.aQ.length:Int)) then
 bif decide (0≤i4) then
 (n.aQ[i4.toNat]?).bind fun i6=>
 bif decide (0≤i4) then
 bif decide (i4.toNat<l5.length) then
 (l5[0+i4.toNat]?).bind fun i7=>
 bif decide ((l5.set (0+i4.toNat) (IntKind.i64.wrap (i6*IntKind.i64.wrap (1+(IntKind.i64.wrap ky).tmod 60)))).length=(List.replicate (↑n.aQ.length:Int).toNat (0:Int)).length) then
 some (Sum.inl (IntKind.i64.wrap (i4+1),l5.set (0+i4.toNat) (IntKind.i64.wrap (i6*IntKind.i64.wrap (1+(IntKind.i64.wrap ky).tmod 60)))))
 else
 none
 else
 none
 else
 none
 else
 none
 else
 bif decide (l5.length=(List.replicate (↑n.aQ.length:Int).toNat (0:Int)).length) then
 some (Sum.inr (i4,l5))
 else
 none) (0,List.replicate (↑n.aQ.length:Int).toNat (0:Int))).bind fun (i8,l9)=>
 bif decide ((↑n.af.length:Int).toNat*8≤2^47)&&decide ((↑n.af.length:Int).toNat<2^62) then
 (aI (ω:=Int×List Int×List Int) (fun ((i10,sM,CA):Int×List Int×List Int)=>
 bif decide (i10<(↑n.af.length:Int)) then
 bif decide (i10<(↑parts.length:Int)) then
 bif decide (0≤i10) then
 (n.aG[i10.toNat]?).bind fun i13=>
 bif decide (0<i13) then
 bif decide (0≤i10) then
 (n.aG[i10.toNat]?).bind fun i14=>
 (aI (ω:=Int×Int) (fun ((i15,i16):Int×Int)=>
 bif decide (0≤i10) then
 (n.af[i10.toNat]?).bind fun l17=>
 bif decide (i16<(↑l17.length:Int)) then
 bif decide (0≤i10) then
 (n.af[i10.toNat]?).bind fun l18=>
 bif decide (0≤i16) then
 (l18[i16.toNat]?).bind fun i19=>
 bif decide (0≤i19) then
 bif decide (i19.toNat<sM.length) then
 (sM[0+i19.toNat]?).bind fun i20=>
 some (Sum.inl (if i20<i15 then i20 else i15,IntKind.i64.wrap (i16+1)))
 else
 none
 else
 none
 else
 none
 else
 none
 else
 some (Sum.inr (i15,i16))
 else
 none) (IntKind.i64.wrap (i14*IntKind.i64.wrap (1+(IntKind.i64.wrap ky).tmod 60)),0)).bind fun (i21,i22)=>
 bif decide (0≤i10) then
 (parts[i10.toNat]?).bind fun i23=>
 bif decide (IntKind.i64.wrap (i21+1)=0) then
 none
 else
 bif decide (0≤i10) then
 bif decide (i10.toNat<CA.length) then
 (CA[0+i10.toNat]?).bind fun i24=>
 (aI (ω:=Int×List Int) (fun ((i25,Qe):Int×List Int)=>
 bif decide (0≤i10) then
 (n.af[i10.toNat]?).bind fun l27=>
 bif decide (i25<(↑l27.length:Int)) then
 bif decide (0≤i10) then
 (n.af[i10.toNat]?).bind fun l28=>
 bif decide (0≤i25) then
 (l28[i25.toNat]?).bind fun i29=>
 bif decide (0≤i29) then
 bif decide (i29.toNat<Qe.length) then
 (Qe[0+i29.toNat]?).bind fun i30=>
 bif decide (0≤i10) then
 bif decide (i10.toNat<(CA.set (0+i10.toNat) ((IntKind.i64.wrap i23).tmod (IntKind.i64.wrap (i21+1)))).length) then
 ((CA.set (0+i10.toNat) ((IntKind.i64.wrap i23).tmod (IntKind.i64.wrap (i21+1))))[0+i10.toNat]?).bind fun i31=>
 bif decide (0≤i29) then
 bif decide (i29.toNat<Qe.length) then
 (Qe[0+i29.toNat]?).bind fun i32=>
 bif decide ((Qe.set (0+i29.toNat) (IntKind.i64.wrap (i30-i31))).length=sM.length) then
 some (Sum.inl (IntKind.i64.wrap (i25+1),Qe.set (0+i29.toNat) (IntKind.i64.wrap (i30-i31))))
 else
 none
 else
 none
 else
 none
 else
 none
 else
 none
 else
 none
 else
 none
 else
 none
 else
 none
 else
 bif decide (Qe.length=sM.length) then
 some (Sum.inr (i25,Qe))
 else
 none
 else
 none) (0,sM)).bind fun (i33,qg)=>
 bif decide (qg.length=l9.length) then
 bif decide ((CA.set (0+i10.toNat) ((IntKind.i64.wrap i23).tmod (IntKind.i64.wrap (i21+1)))).length=(List.replicate (↑n.af.length:Int).toNat (0:Int)).length) then
 some (Sum.inl (IntKind.i64.wrap (i10+1),qg,CA.set (0+i10.toNat) ((IntKind.i64.wrap i23).tmod (IntKind.i64.wrap (i21+1)))))
 else
 none
 else
 none
 else
 none
 else
 none
 else
 none
 else
 none
 else
 (aI (ω:=Int×Int) (fun ((i35,i36):Int×Int)=>
 bif decide (0≤i10) then
 (n.af[i10.toNat]?).bind fun O1=>
 bif decide (i36<(↑O1.length:Int)) then
 bif decide (0≤i10) then
 (n.af[i10.toNat]?).bind fun l38=>
 bif decide (0≤i36) then
 (l38[i36.toNat]?).bind fun i39=>
 bif decide (0≤i39) then
 bif decide (i39.toNat<sM.length) then
 (sM[0+i39.toNat]?).bind fun i40=>
 some (Sum.inl (if i40<i35 then i40 else i35,IntKind.i64.wrap (i36+1)))
 else
 none
 else
 none
 else
 none
 else
 none
 else
 some (Sum.inr (i35,i36))
 else
 none) (IntKind.i64.wrap (1000*IntKind.i64.wrap (1+(IntKind.i64.wrap ky).tmod 60)),0)).bind fun (i41,i42)=>
 bif decide (0≤i10) then
 (parts[i10.toNat]?).bind fun i43=>
 bif decide (IntKind.i64.wrap (i41+1)=0) then
 none
 else
 bif decide (0≤i10) then
 bif decide (i10.toNat<CA.length) then
 (CA[0+i10.toNat]?).bind fun i44=>
 (aI (ω:=Int×List Int) (fun ((i45,Qg):Int×List Int)=>
 bif decide (0≤i10) then
 (n.af[i10.toNat]?).bind fun l47=>
 bif decide (i45<(↑l47.length:Int)) then
 bif decide (0≤i10) then
 (n.af[i10.toNat]?).bind fun OZ=>
 bif decide (0≤i45) then
 (OZ[i45.toNat]?).bind fun i49=>
 bif decide (0≤i49) then
 bif decide (i49.toNat<Qg.length) then
 (Qg[0+i49.toNat]?).bind fun i50=>
 bif decide (0≤i10) then
 bif decide (i10.toNat<(CA.set (0+i10.toNat) ((IntKind.i64.wrap i43).tmod (IntKind.i64.wrap (i41+1)))).length) then
 ((CA.set (0+i10.toNat) ((IntKind.i64.wrap i43).tmod (IntKind.i64.wrap (i41+1))))[0+i10.toNat]?).bind fun i51=>
 bif decide (0≤i49) then
 bif decide (i49.toNat<Qg.length) then
 (Qg[0+i49.toNat]?).bind fun i52=>
 bif decide ((Qg.set (0+i49.toNat) (IntKind.i64.wrap (i50-i51))).length=sM.length) then
 some (Sum.inl (IntKind.i64.wrap (i45+1),Qg.set (0+i49.toNat) (IntKind.i64.wrap (i50-i51))))
 else
 none
 else
 none
 else
 none
 else
 none
 else
 none
 else
 none
 else
 none
 else
 none
 else
 none
 else
 bif decide (Qg.length=sM.length) then
 some (Sum.inr (i45,Qg))
 else
 none
 else
 none) (0,sM)).bind fun (i53,Ma)=>
 bif decide (Ma.length=l9.length) then
 bif decide ((CA.set (0+i10.toNat) ((IntKind.i64.wrap i43).tmod (IntKind.i64.wrap (i41+1)))).length=(List.replicate (↑n.af.length:Int).toNat (0:Int)).length) then
 some (Sum.inl (IntKind.i64.wrap (i10+1),Ma,CA.set (0+i10.toNat) ((IntKind.i64.wrap i43).tmod (IntKind.i64.wrap (i41+1)))))
 else
 none
 else
 none
 else
 none
 else
 none
 else
 none
 else
 none
 else
 bif decide (sM.length=l9.length) then
 bif decide (CA.length=(List.replicate (↑n.af.length:Int).toNat (0:Int)).length) then
 some (Sum.inr (i10,sM,CA))
 else
 none
 else
 none
 else
 bif decide (sM.length=l9.length) then
 bif decide (CA.length=(List.replicate (↑n.af.length:Int).toNat (0:Int)).length) then
 some (Sum.inr (i10,sM,CA))
 else
 none
 else
 none) (0,l9,List.replicate (↑n.af.length:Int).toNat (0:Int))).bind fun (i55,l56,T9)=>
 (aa.gK n).bind fun (Z4,i59)=>
 bif !i59==0 then
 some false
 else
 bif !(↑Z4.length:Int)==(↑T9.length:Int) then
 some false
 else
 (aa.jv Z4).bind fun Rz=>
 (aa.tW (IntKind.u64.wrap (↑Rz.length:Int))).bind fun i61=>
 (aI (ω:=List aj) (fun ((i62,i63,b64,b65,i66,XE):Int×Int×Bool×Bool×Int×List aj)=>
 bif decide (IntKind.i64.wrap (i66-i63)≤12) then
 (aI (ω:=Int×List aj) (fun ((i68,SI):Int×List aj)=>
 bif decide (i68<i66) then
 (aI (ω:=Int×List aj) (fun ((i70,CB):Int×List aj)=>
 bif decide (i63<i70) then
 bif decide (0≤i70) then
 bif decide (i70.toNat<CB.length) then
 (CB[0+i70.toNat]?).bind fun q72=>
 bif decide (0≤IntKind.i64.wrap (i70-1)) then
 bif decide ((IntKind.i64.wrap (i70-1)).toNat<CB.length) then
 (CB[0+(IntKind.i64.wrap (i70-1)).toNat]?).bind fun q73=>
 (aa.fK q72 q73).bind fun i74=>
 bif decide (i74<0) then
 bif decide (0≤IntKind.i64.wrap (i70-1)) then
 bif decide ((IntKind.i64.wrap (i70-1)).toNat<CB.length) then
 (CB[0+(IntKind.i64.wrap (i70-1)).toNat]?).bind fun V2=>
 bif decide (0≤i70) then
 bif decide (i70.toNat<CB.length) then
 (CB[0+i70.toNat]?).bind fun Z5=>
 bif decide (0≤i70) then
 bif decide (i70.toNat<CB.length) then
 (CB[0+i70.toNat]?).bind fun q77=>
 bif decide (0≤IntKind.i64.wrap (i70-1)) then
 bif decide ((IntKind.i64.wrap (i70-1)).toNat<(CB.set (0+i70.toNat) V2).length) then
 ((CB.set (0+i70.toNat) V2)[0+(IntKind.i64.wrap (i70-1)).toNat]?).bind fun q78=>
 bif decide (((CB.set (0+i70.toNat) V2).set (0+(IntKind.i64.wrap (i70-1)).toNat) Z5).length=SI.length) then
 some (Sum.inl (IntKind.i64.wrap (i70-1),(CB.set (0+i70.toNat) V2).set (0+(IntKind.i64.wrap (i70-1)).toNat) Z5))
 else
 none
 else
 none
 else
 none
 else
 none
 else
 none
 else
 none
 else
 none
 else
 none
 else
 none
 else
 bif decide (CB.length=SI.length) then
 some (Sum.inr (i70,CB))
 else
 none
 else
 none
 else
 none
 else
 none
 else
 none
 else
 bif decide (CB.length=SI.length) then
 some (Sum.inr (i70,CB))
 else
 none) (i68,SI)).bind fun (i79,Z6)=>
 bif decide (Z6.length=XE.length) then
 some (Sum.inl (IntKind.i64.wrap (i68+1),Z6))
 else
 none
 else
 bif decide (SI.length=XE.length) then
 some (Sum.inr (i68,SI))
 else
 none) (IntKind.i64.wrap (i63+1),XE)).bind fun (i81,Z7)=>
 bif decide (Z7.length=Rz.length) then
 some (Sum.inr Z7)
 else
 none
 else
 bif i62==0 then
 none
 else
 bif !b65 then
 none
 else
 none) (i61,0,true,true,(↑Rz.length:Int),Rz)).bind fun XF=>
 (aa.tW (IntKind.u64.wrap (↑T9.length:Int))).bind fun i84=>
 (aI (ω:=List Int) (fun ((i85,i86,b87,b88,i89,XG):Int×Int×Bool×Bool×Int×List Int)=>
 bif decide (IntKind.i64.wrap (i89-i86)≤12) then
 (aI (ω:=Int×List Int) (fun ((i91,SJ):Int×List Int)=>
 bif decide (i91<i89) then
 (aI (ω:=Int×List Int) (fun ((i93,CC):Int×List Int)=>
 bif decide (i86<i93) then
 bif decide (0≤i93) then
 bif decide (i93.toNat<CC.length) then
 (CC[0+i93.toNat]?).bind fun i95=>
 bif decide (0≤IntKind.i64.wrap (i93-1)) then
 bif decide ((IntKind.i64.wrap (i93-1)).toNat<CC.length) then
 (CC[0+(IntKind.i64.wrap (i93-1)).toNat]?).bind fun i96=>
 (aa.qb i95 i96).bind fun b97=>
 bif b97 then
 bif decide (0≤IntKind.i64.wrap (i93-1)) then
 bif decide ((IntKind.i64.wrap (i93-1)).toNat<CC.length) then
 (CC[0+(IntKind.i64.wrap (i93-1)).toNat]?).bind fun i98=>
 bif decide (0≤i93) then
 bif decide (i93.toNat<CC.length) then
 (CC[0+i93.toNat]?).bind fun i99=>
 bif decide (0≤i93) then
 bif decide (i93.toNat<CC.length) then
 (CC[0+i93.toNat]?).bind fun i100=>
 bif decide (0≤IntKind.i64.wrap (i93-1)) then
 bif decide ((IntKind.i64.wrap (i93-1)).toNat<(CC.set (0+i93.toNat) i98).length) then
 ((CC.set (0+i93.toNat) i98)[0+(IntKind.i64.wrap (i93-1)).toNat]?).bind fun i101=>
 bif decide (((CC.set (0+i93.toNat) i98).set (0+(IntKind.i64.wrap (i93-1)).toNat) i99).length=SJ.length) then
 some (Sum.inl (IntKind.i64.wrap (i93-1),(CC.set (0+i93.toNat) i98).set (0+(IntKind.i64.wrap (i93-1)).toNat) i99))
 else
 none
 else
 none
 else
 none
 else
 none
 else
 none
 else
 none
 else
 none
 else
 none
 else
 none
 else
 bif decide (CC.length=SJ.length) then
 some (Sum.inr (i93,CC))
 else
 none
 else
 none
 else
 none
 else
 none
 else
 none
 else
 bif decide (CC.length=SJ.length) then
 some (Sum.inr (i93,CC))
 else
 none) (i91,SJ)).bind fun (i102,Ua)=>
 bif decide (Ua.length=XG.length) then
 some (Sum.inl (IntKind.i64.wrap (i91+1),Ua))
 else
 none
 else
 bif decide (SJ.length=XG.length) then
 some (Sum.inr (i91,SJ))
 else
 none) (IntKind.i64.wrap (i86+1),XG)).bind fun (i104,Ub)=>
 bif decide (Ub.length=T9.length) then
 some (Sum.inr Ub)
 else
 none
 else
 bif i85==0 then
 none
 else
 bif !b88 then
 none
 else
 none) (i84,0,true,true,(↑T9.length:Int),T9)).bind fun Uc=>
 (aI (ω:=Bool ⊕ Bool×Int) (fun ((LR,i108):Bool×Int)=>
 bif decide (i108<(↑XF.length:Int)) then
 bif decide (0≤i108) then
 bif decide (i108.toNat<XF.length) then
 (XF[0+i108.toNat]?).bind fun Ro=>
 bif decide (0≤i108) then
 bif decide (i108.toNat<Uc.length) then
 (Uc[0+i108.toNat]?).bind fun i110=>
 (aa.gh Ro i110 (IntKind.i64.wrap (1+(IntKind.i64.wrap ky).tmod 60))).bind fun i111=>
 bif !i111==0 then
 bif b1 then
 some (Sum.inr (Sum.inl (decide (0<i111))))
 else
 some (Sum.inr (Sum.inl false))
 else
 some (Sum.inl (LR,IntKind.i64.wrap (i108+1)))
 else
 none
 else
 none
 else
 none
 else
 none
 else
 some (Sum.inr (Sum.inr (LR,i108)))) (false,0)).bind fun XH=>
 Sum.elim (fun XI=>
 some XI) (fun (acs,i115)=>
 some b1) XH
 else
 none
 else
 none
 else
 some b1
namespace Go.Proofs.Ytedjbjphpnkpoaa
noncomputable def hints:List (Nat×Nat×Hint):=[(43,2,⟨[(4,.val 4),(5,.val 3)],[6,7,8,9,12,13,14,15,16,17,18,19,20,21,22,23,24,25,26,27,28,29,30,31,32,33,34,35,36,37,38,39,40,10,11],[],[⟨none,[(4,.val 4)],[],[],[]⟩,⟨some 0,[(4,.val 4),(5,.val 3)],[],[],[]⟩]⟩),(18,1004,⟨[(2,.val 4),(3,.val 3)],[25,26,27,28,29,32,33,34,35,36,37,38,39,40,41,42,43,44,45,30,31],[],[⟨none,[(2,.val 4)],[],[],[]⟩,⟨some 0,[(2,.val 4),(3,.val 3)],[],[],[]⟩]⟩),(18,1009,⟨[(2,.val 4),(4,.val 3)],[46,47,48,49,50,53,54,55,56,57,58,59,60,61,5,62,63,64,65,66,67,68,69,70,71,72,73,74,75,76,77,78,79,51,52],[],[⟨none,[(2,.val 4)],[],[],[]⟩,⟨some 2,[(2,.val 4),(4,.val 3)],[],[],[]⟩]⟩),(32,2,⟨[(4,.val 4),(5,.val 3)],[6,7,8,9,12,13,14,15,16,17,10,11],[],[⟨none,[(4,.val 4)],[],[],[]⟩,⟨some 0,[(4,.val 4),(5,.val 3)],[],[],[]⟩]⟩),(59,1,⟨[(0,.val 3),(1,.val 3)],[6,7,8,9,10,5,11,12],[],[⟨some 0,[(0,.val 3),(1,.val 3)],[],[],[]⟩]⟩),(31,3004,⟨[(11,.val 3),(12,.val 3)],[20,21,22,23,24,27,28,29,30,31,32,33,13,34,35,36,37,38,39,40,42,43,44,45,46,47,41,48,49,50,51,52,53,54,55,56,57,58,59,25,26],[(2,.agg [.val 2,.val 2])],[⟨some 0,[(11,.val 3),(12,.val 3)],[],[],[]⟩]⟩),(13,5012,⟨[(9,.val 3),(11,.val 3)],[40,41,42,43,44,48,49,50,51,52,47,53,54,12,13,56,57,58,55,59,60,14,15,61,62,63,64,65,66,67,68,45,46],[(4,.agg [.val 2,.val 2])],[⟨some 2,[(9,.val 3),(11,.val 3)],[],[],[]⟩]⟩),(13,5020,⟨[(10,.val 3),(9,.val 3),(16,.val 3)],[69,70,71,72,73,76,77,78,79,80,81,17,83,84,85,82,86,87,18,19,88,89,90,91,92,93,94,95,96,97,98,99,100,101,102,103,104,105,106,74,75],[(4,.agg [.val 2,.val 2])],[⟨some 4,[(10,.val 3),(9,.val 3),(16,.val 3)],[],[],[]⟩]⟩),(13,5029,⟨[(7,.val 3),(20,.val 3)],[107,108,109,110,111,114,115,116,117,118,119,120,121,122,123,124,21,125,126,127,128,129,130,131,132,133,134,135,136,137,138,139,140,141,142,143,144,145,146,147,148,149,150,112,113],[(2,.fix 35),(3,.fix 4)],[⟨some 6,[(7,.val 3),(20,.val 3)],[],[],[]⟩]⟩),(13,4007,⟨[(7,.val 3)],[37,38,39,8,9,10,11,40,41,42,43,44,48,49,50,51,52,47,53,54,12,13,56,57,58,55,59,60,14,15,61,62,63,64,65,66,67,68,45,46,16,69,70,71,72,73,76,77,78,79,80,81,17,83,84,85,82,86,87,18,19,88,89,90,91,92,93,94,95,96,97,98,99,100,101,102,103,104,105,106,74,75,20,107,108,109,110,111,114,115,116,117,118,119,120,121,122,123,124,21,125,126,127,128,129,130,131,132,133,134,135,136,137,138,139,140,141,142,143,144,145,146,147,148,149,150,112,113],[(2,.fix 35),(3,.fix 4)],[⟨some 0,[(7,.val 3)],[],[],[]⟩]⟩),(56,7001,⟨[(12,.val 3)],[13,14,15,16,4,5,17,18,19,20,21,22,23,24,25,26],[(3,.one (.val 2)),(2,.agg [.val 2,.val 2])],[⟨some 0,[(12,.val 3)],[],[(6,.ready)],[]⟩]⟩),(15,2004,⟨[(4,.val 4),(30,.val 3)],[31,32,33,34,6,5,35,36,37,38,39,40,41,42,43,44,45,46,47,48,49,50,51,52,53,54,55,56,57,58,59,60,61],[],[⟨none,[(4,.val 4)],[.ij],[],[]⟩,⟨some 0,[(4,.val 4),(30,.val 3)],[],[],[]⟩]⟩),(15,6012,⟨[(72,.val 3)],[73,74,75,76,9,10,77,78,79,80,81,82,83,84,85,86,87,88,89,90,91],[(4,.fix 4)],[⟨some 2,[(72,.val 3)],[],[],[]⟩]⟩),(56,16001,⟨[(12,.val 3)],[13,14,15,16,4,5,17,18,19,20,21,22,23,24,25,26],[(12,.one (.val 4))],[⟨some 0,[(12,.val 3)],[],[(15,.ready),(10,.busy)],[]⟩]⟩),(56,11001,⟨[(12,.val 3)],[13,14,15,16,4,5,17,18,19,20,21,22,23,24,25,26],[(4,.fix 4)],[⟨some 0,[(12,.val 3)],[],[(10,.ready)],[]⟩]⟩),(15,6017,⟨[(4,.val 4),(95,.val 3)],[96,97,11,99,100,101,98,102,103,12,13,104,105,106,107,108,147],[(4,.fix 4)],[⟨none,[(4,.val 4)],[.ij,.ij],[],[]⟩,⟨some 4,[(4,.val 4),(95,.val 3)],[],[],[]⟩]⟩),(22,3003,⟨[(7,.val 4),(9,.val 3)],[14,15,16,17,18,21,22,23,24,25,26,27,10,28,30,31,32,33,34,35,29,36,37,11,12,38,39,40,41,19,20],[(2,.agg [.val 2,.val 2])],[⟨none,[(7,.val 4)],[.ij],[],[(1,.agg [.val 2,.val 2])]⟩,⟨some 0,[(7,.val 4),(9,.val 3)],[],[],[]⟩]⟩),(39,2003,⟨[(8,.val 4),(11,.val 3)],[22,23,24,25,26,29,30,31,32,33,34,35,12,37,38,39,40,41,42,43,44,45,36,46,47,13,14,48,49,50,51,52,27,28],[],[⟨none,[(8,.val 4)],[],[],[]⟩,⟨some 0,[(8,.val 4),(11,.val 3)],[],[],[]⟩]⟩),(16,1005,⟨[(4,.val 4),(6,.val 3)],[26,27,28,29,32,33,34,35,36,7,37,38,39,40,41,42,43,44,45,46,47,48,49,50,51,52,53,54,55,56,57,58,59,60,61,62,63,64,65,66,67,68,69,70,71,72,73,30,31],[],[⟨none,[(4,.val 4)],[],[],[]⟩,⟨some 0,[(4,.val 4),(6,.val 3)],[],[],[]⟩]⟩),(16,1011,⟨[(4,.val 4),(8,.val 3)],[74,75,76,77,78,82,83,84,85,81,86,87,9,10,88,89,90,91,92,93,94,95,96,97,98,99,100,101,102,79,80],[],[⟨none,[(4,.val 4)],[.ij],[],[]⟩,⟨some 2,[(4,.val 4),(8,.val 3)],[],[],[]⟩]⟩),(16,1021,⟨[(12,.val 4),(13,.val 3)],[136,137,138,139,140,141,142,143,144,145,146,147,150,151,152,153,154,155,156,157,158,159,160,161,148,149],[],[⟨some 6,[(12,.val 4),(13,.val 3)],[],[],[]⟩]⟩),(16,1017,⟨[(4,.val 4),(11,.val 3)],[103,104,105,106,109,110,111,112,113,114,115,116,117,118,119,120,121,122,123,124,125,126,127,128,129,130,131,132,133,134,135,12,13,136,137,138,139,140,141,142,143,144,145,146,147,150,151,152,153,154,155,156,157,158,159,160,161,148,149,162,163,107,108],[],[⟨none,[(4,.val 4)],[],[],[]⟩,⟨some 4,[(4,.val 4),(11,.val 3)],[],[],[]⟩]⟩),(11,1002,⟨[(2,.val 4),(3,.val 3)],[4,5,6,7,8,9,10,11,12,15,16,17,18,19,20,21,13,14],[],[⟨none,[(2,.val 4)],[],[],[]⟩,⟨some 0,[(2,.val 4),(3,.val 3)],[],[],[]⟩]⟩),(14,4,⟨[(4,.val 4),(5,.val 3)],[11,12,13,14,17,18,19,20,21,22,23,24,25,15,16],[],[⟨none,[(4,.val 4)],[],[],[]⟩,⟨some 0,[(4,.val 4),(5,.val 3)],[],[],[]⟩]⟩),(86,2,⟨[(4,.val 3),(8,.val 3)],[9,10,5,11,12,13,14,15,16,17,18],[],[⟨none,[(4,.val 3)],[],[],[]⟩,⟨some 0,[(4,.val 3),(8,.val 3)],[],[],[]⟩]⟩),(42,2,⟨[(4,.val 4),(9,.val 3)],[10,11,12,13,5,6,14,15,16,17,18,19,20,21,22,23,24,25,26,27,28,29,30,31,32],[],[⟨none,[(4,.val 4)],[],[],[]⟩,⟨some 0,[(4,.val 4),(9,.val 3)],[],[],[]⟩]⟩),(17,2004,⟨[(2,.val 4),(33,.val 3)],[34,35,36,4,37,38,39,40],[],[⟨none,[(2,.val 4)],[],[],[]⟩,⟨some 0,[(2,.val 4),(33,.val 3)],[],[],[]⟩]⟩),(17,2010,⟨[(2,.val 4),(44,.val 3)],[45,46,47,6,48,49,50,51,52,53,54],[],[⟨none,[(2,.val 4)],[],[],[]⟩,⟨some 2,[(2,.val 4),(44,.val 3)],[],[],[]⟩]⟩),(48,2,⟨[(4,.val 3),(8,.val 3)],[9,10,5,11,12,13,14,15,16,17,18],[],[⟨none,[(4,.val 3)],[],[],[]⟩,⟨some 0,[(4,.val 3),(8,.val 3)],[],[],[]⟩]⟩),(12,6006,⟨[(5,.own 1 5),(25,.val 3)],[26,27,6,28,29,30,31,32,33],[(5,.list 82)],[⟨some 0,[(5,.own 1 5),(25,.val 3)],[],[],[]⟩]⟩),(12,6011,⟨[(5,.own 1 5),(37,.val 3)],[38,39,7,40,41,42,43,44,45],[(5,.list 82)],[⟨some 2,[(5,.own 1 5),(37,.val 3)],[],[],[]⟩]⟩),(30,8003,⟨[(4,.own 2 6),(5,.own 1 7),(19,.val 3)],[20,21,22,7,24,25,26,23,27,28,8,9,29,30,31,32,33,34,35,36,37,38],[(6,.list 35),(7,.list 82)],[⟨some 0,[(4,.own 2 6),(5,.own 1 7),(19,.val 3)],[],[],[]⟩]⟩),(49,10003,⟨[(13,.val 3)],[14,15,16,7,17,18,19,20,21,22],[(9,.agg [.val 2,.val 2])],[⟨some 0,[(13,.val 3)],[],[],[]⟩]⟩),(30,10015,⟨[(11,.own 1 9),(54,.val 3)],[55,56,14,57,58,59,60,61,62,63,64,65,66,67,68,69,70,71,72,73,74,75,76,77,78,79,80,81,82,83],[(9,.list 3)],[⟨some 4,[(11,.own 1 9),(54,.val 3)],[],[],[]⟩]⟩),(30,10012,⟨[(11,.own 1 9),(43,.val 3)],[44,45,46,47,12,13,48,49,50,51,52,53,54,55,56,14,57,58,59,60,61,62,63,64,65,66,67,68,69,70,71,72,73,74,75,76,77,78,79,80,81,82,83,84],[(9,.list 3)],[⟨some 2,[(11,.own 1 9),(43,.val 3)],[],[],[]⟩]⟩),(30,10022,⟨[(87,.val 3)],[88,89,90,16,91,92,93,94,95,96,97,98,99,100,101,102,103,104],[(3,.fix 35),(2,.fix 4)],[⟨some 6,[(87,.val 3)],[],[],[]⟩]⟩),(12,6015,⟨[],[46,47,48,49,50,51,52,53],[(3,.fix 35),(2,.fix 4)],[⟨some 4,[],[],[],[]⟩]⟩),(19,3003,⟨[(8,.val 3)],[18,19,20,21,22,25,26,27,28,29,30,31,32,33,34,23,24],[(2,.fix 3)],[⟨some 0,[(8,.val 3)],[],[],[]⟩]⟩),(19,4014,⟨[(11,.val 3),(12,.val 3)],[67,68,69,70,71,72,73,74,77,78,79,80,81,82,83,84,85,86,87,88,89,75,76],[],[⟨some 4,[(11,.val 3),(12,.val 3)],[],[],[]⟩]⟩),(19,4019,⟨[(13,.val 3)],[101,102,103,104,105,106,107,108,111,112,113,114,115,116,117,118,119,120,121,122,123,124,125,126,127,109,110],[(2,.fix 3)],[⟨some 6,[(13,.val 3)],[],[],[]⟩]⟩),(19,4008,⟨[(10,.val 3)],[39,40,41,42,43,44,45,46,47,48,49,52,53,11,54,55,56,57,58,59,60,61,62,63,64,65,66,12,67,68,69,70,71,72,73,74,77,78,79,80,81,82,83,84,85,86,87,88,89,75,76,90,91,92,93,94,95,96,97,98,99,100,13,101,102,103,104,105,106,107,108,111,112,113,114,115,116,117,118,119,120,121,122,123,124,125,126,127,109,110,50,51],[(2,.fix 3),(3,.fix 3)],[⟨some 2,[(10,.val 3)],[],[],[]⟩]⟩),(5,1017,⟨[(15,.val 4),(16,.val 3)],[69,70,71,72,76,77,78,79,80,81,82,83,84,75,85,86,17,18,87,88,89,90,91,92,93,94,95,96,97,98,99,100,101,102,103,104,73,74],[],[⟨some 2,[(15,.val 4),(16,.val 3)],[],[],[]⟩]⟩),(5,1012,⟨[(7,.val 4),(14,.val 3)],[52,53,54,55,58,59,60,61,62,63,64,65,66,67,68,15,16,69,70,71,72,76,77,78,79,80,81,82,83,84,75,85,86,17,18,87,88,89,90,91,92,93,94,95,96,97,98,99,100,101,102,103,104,73,74,105,106,107,108,56,57],[],[⟨some 0,[(7,.val 4),(14,.val 3)],[],[],[]⟩]⟩),(7,6016,⟨[(18,.val 3)],[123,124,125,126,130,131,132,133,134,135,129,136,137,19,20,139,140,141,142,143,144,138,145,146,21,22,147,148,149,150,151,152,153,154,155,156,157,158,127,128],[(5,.agg [.val 2,.val 2]),(4,.agg [.val 2,.val 2])],[⟨some 0,[(18,.val 3)],[],[],[]⟩]⟩),(8,2008,⟨[(7,.val 3)],[31,32,35,36,37,38,39,40,41,42,43,44,33,34],[(1,.agg [.val 22,.val 23,.val 22])],[⟨some 0,[(7,.val 3)],[],[],[]⟩]⟩),(8,3016,⟨[(9,.own 1 2),(10,.val 3)],[60,61,64,65,66,67,68,69,70,71,72,73,74,75,76,77,78,79,62,63],[(2,.list 3)],[⟨some 4,[(9,.own 1 2),(10,.val 3)],[],[],[]⟩]⟩),(8,2012,⟨[(8,.val 3)],[49,50,9,53,54,55,56,57,58,59,10,60,61,64,65,66,67,68,69,70,71,72,73,74,75,76,77,78,79,62,63,80,81,82,83,84,85,86,87,88,89,90,91,92,93,94,95,51,52],[],[⟨some 2,[(8,.val 3)],[],[],[]⟩]⟩),(8,2026,⟨[(3,.val 4),(15,.val 3)],[127,128,129,130,133,134,135,136,137,138,139,140,141,142,143,144,145,146,147,148,131,132],[],[⟨some 6,[(3,.val 4),(15,.val 3)],[],[],[]⟩]⟩),(4,1010,⟨[(5,.val 4),(12,.val 3)],[40,41,42,43,46,47,48,49,50,51,52,53,54,55,56,57,58,59,60,61,62,44,45],[],[⟨some 0,[(5,.val 4),(12,.val 3)],[],[],[]⟩]⟩),(6,4008,⟨[(9,.val 3)],[39,40,41,42,43,46,47,48,49,50,51,52,53,54,55,56,57,44,45],[(3,.agg [.own 1 1,.val 23,.own 1 2]),(1,.list 3),(2,.list 3)],[⟨some 0,[(9,.val 3)],[],[],[]⟩]⟩),(6,4012,⟨[(10,.val 3)],[58,59,60,61,62,65,66,67,68,69,70,71,72,73,74,75,76,63,64],[(3,.agg [.own 1 1,.val 23,.own 1 2]),(1,.list 3),(2,.list 3)],[⟨some 2,[(10,.val 3)],[],[],[]⟩]⟩),(6,4023,⟨[(5,.val 4),(16,.val 3)],[105,106,107,108,111,112,113,114,115,116,117,118,119,120,121,122,123,124,125,126,127,128,129,130,131,132,133,134,135,136,137,138,109,110],[],[⟨some 4,[(5,.val 4),(16,.val 3)],[],[],[]⟩]⟩),(19,4003,⟨[(8,.val 3)],[18,19,20,21,22,25,26,27,28,29,30,31,32,33,34,23,24],[(3,.fix 3)],[⟨some 0,[(8,.val 3)],[],[],[]⟩]⟩),(19,5014,⟨[(11,.val 3),(12,.val 3)],[67,68,69,70,71,72,73,74,77,78,79,80,81,82,83,84,85,86,87,88,89,75,76],[],[⟨some 4,[(11,.val 3),(12,.val 3)],[],[],[]⟩]⟩),(19,5019,⟨[(13,.val 3)],[101,102,103,104,105,106,107,108,111,112,113,114,115,116,117,118,119,120,121,122,123,124,125,126,127,109,110],[(3,.fix 3)],[⟨some 6,[(13,.val 3)],[],[],[]⟩]⟩),(19,5008,⟨[(10,.val 3)],[39,40,41,42,43,44,45,46,47,48,49,52,53,11,54,55,56,57,58,59,60,61,62,63,64,65,66,12,67,68,69,70,71,72,73,74,77,78,79,80,81,82,83,84,85,86,87,88,89,75,76,90,91,92,93,94,95,96,97,98,99,100,13,101,102,103,104,105,106,107,108,111,112,113,114,115,116,117,118,119,120,121,122,123,124,125,126,127,109,110,50,51],[(3,.fix 3),(4,.fix 3)],[⟨some 2,[(10,.val 3)],[],[],[]⟩]⟩),(63,6004,⟨[(9,.val 3)],[18,19,20,21,22,23,24,25,26,27,28,29,30,31,32,33,34,37,38,39,40,41,42,43,44,45,46,47,48,49,50,51,52,35,36],[(5,.fix 35)],[⟨some 2,[(9,.val 3)],[],[],[]⟩]⟩),(63,6001,⟨[(8,.val 3)],[12,13,14,17,9,18,19,20,21,22,23,24,25,26,27,28,29,30,31,32,33,34,37,38,39,40,41,42,43,44,45,46,47,48,49,50,51,52,35,36,15,16],[(5,.fix 35)],[⟨some 0,[(8,.val 3)],[],[],[]⟩]⟩),(45,6002,⟨[(3,.val 3),(1,.val 3),(11,.val 4),(10,.val 4),(2,.val 3)],[21,22,23,12,24,25,26,27,28,29,30,31,32,33,34,35,36,37,38,39,40,41,42,43,44,45,46,48,49,50,51,52,47,53,54,13,14,55,56,57,58,59,60,61,62,63,64,65,66,67,68,69,70,71,72,73,74,75,76,77,78,79,80,81,82,83,84,85,86,87,88,89,90,91,92,93,94,95,96,97,98,99,100,101,102,103,15,104,106,107,108,109,110,111,105,112,113,16,17,114,115,116,117,118,119,120,18,19,121,122,20,123,124,125,126,127,128,129,130,131,132,133,134,135,136,137,138,139,140,141,142,143,144,145,146,147],[(5,.fix 35)],[⟨none,[],[],[],[]⟩]⟩),(73,6004,⟨[(7,.val 3)],[16,17,18,19,20,21,22,23,24,25,26,27,28,29,30,33,34,35,36,37,38,39,40,41,42,43,44,45,46,47,48,31,32],[(4,.fix 3)],[⟨some 2,[(7,.val 3)],[],[],[]⟩]⟩),(73,6001,⟨[(6,.val 3)],[10,11,12,15,7,16,17,18,19,20,21,22,23,24,25,26,27,28,29,30,33,34,35,36,37,38,39,40,41,42,43,44,45,46,47,48,31,32,13,14],[(4,.fix 3)],[⟨some 0,[(6,.val 3)],[],[],[]⟩]⟩),(47,6002,⟨[(3,.val 3),(1,.val 3),(9,.val 4),(8,.val 4),(2,.val 3)],[19,20,21,10,22,23,24,25,26,27,28,29,30,31,32,33,34,35,36,37,38,39,40,41,43,44,45,46,42,47,48,11,12,49,50,51,52,53,54,55,56,57,58,59,60,61,62,63,64,65,66,67,68,69,70,71,72,73,74,75,76,77,78,79,80,81,82,83,84,85,86,87,88,89,90,91,92,13,93,95,96,97,98,99,94,100,101,14,15,102,103,104,105,106,107,108,16,17,109,110,18,111,112,113,114,115,116,117,118,119,120,121,122,123,124,125,126,127,128,129,130,131,132,133],[(4,.fix 3)],[⟨none,[],[],[],[]⟩]⟩),(9,6015,⟨[(6,.val 4),(15,.val 3)],[56,57,58,59,62,63,64,65,66,67,68,69,70,71,16,72,73,74,75,76,77,78,60,61],[],[⟨none,[(6,.val 4)],[],[],[]⟩,⟨some 0,[(6,.val 4),(15,.val 3)],[],[],[]⟩]⟩)]
noncomputable def RA:List (Nat×Nat×Hint):=[(56,7001,⟨[(12,.val 3)],[13,14,15,16,4,5,17,18,19,20,21,22,23,24,25,26],[(3,.agg [.val 2,.val 2])],[⟨none,[],[],[(6,.jump none)],[(2,.one (.val 4)),(1,.agg [.val 2,.val 2])]⟩,⟨some 0,[(12,.val 3)],[],[(6,.ready)],[]⟩]⟩)]
def vg:FuncId→Nat→Bool:=fun f _=>Nat.beq f 10
noncomputable def XJ:List (Nat×vf T):=[(41,⟨[3,3,3],[4],fun x=>Go.aa.n5 x.1 x.2.1 x.2.2⟩),
 (42,⟨[22,3],[4],fun x=>Go.aa.kn x.1 x.2⟩),
 (40,⟨[23],[22],fun x=>Go.aa.ig x⟩),
 (17,⟨[25],[4],fun x=>Go.aa.ju x⟩),
 (48,⟨[53,4],[3],fun x=>Go.aa.oE x.1 x.2⟩),
 (29,⟨[53,4],[4],fun x=>Go.aa.fu x.1 x.2⟩),
 (52,⟨[87],[4],fun x=>Go.aa.bP x⟩),
 (82,⟨[3,3],[3],fun x=>Go.aa.km x.1 x.2⟩),
 (53,⟨[87],[87],fun x=>Go.aa.cU x⟩),
 (33,⟨[35],[4],fun x=>Go.aa.cO x⟩),
 (95,⟨[3],[4],fun x=>Go.aa.jW x⟩),
 (83,⟨[3,3],[3],fun x=>Go.aa.p9 x.1 x.2⟩),
 (54,⟨[35,35],[3,29],fun x=>Go.aa.qN x.1 x.2⟩),
 (34,⟨[35,35],[4],fun x=>Go.aa.gg x.1 x.2⟩),
 (43,⟨[22,3],[4],fun x=>Go.aa.oD x.1 x.2⟩),
 (18,⟨[25],[4],fun x=>Go.aa.iU x⟩),
 (32,⟨[22,3],[4],fun x=>Go.aa.qf x.1 x.2⟩),
 (58,⟨[3,3],[4],fun x=>Go.aa.mc x.1 x.2⟩),
 (60,⟨[3],[3],fun x=>Go.aa.n6 x⟩),
 (59,⟨[3,3],[3],fun x=>Go.aa.fD x.1 x.2⟩),
 (38,⟨[35],[4],fun x=>Go.aa.cP x⟩),
 (62,⟨[3,3],[35,29],fun x=>Go.aa.ku x.1 x.2⟩),
 (50,⟨[35,35],[35,29],fun x=>Go.aa.AU x.1 x.2⟩),
 (51,⟨[35,35],[35,29],fun x=>Go.aa.AW x.1 x.2⟩),
 (31,⟨[25,53,26,3],[35,3],fun x=>Go.aa.wC x.1 x.2.1 x.2.2.1 x.2.2.2⟩),
 (21,⟨[35,35],[3,29],fun x=>Go.aa.jX x.1 x.2⟩),
 (13,⟨[25],[26,29],fun x=>Go.aa.D4 x⟩),
 (35,⟨[3],[35],fun x=>Go.aa.dE x⟩),
 (86,⟨[22,3],[3],fun x=>Go.aa.nd x.1 x.2⟩),
 (57,⟨[22,3],[4],fun x=>Go.aa.bO x.1 x.2⟩),
 (96,⟨[87],[35,29],fun x=>Go.aa.bt x⟩),
 (55,⟨[35,35],[35,29],fun x=>Go.aa.AX x.1 x.2⟩),
 (36,⟨[52,57],[35,4],fun x=>Go.aa.mU x.1 x.2⟩),
 (15,⟨[25,26],[4],fun x=>Go.aa.ud x.1 x.2⟩),
 (44,⟨[35,35],[35,29],fun x=>Go.aa.AY x.1 x.2⟩),
 (22,⟨[25,26,3],[35,4],fun x=>Go.aa.sN x.1 x.2.1 x.2.2⟩),
 (39,⟨[25,26,3,3],[4],fun x=>Go.aa.oJ x.1 x.2.1 x.2.2.1 x.2.2.2⟩),
 (16,⟨[25,26],[4],fun x=>Go.aa.D5 x.1 x.2⟩),
 (11,⟨[25],[4],fun x=>Go.aa.qO x⟩),
 (14,⟨[26,26],[4],fun x=>Go.aa.yO x.1 x.2⟩),
 (117,⟨[35,35],[35,29],fun x=>Go.aa.n4 x.1 x.2⟩),
 (118,⟨[35,35],[35,29],fun x=>Go.aa.qM x.1 x.2⟩),
 (115,⟨[57,52],[35,4],fun x=>Go.aa.cm x.1 x.2⟩),
 (116,⟨[57,52,3],[4],fun x=>Go.aa.fS x.1 x.2.1 x.2.2⟩),
 (121,⟨[58,52],[35,4],fun x=>Go.aa.cC x.1 x.2⟩),
 (122,⟨[58,52,3],[4],fun x=>Go.aa.ml x.1 x.2.1 x.2.2⟩),
 (12,⟨[25],[26,29],fun x=>Go.aa.gK x⟩),
 (28,⟨[3],[35],fun x=>Go.aa.D6 x⟩),
 (27,⟨[25,26],[4],fun x=>Go.aa.Mb x.1 x.2⟩),
 (20,⟨[35,3,3],[3],fun x=>Go.aa.gh x.1 x.2.1 x.2.2⟩),
 (71,⟨[104],[3],fun x=>Go.aa.Gr x⟩),
 (72,⟨[106],[3],fun x=>Go.aa.yP x⟩),
 (46,⟨[78],[3],fun x=>Go.aa.tW x⟩),
 (25,⟨[35,35],[3],fun x=>Go.aa.fK x.1 x.2⟩),
 (79,⟨[3,3],[4],fun x=>Go.aa.qb x.1 x.2⟩),
 (10,⟨[],[4],fun x=>Go.aa.yQ ⟩),
 (9,⟨[25,36,5],[4],fun x=>Go.aa.eK x.1 x.2.1 x.2.2⟩)]
noncomputable abbrev S(n:Nat):oF:=HU C T Cf (Go.PI.HK hints) vg XJ n kA tY Ud
theorem Mc{h h':FuncId→Nat→Option Hint}{r:FuncId→Nat→Bool}{L:List (Nat×vf T)}{n:Nat}(k:(HU C T Cf h r L n kA tY Ud).Ok):(HU C T Cf h' r L n kA tY Ud).Ok:=⟨k.T,k.Q,k.Z,k.sum,k.own⟩
theorem s0:(S 0).Ok:=D7 Z8 RB Z9 sH
end Go.Proofs.Ytedjbjphpnkpoaa
end
