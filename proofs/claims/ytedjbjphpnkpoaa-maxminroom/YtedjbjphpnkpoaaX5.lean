/- Part 5 of the proof: texts of this session laid one behind the other. -/
import Derived.Test.YtedjbjphpnkpoaaProg
import Derived.KernelRfl
import Derived.Test.YtedjbjphpnkpoaaX4
set_option linter.unusedVariables false
set_option linter.unusedSimpArgs false
section
/- The types of this seat: what must hold of them (printed by gen_tys.py out of the dump). -/
set_option maxRecDepth 100000
namespace Go.Proofs.Ytedjbjphpnkpoaa
open Go.PI
theorem ID{H:ah den}{v:V}{vs:List V}{l:List AV}:RL T H (v::vs) l↔∃ c cs,l=c::cs∧R T H v c∧RL T H vs cs:=DG (T:=T)
theorem Ut{H:ah den}{l:List AV}:RL T H [] l↔l=[]:=FD (T:=T)
theorem Ti(x:bP)(a:AV)(H:ah den)(h:Ih x a):R T H (NV x) a:=by
 obtain⟨a0,a1,a2,h0,h1,h2,rfl⟩:=h
 unfold NV
 simp only[R]
 refine⟨_,rfl,?_⟩
 simp only[RL,R,and_true,true_and]
 exact⟨h0,h1,h2⟩
theorem Tj(v:V)(x:bP)(a:AV)(H:ah den)(h:NW v=some x)(hr:R T H v a):Ih x a:=by
 unfold NW at h
 split at h
 ·simp only[Option.bind_eq_some_iff,Option.some.injEq]at h
  obtain⟨b0,g0,b1,g1,b2,g2,rfl⟩:=h
  simp only[R]at hr
  obtain⟨_,rfl,hl⟩:=hr
  obtain⟨c0,_,rfl,r0,hl⟩:=ID.1 hl
  obtain⟨c1,_,rfl,r1,hl⟩:=ID.1 hl
  obtain⟨c2,_,rfl,r2,hl⟩:=ID.1 hl
  cases Ut.1 hl
  have e0:=gb (T:=T) (e:=3) (fun _ _ _ h hr=>eL (T:=T) h hr) g0 r0
  have e1:=gb (T:=T) (e:=22) (fun _ _ _ h hr=>gb (T:=T) (e:=3) (fun _ _ _ h hr=>eL (T:=T) h hr) h hr) g1 r1
  have e2:=gb (T:=T) (e:=3) (fun _ _ _ h hr=>eL (T:=T) h hr) g2 r2
  exact⟨_,_,_,e0,e1,e2,rfl⟩
 ·simp at h
theorem Tk(x:bP)(a:AV)(h:Ih x a):aG true 3 a=true∧closed a=true:=by
 obtain⟨a0,a1,a2,h0,h1,h2,rfl⟩:=h
 have k0:=eG h0
 have k1:=eG h1
 have k2:=eG h2
 exact⟨by simp[aG,tS,qP,tT,k0.2.2,k1.2.2,k2.2.2],by simp[closed,aY,k0.2.1,k1.2.1,k2.2.1]⟩
theorem Tl(x:ai)(a:AV)(H:ah den)(h:DI x a):R T H (NX x) a:=by
 unfold DI at h; subst h
 unfold NX
 simp only[R]
 refine⟨_,rfl,?_⟩
 simp only[RL,R,and_true,true_and]
theorem N1(v:V)(x:ai)(a:AV)(H:ah den)(h:Lo v=some x)(hr:R T H v a):DI x a:=by
 unfold Lo at h
 split at h
 ·simp only[Option.bind_eq_some_iff,Option.some.injEq]at h
  obtain⟨b0,g0,b1,g1,rfl⟩:=h
  simp only[R]at hr
  obtain⟨_,rfl,hl⟩:=hr
  obtain⟨c0,_,rfl,r0,hl⟩:=ID.1 hl
  obtain⟨c1,_,rfl,r1,hl⟩:=ID.1 hl
  cases Ut.1 hl
  cases eL (T:=T) g0 r0
  cases eL (T:=T) g1 r1
  exact rfl
 ·simp at h
theorem Tm(x:ai)(a:AV)(h:DI x a):aG true 2 a=true∧closed a=true:=by
 unfold DI at h; subst h
 exact⟨by simp[aG,tS,qP,tT],by simp[closed,aY]⟩
theorem QE(x:cb)(a:AV)(H:ah den)(h:Ii x a):R T H (Lp x) a:=by
 obtain⟨a0,a1,a2,a3,a4,h0,h1,h2,h3,h4,rfl⟩:=h
 unfold Lp
 simp only[R]
 refine⟨_,rfl,?_⟩
 simp only[RL,R,and_true,true_and]
 exact⟨h0,h1,h2,h3,h4⟩
theorem QF(v:V)(x:cb)(a:AV)(H:ah den)(h:Lq v=some x)(hr:R T H v a):Ii x a:=by
 unfold Lq at h
 split at h
 ·simp only[Option.bind_eq_some_iff,Option.some.injEq]at h
  obtain⟨b0,g0,b1,g1,b2,g2,b3,g3,b4,g4,rfl⟩:=h
  simp only[R]at hr
  obtain⟨_,rfl,hl⟩:=hr
  obtain⟨c0,_,rfl,r0,hl⟩:=ID.1 hl
  obtain⟨c1,_,rfl,r1,hl⟩:=ID.1 hl
  obtain⟨c2,_,rfl,r2,hl⟩:=ID.1 hl
  obtain⟨c3,_,rfl,r3,hl⟩:=ID.1 hl
  obtain⟨c4,_,rfl,r4,hl⟩:=ID.1 hl
  cases Ut.1 hl
  have e0:=gb (T:=T) (e:=3) (fun _ _ _ h hr=>eL (T:=T) h hr) g0 r0
  have e1:=gb (T:=T) (e:=22) (fun _ _ _ h hr=>gb (T:=T) (e:=3) (fun _ _ _ h hr=>eL (T:=T) h hr) h hr) g1 r1
  have e2:=gb (T:=T) (e:=3) (fun _ _ _ h hr=>eL (T:=T) h hr) g2 r2
  have e3:=gb (T:=T) (e:=4) (fun _ _ _ h hr=>Lm (T:=T) h hr) g3 r3
  have e4:=gb (T:=T) (e:=35) (fun _ _ _ h hr=>N1 _ _ _ H h hr) g4 r4
  exact⟨_,_,_,_,_,e0,e1,e2,e3,e4,rfl⟩
 ·simp at h
theorem Tn(x:cb)(a:AV)(h:Ii x a):aG true 5 a=true∧closed a=true:=by
 obtain⟨a0,a1,a2,a3,a4,h0,h1,h2,h3,h4,rfl⟩:=h
 have k0:=eG h0
 have k1:=eG h1
 have k2:=eG h2
 have k3:=eG h3
 have k4:=eG h4
 exact⟨by simp[aG,tS,qP,tT,k0.2.2,k1.2.2,k2.2.2,k3.2.2,k4.2.2],by simp[closed,aY,k0.2.1,k1.2.1,k2.2.1,k3.2.1,k4.2.1]⟩
theorem To(x:dP)(a:AV)(H:ah den)(h:DJ x a):R T H (NY x) a:=by
 unfold DJ at h; subst h
 obtain⟨b,n⟩:=x
 cases b<;>simp[NY,R]
theorem QG(v:V)(x:dP)(a:AV)(H:ah den)(h:Lr v=some x)(hr:R T H v a):DJ x a:=by
 unfold Lr at h
 split at h
 ·rename_i t w
  simp only[Option.bind_eq_some_iff]at h
  obtain⟨n,g,h⟩:=h
  simp only[R]at hr
  obtain⟨a',rfl,hr⟩:=hr
  have e:=eL (T:=T) g hr
  subst e
  cases h1:Nat.beq t 57 with
  |true=>
   rw[h1]at h
   obtain rfl:=Nat.eq_of_beq_eq_true h1
   cases h
   rfl
  |false=>
   rw[h1]at h
   cases h2:Nat.beq t 58 with
   |true=>
    rw[h2]at h
    obtain rfl:=Nat.eq_of_beq_eq_true h2
    cases h
    rfl
   |false=>rw[h2]at h; cases h
 ·simp at h
theorem Tp(x:dP)(a:AV)(h:DJ x a):aG false 1 a=true∧closed a=true:=by
 unfold DJ at h; subst h
 exact⟨rfl,rfl⟩
theorem Tq(x:ai)(a:AV)(H:ah den)(h:FE x a):R T H (NZ x) a:=by
 unfold FE at h; subst h
 unfold NZ
 simp only[R]
 refine⟨_,rfl,?_⟩
 simp only[RL,R,and_true,true_and]
theorem Ts(v:V)(x:ai)(a:AV)(H:ah den)(h:N0 v=some x)(hr:R T H v a):FE x a:=by
 unfold N0 at h
 split at h
 ·simp only[Option.bind_eq_some_iff,Option.some.injEq]at h
  obtain⟨b0,g0,b1,g1,rfl⟩:=h
  simp only[R]at hr
  obtain⟨_,rfl,hl⟩:=hr
  obtain⟨c0,_,rfl,r0,hl⟩:=ID.1 hl
  obtain⟨c1,_,rfl,r1,hl⟩:=ID.1 hl
  cases Ut.1 hl
  cases eL (T:=T) g0 r0
  cases eL (T:=T) g1 r1
  exact rfl
 ·simp at h
theorem Tt(x:ai)(a:AV)(h:FE x a):aG true 2 a=true∧closed a=true:=by
 unfold FE at h; subst h
 exact⟨by simp[aG,tS,qP,tT],by simp[closed,aY]⟩
theorem WX(t:Nat)(x:den t)(a:AV)(H:ah den)(h:rp t x a):R T H (up t x) a:=by
 unfold rp at h
 split at h
 ·exact uL (T:=T) h
 ·exact uL (T:=T) h
 ·exact uL (T:=T) h
 ·exact uL (T:=T) h
 ·exact uL (T:=T) h
 ·exact uG (T:=T) (e:=3) h
 ·exact uG (T:=T) (e:=22) h
 ·exact Ti _ _ H h
 ·exact Ti _ _ H h
 ·exact uG (T:=T) (e:=35) h
 ·exact uL (T:=T) h
 ·exact Tl _ _ H h
 ·exact Tl _ _ H h
 ·exact uG (T:=T) (e:=73) h
 ·exact uG (T:=T) (e:=4) h
 ·exact QE _ _ H h
 ·exact QE _ _ H h
 ·exact uG (T:=T) (e:=82) h
 ·exact uL (T:=T) h
 ·exact uL (T:=T) h
 ·exact uL (T:=T) h
 ·exact uL (T:=T) h
 ·exact To _ _ H h
 ·exact To _ _ H h
 ·exact Tq _ _ H h
 ·exact Tq _ _ H h
 ·exact uL (T:=T) h
 ·exact uL (T:=T) h
 ·exact uL (T:=T) h
 ·exact uL (T:=T) h
 ·exact uP (T:=T) (fun b hb=>QE _ _ H hb) rfl h
 ·exact h.elim
theorem WY(t:Nat)(v:V)(x:den t)(a:AV)(H:ah den)(h:dn t v=some x)(hr:R T H v a):rp t x a:=by
 revert x h hr
 refine dn.fun_cases_unfolding (motive:=fun t v r=>∀ (x:den t),r=some x→R T H v a→rp t x a) ?_ ?_ ?_ ?_ ?_ ?_ ?_ ?_ ?_ ?_ ?_ ?_ ?_ ?_ ?_ ?_ ?_ ?_ ?_ ?_ ?_ ?_ ?_ ?_ ?_ ?_ ?_ ?_ ?_ ?_ ?_ ?_ t v
 ·intro v x h hr; exact eL (T:=T) h hr
 ·intro v x h hr; exact eL (T:=T) h hr
 ·intro v x h hr; exact Lm (T:=T) h hr
 ·intro v x h hr; exact eL (T:=T) h hr
 ·intro v x h hr; exact S4 (T:=T) h hr
 ·intro v x h hr; exact gb (T:=T) (e:=3) (fun _ _ _ h hr=>eL (T:=T) h hr) h hr
 ·intro v x h hr; exact gb (T:=T) (e:=22) (fun _ _ _ h hr=>gb (T:=T) (e:=3) (fun _ _ _ h hr=>eL (T:=T) h hr) h hr) h hr
 ·intro v x h hr; exact Tj _ _ _ H h hr
 ·intro v x h hr; exact Tj _ _ _ H h hr
 ·intro v x h hr; exact gb (T:=T) (e:=35) (fun _ _ _ h hr=>N1 _ _ _ H h hr) h hr
 ·intro v x h hr; exact eL (T:=T) h hr
 ·intro v x h hr; exact N1 _ _ _ H h hr
 ·intro v x h hr; exact N1 _ _ _ H h hr
 ·intro v x h hr; exact gb (T:=T) (e:=73) (fun _ _ _ h hr=>eL (T:=T) h hr) h hr
 ·intro v x h hr; exact gb (T:=T) (e:=4) (fun _ _ _ h hr=>Lm (T:=T) h hr) h hr
 ·intro v x h hr; exact QF _ _ _ H h hr
 ·intro v x h hr; exact QF _ _ _ H h hr
 ·intro v x h hr; exact gb (T:=T) (e:=82) (fun _ _ _ h hr=>QG _ _ _ H h hr) h hr
 ·intro v x h hr; exact eL (T:=T) h hr
 ·intro v x h hr; exact eL (T:=T) h hr
 ·intro v x h hr; exact eL (T:=T) h hr
 ·intro v x h hr; exact eL (T:=T) h hr
 ·intro v x h hr; exact QG _ _ _ H h hr
 ·intro v x h hr; exact QG _ _ _ H h hr
 ·intro v x h hr; exact Ts _ _ _ H h hr
 ·intro v x h hr; exact Ts _ _ _ H h hr
 ·intro v x h hr; exact eL (T:=T) h hr
 ·intro v x h hr; exact eL (T:=T) h hr
 ·intro v x h hr; exact eL (T:=T) h hr
 ·intro v x h hr; exact eL (T:=T) h hr
 ·intro v x h hr; exact QB (T:=T) (fun _ _ h hr=>QF _ _ _ H h hr) h hr
 ·intros; rename_i h _; cases h
theorem Tu(t:Nat)(x:den t)(a:AV)(h:rp t x a):aG (Tf t) (OZ t) a=true∧closed a=true:=by
 unfold rp at h
 split at h
 ·exact yF (eI h)
 ·exact yF (eI h)
 ·exact yF (eB h)
 ·exact yF (eI h)
 ·exact yF (eS h)
 ·exact yF (eG h)
 ·exact yF (eG h)
 ·exact Tk _ _ h
 ·exact Tk _ _ h
 ·exact yF (eG h)
 ·exact yF (eI h)
 ·exact Tm _ _ h
 ·exact Tm _ _ h
 ·exact yF (eG h)
 ·exact yF (eG h)
 ·exact Tn _ _ h
 ·exact Tn _ _ h
 ·exact yF (eG h)
 ·exact yF (eI h)
 ·exact yF (eI h)
 ·exact yF (eI h)
 ·exact yF (eI h)
 ·exact Tp _ _ h
 ·exact Tp _ _ h
 ·exact Tt _ _ h
 ·exact Tt _ _ h
 ·exact yF (eI h)
 ·exact yF (eI h)
 ·exact yF (eI h)
 ·exact yF (eI h)
 ·exact yF (eP h)
 ·exact h.elim
theorem Tv(t:Nat)(f:(den t→Bool)×(den t→V)×(den t→V))(h:QD t=some f)(x:den t):(bif f.1 x then f.2.1 x else f.2.2 x)=up t x:=by
 unfold QD at h
 split at h
 ·cases h; rfl
 ·cases h; rfl
 ·cases h
theorem X9:T.Ok:=⟨fun t x a H h=>WX t x a H h,fun t v x a H h hr=>WY t v x a H h hr,fun t x a h=>(Tu t x a h).1,fun t x a h=>(Tu t x a h).2,fun t f h x=>Tv t f h x⟩
theorem Qb:gK.Ok ⟨Try.prog,Bi,fun _=>false⟩:=gK.Ok.of (by kernel_rfl) (by kernel_rfl) (by kernel_rfl) (by kernel_rfl) (by kernel_rfl)
def ZP(q:Nat×j0):Prop:=∀ z za,O0 q.1=some z→q.2.zero=some za→rp q.1 z za
theorem Ya:T.tM ⟨Try.prog,Bi,fun _=>false⟩:=by
 intro t m z za h1 h2 h3
 have hm:=gz h1
 have all:∀ q,q∈Bi→ZP q:=by
  unfold Bi
  intro q hq
  simp only[List.mem_cons,List.not_mem_nil,or_false]at hq
  rcases hq with rfl|rfl|rfl|rfl|rfl|rfl|rfl|rfl|rfl|rfl|rfl|rfl|rfl|rfl|rfl|rfl|rfl|rfl|rfl|rfl|rfl|rfl|rfl|rfl|rfl|rfl|rfl|rfl|rfl|rfl|rfl|rfl|rfl|rfl|rfl|rfl|rfl|rfl|rfl|rfl|rfl|rfl|rfl|rfl|rfl|rfl|rfl|rfl|rfl|rfl|rfl|rfl|rfl|rfl|rfl|rfl|rfl|rfl|rfl|rfl|rfl|rfl|rfl|rfl|rfl|rfl|rfl|rfl|rfl|rfl|rfl|rfl|rfl|rfl|rfl|rfl|rfl|rfl|rfl|rfl|rfl|rfl|rfl|rfl|rfl|rfl|rfl|rfl|rfl|rfl|rfl|rfl|rfl|rfl|rfl|rfl|rfl|rfl|rfl|rfl|rfl|rfl|rfl|rfl|rfl|rfl|rfl|rfl|rfl|rfl|rfl|rfl|rfl|rfl|rfl|rfl|rfl|rfl|rfl|rfl|rfl|rfl|rfl|rfl|rfl|rfl|rfl|rfl|rfl|rfl|rfl
  ·exact fun _ _ h _=>zn h
  ·exact fun _ _ h1 h2=>zz h1 h2 (rfl)
  ·exact fun _ _ h1 h2=>zz h1 h2 (rfl)
  ·exact fun _ _ h1 h2=>zz h1 h2 (rfl)
  ·exact fun _ _ h1 h2=>zz h1 h2 (rfl)
  ·exact fun _ _ h _=>zn h
  ·exact fun _ _ h _=>zn h
  ·exact fun _ _ h _=>zn h
  ·exact fun _ _ h1 h2=>zz h1 h2 (rfl)
  ·exact fun _ _ h _=>zn h
  ·exact fun _ _ h _=>zn h
  ·exact fun _ _ h _=>zn h
  ·exact fun _ _ h _=>zn h
  ·exact fun _ _ h _=>zn h
  ·exact fun _ _ h _=>zn h
  ·exact fun _ _ h _=>zn h
  ·exact fun _ _ h _=>zn h
  ·exact fun _ _ h _=>zn h
  ·exact fun _ _ h _=>zn h
  ·exact fun _ _ h _=>zn h
  ·exact fun _ _ h _=>zn h
  ·exact fun _ _ h1 h2=>zz h1 h2 (.inr ⟨rfl,rfl⟩)
  ·exact fun _ _ h1 h2=>zz h1 h2 (.inr ⟨rfl,rfl⟩)
  ·exact fun _ _ h1 h2=>zz h1 h2 (⟨_,_,_,.inr ⟨rfl,rfl⟩,.inr ⟨rfl,rfl⟩,.inr ⟨rfl,rfl⟩,rfl⟩)
  ·exact fun _ _ h1 h2=>zz h1 h2 (⟨_,_,_,.inr ⟨rfl,rfl⟩,.inr ⟨rfl,rfl⟩,.inr ⟨rfl,rfl⟩,rfl⟩)
  ·exact fun _ _ h1 h2=>zz h1 h2 (.inr ⟨rfl,rfl⟩)
  ·exact fun _ _ h _=>zn h
  ·exact fun _ _ h _=>zn h
  ·exact fun _ _ h1 h2=>zz h1 h2 (rfl)
  ·exact fun _ _ h _=>zn h
  ·exact fun _ _ h _=>zn h
  ·exact fun _ _ h _=>zn h
  ·exact fun _ _ h1 h2=>zz h1 h2 (rfl)
  ·exact fun _ _ h1 h2=>zz h1 h2 (rfl)
  ·exact fun _ _ h1 h2=>zz h1 h2 (.inr ⟨rfl,rfl⟩)
  ·exact fun _ _ h _=>zn h
  ·exact fun _ _ h _=>zn h
  ·exact fun _ _ h _=>zn h
  ·exact fun _ _ h _=>zn h
  ·exact fun _ _ h _=>zn h
  ·exact fun _ _ h _=>zn h
  ·exact fun _ _ h _=>zn h
  ·exact fun _ _ h _=>zn h
  ·exact fun _ _ h _=>zn h
  ·exact fun _ _ h _=>zn h
  ·exact fun _ _ h _=>zn h
  ·exact fun _ _ h _=>zn h
  ·exact fun _ _ h _=>zn h
  ·exact fun _ _ h _=>zn h
  ·exact fun _ _ h1 h2=>zz h1 h2 (.inr ⟨rfl,rfl⟩)
  ·exact fun _ _ h1 h2=>zz h1 h2 (⟨_,_,_,_,_,.inr ⟨rfl,rfl⟩,.inr ⟨rfl,rfl⟩,.inr ⟨rfl,rfl⟩,.inr ⟨rfl,rfl⟩,.inr ⟨rfl,rfl⟩,rfl⟩)
  ·exact fun _ _ h1 h2=>zz h1 h2 (⟨_,_,_,_,_,.inr ⟨rfl,rfl⟩,.inr ⟨rfl,rfl⟩,.inr ⟨rfl,rfl⟩,.inr ⟨rfl,rfl⟩,.inr ⟨rfl,rfl⟩,rfl⟩)
  ·exact fun _ _ h1 h2=>zz h1 h2 (.inr ⟨rfl,rfl⟩)
  ·exact fun _ _ h1 h2=>zz h1 h2 (rfl)
  ·exact fun _ _ h1 h2=>zz h1 h2 (rfl)
  ·exact fun _ _ h _=>zn h
  ·exact fun _ _ h _=>zn h
  ·exact fun _ _ h _=>zn h
  ·exact fun _ _ h _=>zn h
  ·exact fun _ _ h _=>zn h
  ·exact fun _ _ h _=>zn h
  ·exact fun _ _ h _=>zn h
  ·exact fun _ _ h _=>zn h
  ·exact fun _ _ h _=>zn h
  ·exact fun _ _ h _=>zn h
  ·exact fun _ _ h _=>zn h
  ·exact fun _ _ h _=>zn h
  ·exact fun _ _ h _=>zn h
  ·exact fun _ _ h1 h2=>zz h1 h2 (rfl)
  ·exact fun _ _ h _=>zn h
  ·exact fun _ _ h _=>zn h
  ·exact fun _ _ h _=>zn h
  ·exact fun _ _ h1 h2=>zz h1 h2 (rfl)
  ·exact fun _ _ h _=>zn h
  ·exact fun _ _ h _=>zn h
  ·exact fun _ _ h _=>zn h
  ·exact fun _ _ h _=>zn h
  ·exact fun _ _ h _=>zn h
  ·exact fun _ _ h _=>zn h
  ·exact fun _ _ h _=>zn h
  ·exact fun _ _ h1 h2=>zz h1 h2 (rfl)
  ·exact fun _ _ h1 h2=>zz h1 h2 (rfl)
  ·exact fun _ _ h _=>zn h
  ·exact fun _ _ h _=>zn h
  ·exact fun _ _ h _=>zn h
  ·exact fun _ _ h _=>zn h
  ·exact fun _ _ h _=>zn h
  ·exact fun _ _ h _=>zn h
  ·exact fun _ _ h _=>zn h
  ·exact fun _ _ h _=>zn h
  ·exact fun _ _ h1 h2=>zz h1 h2 (rfl)
  ·exact fun _ _ h _=>zn h
  ·exact fun _ _ h _=>zn h
  ·exact fun _ _ h _=>zn h
  ·exact fun _ _ h _=>zn h
  ·exact fun _ _ h _=>zn h
  ·exact fun _ _ h1 h2=>zz h1 h2 (rfl)
  ·exact fun _ _ h _=>zn h
  ·exact fun _ _ h1 h2=>zz h1 h2 (rfl)
  ·exact fun _ _ h _=>zn h
  ·exact fun _ _ h _=>zn h
  ·exact fun _ _ h _=>zn h
  ·exact fun _ _ h _=>zn h
  ·exact fun _ _ h _=>zn h
  ·exact fun _ _ h _=>zn h
  ·exact fun _ _ h _=>zn h
  ·exact fun _ _ h _=>zn h
  ·exact fun _ _ h1 h2=>zz h1 h2 (rfl)
  ·exact fun _ _ h _=>zn h
  ·exact fun _ _ h _=>zn h
  ·exact fun _ _ h _=>zn h
  ·exact fun _ _ h _=>zn h
  ·exact fun _ _ h _=>zn h
  ·exact fun _ _ h _=>zn h
  ·exact fun _ _ h _=>zn h
  ·exact fun _ _ h _=>zn h
  ·exact fun _ _ h _=>zn h
  ·exact fun _ _ h _=>zn h
  ·exact fun _ _ h _=>zn h
  ·exact fun _ _ h _=>zn h
  ·exact fun _ _ h _=>zn h
  ·exact fun _ _ h _=>zn h
  ·exact fun _ _ h _=>zn h
  ·exact fun _ _ h _=>zn h
  ·exact fun _ _ h _=>zn h
  ·exact fun _ _ h _=>zn h
  ·exact fun _ _ h _=>zn h
  ·exact fun _ _ h _=>zn h
  ·exact fun _ _ h _=>zn h
  ·exact fun _ _ h _=>zn h
  ·exact fun _ _ h _=>zn h
 exact all _ hm z za h3 h2
theorem WZ:Try.prog.underlying 3=some (.int .i64):=by kernel_rfl
def W0(x:Int):Prop:=IntKind.min .i64≤x∧x≤IntKind.max .i64
theorem sh3{n:Nat}{l:List AV}(h:Shape Try.prog n 3 l):∃ x,W0 x∧∃ a,l=[a]∧Mf x a:=by
 obtain⟨m,rfl,h1⟩:=Ie WZ h
 exact⟨m,h1,_,rfl,rfl⟩
theorem W1:Try.prog.underlying 22=some (.slice 3):=by kernel_rfl
theorem W2:(Try.prog.underlying 3).isSome=true:=by kernel_rfl
theorem W3:(Try.prog.underlying 3).map eh=some false:=by kernel_rfl
theorem W4:Try.prog.underlying 3=Try.prog.underlying 3:=by kernel_rfl
def Ls(x:List Int):Prop:=x.length≤maxLen∧∀ y,y∈x→W0 y
theorem QH{n:Nat}{l:List AV}(h:Shape Try.prog n 22 l):∃ x,Ls x∧∃ a,l=[a]∧DH x a:=by
 obtain⟨d,hd⟩:=Option.isSome_iff_exists.1 W2
 have o5:eh d=false:=by have:=W3; rw[hd]at this; simpa using this
 obtain⟨ys,xs,rfl,h1,h2⟩:=wa (Q:=fun y x=>W0 y∧Mf y x) W1 hd h (by
  rintro k x ⟨cl,h1,h2⟩
  rw[o5]at h1
  simp only[Bool.false_eq_true,if_false]at h1
  replace h2:=jR W4 h2
  subst h1
  obtain⟨y,hy,a,ha,r⟩:=sh3 h2
  simp only[List.cons.injEq,and_true]at ha
  subst ha
  exact⟨y,hy,r⟩)
 refine⟨ys,⟨h2,?_⟩,_,rfl,.inl ⟨xs,rfl,h1.mono fun _ _ h=>h.2⟩⟩
 intro y hy
 obtain⟨i,hi⟩:=List.getElem?_of_mem hy
 obtain⟨_,_,h3⟩:=h1.get hi
 exact h3.1
theorem W5:Try.prog.underlying 23=some (.slice 22):=by kernel_rfl
theorem W6:(Try.prog.underlying 22).isSome=true:=by kernel_rfl
theorem W7:(Try.prog.underlying 22).map eh=some false:=by kernel_rfl
theorem W8:Try.prog.underlying 22=Try.prog.underlying 22:=by kernel_rfl
def Tx(x:List (List Int)):Prop:=x.length≤maxLen∧∀ y,y∈x→Ls y
theorem W9{n:Nat}{l:List AV}(h:Shape Try.prog n 23 l):∃ x,Tx x∧∃ a,l=[a]∧NU x a:=by
 obtain⟨d,hd⟩:=Option.isSome_iff_exists.1 W6
 have o5:eh d=false:=by have:=W7; rw[hd]at this; simpa using this
 obtain⟨ys,xs,rfl,h1,h2⟩:=wa (Q:=fun y x=>Ls y∧DH y x) W5 hd h (by
  rintro k x ⟨cl,h1,h2⟩
  rw[o5]at h1
  simp only[Bool.false_eq_true,if_false]at h1
  replace h2:=jR W8 h2
  subst h1
  obtain⟨y,hy,a,ha,r⟩:=QH h2
  simp only[List.cons.injEq,and_true]at ha
  subst ha
  exact⟨y,hy,r⟩)
 refine⟨ys,⟨h2,?_⟩,_,rfl,.inl ⟨xs,rfl,h1.mono fun _ _ h=>h.2⟩⟩
 intro y hy
 obtain⟨i,hi⟩:=List.getElem?_of_mem hy
 obtain⟨_,_,h3⟩:=h1.get hi
 exact h3.1
def Xa(x:bP):Prop:=Ls x.ay∧Tx x.af∧Ls x.aD
theorem QI:Try.prog.underlying 22=Try.prog.underlying 22:=by kernel_rfl
theorem QJ:Try.prog.underlying 23=Try.prog.underlying 23:=by kernel_rfl
theorem QK:Try.prog.underlying 22=Try.prog.underlying 22:=by kernel_rfl
theorem WA{n:Nat}{l:List AV}(h:Shape Try.prog n 24 l):∃ x,Xa x∧Ih x (.agg l):=by
 obtain⟨hl,k,hf⟩:=Bx Qb (t:=24) rfl rfl h
 rw[oE Qb (t:=24) rfl]at hl
 have h0:=hf (0,22) (by simp)
 rw[oE Qb (t:=22) rfl]at h0
 replace h0:=jR (QI) h0
 have h1:=hf (1,23) (by simp)
 rw[oE Qb (t:=23) rfl]at h1
 replace h1:=jR (QJ) h1
 have h2:=hf (2,22) (by simp)
 rw[oE Qb (t:=22) rfl]at h2
 replace h2:=jR (QK) h2
 match l,hl with
 |[a0,a1,a2],_=>
  replace h0:Shape Try.prog k 22 [a0]:=h0
  obtain⟨x0,w0,b0,e0,r0⟩:=QH h0
  simp only[List.cons.injEq,and_true]at e0
  subst e0
  have s0:=r0
  replace h1:Shape Try.prog k 23 [a1]:=h1
  obtain⟨x1,w1,b1,e1,r1⟩:=W9 h1
  simp only[List.cons.injEq,and_true]at e1
  subst e1
  have s1:=r1
  replace h2:Shape Try.prog k 22 [a2]:=h2
  obtain⟨x2,w2,b2,e2,r2⟩:=QH h2
  simp only[List.cons.injEq,and_true]at e2
  subst e2
  have s2:=r2
  exact⟨⟨x0,x1,x2⟩,⟨w0,w1,w2⟩,⟨_,_,_,s0,s1,s2,rfl⟩⟩
end Go.Proofs.Ytedjbjphpnkpoaa
end
section
/- Copies of slices in this seat: what the library's functions come to (printed by gen_lib.py). -/
namespace Go.Proofs.Ytedjbjphpnkpoaa.qf
open Go.PI
noncomputable def C0:Ctx where
 P:=Try.prog
 kind:=fun f=>if f=61 then .imp else .pure
 kv:=fun _=>none
 acc:=fun _ _=>false
instance:jH C0:=⟨rfl,rfl⟩
noncomputable def R(t:Nat):bG:=(eY Try.prog t).getD ⟨.bool,0,0,none,false⟩
theorem Ik:aN C0.P 22=some (R 3):=by kernel_rfl
theorem Il:bX C0.P 22=true:=by kernel_rfl
theorem Xd:(cj (R 3)).isSome=true:=by kernel_rfl
theorem Up:(R 3).size=1:=by kernel_rfl
theorem ag3:(R 3).isAgg=false:=by kernel_rfl
theorem by3:(R 3).bytes=8:=by kernel_rfl
theorem Xe:C0.P.funcs[61]?=some Try.f61:=by kernel_rfl
theorem Ty:bX C0.P 23=true:=by kernel_rfl
theorem st3:bX C0.P 3=false:=by kernel_rfl
theorem WZ:C0.P.underlying 3=some (.int .i64):=by kernel_rfl
noncomputable def we:AV:=(cj (R 3)).getD .undef
theorem zv3:cj (R 3)=some we:=by kernel_rfl
theorem zo3:aG (R 3).isAgg (R 3).size we=true:=by kernel_rfl
theorem Im:ky C0 61 [.lit cK,int 0] []=some (.val (.lit cK),[]):=
 (bh (mo C0 61 [.lit cK,int 0] [])).2 ⟨100,by kernel_rfl⟩
theorem Lx(n:Nat)(hn:0<n)(h1:n*(R 3).bytes≤2^44)(h2:n≤2^44):ky C0 61 [.lit cK,int n] []=some (.val (.bq (R 3).size 0 n 0 0 none),[some (.arr true true false (List.replicate n we))]):=by
 rw[AD (fn:=Try.f61) Xe rfl]
 have zb:∀ f d,C0.acc f d=false:=fun _ _=>rfl
 have hr:0<(R 3).size:=by rw[Up]; decide
 have hw:IntKind.i64.wrap ((n:Int)-0)=(n:Int):=by rw[IntWalk.i64_in _ (by omega)]; omega
 have TH:IntKind.i64.wrap (0-0)=(0:Int):=by decide
 have QL:¬((n:Int)<0):=by omega
 have e9:(0:Int)<(n:Int):=by omega
 have Ho:Option.map (az [AV.lit cK]) none=(none:Option AV):=rfl
 simp (decide:=true) only [Try.f61,DK,zb,N2 Il,N3 Il,Lv,N4,N5 Ik,N6 Ik hn,Lt,Lw Ik st3 WZ zv3 hr zo3 hn h1 h2,hw,TH,QL,e9,bol,Option.map_none,gR,jd,pw,eR,List.map_cons,List.map_nil,dW,kf,n5,pA,JC,lF,pB,n4,k8,xy,az,nP,gN,gC,bC,eW,Ex,AO,kS,JE,qm,F6,F7,dt,xe,Cb,Ga,Gb,F9,List.getElem?_toArray,List.replicate_succ,List.replicate_zero,Nat.reduceSub,Nat.reduceAdd,Option.bind_some,Option.map_some,decide_true,decide_false,Ev,List.length_nil,List.length_cons,List.nil_append,List.cons_append,Nat.zero_add,Mk,Ml,Mn,Mo,k7,qh]
theorem SZ:C0.P.funcs[40]?=some Try.f40:=by kernel_rfl
theorem Xf:eY C0.P 22=some (R 22):=by kernel_rfl
theorem Tz:(R 22).isAgg=false:=by kernel_rfl
theorem TA:(R 22).size=1:=by kernel_rfl
theorem Xg:aN C0.P 23=some (R 22):=by kernel_rfl
theorem Xh:arrayElem C0.P 23=none:=by kernel_rfl
theorem TB{nm:Nat}{ev:Operand→AV}{dst:Option Tmp}{type:TypeId}{pos:String}{after:Array Edge}{guard:Option (Nat×Bool)}{hp:ag}{x:Operand}:
  (aK C0.P nm ev ⟨dst,.load 22 x,type,pos,after,guard⟩).run hp=JF (Gd false 1 hp (ev x)):=by rw[MJ Xf,MM Tz TA]
theorem TC(x ix:AV):eO C0.P 23 x ix=(asNat ix).bind fun i=>nu false 1 i x:=by rw[JJ Xg Xh,Tz,TA]
def I1(ls:List (List AV))(k:Nat)(s:St):Prop:=
 ∃ (i:Nat) (j1 j4 j5 j6 j7 j8 Ly Lz LA LB LC LD LF LG LH LI LJ LK LL TD TE O1 LM LN LO LP LQ LR LS LU:AV),k=ls.length-i∧i≤ls.length∧s=⟨40,[.sl (ls.map .sl),j1,.lit cK,int ((ls.take i).flatten.length:Nat),j4,j5,j6,j7,j8,.sl (ls.map .sl),int ls.length,int i,Ly,Lz,LA,LB,LC,LD,LF,LG,LH,LI,LJ,LK,LL,TD,TE,O1,LM,LN,LO,LP,LQ,LR,LS,LU],[]⟩
def P1(ls:List (List AV))(o:Out):Prop:=
 ∃ (O2 j1 j4 j5 j6 j7 j8 Ly Lz LA LB LC LD LF LG LH LI LJ LK LL TD TE O1 LM LN LO LP LQ LR LS LU:AV),o=.exit 0 ⟨40,[.sl (ls.map .sl),j1,.lit cK,int (ls.flatten.length:Nat),j4,j5,j6,j7,j8,.sl (ls.map .sl),int ls.length,O2,Ly,Lz,LA,LB,LC,LD,LF,LG,LH,LI,LJ,LK,LL,TD,TE,O1,LM,LN,LO,LP,LQ,LR,LS,LU],[]⟩
theorem GV{α:Type}(ls:List (List α))(i:Nat):(ls.take i).flatten.length≤ls.flatten.length:=by
 have h:ls.flatten.length=(ls.take i).flatten.length+(ls.drop i).flatten.length:=by
  rw[←List.length_append,←List.flatten_append,List.take_append_drop]
 omega
theorem Ap{α:Type}(ls:List (List α))(i:Nat)(h:i<ls.length):(ls.take (i+1)).flatten=(ls.take i).flatten++ls[i]:=by
 rw[List.take_succ_eq_append_getElem h,List.flatten_append]; simp only[List.flatten_cons,List.flatten_nil,List.append_nil]
noncomputable def cur(ls:List (List AV))(i:Nat):AV:=if ls.flatten.length=0 then .lit cK else .bq (R 3).size 0 ls.flatten.length 0 (ls.take i).flatten.length none
noncomputable def sE(ls:List (List AV))(i:Nat):ag:=if ls.flatten.length=0 then [] else [some (.arr true true false ((ls.take i).flatten++List.replicate (ls.flatten.length-(ls.take i).flatten.length) we))]
theorem LV(ls:List (List AV))(h1:ls.flatten.length*(R 3).bytes≤2^44)(h2:ls.flatten.length≤2^44):ky C0 61 [.lit (.slice none 0 0),int ls.flatten.length] []=some (.val (cur ls 0),sE ls 0):=by
 unfold cur sE
 by_cases h:ls.flatten.length=0
 ·rw[if_pos h,if_pos h,h]; exact Im
 ·rw[if_neg h,if_neg h]
  simpa using Lx _ (by omega) h1 h2
theorem Ip(ls:List (List AV))(i:Nat):gH 0 (cur ls i) (sE ls i)=sE ls i:=by
 unfold cur sE gH
 by_cases h:ls.flatten.length=0
 ·rw[if_pos h,if_pos h]; simp
 ·rw[if_neg h,if_neg h]; simp[below]
theorem FG(ls:List (List AV))(i:Nat):forget (sE ls i).length (cur ls (i+1))=cur ls (i+1):=by
 apply Hh
 unfold cur sE
 by_cases h:ls.flatten.length=0
 ·rw[if_pos h,if_pos h]; rfl
 ·rw[if_neg h,if_neg h]; simp[below]
theorem Iq(ls:List (List AV))(i:Nat)(f:Nat)(fr:List AV):gG (sE ls i).length ⟨f,fr,sE ls (i+1)⟩=⟨f,fr.map (forget (sE ls i).length),sE ls (i+1)⟩:=by
 have hl:(sE ls i).length=(sE ls (i+1)).length:=by
  unfold sE
  by_cases h:ls.flatten.length=0
  ·rw[if_pos h,if_pos h]
  ·rw[if_neg h,if_neg h]; rfl
 have ht:(sE ls (i+1)).take (sE ls i).length=sE ls (i+1):=by rw[hl]; exact List.take_length
 rw[Cc]
 ·simp only[ht]
 ·simp only[ht]
  unfold sE
  by_cases h:ls.flatten.length=0
  ·rw[if_pos h]; rfl
  ·rw[if_neg h]; rfl
theorem Bz(a ys:List AV)(k:Nat)(z:AV)(h:ys.length≤k):bw (a++List.replicate k z) a.length ys=a++ys++List.replicate (k-ys.length) z:=by
 induction ys generalizing a k with
 |nil=>simp[bw]
 |cons y ys ih=>
  obtain⟨k,rfl⟩:∃ m,k=m+1:=⟨k-1,by simp at h; omega⟩
  have:=ih (a++[y]) k (by simp at h; omega)
  simp only[bw,List.replicate_succ]
  simp only[List.length_append,List.length_cons,List.length_nil]at this
  rw[List.set_append_right _ _ (Nat.le_refl _),Nat.sub_self,List.set_cons_zero]
  simpa[List.append_assoc] using this
theorem N7(ls:List (List AV))(i:Nat)(hi:i<ls.length)(bg:ls[i].all (aG (R 3).isAgg (R 3).size)=true):
  ∃ wr,(∀ nm,(fD C0.P nm 22 22 (cur ls i) (.sl ls[i])).run (sE ls i)=some ⟨cur ls (i+1),wr⟩)∧ak (sE ls i) wr=sE ls (i+1):=by
 have hr:0<(R 3).size:=by rw[Up]; decide
 have hf:=Ap ls i hi
 have hle:=GV ls (i+1)
 have hlen:(ls.take (i+1)).flatten.length=(ls.take i).flatten.length+ls[i].length:=by rw[hf,List.length_append]
 by_cases h:ls.flatten.length=0
 ·have he:ls[i]=[]:=List.length_eq_zero_iff.1 (by omega)
  refine⟨[],fun nm=>?_,?_⟩
  ·unfold cur sE
   rw[if_pos h,if_pos h,if_pos h,he]
   simp[fD,Ik,wg,Il,fM,RM.run_bind,RM.run_pure,Xd,hr]
  ·unfold sE; rw[if_pos h,if_pos h]; rfl
 ·by_cases he:ls[i]=[]
  ·have wm:ls[i].length=0:=by rw[he]; rfl
   rw[wm]at hlen
   have iD:(ls.take (i+1)).flatten=(ls.take i).flatten:=by rw[hf,he,List.append_nil]
   refine⟨[],fun nm=>?_,?_⟩
   ·unfold cur sE
    rw[if_neg h,if_neg h,if_neg h,he,iD]
    simp[fD,Ik,wg,Il,fM,RM.run_bind,RM.run_pure,Xd,hr]
   ·unfold sE; rw[if_neg h,if_neg h,iD]; rfl
  ·have dK:ls[i].isEmpty=false:=by cases hq:ls[i]<;>simp_all
   have cC:((ls.take i).flatten++List.replicate (ls.flatten.length-(ls.take i).flatten.length) we).length=ls.flatten.length:=by
    rw[List.length_append,List.length_replicate]; omega
   refine⟨[(0,.arr true true false ((ls.take (i+1)).flatten++List.replicate (ls.flatten.length-(ls.take (i+1)).flatten.length) we))],fun nm=>?_,?_⟩
   ·unfold cur sE
    rw[if_neg h,if_neg h,if_neg h]
    have ho:=RM.xC (hp:=[some (.arr true true false ((ls.take i).flatten++List.replicate (ls.flatten.length-(ls.take i).flatten.length) we))]) (n:=0) rfl
    rw[cC]at ho
    have Db:=Bz (ls.take i).flatten ls[i] (ls.flatten.length-(ls.take i).flatten.length) we (by omega)
    simp only[fD,Ik,wg,Il,fM,RM.run_bind,RM.run_pure,Option.bind_some,Xd,hr,bg,decide_true,Bool.and_self,dK,ho]
    rw[if_neg (by rintro (h1|h1|h1); (exact absurd h1 (by decide)); (rw[cC]at h1; omega); (exact h1 rfl)),if_pos (by simp only[Option.getD_none]; omega),if_pos (by rw[cC]; omega)]
    simp only[RM.run_pure,Nat.zero_add,Db,hlen,←hf]
    rw[Nat.sub_sub]
   ·unfold sE; rw[if_neg h,if_neg h]; rfl
def I2(ls:List (List AV))(k:Nat)(s:St):Prop:=
 ∃ (i:Nat) (j1 j4 j5 j7 j8 j9 TF O2 Ly Lz LA LB LC LD LF LG LH LI LJ LK LL LM LN LO LP LQ LR LS LU:AV),k=ls.length-i∧i≤ls.length∧s=⟨40,[.sl (ls.map .sl),j1,.lit cK,int (ls.flatten.length:Nat),j4,j5,cur ls i,j7,j8,j9,TF,O2,Ly,Lz,LA,LB,LC,LD,LF,LG,LH,LI,LJ,LK,LL,.sl (ls.map .sl),int ls.length,int i,LM,LN,LO,LP,LQ,LR,LS,LU],sE ls i⟩
def P2(ls:List (List AV))(o:Out):Prop:=
 ∃ (O1 j1 j4 j5 j7 j8 j9 TF O2 Ly Lz LA LB LC LD LF LG LH LI LJ LK LL LM LN LO LP LQ LR LS LU:AV),o=.exit 2 ⟨40,[.sl (ls.map .sl),j1,.lit cK,int (ls.flatten.length:Nat),j4,j5,cur ls ls.length,j7,j8,j9,TF,O2,Ly,Lz,LA,LB,LC,LD,LF,LG,LH,LI,LJ,LK,LL,.sl (ls.map .sl),int ls.length,O1,LM,LN,LO,LP,LQ,LR,LS,LU],sE ls ls.length⟩
theorem Fy(ls:List (List AV))(hn:ls.length≤2^44)(bg:∀ l∈ls,l.all (aG (R 3).isAgg (R 3).size)=true)(SE:ls.flatten.length*(R 3).bytes≤2^44)(hT:ls.flatten.length≤2^44):∃ res hJ,ky C0 40 [.sl (ls.map .sl)] []=some (.val res,hJ)∧(aW 1000 res).run hJ=some (.sl ls.flatten):=by
 have key:ky C0 40 [.sl (ls.map .sl)] []=some (.val (cur ls ls.length),sE ls ls.length):=by
  rw[AD (fn:=Try.f40) SZ rfl]
  have zb:∀ f d,C0.acc f d=false:=fun _ _=>rfl
  have hr:0<(R 3).size:=by rw[Up]; decide
  simp (decide:=true) only [Try.f40,DK,zb,Ey Ty,List.length_map,gR,jd,pw,eR,List.map_cons,List.map_nil,dW,kf,n5,lF,JD,n4,k8,az,nP,gN,gC,bC,eW,kS,dt,List.getElem?_toArray,List.replicate_succ,List.replicate_zero,Nat.reduceSub,Option.bind_some,List.length_nil,List.length_cons,List.nil_append,List.cons_append,Nat.zero_add,Mk,Ml,Mn,Mo,lD,Option.bind_assoc,AP]
  refine zE (I1 ls) (P1 ls) ls.length ?_ ?_ ?_
  ·exact⟨0,_,_,_,_,_,_,_,_,_,_,_,_,_,_,_,_,_,_,_,_,_,_,_,_,_,_,_,_,_,_,rfl,Nat.zero_le _,rfl⟩
  ·rintro k s ⟨i,j1,j4,j5,j6,j7,j8,Ly,Lz,LA,LB,LC,LD,LF,LG,LH,LI,LJ,LK,LL,TD,TE,O1,LM,LN,LO,LP,LQ,LR,LS,LU,hk,hi,rfl⟩
   have LW:IntKind.i64.wrap ((i:Int)+1)=((i+1:Nat):Int):=by
    rw[IntWalk.i64_in _ (by omega)]; omega
   by_cases bS:i<ls.length
   ·have nq:(ls.map AV.sl)[i]?=some (.sl ls[i]):=by simp[bS]
    have bL:aG false 1 (.sl ls[i])=true:=by simp[aG,a9]
    have hp0:eH false 1 (.sl ls[i]) 0=some (.sl ls[i]):=by simp[eH,a9]
    have rT:((i:Int)<(ls.length:Int)):=by omega
    have hf:=Ap ls i bS
    have hle:=GV ls (i+1)
    have hlen:(ls.take (i+1)).flatten.length=(ls.take i).flatten.length+ls[i].length:=by rw[hf,List.length_append]
    have kN:IntKind.i64.wrap (((ls.take i).flatten.length:Int)+(ls[i].length:Int))=(((ls.take (i+1)).flatten.length:Nat):Int):=by
     rw[IntWalk.i64_in _ (by omega)]; omega
    have QL:¬(((ls.take (i+1)).flatten.length:Int)<0):=by omega
    left
    refine⟨_,by simp (decide:=true) only [nq,bL,rT,LW,kN,QL,TB,TC,Ey Il,bol,gR,jd,pw,eR,List.map_cons,List.map_nil,dW,kf,n5,F8,pA,td,lF,pB,n4,k8,xy,az,nP,gN,gC,bC,eW,Ex,AO,kS,qm,AM,dt,List.getElem?_toArray,Option.bind_some,Option.map_some,decide_true,decide_false,List.length_nil,a9,JF,eH,if_true,Mk,Ml,Mn,Mo,lD,k7,vw,te,rL,nu,Gd,qh,AP]; rfl,ls.length-(i+1),by omega,?_⟩
    rw[Cc (by simp)]
    exact⟨i+1,_,_,_,_,_,_,_,_,_,_,_,_,_,_,_,_,_,_,_,_,_,_,_,_,_,_,_,_,_,_,rfl,by omega,rfl⟩
   ·have rT:¬((i:Int)<(ls.length:Int)):=by omega
    have Qt:i=ls.length:=by omega
    right
    refine⟨_,by simp (decide:=true) only [rT,bol,gR,jd,pw,eR,List.map_cons,List.map_nil,dW,kf,pA,xy,az,gC,bC,eW,AO,kS,qm,dt,tf,List.getElem?_toArray,Option.bind_some,Option.map_some,decide_false,List.length_nil,Mk,Ml,Mn,Mo,k7,ui]; rfl,by simp,?_⟩
    have:ls.take i=ls:=by rw[Qt]; exact List.take_length
    rw[this]
    exact⟨_,_,_,_,_,_,_,_,_,_,_,_,_,_,_,_,_,_,_,_,_,_,_,_,_,_,_,_,_,_,_,rfl⟩
  ·rintro o ⟨O2,j1,j4,j5,j6,j7,j8,Ly,Lz,LA,LB,LC,LD,LF,LG,LH,LI,LJ,LK,LL,TD,TE,O1,LM,LN,LO,LP,LQ,LR,LS,LU,rfl⟩
   simp (decide:=true) only [gR,jd,pw,eR,List.map_cons,List.map_nil,dW,n5,n4,az,nP,gN,gC,bC,eW,kS,dt,List.getElem?_toArray,Option.bind_some,List.length_nil,nk,Ew,Mk,Ml,Mn,Mo,zG,Option.bind_assoc]
   have Xi:C0.kind 61=.imp:=rfl
   have TG:∀ a t,au (Op.call ⟨.value (.func 61),a,t⟩)=false:=fun _ _=>rfl
   simp only[nV,ri,TG,Xi]
   rw[LV ls SE hT]
   simp only[Option.bind_some,FY,List.length_nil,Ip]
   simp (decide:=true) only [Ey Ty,List.length_map,gR,jd,pw,eR,List.map_cons,List.map_nil,dW,kf,n5,lF,pB,n4,k8,az,nP,gN,gC,bC,eW,kS,dt,List.getElem?_toArray,Option.bind_some,Mk,Ml,Mn,Mo,lD,Option.bind_assoc,AP]
   refine zE (I2 ls) (P2 ls) ls.length ?_ ?_ ?_
   ·exact⟨0,_,_,_,_,_,_,_,_,_,_,_,_,_,_,_,_,_,_,_,_,_,_,_,_,_,_,_,_,_,rfl,Nat.zero_le _,rfl⟩
   ·rintro k s ⟨i,j1,j4,j5,j7,j8,j9,TF,O2,Ly,Lz,LA,LB,LC,LD,LF,LG,LH,LI,LJ,LK,LL,LM,LN,LO,LP,LQ,LR,LS,LU,hk,hi,rfl⟩
    have LW:IntKind.i64.wrap ((i:Int)+1)=((i+1:Nat):Int):=by
     rw[IntWalk.i64_in _ (by omega)]; omega
    by_cases bS:i<ls.length
    ·have nq:(ls.map AV.sl)[i]?=some (.sl ls[i]):=by simp[bS]
     have bL:aG false 1 (.sl ls[i])=true:=by simp[aG,a9]
     have hp0:eH false 1 (.sl ls[i]) 0=some (.sl ls[i]):=by simp[eH,a9]
     have rT:((i:Int)<(ls.length:Int)):=by omega
     obtain⟨wr,UR,DW⟩:=N7 ls i bS (bg _ (List.getElem_mem bS))
     left
     refine⟨_,by simp (decide:=true) only [nq,bL,rT,LW,Lt,UR,DW,TB,TC,bol,gR,jd,pw,eR,List.map_cons,List.map_nil,dW,kf,n5,F8,pA,td,lF,pB,n4,k8,xy,az,nP,gN,gC,bC,eW,Ex,kS,qm,AM,dt,List.getElem?_toArray,Option.bind_some,Option.map_some,decide_true,a9,JF,eH,if_true,Mk,Ml,Mn,Mo,lD,k7,vw,te,rL,nu,Gd,qh]; rfl,ls.length-(i+1),by omega,?_⟩
     rw[Iq]
     simp only[List.map_cons,List.map_nil,FG]
     exact⟨i+1,_,_,_,_,_,_,_,_,_,_,_,_,_,_,_,_,_,_,_,_,_,_,_,_,_,_,_,_,_,rfl,by omega,rfl⟩
    ·have rT:¬((i:Int)<(ls.length:Int)):=by omega
     have Qt:i=ls.length:=by omega
     right
     refine⟨_,by simp (decide:=true) only [rT,bol,gR,jd,pw,eR,List.map_cons,List.map_nil,dW,kf,pA,xy,az,gC,bC,eW,AO,kS,qm,dt,tf,List.getElem?_toArray,Option.bind_some,Option.map_some,decide_false,Mk,Ml,Mn,Mo,k7,ui]; rfl,by simp,?_⟩
     subst Qt
     exact⟨_,_,_,_,_,_,_,_,_,_,_,_,_,_,_,_,_,_,_,_,_,_,_,_,_,_,_,_,_,_,rfl⟩
   ·rintro o ⟨O1,j1,j4,j5,j7,j8,j9,TF,O2,Ly,Lz,LA,LB,LC,LD,LF,LG,LH,LI,LJ,LK,LL,LM,LN,LO,LP,LQ,LR,LS,LU,rfl⟩
    simp (decide:=true) only [gR,jd,pw,eR,List.map_cons,List.map_nil,dW,kf,n5,pB,n4,k8,az,gC,bC,eW,kS,dt,xe,Cb,Ga,Gb,F9,List.getElem?_toArray,Option.bind_some,Option.map_some,Mk,Ml,Mn,Mo,zG]
 refine⟨_,_,key,?_⟩
 unfold cur sE
 by_cases h:ls.flatten.length=0
 ·rw[if_pos h,if_pos h,List.length_eq_zero_iff.1 h]; rfl
 ·rw[if_neg h,if_neg h]
  simp only[List.take_length,Nat.sub_self,List.replicate_zero,List.append_nil]
  exact FF (RM.xC rfl)
end Go.Proofs.Ytedjbjphpnkpoaa.qf
end
section
/- The context of this seat, contracts of library functions, the greatest common divisor. -/
set_option maxRecDepth 100000
set_option maxHeartbeats 0
namespace Go.Proofs.Ytedjbjphpnkpoaa
open Go.PI
def DA:bG:=⟨.bool,1,8,none,false⟩
noncomputable def C:Ctx where
 P:=Try.prog
 kind:=fun f=>match Go.PI.cm [(24,()),(25,()),(26,()),(30,()),(37,()),(45,()),(47,()),(49,()),(56,()),(63,()),(64,()),(65,()),(66,()),(67,()),(68,()),(69,()),(70,()),(73,()),(74,()),(75,()),(77,()),(84,()),(85,()),(87,()),(89,()),(90,()),(91,()),(92,()),(93,()),(94,()),(97,()),(98,()),(111,()),(112,()),(113,()),(119,()),(120,()),(123,())] f with|some _=>.imp|none=>.pure
 kv:=fun g=>Go.PI.cm [(40,mG DA)] g
 acc:=fun _ _=>true
 qR:=fun f d=>(Go.PI.Gu [(6,38,[(0,1),(2,1)])] f d).getD []
theorem Lg : ∀ (f : FuncId) (fn : Func), Try.prog.funcs[f]? = some fn → fn.body.isSome = true → (fn.name == "runtime.NumGoroutine") = false := by
 have h : (Try.prog.funcs.toList.all fun fn => !(fn.name == "runtime.NumGoroutine") || !fn.body.isSome) = true := by kernel_rfl
 intro f fn hf hb
 have hm:fn∈Try.prog.funcs.toList:=by
  have:=Array.mem_of_getElem? hf
  exact Array.mem_toList_iff.2 this
 have:=List.all_eq_true.1 h fn hm
 rw[hb]at this
 simpa using this
theorem NO:qf.C0.Ok where
 name:=Lg
 kv:=fun g h al r hg=>by simp[qf.C0]at hg
 rb:=fun g h al hp e h1=>by cases h1
 EE:=fun g h hg=>by simp[qf.C0]at hg
 iU:=fun g h al r hJ hg=>by simp[qf.C0]at hg
 AW:=fun g h hg=>by simp[qf.C0]at hg
theorem Lh{g:FuncId}{h:List AV→Option AV}(hg:C.kv g=some h):g=40∧h=mG DA:=by
 have:=gz (show Go.PI.cm [(40,mG DA)] g=some h from hg)
 simp only[List.mem_singleton,Prod.mk.injEq]at this
 exact this
theorem Cok:C.Ok where
 name:=Lg
 kv:=by
  intro g h al r hg hr Ec w vs hI ha
  obtain⟨rfl,rfl⟩:=Lh hg
  exact Ia (r:=DA) NO (fun ls h0 h1 h2 h3=>qf.Fy ls h0 (by rw[qf.ag3,qf.Up]; exact h1) (by rw[qf.by3]; exact h2) h3) hr Ec w vs hI ha
 EE:=by
  intro g h hg
  obtain⟨rfl,rfl⟩:=Lh hg
  exact⟨_,qf.SZ,rfl⟩
 rb:=fun g h al hp e h1=>by cases h1
 iU:=fun g h al r hJ hg=>by cases hg
 AW:=fun g h hg=>by cases hg
theorem ok3(x:Int)(a:AV)(h:Mf x a):aG DA.isAgg DA.size a=true:=(yF (eI h)).1
def _root_.Go.aa.gW(s:List (List Int)):Option (List Int):=tx 8 s
theorem Qc:p8 C T 40 ⟨[23],[22],fun x=>Go.aa.gW x⟩:=
 Fz (C:=C) (T:=T) (g:=40) (t:=23) (u:=22) (I:=mG DA) (F:=Go.aa.gW) rfl rfl fun x a y h hy=>by
  obtain⟨l,h1,h2⟩:=FA (r:=DA) (rpe:=Mf) (x:=x) (y:=y) ok3 h hy
  exact⟨l,h1,.inl ⟨l,rfl,h2⟩⟩
def _root_.Go.aa.jO:Option Bool:=some true
def ki:List (Nat×vQ T):=[]
theorem sg:∀ (g:FuncId) (σ:vQ T),cm ki g=some σ→GL C T g σ:=fun g σ h=>by simp[ki,cm]at h
def tD:FuncId→Nat→Bool:=fun _ _=>false
def Sy:FuncId→Tmp→List Tw:=fun _ _=>[]
def _root_.Go.aa.EY:Nat→Int→Int→Option Int
 |0,_,_=>none
 |n+1,a,b=>bif b==0 then some a else bif decide (b=0) then none else (Go.aa.EY n b (a.tmod b)).bind fun i=>some i
noncomputable def gS(n:Nat):od:=GF C T Bi (fun _ _=>none) (fun _ _=>false) [(82,⟨[3,3],[3],fun x=>Go.aa.EY n x.1 x.2⟩)] 1 ki tD Sy
theorem Li:∀ n,p8 C T 82 ⟨[3,3],[3],fun x=>Go.aa.EY n x.1 x.2⟩
 |0=>⟨rfl,fun x al y _ h=>by cases h⟩
 |n+1=>by
  have h0:(GF C T Bi (fun _ _=>none) (fun _ _=>false) [(82,⟨[3,3],[3],fun x=>Go.aa.EY n x.1 x.2⟩)] 0 ki tD Sy).Ok:=C2 X9 Qb Ya sg
  have h1:(gS n).Ok:=tJ h0 rfl (Li n)
  exact DB (S:=gS n) (k:=400) (σ:=⟨[3,3],[3],fun x=>Go.aa.EY (n+1) x.1 x.2⟩) h1 rfl rfl fun x=>by kernel_rfl
def _root_.Go.aa.jX(a b:Int):Option Int:=Go.aa.EY 200 a b
theorem Qd:p8 C T 82 ⟨[3,3],[3],fun x=>Go.aa.jX x.1 x.2⟩:=Li 200
end Go.Proofs.Ytedjbjphpnkpoaa
end
section
/- Models of the functions of this seat, and that they hold (printed by chain.py). -/
set_option maxRecDepth 100000
set_option maxHeartbeats 0
namespace Go.Proofs.Ytedjbjphpnkpoaa
open Go.PI
end Go.Proofs.Ytedjbjphpnkpoaa
open Go Go.PI Go.Proofs Go.Proofs.Ytedjbjphpnkpoaa
noncomputable def Go.aa.nH(n:Int)(low:Int)(high:Int):Option Bool:=
 bif decide (low≤n) then
 some (decide (n≤high))
 else
 some false
noncomputable def Go.aa.jY(l:List Int)(KI:Int):Option Bool:=
 (aO (ω:=Bool ⊕ Bool×Int) (fun ((b1,i2):Bool×Int)=>
 bif decide (i2<(↑l.length:Int)) then
 bif decide (0≤i2) then
 (l[i2.toNat]?).bind fun i3=>
 (aa.nH i3 0 (IntKind.i64.wrap (KI-1))).bind fun b4=>
 bif !b4 then
 some (Sum.inr (Sum.inl false))
 else
 bif decide (0<i2) then
 bif decide (0≤IntKind.i64.wrap (i2-1)) then
 (l[(IntKind.i64.wrap (i2-1)).toNat]?).bind fun i5=>
 bif decide (i3≤i5) then
 some (Sum.inr (Sum.inl false))
 else
 some (Sum.inl (b1,IntKind.i64.wrap (i2+1)))
 else
 none
 else
 some (Sum.inl (b1,IntKind.i64.wrap (i2+1)))
 else
 none
 else
 some (Sum.inr (Sum.inr (b1,i2)))) (false,0)).bind fun w6=>
 Sum.elim (fun b7=>
 some b7) (fun (b8,i9)=>
 (aa.nH (↑l.length:Int) 1 6).bind fun QY=>
 some QY) w6
noncomputable def Go.aa.gp(n:bP):Option Bool:=
 bif decide (8<(↑n.ay.length:Int)) then
 some false
 else
 bif decide (8<(↑n.af.length:Int)) then
 some false
 else
 bif !(↑n.aD.length:Int)==(↑n.af.length:Int) then
 some false
 else
 (aa.gW [n.ay,n.aD]).bind fun l1=>
 (aO (ω:=Bool ⊕ Bool×Int) (fun ((b2,i3):Bool×Int)=>
 bif decide (i3<(↑l1.length:Int)) then
 bif decide (0≤i3) then
 (l1[i3.toNat]?).bind fun i4=>
 (aa.nH i4 0 1000).bind fun b5=>
 bif !b5 then
 some (Sum.inr (Sum.inl false))
 else
 some (Sum.inl (b2,IntKind.i64.wrap (i3+1)))
 else
 none
 else
 some (Sum.inr (Sum.inr (b2,i3)))) (false,0)).bind fun w6=>
 Sum.elim (fun b7=>
 some b7) (fun (b8,i9)=>
 (aO (ω:=Bool ⊕ Bool×Int) (fun ((QY,i11):Bool×Int)=>
 bif decide (i11<(↑n.af.length:Int)) then
 bif decide (0≤i11) then
 (n.af[i11.toNat]?).bind fun VC=>
 (aa.jY VC (↑n.ay.length:Int)).bind fun OG=>
 bif !OG then
 some (Sum.inr (Sum.inl false))
 else
 some (Sum.inl (QY,IntKind.i64.wrap (i11+1)))
 else
 none
 else
 some (Sum.inr (Sum.inr (QY,i11)))) (b8,0)).bind fun ZK=>
 Sum.elim (fun Uc=>
 some Uc) (fun (VD,i17)=>
 some true) ZK) w6
noncomputable def Go.aa.n9(s:List Bool)(v:Bool):Option Int:=
 (aO (ω:=Int ⊕ Int×Int) (fun ((i1,i2):Int×Int)=>
 bif decide (i2<(↑s.length:Int)) then
 bif decide (0≤i2) then
 (s[i2.toNat]?).bind fun b3=>
 bif v==b3 then
 some (Sum.inr (Sum.inl i2))
 else
 some (Sum.inl (i1,IntKind.i64.wrap (i2+1)))
 else
 none
 else
 some (Sum.inr (Sum.inr (i1,i2)))) (0,0)).bind fun w4=>
 Sum.elim (fun i5=>
 some i5) (fun (i6,i7)=>
 some (-1)) w4
noncomputable def Go.aa.fe(s:List Bool)(v:Bool):Option Bool:=
 (aa.n9 s v).bind fun i1=>
 some (decide (0≤i1))
noncomputable def Go.aa.bM(f:ai):Option Bool:=
 bif decide ((if f.du<IntKind.i64.wrap (0-f.du) then IntKind.i64.wrap (0-f.du) else f.du)≤1000000000) then
 bif decide (1≤f.Den) then
 some (decide (f.Den≤1000000000))
 else
 some false
 else
 some false
noncomputable def Go.aa.cS(f:ai):Option ai:=
 (aa.jX (if f.du<IntKind.i64.wrap (0-f.du) then IntKind.i64.wrap (0-f.du) else f.du) (if f.Den<IntKind.i64.wrap (0-f.Den) then IntKind.i64.wrap (0-f.Den) else f.Den)).bind fun i1=>
 bif decide (f.Den<0) then
 bif decide (IntKind.i64.wrap (0-i1)=0) then
 none
 else
 bif decide (IntKind.i64.wrap (0-i1)=0) then
 none
 else
 some (ai.mk (IntKind.i64.wrap (f.du.tdiv (IntKind.i64.wrap (0-i1)))) (IntKind.i64.wrap (f.Den.tdiv (IntKind.i64.wrap (0-i1)))))
 else
 bif decide (i1=0) then
 none
 else
 bif decide (i1=0) then
 none
 else
 some (ai.mk (IntKind.i64.wrap (f.du.tdiv i1)) (IntKind.i64.wrap (f.Den.tdiv i1)))
noncomputable def Go.aa.cM(a:ai):Option Bool:=
 bif decide (-1000000000≤a.du) then
 (aa.bM a).bind fun b1=>
 bif b1 then
 (aa.cS a).bind fun q2=>
 some (q2.du==a.du&&q2.Den==a.Den)
 else
 some false
 else
 some false
noncomputable def Go.aa.qy(x:Int):Option Bool:=
 some (!x==x)
noncomputable def Go.aa.pQ(x:Int)(y:Int):Option Int:=
 (aa.qy x).bind fun b1=>
 (aa.qy y).bind fun b2=>
 bif b1 then
 bif b2 then
 some 0
 else
 some (-1)
 else
 bif b2 then
 some 1
 else
 bif decide (x<y) then
 some (-1)
 else
 bif decide (y<x) then
 some 1
 else
 some 0
noncomputable def Go.aa.qx(a:ai)(b:ai):Option (Int×Int):=
 (aa.cM a).bind fun b1=>
 bif !b1 then
 some (0,1)
 else
 (aa.cM b).bind fun b2=>
 bif !b2 then
 some (0,1)
 else
 (aa.pQ (IntKind.i64.wrap (a.du*b.Den)) (IntKind.i64.wrap (b.du*a.Den))).bind fun i3=>
 some (i3,0)
noncomputable def Go.aa.fR(a:ai)(b:ai):Option Bool:=
 (aa.qx a b).bind fun (i1,i2)=>
 some (decide (i1<0))
noncomputable def Go.aa.n8(l:List Int)(KI:Int):Option Bool:=
 (aO (ω:=Bool ⊕ Bool×Int) (fun ((b1,i2):Bool×Int)=>
 bif decide (i2<(↑l.length:Int)) then
 bif decide (0≤i2) then
 (l[i2.toNat]?).bind fun i3=>
 bif decide (i3<0) then
 some (Sum.inr (Sum.inl false))
 else
 bif decide (0≤i2) then
 (l[i2.toNat]?).bind fun i4=>
 bif decide (KI≤i4) then
 some (Sum.inr (Sum.inl false))
 else
 bif decide (0<i2) then
 bif decide (0≤i2) then
 (l[i2.toNat]?).bind fun i5=>
 bif decide (0≤IntKind.i64.wrap (i2-1)) then
 (l[(IntKind.i64.wrap (i2-1)).toNat]?).bind fun i6=>
 bif decide (i5≤i6) then
 some (Sum.inr (Sum.inl false))
 else
 some (Sum.inl (b1,IntKind.i64.wrap (i2+1)))
 else
 none
 else
 none
 else
 some (Sum.inl (b1,IntKind.i64.wrap (i2+1)))
 else
 none
 else
 none
 else
 some (Sum.inr (Sum.inr (b1,i2)))) (false,0)).bind fun w7=>
 Sum.elim (fun b8=>
 some b8) (fun (b9,i10)=>
 bif decide (1≤(↑l.length:Int)) then
 some (decide ((↑l.length:Int)≤6))
 else
 some false) w7
noncomputable def Go.aa.cY(n:bP):Option Bool:=
 bif decide (8<(↑n.ay.length:Int)) then
 some false
 else
 bif decide (8<(↑n.af.length:Int)) then
 some false
 else
 bif !(↑n.aD.length:Int)==(↑n.af.length:Int) then
 some false
 else
 (aO (ω:=Bool ⊕ Bool×Int) (fun ((b1,i2):Bool×Int)=>
 bif decide (i2<(↑n.ay.length:Int)) then
 bif decide (0≤i2) then
 (n.ay[i2.toNat]?).bind fun i3=>
 bif decide (i3<0) then
 some (Sum.inr (Sum.inl false))
 else
 bif decide (0≤i2) then
 (n.ay[i2.toNat]?).bind fun i4=>
 bif decide (1000<i4) then
 some (Sum.inr (Sum.inl false))
 else
 some (Sum.inl (b1,IntKind.i64.wrap (i2+1)))
 else
 none
 else
 none
 else
 some (Sum.inr (Sum.inr (b1,i2)))) (false,0)).bind fun w5=>
 Sum.elim (fun b6=>
 some b6) (fun (b7,i8)=>
 (aO (ω:=Bool ⊕ Bool×Int) (fun ((b9,i10):Bool×Int)=>
 bif decide (i10<(↑n.af.length:Int)) then
 bif decide (0≤i10) then
 (n.af[i10.toNat]?).bind fun BE=>
 (aa.n8 BE (↑n.ay.length:Int)).bind fun D0=>
 bif !D0 then
 some (Sum.inr (Sum.inl false))
 else
 bif decide (0≤i10) then
 (n.aD[i10.toNat]?).bind fun i13=>
 bif decide (i13<0) then
 some (Sum.inr (Sum.inl false))
 else
 bif decide (0≤i10) then
 (n.aD[i10.toNat]?).bind fun i14=>
 bif decide (1000<i14) then
 some (Sum.inr (Sum.inl false))
 else
 some (Sum.inl (b9,IntKind.i64.wrap (i10+1)))
 else
 none
 else
 none
 else
 none
 else
 some (Sum.inr (Sum.inr (b9,i10)))) (b7,0)).bind fun ZL=>
 Sum.elim (fun VD=>
 some VD) (fun (b17,i18)=>
 some true) ZL) w5
noncomputable def Go.aa.kg(l:List Int)(link:Int):Option Bool:=
 (aO (ω:=Bool ⊕ Bool×Int) (fun ((b1,i2):Bool×Int)=>
 bif decide (i2<(↑l.length:Int)) then
 bif decide (0≤i2) then
 (l[i2.toNat]?).bind fun i3=>
 bif i3==link then
 some (Sum.inr (Sum.inl true))
 else
 some (Sum.inl (b1,IntKind.i64.wrap (i2+1)))
 else
 none
 else
 some (Sum.inr (Sum.inr (b1,i2)))) (false,0)).bind fun w4=>
 Sum.elim (fun b5=>
 some b5) (fun (b6,i7)=>
 some false) w4
noncomputable def Go.aa.ik(num:Int)(mW:Int):Option Bool:=
 bif decide (-1000000000≤num) then
 bif decide (num≤1000000000) then
 bif decide (1≤mW) then
 some (decide (mW≤1000000000))
 else
 some false
 else
 some false
 else
 some false
noncomputable def Go.aa.ld(n:Int):Option Int:=
 some (if n<IntKind.i64.wrap (0-n) then IntKind.i64.wrap (0-n) else n)
noncomputable def Go.aa.fi(a:Int)(b:Int):Option Int:=
 (aO (ω:=Int×Int) (fun ((i1,i2):Int×Int)=>
 bif !i2==0 then
 bif decide (i2=0) then
 none
 else
 some (Sum.inl (i2,i1.tmod i2))
 else
 some (Sum.inr (i1,i2))) (a,b)).bind fun (i3,i4)=>
 some i3
noncomputable def Go.aa.cN(a:ai):Option Bool:=
 (aa.ik a.du a.Den).bind fun b1=>
 bif b1 then
 (aa.ld a.du).bind fun i2=>
 (aa.fi i2 a.Den).bind fun i3=>
 some (i3==1)
 else
 some false
noncomputable def Go.aa.ed(num:Int)(mW:Int):Option (ai×Int):=
 bif decide (mW<0) then
 (aa.ld (IntKind.i64.wrap (0-num))).bind fun i1=>
 (aa.fi i1 (IntKind.i64.wrap (0-mW))).bind fun i2=>
 bif decide (i2=0) then
 none
 else
 bif decide (i2=0) then
 none
 else
 (aa.ik (IntKind.i64.wrap ((IntKind.i64.wrap (0-num)).tdiv i2)) (IntKind.i64.wrap ((IntKind.i64.wrap (0-mW)).tdiv i2))).bind fun b3=>
 bif !b3 then
 some (ai.mk 0 0,3)
 else
 bif decide (i2=0) then
 none
 else
 bif decide (i2=0) then
 none
 else
 some (ai.mk (IntKind.i64.wrap ((IntKind.i64.wrap (0-num)).tdiv i2)) (IntKind.i64.wrap ((IntKind.i64.wrap (0-mW)).tdiv i2)),0)
 else
 (aa.ld num).bind fun i4=>
 (aa.fi i4 mW).bind fun i5=>
 bif decide (i5=0) then
 none
 else
 bif decide (i5=0) then
 none
 else
 (aa.ik (IntKind.i64.wrap (num.tdiv i5)) (IntKind.i64.wrap (mW.tdiv i5))).bind fun b6=>
 bif !b6 then
 some (ai.mk 0 0,3)
 else
 bif decide (i5=0) then
 none
 else
 bif decide (i5=0) then
 none
 else
 some (ai.mk (IntKind.i64.wrap (num.tdiv i5)) (IntKind.i64.wrap (mW.tdiv i5)),0)
noncomputable def Go.aa.z3(a:ai)(b:ai):Option (ai×Int):=
 (aa.cN a).bind fun b1=>
 bif !b1 then
 some (ai.mk 0 0,1)
 else
 (aa.cN b).bind fun b2=>
 bif !b2 then
 some (ai.mk 0 0,1)
 else
 (aa.ed (IntKind.i64.wrap (IntKind.i64.wrap (a.du*b.Den)-IntKind.i64.wrap (b.du*a.Den))) (IntKind.i64.wrap (a.Den*b.Den))).bind fun (q3,i4)=>
 some (q3,i4)
noncomputable def Go.aa.z4(a:ai)(b:ai):Option (ai×Int):=
 (aa.cN a).bind fun b1=>
 bif !b1 then
 some (ai.mk 0 0,1)
 else
 (aa.cN b).bind fun b2=>
 bif !b2 then
 some (ai.mk 0 0,1)
 else
 bif b.du==0 then
 some (ai.mk 0 0,14)
 else
 (aa.ed (IntKind.i64.wrap (a.du*b.Den)) (IntKind.i64.wrap (a.Den*b.du))).bind fun (q3,i4)=>
 some (q3,i4)
noncomputable def Go.aa.vT(n:bP)(fixed:List Bool)(x:List ai)(link:Int):Option (ai×Int):=
 bif decide (0≤link) then
 (n.ay[link.toNat]?).bind fun i1=>
 (aO (ω:=Int×Int×Int×Int) (fun ((i2,i3,i4,i5):Int×Int×Int×Int)=>
 bif decide (i3<(↑n.af.length:Int)) then
 bif decide (0≤i3) then
 (n.af[i3.toNat]?).bind fun l6=>
 (aa.kg l6 link).bind fun b7=>
 bif b7 then
 bif decide (0≤i3) then
 (fixed[i3.toNat]?).bind fun b8=>
 bif b8 then
 bif decide (0≤i3) then
 (x[i3.toNat]?).bind fun q9=>
 (aa.z3 (ai.mk i4 i5) q9).bind fun (CL,i11)=>
 bif b7 then
 bif decide (0≤i3) then
 (fixed[i3.toNat]?).bind fun D0=>
 bif !D0 then
 some (Sum.inl (IntKind.i64.wrap (i2+1),IntKind.i64.wrap (i3+1),CL.du,CL.Den))
 else
 some (Sum.inl (i2,IntKind.i64.wrap (i3+1),CL.du,CL.Den))
 else
 none
 else
 some (Sum.inl (i2,IntKind.i64.wrap (i3+1),CL.du,CL.Den))
 else
 none
 else
 bif b7 then
 bif decide (0≤i3) then
 (fixed[i3.toNat]?).bind fun OG=>
 bif !OG then
 some (Sum.inl (IntKind.i64.wrap (i2+1),IntKind.i64.wrap (i3+1),i4,i5))
 else
 some (Sum.inl (i2,IntKind.i64.wrap (i3+1),i4,i5))
 else
 none
 else
 some (Sum.inl (i2,IntKind.i64.wrap (i3+1),i4,i5))
 else
 none
 else
 bif b7 then
 bif decide (0≤i3) then
 (fixed[i3.toNat]?).bind fun VE=>
 bif !VE then
 some (Sum.inl (IntKind.i64.wrap (i2+1),IntKind.i64.wrap (i3+1),i4,i5))
 else
 some (Sum.inl (i2,IntKind.i64.wrap (i3+1),i4,i5))
 else
 none
 else
 some (Sum.inl (i2,IntKind.i64.wrap (i3+1),i4,i5))
 else
 none
 else
 some (Sum.inr (i2,i3,i4,i5))) (0,0,i1,1)).bind fun (i15,i16,i17,i18)=>
 bif i15==0 then
 some (ai.mk i17 i18,0)
 else
 (aa.z4 (ai.mk i17 i18) (ai.mk i15 1)).bind fun (VF,i20)=>
 some (VF,i15)
 else
 none
noncomputable def Go.aa.fj(a:ai)(b:ai):Option (Int×Int):=
 (aa.cN a).bind fun b1=>
 bif !b1 then
 some (0,1)
 else
 (aa.cN b).bind fun b2=>
 bif !b2 then
 some (0,1)
 else
 bif decide (IntKind.i64.wrap (a.du*b.Den)<IntKind.i64.wrap (b.du*a.Den)) then
 some (-1,0)
 else
 bif decide (IntKind.i64.wrap (b.du*a.Den)<IntKind.i64.wrap (a.du*b.Den)) then
 some (1,0)
 else
 some (0,0)
noncomputable def Go.aa.vU(n:bP):Option ((List ai)×Int):=
 (aa.cY n).bind fun b1=>
 bif !b1 then
 some ([],1)
 else
 bif decide ((↑n.af.length:Int).toNat*16≤2^47)&&decide ((↑n.af.length:Int).toNat<2^62) then
 bif decide ((↑n.af.length:Int).toNat*1≤2^47)&&decide ((↑n.af.length:Int).toNat<2^62) then
 (aO (ω:=Int×List ai×List Bool) (fun ((i2,l3,l4):Int×List ai×List Bool)=>
 bif decide (0<i2) then
 (aO (ω:=Int×Int×Int×Int) (fun ((i5,i6,i7,i8):Int×Int×Int×Int)=>
 bif decide (i6<(↑n.ay.length:Int)) then
 (aa.vT n l4 l3 i6).bind fun (q9,i10)=>
 (aa.fj q9 (ai.mk i7 i8)).bind fun (i11,i12)=>
 bif decide (0<i10) then
 bif decide (i11<0) then
 some (Sum.inl (i6,IntKind.i64.wrap (i6+1),q9.du,q9.Den))
 else
 some (Sum.inl (i5,IntKind.i64.wrap (i6+1),i7,i8))
 else
 some (Sum.inl (i5,IntKind.i64.wrap (i6+1),i7,i8))
 else
 some (Sum.inr (i5,i6,i7,i8))) (-1,0,1000000,1)).bind fun (i13,i14,i15,i16)=>
 (aO (ω:=Int×Int×Int×Int×Int) (fun ((i17,i18,i19,i20,i21):Int×Int×Int×Int×Int)=>
 bif decide (i19<(↑n.af.length:Int)) then
 bif decide (0≤i19) then
 (n.aD[i19.toNat]?).bind fun i22=>
 (aa.fj (ai.mk i22 1) (ai.mk i20 i21)).bind fun (i23,i24)=>
 bif decide (0≤i19) then
 bif decide (i19.toNat<l4.length) then
 (l4[0+i19.toNat]?).bind fun ZM=>
 bif !ZM then
 bif decide (0≤i19) then
 (n.aD[i19.toNat]?).bind fun i26=>
 bif decide (0<i26) then
 bif decide (i23<0) then
 some (Sum.inl (i19,-1,IntKind.i64.wrap (i19+1),i22,1))
 else
 some (Sum.inl (i17,i18,IntKind.i64.wrap (i19+1),i20,i21))
 else
 some (Sum.inl (i17,i18,IntKind.i64.wrap (i19+1),i20,i21))
 else
 none
 else
 some (Sum.inl (i17,i18,IntKind.i64.wrap (i19+1),i20,i21))
 else
 none
 else
 none
 else
 none
 else
 some (Sum.inr (i17,i18,i19,i20,i21))) (-1,i13,0,i15,i16)).bind fun (i27,i28,i29,i30,i31)=>
 (aO (ω:=Int×Int×List ai×List Bool) (fun ((i32,i33,qH,rn):Int×Int×List ai×List Bool)=>
 bif decide (i33<(↑n.af.length:Int)) then
 bif decide (0≤i28) then
 bif decide (0≤i33) then
 (n.af[i33.toNat]?).bind fun ZN=>
 (aa.kg ZN i28).bind fun ZO=>
 bif decide (0≤i33) then
 bif decide (i33.toNat<rn.length) then
 (rn[0+i33.toNat]?).bind fun P6=>
 bif !P6 then
 bif ZO then
 bif decide (0≤i33) then
 bif decide (i33.toNat<rn.length) then
 (rn[0+i33.toNat]?).bind fun XV=>
 bif decide (0≤i33) then
 bif decide (i33.toNat<qH.length) then
 (qH[0+i33.toNat]?).bind fun q40=>
 bif decide ((qH.set (0+i33.toNat) (ai.mk i30 i31)).length=l3.length) then
 bif decide ((rn.set (0+i33.toNat) true).length=l4.length) then
 some (Sum.inl (IntKind.i64.wrap (i32-1),IntKind.i64.wrap (i33+1),qH.set (0+i33.toNat) (ai.mk i30 i31),rn.set (0+i33.toNat) true))
 else
 none
 else
 none
 else
 none
 else
 none
 else
 none
 else
 none
 else
 bif decide (i28<0) then
 bif i33==i27 then
 bif decide (0≤i33) then
 bif decide (i33.toNat<rn.length) then
 (rn[0+i33.toNat]?).bind fun XW=>
 bif decide (0≤i33) then
 bif decide (i33.toNat<qH.length) then
 (qH[0+i33.toNat]?).bind fun q42=>
 bif decide ((qH.set (0+i33.toNat) (ai.mk i30 i31)).length=l3.length) then
 bif decide ((rn.set (0+i33.toNat) true).length=l4.length) then
 some (Sum.inl (IntKind.i64.wrap (i32-1),IntKind.i64.wrap (i33+1),qH.set (0+i33.toNat) (ai.mk i30 i31),rn.set (0+i33.toNat) true))
 else
 none
 else
 none
 else
 none
 else
 none
 else
 none
 else
 none
 else
 bif decide (qH.length=l3.length) then
 bif decide (rn.length=l4.length) then
 some (Sum.inl (i32,IntKind.i64.wrap (i33+1),qH,rn))
 else
 none
 else
 none
 else
 bif decide (qH.length=l3.length) then
 bif decide (rn.length=l4.length) then
 some (Sum.inl (i32,IntKind.i64.wrap (i33+1),qH,rn))
 else
 none
 else
 none
 else
 bif decide (qH.length=l3.length) then
 bif decide (rn.length=l4.length) then
 some (Sum.inl (i32,IntKind.i64.wrap (i33+1),qH,rn))
 else
 none
 else
 none
 else
 none
 else
 none
 else
 none
 else
 bif decide (0≤i33) then
 bif decide (i33.toNat<rn.length) then
 (rn[0+i33.toNat]?).bind fun VG=>
 bif !VG then
 bif decide (i28<0) then
 bif i33==i27 then
 bif decide (0≤i33) then
 bif decide (i33.toNat<rn.length) then
 (rn[0+i33.toNat]?).bind fun XX=>
 bif decide (0≤i33) then
 bif decide (i33.toNat<qH.length) then
 (qH[0+i33.toNat]?).bind fun VH=>
 bif decide ((qH.set (0+i33.toNat) (ai.mk i30 i31)).length=l3.length) then
 bif decide ((rn.set (0+i33.toNat) true).length=l4.length) then
 some (Sum.inl (IntKind.i64.wrap (i32-1),IntKind.i64.wrap (i33+1),qH.set (0+i33.toNat) (ai.mk i30 i31),rn.set (0+i33.toNat) true))
 else
 none
 else
 none
 else
 none
 else
 none
 else
 none
 else
 none
 else
 bif decide (qH.length=l3.length) then
 bif decide (rn.length=l4.length) then
 some (Sum.inl (i32,IntKind.i64.wrap (i33+1),qH,rn))
 else
 none
 else
 none
 else
 bif decide (qH.length=l3.length) then
 bif decide (rn.length=l4.length) then
 some (Sum.inl (i32,IntKind.i64.wrap (i33+1),qH,rn))
 else
 none
 else
 none
 else
 bif decide (qH.length=l3.length) then
 bif decide (rn.length=l4.length) then
 some (Sum.inl (i32,IntKind.i64.wrap (i33+1),qH,rn))
 else
 none
 else
 none
 else
 none
 else
 none
 else
 bif decide (qH.length=l3.length) then
 bif decide (rn.length=l4.length) then
 some (Sum.inr (i32,i33,qH,rn))
 else
 none
 else
 none) (i2,0,l3,l4)).bind fun (i46,i47,P7,QZ)=>
 bif decide (P7.length=(List.replicate (↑n.af.length:Int).toNat (ai.mk 0 0)).length) then
 bif decide (QZ.length=(List.replicate (↑n.af.length:Int).toNat false).length) then
 some (Sum.inl (i46,P7,QZ))
 else
 none
 else
 none
 else
 bif decide (l3.length=(List.replicate (↑n.af.length:Int).toNat (ai.mk 0 0)).length) then
 bif decide (l4.length=(List.replicate (↑n.af.length:Int).toNat false).length) then
 some (Sum.inr (i2,l3,l4))
 else
 none
 else
 none) ((↑n.af.length:Int),List.replicate (↑n.af.length:Int).toNat (ai.mk 0 0),List.replicate (↑n.af.length:Int).toNat false)).bind fun (i50,Nx,l52)=>
 some (Nx,0)
 else
 none
 else
 none
noncomputable def Go.aa.dy(n:Int):Option ai:=
 some (ai.mk n 1)
noncomputable def Go.aa.mO(s:List Int)(v:Int):Option Int:=
 (aO (ω:=Int ⊕ Int×Int) (fun ((i1,i2):Int×Int)=>
 bif decide (i2<(↑s.length:Int)) then
 bif decide (0≤i2) then
 (s[i2.toNat]?).bind fun i3=>
 bif v==i3 then
 some (Sum.inr (Sum.inl i2))
 else
 some (Sum.inl (i1,IntKind.i64.wrap (i2+1)))
 else
 none
 else
 some (Sum.inr (Sum.inr (i1,i2)))) (0,0)).bind fun w4=>
 Sum.elim (fun i5=>
 some i5) (fun (i6,i7)=>
 some (-1)) w4
noncomputable def Go.aa.bK(s:List Int)(v:Int):Option Bool:=
 (aa.mO s v).bind fun i1=>
 some (decide (0≤i1))
noncomputable def Go.aa.bp(f:ai):Option (ai×Int):=
 (aa.cS f).bind fun q1=>
 (aa.bM q1).bind fun b2=>
 bif !b2 then
 some (ai.mk 0 0,3)
 else
 some (q1,0)
noncomputable def Go.aa.z5(a:ai)(b:ai):Option (ai×Int):=
 (aa.cM a).bind fun b1=>
 bif !b1 then
 some (ai.mk 0 0,1)
 else
 (aa.cM b).bind fun b2=>
 bif !b2 then
 some (ai.mk 0 0,1)
 else
 bif IntKind.i64.wrap (a.Den*b.Den)==0 then
 some (ai.mk 0 0,14)
 else
 (aa.bp (ai.mk (IntKind.i64.wrap (IntKind.i64.wrap (a.du*b.Den)+IntKind.i64.wrap (b.du*a.Den))) (IntKind.i64.wrap (a.Den*b.Den)))).bind fun (q3,i4)=>
 some (q3,i4)
noncomputable def Go.aa.mD(s:cb)(l:Int):Option (ai×Bool):=
 (aa.dy 0).bind fun q1=>
 (aO (ω:=Int×Int×Bool×Int×Int ⊕ Int×Int×Int) (fun ((i2,i3,i4):Int×Int×Int)=>
 bif decide (i2<(↑s.Net.af.length:Int)) then
 bif decide (0≤i2) then
 (s.Net.af[i2.toNat]?).bind fun l5=>
 (aa.bK l5 l).bind fun b6=>
 bif b6 then
 bif decide (0≤i2) then
 (s.CJ[i2.toNat]?).bind fun q7=>
 (aa.z5 (ai.mk i3 i4) q7).bind fun (q8,i9)=>
 bif !i9==0 then
 some (Sum.inr (Sum.inl (i3,i4,false,i3,i4)))
 else
 some (Sum.inl (IntKind.i64.wrap (i2+1),q8.du,q8.Den))
 else
 none
 else
 some (Sum.inl (IntKind.i64.wrap (i2+1),i3,i4))
 else
 none
 else
 some (Sum.inr (Sum.inr (i2,i3,i4)))) (0,q1.du,q1.Den)).bind fun Sq=>
 Sum.elim (fun (i11,i12,OG,i14,i15)=>
 some (ai.mk i14 i15,OG)) (fun (i16,i17,i18)=>
 bif decide (0≤l) then
 (s.Net.ay[l.toNat]?).bind fun i19=>
 (aa.dy i19).bind fun VI=>
 (aa.fR VI (ai.mk i17 i18)).bind fun Sr=>
 some (ai.mk i17 i18,!Sr)
 else
 none) Sq
noncomputable def Go.aa.jm(n:bP)(x:List ai):Option Bool:=
 (aa.gp n).bind fun b1=>
 bif !b1 then
 some false
 else
 bif !(↑x.length:Int)==(↑n.af.length:Int) then
 some false
 else
 (aO (ω:=Bool ⊕ Bool×Int) (fun ((b2,i3):Bool×Int)=>
 bif decide (i3<(↑x.length:Int)) then
 bif decide (0≤i3) then
 (x[i3.toNat]?).bind fun q4=>
 (aa.cM q4).bind fun b5=>
 bif !b5 then
 some (Sum.inr (Sum.inl false))
 else
 bif decide (q4.du<0) then
 some (Sum.inr (Sum.inl false))
 else
 bif decide (0≤i3) then
 (n.aD[i3.toNat]?).bind fun i6=>
 bif decide (0<i6) then
 bif decide (0≤i3) then
 (n.aD[i3.toNat]?).bind fun i7=>
 (aa.dy i7).bind fun q8=>
 (aa.fR q8 q4).bind fun b9=>
 bif b9 then
 some (Sum.inr (Sum.inl false))
 else
 some (Sum.inl (b2,IntKind.i64.wrap (i3+1)))
 else
 none
 else
 some (Sum.inl (b2,IntKind.i64.wrap (i3+1)))
 else
 none
 else
 none
 else
 some (Sum.inr (Sum.inr (b2,i3)))) (false,0)).bind fun Sq=>
 Sum.elim (fun Ss=>
 some Ss) (fun (D0,i13)=>
 bif decide ((↑x.length:Int).toNat*1≤2^47)&&decide ((↑x.length:Int).toNat<2^62) then
 (aO (ω:=Int×List Bool) (fun ((i14,wB):Int×List Bool)=>
 bif decide (i14<(↑n.aD.length:Int)) then
 bif decide (0≤i14) then
 (n.aD[i14.toNat]?).bind fun i16=>
 bif decide (0<i16) then
 bif decide (0≤i14) then
 (x[i14.toNat]?).bind fun HS=>
 (aa.dy i16).bind fun OH=>
 bif decide (0≤i14) then
 bif decide (i14.toNat<wB.length) then
 (wB[0+i14.toNat]?).bind fun b19=>
 bif decide ((wB.set (0+i14.toNat) (HS.du==OH.du&&HS.Den==OH.Den)).length=(List.replicate (↑x.length:Int).toNat false).length) then
 some (Sum.inl (IntKind.i64.wrap (i14+1),wB.set (0+i14.toNat) (HS.du==OH.du&&HS.Den==OH.Den)))
 else
 none
 else
 none
 else
 none
 else
 none
 else
 bif decide (0≤i14) then
 bif decide (i14.toNat<wB.length) then
 (wB[0+i14.toNat]?).bind fun XY=>
 bif decide ((wB.set (0+i14.toNat) false).length=(List.replicate (↑x.length:Int).toNat false).length) then
 some (Sum.inl (IntKind.i64.wrap (i14+1),wB.set (0+i14.toNat) false))
 else
 none
 else
 none
 else
 none
 else
 none
 else
 bif decide (wB.length=(List.replicate (↑x.length:Int).toNat false).length) then
 some (Sum.inr (i14,wB))
 else
 none) (0,List.replicate (↑x.length:Int).toNat false)).bind fun (i21,GC)=>
 (aO (ω:=Bool×List Bool ⊕ Bool×Int×List Bool) (fun ((Ud,i24,D1):Bool×Int×List Bool)=>
 bif decide (i24<(↑n.ay.length:Int)) then
 (aa.mD (cb.mk n [] x) i24:Option (ai×Bool)).bind fun (Ue,Uf)=>
 bif !Uf then
 bif decide (D1.length=GC.length) then
 some (Sum.inr (Sum.inl (false,D1)))
 else
 none
 else
 (aO (ω:=Int×List Bool) (fun ((i28,BF):Int×List Bool)=>
 bif decide (i28<(↑n.af.length:Int)) then
 bif decide (0≤i28) then
 (n.af[i28.toNat]?).bind fun ZQ=>
 (aa.bK ZQ i24).bind fun ZR=>
 bif ZR then
 (aO (ω:=Int×Bool) (fun ((i32,Su):Int×Bool)=>
 bif decide (i32<(↑n.af.length:Int)) then
 bif decide (0≤i32) then
 (n.af[i32.toNat]?).bind fun qH=>
 (aa.bK qH i24).bind fun VJ=>
 bif VJ then
 bif Su then
 bif decide (0≤i28) then
 (x[i28.toNat]?).bind fun ZS=>
 bif decide (0≤i32) then
 (x[i32.toNat]?).bind fun ZT=>
 (aa.fR ZS ZT).bind fun P6=>
 some (Sum.inl (IntKind.i64.wrap (i32+1),!P6))
 else
 none
 else
 none
 else
 some (Sum.inl (IntKind.i64.wrap (i32+1),false))
 else
 some (Sum.inl (IntKind.i64.wrap (i32+1),Su))
 else
 none
 else
 some (Sum.inr (i32,Su))) (0,true)).bind fun (i39,VK)=>
 bif decide (0≤i28) then
 bif decide (i28.toNat<BF.length) then
 (BF[0+i28.toNat]?).bind fun XW=>
 bif XW then
 bif decide (0≤i28) then
 bif decide (i28.toNat<BF.length) then
 (BF[0+i28.toNat]?).bind fun b42=>
 bif decide ((BF.set (0+i28.toNat) true).length=D1.length) then
 some (Sum.inl (IntKind.i64.wrap (i28+1),BF.set (0+i28.toNat) true))
 else
 none
 else
 none
 else
 none
 else
 bif VK then
 bif decide (0≤i24) then
 (n.ay[i24.toNat]?).bind fun i43=>
 (aa.dy i43).bind fun Ug=>
 bif decide (0≤i28) then
 bif decide (i28.toNat<BF.length) then
 (BF[0+i28.toNat]?).bind fun b45=>
 bif decide ((BF.set (0+i28.toNat) (Ue.du==Ug.du&&Ue.Den==Ug.Den)).length=D1.length) then
 some (Sum.inl (IntKind.i64.wrap (i28+1),BF.set (0+i28.toNat) (Ue.du==Ug.du&&Ue.Den==Ug.Den)))
 else
 none
 else
 none
 else
 none
 else
 none
 else
 bif decide (0≤i28) then
 bif decide (i28.toNat<BF.length) then
 (BF[0+i28.toNat]?).bind fun Q0=>
 bif decide ((BF.set (0+i28.toNat) false).length=D1.length) then
 some (Sum.inl (IntKind.i64.wrap (i28+1),BF.set (0+i28.toNat) false))
 else
 none
 else
 none
 else
 none
 else
 none
 else
 none
 else
 bif decide (BF.length=D1.length) then
 some (Sum.inl (IntKind.i64.wrap (i28+1),BF))
 else
 none
 else
 none
 else
 bif decide (BF.length=D1.length) then
 some (Sum.inr (i28,BF))
 else
 none) (0,D1)).bind fun (i47,P7)=>
 bif decide (P7.length=GC.length) then
 some (Sum.inl (Ud,IntKind.i64.wrap (i24+1),P7))
 else
 none
 else
 bif decide (D1.length=GC.length) then
 some (Sum.inr (Sum.inr (Ud,i24,D1)))
 else
 none) (D0,0,GC)).bind fun ZU=>
 Sum.elim (fun (ZV,Nx)=>
 some ZV) (fun (XZ,i53,Md)=>
 (aa.fe Md false).bind fun VL=>
 some !VL) ZU
 else
 none) Sq
noncomputable def Go.aa.qA(a:ai)(b:ai):Option (ai×Int):=
 (aa.cN a).bind fun b1=>
 bif !b1 then
 some (ai.mk 0 0,1)
 else
 (aa.cN b).bind fun b2=>
 bif !b2 then
 some (ai.mk 0 0,1)
 else
 (aa.ed (IntKind.i64.wrap (IntKind.i64.wrap (a.du*b.Den)+IntKind.i64.wrap (b.du*a.Den))) (IntKind.i64.wrap (a.Den*b.Den))).bind fun (q3,i4)=>
 some (q3,i4)
noncomputable def Go.aa.jJ(n:bP)(x:List ai)(link:Int):Option (ai×Bool):=
 (aO (ω:=Bool×Int×Int×Int×Int ⊕ Bool×Int×Int×Int) (fun ((b1,i2,i3,i4):Bool×Int×Int×Int)=>
 bif decide (i2<(↑n.af.length:Int)) then
 bif decide (0≤i2) then
 (n.af[i2.toNat]?).bind fun l5=>
 (aa.kg l5 link).bind fun b6=>
 bif b6 then
 bif decide (0≤i2) then
 (x[i2.toNat]?).bind fun q7=>
 (aa.qA (ai.mk i3 i4) q7).bind fun (q8,i9)=>
 bif !i9==0 then
 some (Sum.inr (Sum.inl (false,i3,i4,i3,i4)))
 else
 some (Sum.inl (b1,IntKind.i64.wrap (i2+1),q8.du,q8.Den))
 else
 none
 else
 some (Sum.inl (b1,IntKind.i64.wrap (i2+1),i3,i4))
 else
 none
 else
 some (Sum.inr (Sum.inr (b1,i2,i3,i4)))) (false,0,0,1)).bind fun Sq=>
 Sum.elim (fun (Ss,i12,i13,i14,i15)=>
 some (ai.mk i14 i15,Ss)) (fun (VD,i17,i18,i19)=>
 some (ai.mk i18 i19,true)) Sq
noncomputable def Go.aa.oi(n:bP)(x:List ai)(Fk:Int)(link:Int):Option Bool:=
 (aa.jJ n x link).bind fun (q1,b2)=>
 (aO (ω:=Bool ⊕ Bool×Int) (fun ((b3,i4):Bool×Int)=>
 bif decide (i4<(↑n.af.length:Int)) then
 bif decide (0≤i4) then
 (n.af[i4.toNat]?).bind fun l5=>
 (aa.kg l5 link).bind fun b6=>
 bif decide (0≤i4) then
 (x[i4.toNat]?).bind fun q7=>
 bif decide (0≤Fk) then
 (x[Fk.toNat]?).bind fun q8=>
 (aa.fj q7 q8).bind fun (i9,i10)=>
 bif b6 then
 bif decide (0<i9) then
 some (Sum.inr (Sum.inl false))
 else
 some (Sum.inl (b3,IntKind.i64.wrap (i4+1)))
 else
 some (Sum.inl (b3,IntKind.i64.wrap (i4+1)))
 else
 none
 else
 none
 else
 none
 else
 some (Sum.inr (Sum.inr (b3,i4)))) (false,0)).bind fun VM=>
 Sum.elim (fun D0=>
 some D0) (fun (OG,i14)=>
 bif q1.Den==1 then
 bif decide (0≤link) then
 (n.ay[link.toNat]?).bind fun i15=>
 some (q1.du==i15)
 else
 none
 else
 some false) VM
noncomputable def Go.aa.vV(n:bP)(x:List ai):Option Bool:=
 (aa.cY n).bind fun b1=>
 bif !b1 then
 some false
 else
 bif !(↑x.length:Int)==(↑n.af.length:Int) then
 some false
 else
 (aO (ω:=Bool ⊕ Bool×Int) (fun ((b2,i3):Bool×Int)=>
 bif decide (i3<(↑x.length:Int)) then
 bif decide (0≤i3) then
 (x[i3.toNat]?).bind fun q4=>
 (aa.cN q4).bind fun b5=>
 bif !b5 then
 some (Sum.inr (Sum.inl false))
 else
 bif decide (0≤i3) then
 (x[i3.toNat]?).bind fun q6=>
 bif decide (q6.du<0) then
 some (Sum.inr (Sum.inl false))
 else
 bif decide (0≤i3) then
 (n.aD[i3.toNat]?).bind fun i7=>
 bif decide (0<i7) then
 bif decide (0≤i3) then
 (x[i3.toNat]?).bind fun q8=>
 bif decide (0≤i3) then
 (n.aD[i3.toNat]?).bind fun i9=>
 bif decide (0≤i3) then
 (x[i3.toNat]?).bind fun CL=>
 bif decide (IntKind.i64.wrap (i9*CL.Den)<q8.du) then
 some (Sum.inr (Sum.inl false))
 else
 some (Sum.inl (b2,IntKind.i64.wrap (i3+1)))
 else
 none
 else
 none
 else
 none
 else
 some (Sum.inl (b2,IntKind.i64.wrap (i3+1)))
 else
 none
 else
 none
 else
 none
 else
 some (Sum.inr (Sum.inr (b2,i3)))) (false,0)).bind fun VM=>
 Sum.elim (fun D0=>
 some D0) (fun (OG,i14)=>
 (aO (ω:=Bool ⊕ Bool×Int) (fun ((Uc,i16):Bool×Int)=>
 bif decide (i16<(↑n.ay.length:Int)) then
 (aa.jJ n x i16).bind fun (HS,VO)=>
 bif !VO then
 some (Sum.inr (Sum.inl false))
 else
 bif decide (0≤i16) then
 (n.ay[i16.toNat]?).bind fun i19=>
 bif decide (IntKind.i64.wrap (i19*HS.Den)<HS.du) then
 some (Sum.inr (Sum.inl false))
 else
 some (Sum.inl (Uc,IntKind.i64.wrap (i16+1)))
 else
 none
 else
 some (Sum.inr (Sum.inr (Uc,i16)))) (OG,0)).bind fun ZW=>
 Sum.elim (fun Sr=>
 some Sr) (fun (VP,i23)=>
 (aO (ω:=Bool ⊕ Bool×Int) (fun ((Uh,i25):Bool×Int)=>
 bif decide (i25<(↑x.length:Int)) then
 bif decide (0≤i25) then
 (n.aD[i25.toNat]?).bind fun i26=>
 bif decide (0<i26) then
 bif decide (0≤i25) then
 (x[i25.toNat]?).bind fun ZX=>
 bif ZX.Den==1 then
 bif decide (0≤i25) then
 (x[i25.toNat]?).bind fun Sv=>
 bif decide (0≤i25) then
 (n.aD[i25.toNat]?).bind fun i29=>
 (aO (ω:=Bool×Int) (fun ((VQ,i31):Bool×Int)=>
 bif decide (0≤i25) then
 (n.af[i25.toNat]?).bind fun ZY=>
 bif decide (i31<(↑ZY.length:Int)) then
 bif !VQ then
 bif decide (0≤i25) then
 (n.af[i25.toNat]?).bind fun ZZ=>
 bif decide (0≤i31) then
 (ZZ[i31.toNat]?).bind fun i34=>
 (aa.oi n x i25 i34).bind fun VJ=>
 some (Sum.inl (VJ,IntKind.i64.wrap (i31+1)))
 else
 none
 else
 none
 else
 some (Sum.inr (VQ,i31))
 else
 some (Sum.inr (VQ,i31))
 else
 none) (Sv.du==i29,0)).bind fun (VR,i37)=>
 bif !VR then
 some (Sum.inr (Sum.inl false))
 else
 some (Sum.inl (Uh,IntKind.i64.wrap (i25+1)))
 else
 none
 else
 none
 else
 (aO (ω:=Bool×Int) (fun ((P6,i39):Bool×Int)=>
 bif decide (0≤i25) then
 (n.af[i25.toNat]?).bind fun Z0=>
 bif decide (i39<(↑Z0.length:Int)) then
 bif !P6 then
 bif decide (0≤i25) then
 (n.af[i25.toNat]?).bind fun Z1=>
 bif decide (0≤i39) then
 (Z1[i39.toNat]?).bind fun i42=>
 (aa.oi n x i25 i42).bind fun VG=>
 some (Sum.inl (VG,IntKind.i64.wrap (i39+1)))
 else
 none
 else
 none
 else
 some (Sum.inr (P6,i39))
 else
 some (Sum.inr (P6,i39))
 else
 none) (false,0)).bind fun (XX,i45)=>
 bif !XX then
 some (Sum.inr (Sum.inl false))
 else
 some (Sum.inl (Uh,IntKind.i64.wrap (i25+1)))
 else
 none
 else
 (aO (ω:=Bool×Int) (fun ((Q0,i47):Bool×Int)=>
 bif decide (0≤i25) then
 (n.af[i25.toNat]?).bind fun P7=>
 bif decide (i47<(↑P7.length:Int)) then
 bif !Q0 then
 bif decide (0≤i25) then
 (n.af[i25.toNat]?).bind fun QZ=>
 bif decide (0≤i47) then
 (QZ[i47.toNat]?).bind fun i50=>
 (aa.oi n x i25 i50).bind fun Z2=>
 some (Sum.inl (Z2,IntKind.i64.wrap (i47+1)))
 else
 none
 else
 none
 else
 some (Sum.inr (Q0,i47))
 else
 some (Sum.inr (Q0,i47))
 else
 none) (false,0)).bind fun (XZ,i53)=>
 bif !XZ then
 some (Sum.inr (Sum.inl false))
 else
 some (Sum.inl (Uh,IntKind.i64.wrap (i25+1)))
 else
 none
 else
 some (Sum.inr (Sum.inr (Uh,i25)))) (VP,0)).bind fun Z3=>
 Sum.elim (fun VL=>
 some VL) (fun (Z4,i57)=>
 some true) Z3) ZW) VM
noncomputable def Go.aa.iG(n:bP):Option Bool:=
 (aO (ω:=Bool ⊕ Bool×Int) (fun ((b1,i2):Bool×Int)=>
 bif decide (i2<(↑n.af.length:Int)) then
 bif decide (i2<50) then
 bif decide (0≤i2) then
 (n.af[i2.toNat]?).bind fun l3=>
 bif decide (50<(↑l3.length:Int)) then
 some (Sum.inr (Sum.inl false))
 else
 some (Sum.inl (b1,IntKind.i64.wrap (i2+1)))
 else
 none
 else
 some (Sum.inr (Sum.inr (b1,i2)))
 else
 some (Sum.inr (Sum.inr (b1,i2)))) (false,0)).bind fun w4=>
 Sum.elim (fun b5=>
 some b5) (fun (b6,i7)=>
 bif decide ((↑n.ay.length:Int)≤50) then
 bif decide ((↑n.af.length:Int)≤50) then
 some (decide ((↑n.aD.length:Int)≤50))
 else
 some false
 else
 some false) w4
noncomputable def Go.aa.il(a:List ai)(b:List ai):Option Bool:=
 bif !(↑a.length:Int)==(↑b.length:Int) then
 some false
 else
 (aO (ω:=Bool ⊕ Bool×Int) (fun ((b1,i2):Bool×Int)=>
 bif decide (i2<(↑a.length:Int)) then
 bif decide (0≤i2) then
 (a[i2.toNat]?).bind fun q3=>
 bif decide (0≤i2) then
 (b[i2.toNat]?).bind fun q4=>
 bif !(q3.du==q4.du&&q3.Den==q4.Den) then
 some (Sum.inr (Sum.inl false))
 else
 some (Sum.inl (b1,IntKind.i64.wrap (i2+1)))
 else
 none
 else
 none
 else
 some (Sum.inr (Sum.inr (b1,i2)))) (false,0)).bind fun w5=>
 Sum.elim (fun b6=>
 some b6) (fun (b7,i8)=>
 some true) w5
noncomputable def Go.aa.nG(a:ai)(b:ai):Option (ai×Int):=
 (aa.cM a).bind fun b1=>
 bif !b1 then
 some (ai.mk 0 0,1)
 else
 (aa.cM b).bind fun b2=>
 bif !b2 then
 some (ai.mk 0 0,1)
 else
 bif IntKind.i64.wrap (a.Den*b.Den)==0 then
 some (ai.mk 0 0,14)
 else
 (aa.bp (ai.mk (IntKind.i64.wrap (IntKind.i64.wrap (a.du*b.Den)-IntKind.i64.wrap (b.du*a.Den))) (IntKind.i64.wrap (a.Den*b.Den)))).bind fun (q3,i4)=>
 some (q3,i4)
noncomputable def Go.aa.qw(a:ai)(b:ai):Option (ai×Int):=
 (aa.cM a).bind fun b1=>
 bif !b1 then
 some (ai.mk 0 0,1)
 else
 (aa.cM b).bind fun b2=>
 bif !b2 then
 some (ai.mk 0 0,1)
 else
 bif IntKind.i64.wrap (a.Den*b.du)==0 then
 some (ai.mk 0 0,14)
 else
 (aa.bp (ai.mk (IntKind.i64.wrap (a.du*b.Den)) (IntKind.i64.wrap (a.Den*b.du)))).bind fun (q3,i4)=>
 some (q3,i4)
noncomputable def Go.aa.cf(l:Int)(s:cb):Option (ai×Bool):=
 bif decide (0≤l) then
 (s.Net.ay[l.toNat]?).bind fun i1=>
 (aa.dy i1).bind fun q2=>
 (aO (ω:=Int×Int×Int×Int) (fun ((i3,i4,i5,i6):Int×Int×Int×Int)=>
 bif decide (i3<(↑s.Net.af.length:Int)) then
 bif decide (0≤i3) then
 (s.Net.af[i3.toNat]?).bind fun l7=>
 (aa.bK l7 l).bind fun b8=>
 bif b8 then
 bif decide (0≤i3) then
 (s.CI[i3.toNat]?).bind fun b9=>
 bif !b9 then
 some (Sum.inl (IntKind.i64.wrap (i3+1),IntKind.i64.wrap (i4+1),i5,i6))
 else
 bif decide (0≤i3) then
 (s.CJ[i3.toNat]?).bind fun CL=>
 (aa.nG (ai.mk i5 i6) CL).bind fun (L9,i12)=>
 some (Sum.inl (IntKind.i64.wrap (i3+1),i4,L9.du,L9.Den))
 else
 none
 else
 none
 else
 some (Sum.inl (IntKind.i64.wrap (i3+1),i4,i5,i6))
 else
 none
 else
 some (Sum.inr (i3,i4,i5,i6))) (0,0,q2.du,q2.Den)).bind fun (i13,i14,i15,i16)=>
 bif i14==0 then
 some (ai.mk i15 i16,false)
 else
 (aa.dy i14).bind fun HS=>
 (aa.qw (ai.mk i15 i16) HS).bind fun (OH,i19)=>
 some (OH,true)
 else
 none
noncomputable def Go.aa.fI(l:Int)(s:cb)(Fk:Int):Option Bool:=
 bif decide (0≤Fk) then
 (s.Net.af[Fk.toNat]?).bind fun l1=>
 (aa.bK l1 l).bind fun b2=>
 some b2
 else
 none
noncomputable def Go.aa.cz(l:Int)(s:cb):Option (ai×Bool):=
 bif decide (0≤l) then
 (s.Net.aD[l.toNat]?).bind fun i1=>
 (aa.dy i1).bind fun q2=>
 bif decide (0≤l) then
 (s.Net.aD[l.toNat]?).bind fun i3=>
 bif decide (0<i3) then
 bif decide (0≤l) then
 (s.CI[l.toNat]?).bind fun b4=>
 some (q2,!b4)
 else
 none
 else
 some (q2,false)
 else
 none
 else
 none
noncomputable def Go.aa.lU(l:Int)(s:cb)(Fk:Int):Option Bool:=
 some (l==Fk)
noncomputable def Go.aa.cw(n:bP):Option ((List ai)×Int):=
 (aa.gp n).bind fun b1=>
 bif !b1 then
 some ([],1)
 else
 bif decide ((↑n.af.length:Int).toNat*1≤2^47)&&decide ((↑n.af.length:Int).toNat<2^62) then
 bif decide ((↑n.af.length:Int).toNat*16≤2^47)&&decide ((↑n.af.length:Int).toNat<2^62) then
 (aO (ω:=Int×List dP) (fun ((i2,l3):Int×List dP)=>
 bif decide (i2<(↑n.ay.length:Int)) then
 bif decide ((l3.length+1)*16≤2^44)&&decide (l3.length+1≤2^44) then
 some (Sum.inl (IntKind.i64.wrap (i2+1),l3++[dP.mk true i2]))
 else
 none
 else
 some (Sum.inr (i2,l3))) (0,[])).bind fun (i4,l5)=>
 (aO (ω:=Int×List dP) (fun ((i6,l7):Int×List dP)=>
 bif decide (i6<(↑n.aD.length:Int)) then
 bif decide ((l7.length+1)*16≤2^44)&&decide (l7.length+1≤2^44) then
 some (Sum.inl (IntKind.i64.wrap (i6+1),l7++[dP.mk false i6]))
 else
 none
 else
 some (Sum.inr (i6,l7))) (0,l5)).bind fun (i8,l9)=>
 (aO (ω:=List ai×List Bool) (fun ((KJ,BE):List ai×List Bool)=>
 (aa.fe BE false).bind fun D0=>
 bif D0 then
 (aO (ω:=Int×List ai×List dP) (fun ((i13,GD,wB):Int×List ai×List dP)=>
 bif decide (i13<(↑l9.length:Int)) then
 bif decide (0≤i13) then
 bif decide (i13.toNat<l9.length) then
 (l9[0+i13.toNat]?).bind fun Sw=>
 bif Sw.A then
 (aa.cf Sw.N (cb.mk n BE KJ)).bind fun (HS,VO)=>
 bif VO then
 bif decide ((GD.length+1)*16≤2^44)&&decide (GD.length+1≤2^44) then
 bif decide ((wB.length+1)*16≤2^44)&&decide (wB.length+1≤2^44) then
 some (Sum.inl (IntKind.i64.wrap (i13+1),GD++[HS],wB++[dP.mk true Sw.N]))
 else
 none
 else
 none
 else
 some (Sum.inl (IntKind.i64.wrap (i13+1),GD,wB))
 else
 (aa.cz Sw.N (cb.mk n BE KJ)).bind fun (VF,XY)=>
 bif XY then
 bif decide ((GD.length+1)*16≤2^44)&&decide (GD.length+1≤2^44) then
 bif decide ((wB.length+1)*16≤2^44)&&decide (wB.length+1≤2^44) then
 some (Sum.inl (IntKind.i64.wrap (i13+1),GD++[VF],wB++[dP.mk false Sw.N]))
 else
 none
 else
 none
 else
 some (Sum.inl (IntKind.i64.wrap (i13+1),GD,wB))
 else
 none
 else
 none
 else
 some (Sum.inr (i13,GD,wB))) (0,[],[])).bind fun (i21,GC,CZ)=>
 bif decide (0<GC.length) then
 (GC[0]?).bind fun Sx=>
 (aO (ω:=Int×Int×Int) (fun ((i25,i26,i27):Int×Int×Int)=>
 bif decide (i25<(↑GC.length:Int)) then
 bif decide (0≤i25) then
 bif decide (i25.toNat<GC.length) then
 (GC[0+i25.toNat]?).bind fun Sv=>
 (aa.fR Sv (ai.mk i26 i27)).bind fun Z5=>
 bif Z5 then
 some (Sum.inl (IntKind.i64.wrap (i25+1),Sv.du,Sv.Den))
 else
 some (Sum.inl (IntKind.i64.wrap (i25+1),i26,i27))
 else
 none
 else
 none
 else
 some (Sum.inr (i25,i26,i27))) (0,Sx.du,Sx.Den)).bind fun (i30,i31,i32)=>
 (aO (ω:=Int×List Int) (fun ((i33,qH):Int×List Int)=>
 bif decide (i33<(↑CZ.length:Int)) then
 bif decide (0≤i33) then
 bif decide (i33.toNat<CZ.length) then
 (CZ[0+i33.toNat]?).bind fun VS=>
 bif VS.A then
 (aO (ω:=Int×List Int) (fun ((i36,P8):Int×List Int)=>
 bif decide (i36<(↑n.af.length:Int)) then
 bif decide (0≤i33) then
 bif decide (i33.toNat<GC.length) then
 (GC[0+i33.toNat]?).bind fun X0=>
 bif X0.du==i31&&X0.Den==i32 then
 bif decide (0≤i36) then
 bif decide (i36.toNat<BE.length) then
 (BE[0+i36.toNat]?).bind fun XV=>
 bif !XV then
 (aa.fI VS.N (cb.mk n BE KJ) i36).bind fun VK=>
 bif VK then
 bif decide ((P8.length+1)*8≤2^44)&&decide (P8.length+1≤2^44) then
 some (Sum.inl (IntKind.i64.wrap (i36+1),P8++[i36]))
 else
 none
 else
 some (Sum.inl (IntKind.i64.wrap (i36+1),P8))
 else
 some (Sum.inl (IntKind.i64.wrap (i36+1),P8))
 else
 none
 else
 none
 else
 some (Sum.inl (IntKind.i64.wrap (i36+1),P8))
 else
 none
 else
 none
 else
 some (Sum.inr (i36,P8))) (0,qH)).bind fun (i41,Z6)=>
 some (Sum.inl (IntKind.i64.wrap (i33+1),Z6))
 else
 (aO (ω:=Int×List Int) (fun ((i43,Ny):Int×List Int)=>
 bif decide (i43<(↑n.af.length:Int)) then
 bif decide (0≤i33) then
 bif decide (i33.toNat<GC.length) then
 (GC[0+i33.toNat]?).bind fun VH=>
 bif VH.du==i31&&VH.Den==i32 then
 bif decide (0≤i43) then
 bif decide (i43.toNat<BE.length) then
 (BE[0+i43.toNat]?).bind fun Q0=>
 bif !Q0 then
 (aa.lU VS.N (cb.mk n BE KJ) i43).bind fun Z7=>
 bif Z7 then
 bif decide ((Ny.length+1)*8≤2^44)&&decide (Ny.length+1≤2^44) then
 some (Sum.inl (IntKind.i64.wrap (i43+1),Ny++[i43]))
 else
 none
 else
 some (Sum.inl (IntKind.i64.wrap (i43+1),Ny))
 else
 some (Sum.inl (IntKind.i64.wrap (i43+1),Ny))
 else
 none
 else
 none
 else
 some (Sum.inl (IntKind.i64.wrap (i43+1),Ny))
 else
 none
 else
 none
 else
 some (Sum.inr (i43,Ny))) (0,qH)).bind fun (i48,QZ)=>
 some (Sum.inl (IntKind.i64.wrap (i33+1),QZ))
 else
 none
 else
 none
 else
 some (Sum.inr (i33,qH))) (0,[])).bind fun (i50,Nx)=>
 (aO (ω:=Int×List ai×List Bool) (fun ((i52,P9,Md):Int×List ai×List Bool)=>
 bif decide (i52<(↑Nx.length:Int)) then
 bif decide (0≤i52) then
 bif decide (i52.toNat<Nx.length) then
 (Nx[0+i52.toNat]?).bind fun i55=>
 bif decide (0≤i55) then
 bif decide (i55.toNat<Md.length) then
 (Md[0+i55.toNat]?).bind fun Z4=>
 bif decide (0≤i55) then
 bif decide (i55.toNat<P9.length) then
 (P9[0+i55.toNat]?).bind fun q57=>
 bif decide ((P9.set (0+i55.toNat) (ai.mk i31 i32)).length=KJ.length) then
 bif decide ((Md.set (0+i55.toNat) true).length=BE.length) then
 some (Sum.inl (IntKind.i64.wrap (i52+1),P9.set (0+i55.toNat) (ai.mk i31 i32),Md.set (0+i55.toNat) true))
 else
 none
 else
 none
 else
 none
 else
 none
 else
 none
 else
 none
 else
 none
 else
 none
 else
 bif decide (P9.length=KJ.length) then
 bif decide (Md.length=BE.length) then
 some (Sum.inr (i52,P9,Md))
 else
 none
 else
 none) (0,KJ,BE)).bind fun (i58,X1,X2)=>
 bif decide (X1.length=(List.replicate (↑n.af.length:Int).toNat (ai.mk 0 0)).length) then
 bif decide (X2.length=(List.replicate (↑n.af.length:Int).toNat false).length) then
 some (Sum.inl (X1,X2))
 else
 none
 else
 none
 else
 none
 else
 bif decide (KJ.length=(List.replicate (↑n.af.length:Int).toNat (ai.mk 0 0)).length) then
 bif decide (BE.length=(List.replicate (↑n.af.length:Int).toNat false).length) then
 some (Sum.inr (KJ,BE))
 else
 none
 else
 none) (List.replicate (↑n.af.length:Int).toNat (ai.mk 0 0),List.replicate (↑n.af.length:Int).toNat false)).bind fun (Z8,l62)=>
 some (Z8,0)
 else
 none
 else
 none
noncomputable def Go.aa.C1(n:Int):Option ai:=
 some (ai.mk n 1)
noncomputable def Go.aa.KL(n:bP)(want:List ai):Option Bool:=
 (aa.cw n).bind fun (l1,i2)=>
 (aa.jm n want).bind fun b3=>
 bif i2==0 then
 bif b3 then
 (aa.il l1 want).bind fun b4=>
 some b4
 else
 some false
 else
 some false
noncomputable def Go.aa.pX(n:bP)(parts:List Int)(mW:Int):Option ((List Int)):=
 bif decide ((↑n.ay.length:Int).toNat*8≤2^47)&&decide ((↑n.ay.length:Int).toNat<2^62) then
 (aO (ω:=Int×List Int) (fun ((i1,l2):Int×List Int)=>
 bif decide (i1<(↑n.ay.length:Int)) then
 bif decide (0≤i1) then
 (n.ay[i1.toNat]?).bind fun i3=>
 bif decide (0≤i1) then
 bif decide (i1.toNat<l2.length) then
 (l2[0+i1.toNat]?).bind fun i4=>
 bif decide ((l2.set (0+i1.toNat) (IntKind.i64.wrap (i3*mW))).length=(List.replicate (↑n.ay.length:Int).toNat (0:Int)).length) then
 some (Sum.inl (IntKind.i64.wrap (i1+1),l2.set (0+i1.toNat) (IntKind.i64.wrap (i3*mW))))
 else
 none
 else
 none
 else
 none
 else
 none
 else
 bif decide (l2.length=(List.replicate (↑n.ay.length:Int).toNat (0:Int)).length) then
 some (Sum.inr (i1,l2))
 else
 none) (0,List.replicate (↑n.ay.length:Int).toNat (0:Int))).bind fun (i5,l6)=>
 bif decide ((↑n.af.length:Int).toNat*8≤2^47)&&decide ((↑n.af.length:Int).toNat<2^62) then
 (aO (ω:=Int×List Int×List Int) (fun ((i7,l8,l9):Int×List Int×List Int)=>
 bif decide (i7<(↑n.af.length:Int)) then
 bif decide (i7<(↑parts.length:Int)) then
 bif decide (0≤i7) then
 (n.aD[i7.toNat]?).bind fun i10=>
 bif decide (0<i10) then
 bif decide (0≤i7) then
 (n.aD[i7.toNat]?).bind fun i11=>
 (aO (ω:=Int×Int) (fun ((i12,i13):Int×Int)=>
 bif decide (0≤i7) then
 (n.af[i7.toNat]?).bind fun GD=>
 bif decide (i13<(↑GD.length:Int)) then
 bif decide (0≤i7) then
 (n.af[i7.toNat]?).bind fun wB=>
 bif decide (0≤i13) then
 (wB[i13.toNat]?).bind fun i16=>
 bif decide (0≤i16) then
 bif decide (i16.toNat<l8.length) then
 (l8[0+i16.toNat]?).bind fun i17=>
 some (Sum.inl (if i17<i12 then i17 else i12,IntKind.i64.wrap (i13+1)))
 else
 none
 else
 none
 else
 none
 else
 none
 else
 some (Sum.inr (i12,i13))
 else
 none) (IntKind.i64.wrap (i11*mW),0)).bind fun (i18,i19)=>
 bif decide (0≤i7) then
 (parts[i7.toNat]?).bind fun i20=>
 bif decide (IntKind.i64.wrap (i18+1)=0) then
 none
 else
 bif decide (0≤i7) then
 bif decide (i7.toNat<l9.length) then
 (l9[0+i7.toNat]?).bind fun i21=>
 (aO (ω:=Int×List Int) (fun ((i22,CZ):Int×List Int)=>
 bif decide (0≤i7) then
 (n.af[i7.toNat]?).bind fun Z9=>
 bif decide (i22<(↑Z9.length:Int)) then
 bif decide (0≤i7) then
 (n.af[i7.toNat]?).bind fun D1=>
 bif decide (0≤i22) then
 (D1[i22.toNat]?).bind fun i26=>
 bif decide (0≤i26) then
 bif decide (i26.toNat<CZ.length) then
 (CZ[0+i26.toNat]?).bind fun i27=>
 bif decide (0≤i7) then
 bif decide (i7.toNat<(l9.set (0+i7.toNat) ((IntKind.i64.wrap i20).tmod (IntKind.i64.wrap (i18+1)))).length) then
 ((l9.set (0+i7.toNat) ((IntKind.i64.wrap i20).tmod (IntKind.i64.wrap (i18+1))))[0+i7.toNat]?).bind fun i28=>
 bif decide (0≤i26) then
 bif decide (i26.toNat<CZ.length) then
 (CZ[0+i26.toNat]?).bind fun i29=>
 bif decide ((CZ.set (0+i26.toNat) (IntKind.i64.wrap (i27-i28))).length=l8.length) then
 some (Sum.inl (IntKind.i64.wrap (i22+1),CZ.set (0+i26.toNat) (IntKind.i64.wrap (i27-i28))))
 else
 none
 else
 none
 else
 none
 else
 none
 else
 none
 else
 none
 else
 none
 else
 none
 else
 none
 else
 bif decide (CZ.length=l8.length) then
 some (Sum.inr (i22,CZ))
 else
 none
 else
 none) (0,l8)).bind fun (i30,X3)=>
 bif decide (X3.length=l6.length) then
 bif decide ((l9.set (0+i7.toNat) ((IntKind.i64.wrap i20).tmod (IntKind.i64.wrap (i18+1)))).length=(List.replicate (↑n.af.length:Int).toNat (0:Int)).length) then
 some (Sum.inl (IntKind.i64.wrap (i7+1),X3,l9.set (0+i7.toNat) ((IntKind.i64.wrap i20).tmod (IntKind.i64.wrap (i18+1)))))
 else
 none
 else
 none
 else
 none
 else
 none
 else
 none
 else
 none
 else
 (aO (ω:=Int×Int) (fun ((i32,i33):Int×Int)=>
 bif decide (0≤i7) then
 (n.af[i7.toNat]?).bind fun qH=>
 bif decide (i33<(↑qH.length:Int)) then
 bif decide (0≤i7) then
 (n.af[i7.toNat]?).bind fun rn=>
 bif decide (0≤i33) then
 (rn[i33.toNat]?).bind fun i36=>
 bif decide (0≤i36) then
 bif decide (i36.toNat<l8.length) then
 (l8[0+i36.toNat]?).bind fun i37=>
 some (Sum.inl (if i37<i32 then i37 else i32,IntKind.i64.wrap (i33+1)))
 else
 none
 else
 none
 else
 none
 else
 none
 else
 some (Sum.inr (i32,i33))
 else
 none) (IntKind.i64.wrap (1000*mW),0)).bind fun (i38,i39)=>
 bif decide (0≤i7) then
 (parts[i7.toNat]?).bind fun i40=>
 bif decide (IntKind.i64.wrap (i38+1)=0) then
 none
 else
 bif decide (0≤i7) then
 bif decide (i7.toNat<l9.length) then
 (l9[0+i7.toNat]?).bind fun i41=>
 (aO (ω:=Int×List Int) (fun ((i42,OI):Int×List Int)=>
 bif decide (0≤i7) then
 (n.af[i7.toNat]?).bind fun Ny=>
 bif decide (i42<(↑Ny.length:Int)) then
 bif decide (0≤i7) then
 (n.af[i7.toNat]?).bind fun l45=>
 bif decide (0≤i42) then
 (l45[i42.toNat]?).bind fun i46=>
 bif decide (0≤i46) then
 bif decide (i46.toNat<OI.length) then
 (OI[0+i46.toNat]?).bind fun i47=>
 bif decide (0≤i7) then
 bif decide (i7.toNat<(l9.set (0+i7.toNat) ((IntKind.i64.wrap i40).tmod (IntKind.i64.wrap (i38+1)))).length) then
 ((l9.set (0+i7.toNat) ((IntKind.i64.wrap i40).tmod (IntKind.i64.wrap (i38+1))))[0+i7.toNat]?).bind fun i48=>
 bif decide (0≤i46) then
 bif decide (i46.toNat<OI.length) then
 (OI[0+i46.toNat]?).bind fun i49=>
 bif decide ((OI.set (0+i46.toNat) (IntKind.i64.wrap (i47-i48))).length=l8.length) then
 some (Sum.inl (IntKind.i64.wrap (i42+1),OI.set (0+i46.toNat) (IntKind.i64.wrap (i47-i48))))
 else
 none
 else
 none
 else
 none
 else
 none
 else
 none
 else
 none
 else
 none
 else
 none
 else
 none
 else
 bif decide (OI.length=l8.length) then
 some (Sum.inr (i42,OI))
 else
 none
 else
 none) (0,l8)).bind fun (i50,Nx)=>
 bif decide (Nx.length=l6.length) then
 bif decide ((l9.set (0+i7.toNat) ((IntKind.i64.wrap i40).tmod (IntKind.i64.wrap (i38+1)))).length=(List.replicate (↑n.af.length:Int).toNat (0:Int)).length) then
 some (Sum.inl (IntKind.i64.wrap (i7+1),Nx,l9.set (0+i7.toNat) ((IntKind.i64.wrap i40).tmod (IntKind.i64.wrap (i38+1)))))
 else
 none
 else
 none
 else
 none
 else
 none
 else
 none
 else
 none
 else
 bif decide (l8.length=l6.length) then
 bif decide (l9.length=(List.replicate (↑n.af.length:Int).toNat (0:Int)).length) then
 some (Sum.inr (i7,l8,l9))
 else
 none
 else
 none
 else
 bif decide (l8.length=l6.length) then
 bif decide (l9.length=(List.replicate (↑n.af.length:Int).toNat (0:Int)).length) then
 some (Sum.inr (i7,l8,l9))
 else
 none
 else
 none) (0,l6,List.replicate (↑n.af.length:Int).toNat (0:Int))).bind fun (i52,P9,Md)=>
 some Md
 else
 none
 else
 none
noncomputable def Go.aa.lV(r:ai)(num:Int)(mW:Int):Option Int:=
 some (IntKind.i64.wrap (IntKind.i64.wrap (r.du*mW)-IntKind.i64.wrap (num*r.Den)))
noncomputable def Go.aa.sn(n:bP)(parts:List Int)(mW:Int):Option Bool:=
 (aa.jO).bind fun b1=>
 (aa.iG n).bind fun b2=>
 bif b2 then
 (aa.cY n).bind fun b3=>
 bif !b3 then
 some b1
 else
 (aa.pX n parts (IntKind.i64.wrap (1+(IntKind.i64.wrap mW).tmod 60))).bind fun l4=>
 (aa.cw n).bind fun (l5,i6)=>
 bif !i6==0 then
 some false
 else
 bif !(↑l5.length:Int)==(↑l4.length:Int) then
 some false
 else
 (aO (ω:=Bool×Int) (fun ((b7,i8):Bool×Int)=>
 bif decide (i8<(↑l5.length:Int)) then
 bif decide (0≤i8) then
 (l5[i8.toNat]?).bind fun q9=>
 bif decide (0≤i8) then
 (l4[i8.toNat]?).bind fun i10=>
 (aa.lV q9 i10 (IntKind.i64.wrap (1+(IntKind.i64.wrap mW).tmod 60))).bind fun i11=>
 bif decide (0≤i11) then
 some (Sum.inl (b7,IntKind.i64.wrap (i8+1)))
 else
 (aO (ω:=Bool×Int) (fun ((D0,i13):Bool×Int)=>
 bif decide (i13<(↑l5.length:Int)) then
 bif decide (0≤i13) then
 (l5[i13.toNat]?).bind fun q14=>
 bif decide (0≤i8) then
 (l5[i8.toNat]?).bind fun q15=>
 (aa.fj q14 q15).bind fun (i16,i17)=>
 bif D0 then
 some (Sum.inl (true,IntKind.i64.wrap (i13+1)))
 else
 bif decide (i16≤0) then
 bif decide (0≤i13) then
 (l5[i13.toNat]?).bind fun OH=>
 bif decide (0≤i13) then
 (l4[i13.toNat]?).bind fun i19=>
 (aa.lV OH i19 (IntKind.i64.wrap (1+(IntKind.i64.wrap mW).tmod 60))).bind fun i20=>
 some (Sum.inl (decide (0<i20),IntKind.i64.wrap (i13+1)))
 else
 none
 else
 none
 else
 some (Sum.inl (false,IntKind.i64.wrap (i13+1)))
 else
 none
 else
 none
 else
 some (Sum.inr (D0,i13))) (false,0)).bind fun (Sr,i22)=>
 bif b7 then
 some (Sum.inl (Sr,IntKind.i64.wrap (i8+1)))
 else
 some (Sum.inl (false,IntKind.i64.wrap (i8+1)))
 else
 none
 else
 none
 else
 some (Sum.inr (b7,i8))) (b1,0)).bind fun (Ud,i24)=>
 some Ud
 else
 some b1
noncomputable def Go.aa.tI(n:bP)(times:Int):Option Bool:=
 (aa.jO).bind fun b1=>
 (aa.iG n).bind fun b2=>
 bif b2 then
 (aa.cY n).bind fun b3=>
 bif !b3 then
 some b1
 else
 bif decide (times<1) then
 some b1
 else
 bif decide (1000<times) then
 some b1
 else
 (aO (ω:=Int×List (List Int)×List Int×List Int) (fun ((i4,l5,l6,l7):Int×List (List Int)×List Int×List Int)=>
 bif decide (i4<(↑n.ay.length:Int)) then
 bif decide (0≤i4) then
 (n.ay[i4.toNat]?).bind fun i8=>
 bif decide ((l6.length+1)*8≤2^44)&&decide (l6.length+1≤2^44) then
 some (Sum.inl (IntKind.i64.wrap (i4+1),l5,l6++[IntKind.i64.wrap (i8*times)],l7))
 else
 none
 else
 none
 else
 some (Sum.inr (i4,l5,l6,l7))) (0,n.af,[],[])).bind fun (i9,KJ,BE,VC)=>
 (aO (ω:=Int×List (List Int)×List Int×List Int) (fun ((i13,GD,wB,Ui):Int×List (List Int)×List Int×List Int)=>
 bif decide (i13<(↑n.aD.length:Int)) then
 bif decide (0≤i13) then
 (n.aD[i13.toNat]?).bind fun i17=>
 bif decide ((Ui.length+1)*8≤2^44)&&decide (Ui.length+1≤2^44) then
 some (Sum.inl (IntKind.i64.wrap (i13+1),GD,wB,Ui++[IntKind.i64.wrap (i17*times)]))
 else
 none
 else
 none
 else
 some (Sum.inr (i13,GD,wB,Ui))) (0,KJ,BE,VC)).bind fun (i18,X4,X5,X6)=>
 (aa.cY (bP.mk X5 X4 X6)).bind fun VP=>
 bif !VP then
 some b1
 else
 (aa.cw n).bind fun (CZ,i24)=>
 (aa.cw (bP.mk X5 X4 X6)).bind fun (D1,i26)=>
 bif !i24==0 then
 some false
 else
 bif !i26==0 then
 some false
 else
 bif !(↑CZ.length:Int)==(↑D1.length:Int) then
 some false
 else
 (aO (ω:=Bool×Int) (fun ((Uf,i28):Bool×Int)=>
 bif decide (i28<(↑CZ.length:Int)) then
 bif Uf then
 bif decide (0≤i28) then
 (D1[i28.toNat]?).bind fun q29=>
 bif decide (0≤i28) then
 (CZ[i28.toNat]?).bind fun q30=>
 bif decide (0≤i28) then
 (CZ[i28.toNat]?).bind fun q31=>
 bif decide (0≤i28) then
 (D1[i28.toNat]?).bind fun q32=>
 some (Sum.inl (IntKind.i64.wrap (q29.du*q30.Den)==IntKind.i64.wrap (IntKind.i64.wrap (times*q31.du)*q32.Den),IntKind.i64.wrap (i28+1)))
 else
 none
 else
 none
 else
 none
 else
 none
 else
 some (Sum.inl (false,IntKind.i64.wrap (i28+1)))
 else
 some (Sum.inr (Uf,i28))) (b1,0)).bind fun (Su,i34)=>
 some Su
 else
 some b1
noncomputable def Go.aa.gr(n:bP)(jg:Int)(more:Int):Option Bool:=
 (aa.jO).bind fun b1=>
 (aa.iG n).bind fun b2=>
 bif b2 then
 (aa.cY n).bind fun b3=>
 bif !b3 then
 some b1
 else
 bif (↑n.af.length:Int)==0 then
 some b1
 else
 bif decide (jg<0) then
 some b1
 else
 bif decide (more<0) then
 some b1
 else
 bif decide (1000<more) then
 some b1
 else
 bif decide ((↑n.ay.length:Int)=0) then
 none
 else
 bif decide (0≤(↑n.ay.length:Int).toNat)&&decide ((↑n.ay.length:Int).toNat*8≤2^47)&&decide ((↑n.ay.length:Int).toNat<2^62) then
 bif decide (0+n.ay.length≤(↑n.ay.length:Int).toNat)&&decide (0+n.ay.length≤(List.replicate (↑n.ay.length:Int).toNat (0:Int)).length) then
 bif decide (0≤jg.tmod (↑n.ay.length:Int)) then
 bif decide ((jg.tmod (↑n.ay.length:Int)).toNat<0+n.ay.length) then
 ((n.ay++List.drop (0+n.ay.length) (List.replicate (↑n.ay.length:Int).toNat (0:Int)))[0+(jg.tmod (↑n.ay.length:Int)).toNat]?).bind fun i4=>
 bif decide (0≤jg.tmod (↑n.ay.length:Int)) then
 bif decide ((jg.tmod (↑n.ay.length:Int)).toNat<0+n.ay.length) then
 ((n.ay++List.drop (0+n.ay.length) (List.replicate (↑n.ay.length:Int).toNat (0:Int)))[0+(jg.tmod (↑n.ay.length:Int)).toNat]?).bind fun i5=>
 (aa.cw n).bind fun (l6,i7)=>
 bif decide (0+(0+n.ay.length)≤((n.ay++List.drop (0+n.ay.length) (List.replicate (↑n.ay.length:Int).toNat (0:Int))).set (0+(jg.tmod (↑n.ay.length:Int)).toNat) (if IntKind.i64.wrap (i4+more)<1000 then IntKind.i64.wrap (i4+more) else 1000)).length) then
 (aa.cw (bP.mk (List.take (0+n.ay.length) (List.drop 0 ((n.ay++List.drop (0+n.ay.length) (List.replicate (↑n.ay.length:Int).toNat (0:Int))).set (0+(jg.tmod (↑n.ay.length:Int)).toNat) (if IntKind.i64.wrap (i4+more)<1000 then IntKind.i64.wrap (i4+more) else 1000)))) n.af n.aD)).bind fun (l8,i9)=>
 bif !i7==0 then
 some false
 else
 bif !i9==0 then
 some false
 else
 bif !(↑l6.length:Int)==(↑n.af.length:Int) then
 some false
 else
 bif !(↑l8.length:Int)==(↑l6.length:Int) then
 some false
 else
 (l6[0]?).bind fun CL=>
 (l8[0]?).bind fun L9=>
 (aO (ω:=Int×Int×Int×Int×Int) (fun ((i12,i13,i14,i15,i16):Int×Int×Int×Int×Int)=>
 bif decide (i12<(↑l6.length:Int)) then
 bif decide (0≤i12) then
 (l6[i12.toNat]?).bind fun HS=>
 (aa.fj HS (ai.mk i15 i16)).bind fun (i18,i19)=>
 bif decide (0≤i12) then
 (l8[i12.toNat]?).bind fun VI=>
 (aa.fj VI (ai.mk i13 i14)).bind fun (i21,i22)=>
 bif decide (i18<0) then
 bif decide (0≤i12) then
 (l6[i12.toNat]?).bind fun Uj=>
 bif decide (i21<0) then
 bif decide (0≤i12) then
 (l8[i12.toNat]?).bind fun Sx=>
 some (Sum.inl (IntKind.i64.wrap (i12+1),Sx.du,Sx.Den,Uj.du,Uj.Den))
 else
 none
 else
 some (Sum.inl (IntKind.i64.wrap (i12+1),i13,i14,Uj.du,Uj.Den))
 else
 none
 else
 bif decide (i21<0) then
 bif decide (0≤i12) then
 (l8[i12.toNat]?).bind fun X7=>
 some (Sum.inl (IntKind.i64.wrap (i12+1),X7.du,X7.Den,i15,i16))
 else
 none
 else
 some (Sum.inl (IntKind.i64.wrap (i12+1),i13,i14,i15,i16))
 else
 none
 else
 none
 else
 some (Sum.inr (i12,i13,i14,i15,i16))) (0,L9.du,L9.Den,CL.du,CL.Den)).bind fun (i26,i27,i28,i29,i30)=>
 (aa.fj (ai.mk i29 i30) (ai.mk i27 i28)).bind fun (i31,i32)=>
 (aa.jJ n l6 (jg.tmod (↑n.ay.length:Int))).bind fun (X8,b34)=>
 bif b34 then
 bif decide (0≤jg.tmod (↑n.ay.length:Int)) then
 (n.ay[(jg.tmod (↑n.ay.length:Int)).toNat]?).bind fun i35=>
 bif b1 then
 bif i32==0 then
 bif decide (i31≤0) then
 bif !decide (X8.du<IntKind.i64.wrap (i35*X8.Den)) then
 some true
 else
 (aa.il l6 l8).bind fun VR=>
 some VR
 else
 some false
 else
 some false
 else
 some false
 else
 none
 else
 bif b1 then
 bif i32==0 then
 bif decide (i31≤0) then
 some true
 else
 some false
 else
 some false
 else
 some false
 else
 none
 else
 none
 else
 none
 else
 none
 else
 none
 else
 none
 else
 none
 else
 some b1
noncomputable def Go.aa.kF(n:bP)(x:List ai):Option Bool:=
 (aa.jO).bind fun b1=>
 (aa.iG n).bind fun b2=>
 bif !b2 then
 some b1
 else
 bif decide (50<(↑x.length:Int)) then
 some b1
 else
 (aa.cw n).bind fun (l3,i4)=>
 (aa.vU n).bind fun (l5,i6)=>
 bif b1 then
 (aa.il l3 l5).bind fun b7=>
 bif b7 then
 bif i4==i6 then
 (aa.jm n x).bind fun b8=>
 (aa.vV n x).bind fun b9=>
 bif b8==b9 then
 (aa.gp n).bind fun QY=>
 (aa.cY n).bind fun Ss=>
 some (QY==Ss)
 else
 some false
 else
 some false
 else
 some false
 else
 some false
noncomputable def Go.aa.qW(n:bP)(x:List ai):Option Bool:=
 (aa.jO).bind fun b1=>
 (aa.iG n).bind fun b2=>
 bif b2 then
 (aa.cY n).bind fun b3=>
 bif !b3 then
 some b1
 else
 bif decide (50<(↑x.length:Int)) then
 some b1
 else
 (aa.cw n).bind fun (l4,i5)=>
 (aa.jm n l4).bind fun b6=>
 (aa.jm n x).bind fun b7=>
 (aO (ω:=Bool×Int) (fun ((b8,i9):Bool×Int)=>
 bif decide (i9<(↑l4.length:Int)) then
 bif b8 then
 bif decide (0≤i9) then
 (l4[i9.toNat]?).bind fun CL=>
 bif decide (1≤CL.Den) then
 bif decide (0≤i9) then
 (l4[i9.toNat]?).bind fun L9=>
 some (Sum.inl (decide (L9.Den≤18),IntKind.i64.wrap (i9+1)))
 else
 none
 else
 some (Sum.inl (false,IntKind.i64.wrap (i9+1)))
 else
 none
 else
 some (Sum.inl (false,IntKind.i64.wrap (i9+1)))
 else
 some (Sum.inr (b8,i9))) (b1,0)).bind fun (D0,i13)=>
 bif D0 then
 bif i5==0 then
 bif b6 then
 (aa.il x l4).bind fun VE=>
 some (b7==VE)
 else
 some false
 else
 some false
 else
 some false
 else
 some b1
namespace Go.Proofs.Ytedjbjphpnkpoaa
noncomputable def hints:List (Nat×Nat×Hint):=[(43,2,⟨[(4,.val 4),(5,.val 3)],[6,7,8,9,12,13,14,15,16,17,18,19,20,21,22,23,24,25,26,27,28,29,30,31,32,33,34,35,36,37,38,39,40,10,11],[],[⟨none,[(4,.val 4)],[],[],[]⟩,⟨some 0,[(4,.val 4),(5,.val 3)],[],[],[]⟩]⟩),(18,1004,⟨[(2,.val 4),(3,.val 3)],[25,26,27,28,29,32,33,34,35,36,37,38,39,40,41,42,43,44,45,30,31],[],[⟨none,[(2,.val 4)],[],[],[]⟩,⟨some 0,[(2,.val 4),(3,.val 3)],[],[],[]⟩]⟩),(18,1009,⟨[(2,.val 4),(4,.val 3)],[46,47,48,49,50,53,54,55,56,57,58,59,60,61,5,62,63,64,65,66,67,68,69,70,71,72,73,74,75,76,77,78,79,51,52],[],[⟨none,[(2,.val 4)],[],[],[]⟩,⟨some 2,[(2,.val 4),(4,.val 3)],[],[],[]⟩]⟩),(32,2,⟨[(4,.val 4),(5,.val 3)],[6,7,8,9,12,13,14,15,16,17,10,11],[],[⟨none,[(4,.val 4)],[],[],[]⟩,⟨some 0,[(4,.val 4),(5,.val 3)],[],[],[]⟩]⟩),(59,1,⟨[(0,.val 3),(1,.val 3)],[6,7,8,9,10,5,11,12],[],[⟨some 0,[(0,.val 3),(1,.val 3)],[],[],[]⟩]⟩),(31,3004,⟨[(11,.val 3),(12,.val 3)],[20,21,22,23,24,27,28,29,30,31,32,33,13,34,35,36,37,38,39,40,42,43,44,45,46,47,41,48,49,50,51,52,53,54,55,56,57,58,59,25,26],[(2,.agg [.val 2,.val 2])],[⟨some 0,[(11,.val 3),(12,.val 3)],[],[],[]⟩]⟩),(13,5012,⟨[(9,.val 3),(11,.val 3)],[40,41,42,43,44,48,49,50,51,52,47,53,54,12,13,56,57,58,55,59,60,14,15,61,62,63,64,65,66,67,68,45,46],[(4,.agg [.val 2,.val 2])],[⟨some 2,[(9,.val 3),(11,.val 3)],[],[],[]⟩]⟩),(13,5020,⟨[(10,.val 3),(9,.val 3),(16,.val 3)],[69,70,71,72,73,76,77,78,79,80,81,17,83,84,85,82,86,87,18,19,88,89,90,91,92,93,94,95,96,97,98,99,100,101,102,103,104,105,106,74,75],[(4,.agg [.val 2,.val 2])],[⟨some 4,[(10,.val 3),(9,.val 3),(16,.val 3)],[],[],[]⟩]⟩),(13,5029,⟨[(7,.val 3),(20,.val 3)],[107,108,109,110,111,114,115,116,117,118,119,120,121,122,123,124,21,125,126,127,128,129,130,131,132,133,134,135,136,137,138,139,140,141,142,143,144,145,146,147,148,149,150,112,113],[(2,.fix 35),(3,.fix 4)],[⟨some 6,[(7,.val 3),(20,.val 3)],[],[],[]⟩]⟩),(13,4007,⟨[(7,.val 3)],[37,38,39,8,9,10,11,40,41,42,43,44,48,49,50,51,52,47,53,54,12,13,56,57,58,55,59,60,14,15,61,62,63,64,65,66,67,68,45,46,16,69,70,71,72,73,76,77,78,79,80,81,17,83,84,85,82,86,87,18,19,88,89,90,91,92,93,94,95,96,97,98,99,100,101,102,103,104,105,106,74,75,20,107,108,109,110,111,114,115,116,117,118,119,120,121,122,123,124,21,125,126,127,128,129,130,131,132,133,134,135,136,137,138,139,140,141,142,143,144,145,146,147,148,149,150,112,113],[(2,.fix 35),(3,.fix 4)],[⟨some 0,[(7,.val 3)],[],[],[]⟩]⟩),(56,7001,⟨[(12,.val 3)],[13,14,15,16,4,5,17,18,19,20,21,22,23,24,25,26],[(3,.one (.val 2)),(2,.agg [.val 2,.val 2])],[⟨some 0,[(12,.val 3)],[],[(6,.ready)],[]⟩]⟩),(15,2004,⟨[(4,.val 4),(30,.val 3)],[31,32,33,34,6,5,35,36,37,38,39,40,41,42,43,44,45,46,47,48,49,50,51,52,53,54,55,56,57,58,59,60,61],[],[⟨none,[(4,.val 4)],[.gX],[],[]⟩,⟨some 0,[(4,.val 4),(30,.val 3)],[],[],[]⟩]⟩),(15,6012,⟨[(72,.val 3)],[73,74,75,76,9,10,77,78,79,80,81,82,83,84,85,86,87,88,89,90,91],[(4,.fix 4)],[⟨some 2,[(72,.val 3)],[],[],[]⟩]⟩),(56,16001,⟨[(12,.val 3)],[13,14,15,16,4,5,17,18,19,20,21,22,23,24,25,26],[(12,.one (.val 4))],[⟨some 0,[(12,.val 3)],[],[(15,.ready),(10,.busy)],[]⟩]⟩),(56,11001,⟨[(12,.val 3)],[13,14,15,16,4,5,17,18,19,20,21,22,23,24,25,26],[(4,.fix 4)],[⟨some 0,[(12,.val 3)],[],[(10,.ready)],[]⟩]⟩),(15,6017,⟨[(4,.val 4),(95,.val 3)],[96,97,11,99,100,101,98,102,103,12,13,104,105,106,107,108,147],[(4,.fix 4)],[⟨none,[(4,.val 4)],[.gX,.gX],[],[]⟩,⟨some 4,[(4,.val 4),(95,.val 3)],[],[],[]⟩]⟩),(22,3003,⟨[(7,.val 4),(9,.val 3)],[14,15,16,17,18,21,22,23,24,25,26,27,10,28,30,31,32,33,34,35,29,36,37,11,12,38,39,40,41,19,20],[(2,.agg [.val 2,.val 2])],[⟨none,[(7,.val 4)],[.gX],[],[(1,.agg [.val 2,.val 2])]⟩,⟨some 0,[(7,.val 4),(9,.val 3)],[],[],[]⟩]⟩),(39,2003,⟨[(8,.val 4),(11,.val 3)],[22,23,24,25,26,29,30,31,32,33,34,35,12,37,38,39,40,41,42,43,44,45,36,46,47,13,14,48,49,50,51,52,27,28],[],[⟨none,[(8,.val 4)],[],[],[]⟩,⟨some 0,[(8,.val 4),(11,.val 3)],[],[],[]⟩]⟩),(16,1005,⟨[(4,.val 4),(6,.val 3)],[26,27,28,29,32,33,34,35,36,7,37,38,39,40,41,42,43,44,45,46,47,48,49,50,51,52,53,54,55,56,57,58,59,60,61,62,63,64,65,66,67,68,69,70,71,72,73,30,31],[],[⟨none,[(4,.val 4)],[],[],[]⟩,⟨some 0,[(4,.val 4),(6,.val 3)],[],[],[]⟩]⟩),(16,1011,⟨[(4,.val 4),(8,.val 3)],[74,75,76,77,78,82,83,84,85,81,86,87,9,10,88,89,90,91,92,93,94,95,96,97,98,99,100,101,102,79,80],[],[⟨none,[(4,.val 4)],[.gX],[],[]⟩,⟨some 2,[(4,.val 4),(8,.val 3)],[],[],[]⟩]⟩),(16,1021,⟨[(12,.val 4),(13,.val 3)],[136,137,138,139,140,141,142,143,144,145,146,147,150,151,152,153,154,155,156,157,158,159,160,161,148,149],[],[⟨some 6,[(12,.val 4),(13,.val 3)],[],[],[]⟩]⟩),(16,1017,⟨[(4,.val 4),(11,.val 3)],[103,104,105,106,109,110,111,112,113,114,115,116,117,118,119,120,121,122,123,124,125,126,127,128,129,130,131,132,133,134,135,12,13,136,137,138,139,140,141,142,143,144,145,146,147,150,151,152,153,154,155,156,157,158,159,160,161,148,149,162,163,107,108],[],[⟨none,[(4,.val 4)],[],[],[]⟩,⟨some 4,[(4,.val 4),(11,.val 3)],[],[],[]⟩]⟩),(11,1002,⟨[(2,.val 4),(3,.val 3)],[4,5,6,7,8,9,10,11,12,15,16,17,18,19,20,21,13,14],[],[⟨none,[(2,.val 4)],[],[],[]⟩,⟨some 0,[(2,.val 4),(3,.val 3)],[],[],[]⟩]⟩),(14,4,⟨[(4,.val 4),(5,.val 3)],[11,12,13,14,17,18,19,20,21,22,23,24,25,15,16],[],[⟨none,[(4,.val 4)],[],[],[]⟩,⟨some 0,[(4,.val 4),(5,.val 3)],[],[],[]⟩]⟩),(86,2,⟨[(4,.val 3),(8,.val 3)],[9,10,5,11,12,13,14,15,16,17,18],[],[⟨none,[(4,.val 3)],[],[],[]⟩,⟨some 0,[(4,.val 3),(8,.val 3)],[],[],[]⟩]⟩),(42,2,⟨[(4,.val 4),(9,.val 3)],[10,11,12,13,5,6,14,15,16,17,18,19,20,21,22,23,24,25,26,27,28,29,30,31,32],[],[⟨none,[(4,.val 4)],[],[],[]⟩,⟨some 0,[(4,.val 4),(9,.val 3)],[],[],[]⟩]⟩),(17,2004,⟨[(2,.val 4),(33,.val 3)],[34,35,36,4,37,38,39,40],[],[⟨none,[(2,.val 4)],[],[],[]⟩,⟨some 0,[(2,.val 4),(33,.val 3)],[],[],[]⟩]⟩),(17,2010,⟨[(2,.val 4),(44,.val 3)],[45,46,47,6,48,49,50,51,52,53,54],[],[⟨none,[(2,.val 4)],[],[],[]⟩,⟨some 2,[(2,.val 4),(44,.val 3)],[],[],[]⟩]⟩),(48,2,⟨[(4,.val 3),(8,.val 3)],[9,10,5,11,12,13,14,15,16,17,18],[],[⟨none,[(4,.val 3)],[],[],[]⟩,⟨some 0,[(4,.val 3),(8,.val 3)],[],[],[]⟩]⟩),(12,6006,⟨[(5,.own 1 5),(25,.val 3)],[26,27,6,28,29,30,31,32,33],[(5,.list 82)],[⟨some 0,[(5,.own 1 5),(25,.val 3)],[],[],[]⟩]⟩),(12,6011,⟨[(5,.own 1 5),(37,.val 3)],[38,39,7,40,41,42,43,44,45],[(5,.list 82)],[⟨some 2,[(5,.own 1 5),(37,.val 3)],[],[],[]⟩]⟩),(30,8003,⟨[(4,.own 2 6),(5,.own 1 7),(19,.val 3)],[20,21,22,7,24,25,26,23,27,28,8,9,29,30,31,32,33,34,35,36,37,38],[(6,.list 35),(7,.list 82)],[⟨some 0,[(4,.own 2 6),(5,.own 1 7),(19,.val 3)],[],[],[]⟩]⟩),(49,10003,⟨[(13,.val 3)],[14,15,16,7,17,18,19,20,21,22],[(9,.agg [.val 2,.val 2])],[⟨some 0,[(13,.val 3)],[],[],[]⟩]⟩),(30,10015,⟨[(11,.own 1 9),(54,.val 3)],[55,56,14,57,58,59,60,61,62,63,64,65,66,67,68,69,70,71,72,73,74,75,76,77,78,79,80,81,82,83],[(9,.list 3)],[⟨some 4,[(11,.own 1 9),(54,.val 3)],[],[],[]⟩]⟩),(30,10012,⟨[(11,.own 1 9),(43,.val 3)],[44,45,46,47,12,13,48,49,50,51,52,53,54,55,56,14,57,58,59,60,61,62,63,64,65,66,67,68,69,70,71,72,73,74,75,76,77,78,79,80,81,82,83,84],[(9,.list 3)],[⟨some 2,[(11,.own 1 9),(43,.val 3)],[],[],[]⟩]⟩),(30,10022,⟨[(87,.val 3)],[88,89,90,16,91,92,93,94,95,96,97,98,99,100,101,102,103,104],[(3,.fix 35),(2,.fix 4)],[⟨some 6,[(87,.val 3)],[],[],[]⟩]⟩),(12,6015,⟨[],[46,47,48,49,50,51,52,53],[(3,.fix 35),(2,.fix 4)],[⟨some 4,[],[],[],[]⟩]⟩),(19,3003,⟨[(8,.val 3)],[18,19,20,21,22,25,26,27,28,29,30,31,32,33,34,23,24],[(2,.fix 3)],[⟨some 0,[(8,.val 3)],[],[],[]⟩]⟩),(19,4014,⟨[(11,.val 3),(12,.val 3)],[67,68,69,70,71,72,73,74,77,78,79,80,81,82,83,84,85,86,87,88,89,75,76],[],[⟨some 4,[(11,.val 3),(12,.val 3)],[],[],[]⟩]⟩),(19,4019,⟨[(13,.val 3)],[101,102,103,104,105,106,107,108,111,112,113,114,115,116,117,118,119,120,121,122,123,124,125,126,127,109,110],[(2,.fix 3)],[⟨some 6,[(13,.val 3)],[],[],[]⟩]⟩),(19,4008,⟨[(10,.val 3)],[39,40,41,42,43,44,45,46,47,48,49,52,53,11,54,55,56,57,58,59,60,61,62,63,64,65,66,12,67,68,69,70,71,72,73,74,77,78,79,80,81,82,83,84,85,86,87,88,89,75,76,90,91,92,93,94,95,96,97,98,99,100,13,101,102,103,104,105,106,107,108,111,112,113,114,115,116,117,118,119,120,121,122,123,124,125,126,127,109,110,50,51],[(2,.fix 3),(3,.fix 3)],[⟨some 2,[(10,.val 3)],[],[],[]⟩]⟩),(5,1017,⟨[(15,.val 4),(16,.val 3)],[69,70,71,72,76,77,78,79,80,81,82,83,84,75,85,86,17,18,87,88,89,90,91,92,93,94,95,96,97,98,99,100,101,102,103,104,73,74],[],[⟨some 2,[(15,.val 4),(16,.val 3)],[],[],[]⟩]⟩),(5,1012,⟨[(7,.val 4),(14,.val 3)],[52,53,54,55,58,59,60,61,62,63,64,65,66,67,68,15,16,69,70,71,72,76,77,78,79,80,81,82,83,84,75,85,86,17,18,87,88,89,90,91,92,93,94,95,96,97,98,99,100,101,102,103,104,73,74,105,106,107,108,56,57],[],[⟨some 0,[(7,.val 4),(14,.val 3)],[],[],[]⟩]⟩),(7,6016,⟨[(18,.val 3)],[123,124,125,126,130,131,132,133,134,135,129,136,137,19,20,139,140,141,142,143,144,138,145,146,21,22,147,148,149,150,151,152,153,154,155,156,157,158,127,128],[(5,.agg [.val 2,.val 2]),(4,.agg [.val 2,.val 2])],[⟨some 0,[(18,.val 3)],[],[],[]⟩]⟩),(8,2008,⟨[(7,.val 3)],[31,32,35,36,37,38,39,40,41,42,43,44,33,34],[(1,.agg [.val 22,.val 23,.val 22])],[⟨some 0,[(7,.val 3)],[],[],[]⟩]⟩),(8,3016,⟨[(9,.own 1 2),(10,.val 3)],[60,61,64,65,66,67,68,69,70,71,72,73,74,75,76,77,78,79,62,63],[(2,.list 3)],[⟨some 4,[(9,.own 1 2),(10,.val 3)],[],[],[]⟩]⟩),(8,2012,⟨[(8,.val 3)],[49,50,9,53,54,55,56,57,58,59,10,60,61,64,65,66,67,68,69,70,71,72,73,74,75,76,77,78,79,62,63,80,81,82,83,84,85,86,87,88,89,90,91,92,93,94,95,51,52],[],[⟨some 2,[(8,.val 3)],[],[],[]⟩]⟩),(8,2026,⟨[(3,.val 4),(15,.val 3)],[127,128,129,130,133,134,135,136,137,138,139,140,141,142,143,144,145,146,147,148,131,132],[],[⟨some 6,[(3,.val 4),(15,.val 3)],[],[],[]⟩]⟩),(4,1010,⟨[(5,.val 4),(12,.val 3)],[40,41,42,43,46,47,48,49,50,51,52,53,54,55,56,57,58,59,60,61,62,44,45],[],[⟨some 0,[(5,.val 4),(12,.val 3)],[],[],[]⟩]⟩),(6,4008,⟨[(9,.val 3)],[39,40,41,42,43,46,47,48,49,50,51,52,53,54,55,56,57,44,45],[(3,.agg [.own 1 1,.val 23,.own 1 2]),(1,.list 3),(2,.list 3)],[⟨some 0,[(9,.val 3)],[],[],[]⟩]⟩),(6,4012,⟨[(10,.val 3)],[58,59,60,61,62,65,66,67,68,69,70,71,72,73,74,75,76,63,64],[(3,.agg [.own 1 1,.val 23,.own 1 2]),(1,.list 3),(2,.list 3)],[⟨some 2,[(10,.val 3)],[],[],[]⟩]⟩),(6,4023,⟨[(5,.val 4),(16,.val 3)],[105,106,107,108,111,112,113,114,115,116,117,118,119,120,121,122,123,124,125,126,127,128,129,130,131,132,133,134,135,136,137,138,109,110],[],[⟨some 4,[(5,.val 4),(16,.val 3)],[],[],[]⟩]⟩)]
noncomputable def Qa:List (Nat×Nat×Hint):=[(56,7001,⟨[(12,.val 3)],[13,14,15,16,4,5,17,18,19,20,21,22,23,24,25,26],[(3,.agg [.val 2,.val 2])],[⟨none,[],[],[(6,.jump none)],[(2,.one (.val 4)),(1,.agg [.val 2,.val 2])]⟩,⟨some 0,[(12,.val 3)],[],[(6,.ready)],[]⟩]⟩)]
def uM:FuncId→Nat→Bool:=fun f _=>Nat.beq f 10
noncomputable def Kt:List (Nat×uK T):=[(41,⟨[3,3,3],[4],fun x=>Go.aa.nH x.1 x.2.1 x.2.2⟩),
 (42,⟨[22,3],[4],fun x=>Go.aa.jY x.1 x.2⟩),
 (40,⟨[23],[22],fun x=>Go.aa.gW x⟩),
 (17,⟨[25],[4],fun x=>Go.aa.gp x⟩),
 (48,⟨[53,4],[3],fun x=>Go.aa.n9 x.1 x.2⟩),
 (29,⟨[53,4],[4],fun x=>Go.aa.fe x.1 x.2⟩),
 (52,⟨[87],[4],fun x=>Go.aa.bM x⟩),
 (82,⟨[3,3],[3],fun x=>Go.aa.jX x.1 x.2⟩),
 (53,⟨[87],[87],fun x=>Go.aa.cS x⟩),
 (33,⟨[35],[4],fun x=>Go.aa.cM x⟩),
 (95,⟨[3],[4],fun x=>Go.aa.qy x⟩),
 (83,⟨[3,3],[3],fun x=>Go.aa.pQ x.1 x.2⟩),
 (54,⟨[35,35],[3,29],fun x=>Go.aa.qx x.1 x.2⟩),
 (34,⟨[35,35],[4],fun x=>Go.aa.fR x.1 x.2⟩),
 (43,⟨[22,3],[4],fun x=>Go.aa.n8 x.1 x.2⟩),
 (18,⟨[25],[4],fun x=>Go.aa.cY x⟩),
 (32,⟨[22,3],[4],fun x=>Go.aa.kg x.1 x.2⟩),
 (58,⟨[3,3],[4],fun x=>Go.aa.ik x.1 x.2⟩),
 (60,⟨[3],[3],fun x=>Go.aa.ld x⟩),
 (59,⟨[3,3],[3],fun x=>Go.aa.fi x.1 x.2⟩),
 (38,⟨[35],[4],fun x=>Go.aa.cN x⟩),
 (62,⟨[3,3],[35,29],fun x=>Go.aa.ed x.1 x.2⟩),
 (50,⟨[35,35],[35,29],fun x=>Go.aa.z3 x.1 x.2⟩),
 (51,⟨[35,35],[35,29],fun x=>Go.aa.z4 x.1 x.2⟩),
 (31,⟨[25,53,26,3],[35,3],fun x=>Go.aa.vT x.1 x.2.1 x.2.2.1 x.2.2.2⟩),
 (21,⟨[35,35],[3,29],fun x=>Go.aa.fj x.1 x.2⟩),
 (13,⟨[25],[26,29],fun x=>Go.aa.vU x⟩),
 (35,⟨[3],[35],fun x=>Go.aa.dy x⟩),
 (86,⟨[22,3],[3],fun x=>Go.aa.mO x.1 x.2⟩),
 (57,⟨[22,3],[4],fun x=>Go.aa.bK x.1 x.2⟩),
 (96,⟨[87],[35,29],fun x=>Go.aa.bp x⟩),
 (55,⟨[35,35],[35,29],fun x=>Go.aa.z5 x.1 x.2⟩),
 (36,⟨[52,57],[35,4],fun x=>Go.aa.mD x.1 x.2⟩),
 (15,⟨[25,26],[4],fun x=>Go.aa.jm x.1 x.2⟩),
 (44,⟨[35,35],[35,29],fun x=>Go.aa.qA x.1 x.2⟩),
 (22,⟨[25,26,3],[35,4],fun x=>Go.aa.jJ x.1 x.2.1 x.2.2⟩),
 (39,⟨[25,26,3,3],[4],fun x=>Go.aa.oi x.1 x.2.1 x.2.2.1 x.2.2.2⟩),
 (16,⟨[25,26],[4],fun x=>Go.aa.vV x.1 x.2⟩),
 (11,⟨[25],[4],fun x=>Go.aa.iG x⟩),
 (14,⟨[26,26],[4],fun x=>Go.aa.il x.1 x.2⟩),
 (117,⟨[35,35],[35,29],fun x=>Go.aa.nG x.1 x.2⟩),
 (118,⟨[35,35],[35,29],fun x=>Go.aa.qw x.1 x.2⟩),
 (115,⟨[57,52],[35,4],fun x=>Go.aa.cf x.1 x.2⟩),
 (116,⟨[57,52,3],[4],fun x=>Go.aa.fI x.1 x.2.1 x.2.2⟩),
 (121,⟨[58,52],[35,4],fun x=>Go.aa.cz x.1 x.2⟩),
 (122,⟨[58,52,3],[4],fun x=>Go.aa.lU x.1 x.2.1 x.2.2⟩),
 (12,⟨[25],[26,29],fun x=>Go.aa.cw x⟩),
 (28,⟨[3],[35],fun x=>Go.aa.C1 x⟩),
 (27,⟨[25,26],[4],fun x=>Go.aa.KL x.1 x.2⟩),
 (19,⟨[25,36,3],[22],fun x=>Go.aa.pX x.1 x.2.1 x.2.2⟩),
 (20,⟨[35,3,3],[3],fun x=>Go.aa.lV x.1 x.2.1 x.2.2⟩),
 (10,⟨[],[4],fun x=>Go.aa.jO ⟩),
 (5,⟨[25,36,5],[4],fun x=>Go.aa.sn x.1 x.2.1 x.2.2⟩),
 (6,⟨[25,3],[4],fun x=>Go.aa.tI x.1 x.2⟩),
 (7,⟨[25,3,3],[4],fun x=>Go.aa.gr x.1 x.2.1 x.2.2⟩),
 (3,⟨[25,26],[4],fun x=>Go.aa.kF x.1 x.2⟩),
 (4,⟨[25,26],[4],fun x=>Go.aa.qW x.1 x.2⟩)]
noncomputable abbrev S(n:Nat):od:=GF C T Bi (Go.PI.Gu hints) uM Kt n ki tD Sy
theorem KM{h h':FuncId→Nat→Option Hint}{r:FuncId→Nat→Bool}{L:List (Nat×uK T)}{n:Nat}(k:(GF C T Bi h r L n ki tD Sy).Ok):(GF C T Bi h' r L n ki tD Sy).Ok:=⟨k.T,k.Q,k.Z,k.sum,k.own⟩
theorem s0:(S 0).Ok:=C2 X9 Qb Ya sg
end Go.Proofs.Ytedjbjphpnkpoaa
end
