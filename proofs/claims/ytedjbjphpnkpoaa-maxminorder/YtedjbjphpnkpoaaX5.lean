/- Part 5 of the proof: texts of this session laid one behind the other. -/
import Derived.Test.YtedjbjphpnkpoaaProg
import Derived.KernelRfl
import Derived.Test.YtedjbjphpnkpoaaX4
set_option linter.unusedVariables false
set_option linter.unusedSimpArgs false
section
/- The types of this seat: what must hold of them (printed by gen_tys.py out of the dump). -/
set_option maxRecDepth 100000
namespace Go.Proofs.Ytedjbjphpnkpoaa
open Go.PI
theorem IY{H:ah den}{v:V}{vs:List V}{l:List AV}:RL T H (v::vs) l↔∃ c cs,l=c::cs∧R T H v c∧RL T H vs cs:=DX (T:=T)
theorem UH{H:ah den}{l:List AV}:RL T H [] l↔l=[]:=FT (T:=T)
theorem Tv(x:bJ)(a:AV)(H:ah den)(h:Iy x a):R T H (Oc x) a:=by
 obtain⟨a0,a1,a2,h0,h1,h2,rfl⟩:=h
 unfold Oc
 simp only[R]
 refine⟨_,rfl,?_⟩
 simp only[RL,R,and_true,true_and]
 exact⟨h0,h1,h2⟩
theorem Tx(v:V)(x:bJ)(a:AV)(H:ah den)(h:Od v=some x)(hr:R T H v a):Iy x a:=by
 unfold Od at h
 split at h
 ·simp only[Option.bind_eq_some_iff,Option.some.injEq]at h
  obtain⟨b0,g0,b1,g1,b2,g2,rfl⟩:=h
  simp only[R]at hr
  obtain⟨_,rfl,hl⟩:=hr
  obtain⟨c0,_,rfl,r0,hl⟩:=IY.1 hl
  obtain⟨c1,_,rfl,r1,hl⟩:=IY.1 hl
  obtain⟨c2,_,rfl,r2,hl⟩:=IY.1 hl
  cases UH.1 hl
  have e0:=gb (T:=T) (e:=3) (fun _ _ _ h hr=>eJ (T:=T) h hr) g0 r0
  have e1:=gb (T:=T) (e:=22) (fun _ _ _ h hr=>gb (T:=T) (e:=3) (fun _ _ _ h hr=>eJ (T:=T) h hr) h hr) g1 r1
  have e2:=gb (T:=T) (e:=3) (fun _ _ _ h hr=>eJ (T:=T) h hr) g2 r2
  exact⟨_,_,_,e0,e1,e2,rfl⟩
 ·simp at h
theorem Ty(x:bJ)(a:AV)(h:Iy x a):aG true 3 a=true∧closed a=true:=by
 obtain⟨a0,a1,a2,h0,h1,h2,rfl⟩:=h
 have k0:=eG h0
 have k1:=eG h1
 have k2:=eG h2
 exact⟨by simp[aG,tQ,qN,tR,k0.2.2,k1.2.2,k2.2.2],by simp[closed,aY,k0.2.1,k1.2.1,k2.2.1]⟩
theorem Tz(x:ak)(a:AV)(H:ah den)(h:DZ x a):R T H (Oe x) a:=by
 unfold DZ at h; subst h
 unfold Oe
 simp only[R]
 refine⟨_,rfl,?_⟩
 simp only[RL,R,and_true,true_and]
theorem Oi(v:V)(x:ak)(a:AV)(H:ah den)(h:LH v=some x)(hr:R T H v a):DZ x a:=by
 unfold LH at h
 split at h
 ·simp only[Option.bind_eq_some_iff,Option.some.injEq]at h
  obtain⟨b0,g0,b1,g1,rfl⟩:=h
  simp only[R]at hr
  obtain⟨_,rfl,hl⟩:=hr
  obtain⟨c0,_,rfl,r0,hl⟩:=IY.1 hl
  obtain⟨c1,_,rfl,r1,hl⟩:=IY.1 hl
  cases UH.1 hl
  cases eJ (T:=T) g0 r0
  cases eJ (T:=T) g1 r1
  exact rfl
 ·simp at h
theorem TA(x:ak)(a:AV)(h:DZ x a):aG true 2 a=true∧closed a=true:=by
 unfold DZ at h; subst h
 exact⟨by simp[aG,tQ,qN,tR],by simp[closed,aY]⟩
theorem QR(x:cf)(a:AV)(H:ah den)(h:Iz x a):R T H (LI x) a:=by
 obtain⟨a0,a1,a2,a3,a4,h0,h1,h2,h3,h4,rfl⟩:=h
 unfold LI
 simp only[R]
 refine⟨_,rfl,?_⟩
 simp only[RL,R,and_true,true_and]
 exact⟨h0,h1,h2,h3,h4⟩
theorem QS(v:V)(x:cf)(a:AV)(H:ah den)(h:LJ v=some x)(hr:R T H v a):Iz x a:=by
 unfold LJ at h
 split at h
 ·simp only[Option.bind_eq_some_iff,Option.some.injEq]at h
  obtain⟨b0,g0,b1,g1,b2,g2,b3,g3,b4,g4,rfl⟩:=h
  simp only[R]at hr
  obtain⟨_,rfl,hl⟩:=hr
  obtain⟨c0,_,rfl,r0,hl⟩:=IY.1 hl
  obtain⟨c1,_,rfl,r1,hl⟩:=IY.1 hl
  obtain⟨c2,_,rfl,r2,hl⟩:=IY.1 hl
  obtain⟨c3,_,rfl,r3,hl⟩:=IY.1 hl
  obtain⟨c4,_,rfl,r4,hl⟩:=IY.1 hl
  cases UH.1 hl
  have e0:=gb (T:=T) (e:=3) (fun _ _ _ h hr=>eJ (T:=T) h hr) g0 r0
  have e1:=gb (T:=T) (e:=22) (fun _ _ _ h hr=>gb (T:=T) (e:=3) (fun _ _ _ h hr=>eJ (T:=T) h hr) h hr) g1 r1
  have e2:=gb (T:=T) (e:=3) (fun _ _ _ h hr=>eJ (T:=T) h hr) g2 r2
  have e3:=gb (T:=T) (e:=4) (fun _ _ _ h hr=>LF (T:=T) h hr) g3 r3
  have e4:=gb (T:=T) (e:=35) (fun _ _ _ h hr=>Oi _ _ _ H h hr) g4 r4
  exact⟨_,_,_,_,_,e0,e1,e2,e3,e4,rfl⟩
 ·simp at h
theorem TB(x:cf)(a:AV)(h:Iz x a):aG true 5 a=true∧closed a=true:=by
 obtain⟨a0,a1,a2,a3,a4,h0,h1,h2,h3,h4,rfl⟩:=h
 have k0:=eG h0
 have k1:=eG h1
 have k2:=eG h2
 have k3:=eG h3
 have k4:=eG h4
 exact⟨by simp[aG,tQ,qN,tR,k0.2.2,k1.2.2,k2.2.2,k3.2.2,k4.2.2],by simp[closed,aY,k0.2.1,k1.2.1,k2.2.1,k3.2.1,k4.2.1]⟩
theorem TC(x:dP)(a:AV)(H:ah den)(h:D0 x a):R T H (Of x) a:=by
 unfold D0 at h; subst h
 obtain⟨b,n⟩:=x
 cases b<;>simp[Of,R]
theorem QT(v:V)(x:dP)(a:AV)(H:ah den)(h:LK v=some x)(hr:R T H v a):D0 x a:=by
 unfold LK at h
 split at h
 ·rename_i t w
  simp only[Option.bind_eq_some_iff]at h
  obtain⟨n,g,h⟩:=h
  simp only[R]at hr
  obtain⟨a',rfl,hr⟩:=hr
  have e:=eJ (T:=T) g hr
  subst e
  cases h1:Nat.beq t 57 with
  |true=>
   rw[h1]at h
   obtain rfl:=Nat.eq_of_beq_eq_true h1
   cases h
   rfl
  |false=>
   rw[h1]at h
   cases h2:Nat.beq t 58 with
   |true=>
    rw[h2]at h
    obtain rfl:=Nat.eq_of_beq_eq_true h2
    cases h
    rfl
   |false=>rw[h2]at h; cases h
 ·simp at h
theorem TD(x:dP)(a:AV)(h:D0 x a):aG false 1 a=true∧closed a=true:=by
 unfold D0 at h; subst h
 exact⟨rfl,rfl⟩
theorem TE(x:ak)(a:AV)(H:ah den)(h:FU x a):R T H (Og x) a:=by
 unfold FU at h; subst h
 unfold Og
 simp only[R]
 refine⟨_,rfl,?_⟩
 simp only[RL,R,and_true,true_and]
theorem TF(v:V)(x:ak)(a:AV)(H:ah den)(h:Oh v=some x)(hr:R T H v a):FU x a:=by
 unfold Oh at h
 split at h
 ·simp only[Option.bind_eq_some_iff,Option.some.injEq]at h
  obtain⟨b0,g0,b1,g1,rfl⟩:=h
  simp only[R]at hr
  obtain⟨_,rfl,hl⟩:=hr
  obtain⟨c0,_,rfl,r0,hl⟩:=IY.1 hl
  obtain⟨c1,_,rfl,r1,hl⟩:=IY.1 hl
  cases UH.1 hl
  cases eJ (T:=T) g0 r0
  cases eJ (T:=T) g1 r1
  exact rfl
 ·simp at h
theorem TG(x:ak)(a:AV)(h:FU x a):aG true 2 a=true∧closed a=true:=by
 unfold FU at h; subst h
 exact⟨by simp[aG,tQ,qN,tR],by simp[closed,aY]⟩
theorem Xc(t:Nat)(x:den t)(a:AV)(H:ah den)(h:rp t x a):R T H (up t x) a:=by
 unfold rp at h
 split at h
 ·exact uL (T:=T) h
 ·exact uL (T:=T) h
 ·exact uL (T:=T) h
 ·exact uL (T:=T) h
 ·exact uL (T:=T) h
 ·exact uG (T:=T) (e:=3) h
 ·exact uG (T:=T) (e:=22) h
 ·exact Tv _ _ H h
 ·exact Tv _ _ H h
 ·exact uG (T:=T) (e:=35) h
 ·exact uL (T:=T) h
 ·exact Tz _ _ H h
 ·exact Tz _ _ H h
 ·exact uG (T:=T) (e:=73) h
 ·exact uG (T:=T) (e:=4) h
 ·exact QR _ _ H h
 ·exact QR _ _ H h
 ·exact uG (T:=T) (e:=82) h
 ·exact uL (T:=T) h
 ·exact uL (T:=T) h
 ·exact uL (T:=T) h
 ·exact uL (T:=T) h
 ·exact TC _ _ H h
 ·exact TC _ _ H h
 ·exact TE _ _ H h
 ·exact TE _ _ H h
 ·exact uL (T:=T) h
 ·exact uL (T:=T) h
 ·exact uL (T:=T) h
 ·exact uL (T:=T) h
 ·exact uP (T:=T) (fun b hb=>QR _ _ H hb) rfl h
 ·exact h.elim
theorem Xd(t:Nat)(v:V)(x:den t)(a:AV)(H:ah den)(h:dn t v=some x)(hr:R T H v a):rp t x a:=by
 revert x h hr
 refine dn.fun_cases_unfolding (motive:=fun t v r=>∀ (x:den t),r=some x→R T H v a→rp t x a) ?_ ?_ ?_ ?_ ?_ ?_ ?_ ?_ ?_ ?_ ?_ ?_ ?_ ?_ ?_ ?_ ?_ ?_ ?_ ?_ ?_ ?_ ?_ ?_ ?_ ?_ ?_ ?_ ?_ ?_ ?_ ?_ t v
 ·intro v x h hr; exact eJ (T:=T) h hr
 ·intro v x h hr; exact eJ (T:=T) h hr
 ·intro v x h hr; exact LF (T:=T) h hr
 ·intro v x h hr; exact eJ (T:=T) h hr
 ·intro v x h hr; exact Tg (T:=T) h hr
 ·intro v x h hr; exact gb (T:=T) (e:=3) (fun _ _ _ h hr=>eJ (T:=T) h hr) h hr
 ·intro v x h hr; exact gb (T:=T) (e:=22) (fun _ _ _ h hr=>gb (T:=T) (e:=3) (fun _ _ _ h hr=>eJ (T:=T) h hr) h hr) h hr
 ·intro v x h hr; exact Tx _ _ _ H h hr
 ·intro v x h hr; exact Tx _ _ _ H h hr
 ·intro v x h hr; exact gb (T:=T) (e:=35) (fun _ _ _ h hr=>Oi _ _ _ H h hr) h hr
 ·intro v x h hr; exact eJ (T:=T) h hr
 ·intro v x h hr; exact Oi _ _ _ H h hr
 ·intro v x h hr; exact Oi _ _ _ H h hr
 ·intro v x h hr; exact gb (T:=T) (e:=73) (fun _ _ _ h hr=>eJ (T:=T) h hr) h hr
 ·intro v x h hr; exact gb (T:=T) (e:=4) (fun _ _ _ h hr=>LF (T:=T) h hr) h hr
 ·intro v x h hr; exact QS _ _ _ H h hr
 ·intro v x h hr; exact QS _ _ _ H h hr
 ·intro v x h hr; exact gb (T:=T) (e:=82) (fun _ _ _ h hr=>QT _ _ _ H h hr) h hr
 ·intro v x h hr; exact eJ (T:=T) h hr
 ·intro v x h hr; exact eJ (T:=T) h hr
 ·intro v x h hr; exact eJ (T:=T) h hr
 ·intro v x h hr; exact eJ (T:=T) h hr
 ·intro v x h hr; exact QT _ _ _ H h hr
 ·intro v x h hr; exact QT _ _ _ H h hr
 ·intro v x h hr; exact TF _ _ _ H h hr
 ·intro v x h hr; exact TF _ _ _ H h hr
 ·intro v x h hr; exact eJ (T:=T) h hr
 ·intro v x h hr; exact eJ (T:=T) h hr
 ·intro v x h hr; exact eJ (T:=T) h hr
 ·intro v x h hr; exact eJ (T:=T) h hr
 ·intro v x h hr; exact QO (T:=T) (fun _ _ h hr=>QS _ _ _ H h hr) h hr
 ·intros; rename_i h _; cases h
theorem TH(t:Nat)(x:den t)(a:AV)(h:rp t x a):aG (Ts t) (Pe t) a=true∧closed a=true:=by
 unfold rp at h
 split at h
 ·exact yM (eI h)
 ·exact yM (eI h)
 ·exact yM (eB h)
 ·exact yM (eI h)
 ·exact yM (eS h)
 ·exact yM (eG h)
 ·exact yM (eG h)
 ·exact Ty _ _ h
 ·exact Ty _ _ h
 ·exact yM (eG h)
 ·exact yM (eI h)
 ·exact TA _ _ h
 ·exact TA _ _ h
 ·exact yM (eG h)
 ·exact yM (eG h)
 ·exact TB _ _ h
 ·exact TB _ _ h
 ·exact yM (eG h)
 ·exact yM (eI h)
 ·exact yM (eI h)
 ·exact yM (eI h)
 ·exact yM (eI h)
 ·exact TD _ _ h
 ·exact TD _ _ h
 ·exact TG _ _ h
 ·exact TG _ _ h
 ·exact yM (eI h)
 ·exact yM (eI h)
 ·exact yM (eI h)
 ·exact yM (eI h)
 ·exact yM (eP h)
 ·exact h.elim
theorem TI(t:Nat)(f:(den t→Bool)×(den t→V)×(den t→V))(h:QQ t=some f)(x:den t):(bif f.1 x then f.2.1 x else f.2.2 x)=up t x:=by
 unfold QQ at h
 split at h
 ·cases h; rfl
 ·cases h; rfl
 ·cases h
theorem Yg:T.Ok:=⟨fun t x a H h=>Xc t x a H h,fun t v x a H h hr=>Xd t v x a H h hr,fun t x a h=>(TH t x a h).1,fun t x a h=>(TH t x a h).2,fun t f h x=>TI t f h x⟩
theorem Qp:gw.Ok ⟨Try.prog,Bz,fun _=>false⟩:=gw.Ok.of (by kernel_rfl) (by kernel_rfl) (by kernel_rfl) (by kernel_rfl) (by kernel_rfl)
def ZP(q:Nat×jU):Prop:=∀ z za,Pf q.1=some z→q.2.zero=some za→rp q.1 z za
theorem Yh:T.tK ⟨Try.prog,Bz,fun _=>false⟩:=by
 intro t m z za h1 h2 h3
 have hm:=gA h1
 have all:∀ q,q∈Bz→ZP q:=by
  unfold Bz
  intro q hq
  simp only[List.mem_cons,List.not_mem_nil,or_false]at hq
  rcases hq with rfl|rfl|rfl|rfl|rfl|rfl|rfl|rfl|rfl|rfl|rfl|rfl|rfl|rfl|rfl|rfl|rfl|rfl|rfl|rfl|rfl|rfl|rfl|rfl|rfl|rfl|rfl|rfl|rfl|rfl|rfl|rfl|rfl|rfl|rfl|rfl|rfl|rfl|rfl|rfl|rfl|rfl|rfl|rfl|rfl|rfl|rfl|rfl|rfl|rfl|rfl|rfl|rfl|rfl|rfl|rfl|rfl|rfl|rfl|rfl|rfl|rfl|rfl|rfl|rfl|rfl|rfl|rfl|rfl|rfl|rfl|rfl|rfl|rfl|rfl|rfl|rfl|rfl|rfl|rfl|rfl|rfl|rfl|rfl|rfl|rfl|rfl|rfl|rfl|rfl|rfl|rfl|rfl|rfl|rfl|rfl|rfl|rfl|rfl|rfl|rfl|rfl|rfl|rfl|rfl|rfl|rfl|rfl|rfl|rfl|rfl|rfl|rfl|rfl|rfl|rfl|rfl|rfl|rfl|rfl|rfl|rfl|rfl|rfl|rfl|rfl|rfl|rfl|rfl|rfl|rfl
  ·exact fun _ _ h _=>zn h
  ·exact fun _ _ h1 h2=>zz h1 h2 (rfl)
  ·exact fun _ _ h1 h2=>zz h1 h2 (rfl)
  ·exact fun _ _ h1 h2=>zz h1 h2 (rfl)
  ·exact fun _ _ h1 h2=>zz h1 h2 (rfl)
  ·exact fun _ _ h _=>zn h
  ·exact fun _ _ h _=>zn h
  ·exact fun _ _ h _=>zn h
  ·exact fun _ _ h1 h2=>zz h1 h2 (rfl)
  ·exact fun _ _ h _=>zn h
  ·exact fun _ _ h _=>zn h
  ·exact fun _ _ h _=>zn h
  ·exact fun _ _ h _=>zn h
  ·exact fun _ _ h _=>zn h
  ·exact fun _ _ h _=>zn h
  ·exact fun _ _ h _=>zn h
  ·exact fun _ _ h _=>zn h
  ·exact fun _ _ h _=>zn h
  ·exact fun _ _ h _=>zn h
  ·exact fun _ _ h _=>zn h
  ·exact fun _ _ h _=>zn h
  ·exact fun _ _ h1 h2=>zz h1 h2 (.inr ⟨rfl,rfl⟩)
  ·exact fun _ _ h1 h2=>zz h1 h2 (.inr ⟨rfl,rfl⟩)
  ·exact fun _ _ h1 h2=>zz h1 h2 (⟨_,_,_,.inr ⟨rfl,rfl⟩,.inr ⟨rfl,rfl⟩,.inr ⟨rfl,rfl⟩,rfl⟩)
  ·exact fun _ _ h1 h2=>zz h1 h2 (⟨_,_,_,.inr ⟨rfl,rfl⟩,.inr ⟨rfl,rfl⟩,.inr ⟨rfl,rfl⟩,rfl⟩)
  ·exact fun _ _ h1 h2=>zz h1 h2 (.inr ⟨rfl,rfl⟩)
  ·exact fun _ _ h _=>zn h
  ·exact fun _ _ h _=>zn h
  ·exact fun _ _ h1 h2=>zz h1 h2 (rfl)
  ·exact fun _ _ h _=>zn h
  ·exact fun _ _ h _=>zn h
  ·exact fun _ _ h _=>zn h
  ·exact fun _ _ h1 h2=>zz h1 h2 (rfl)
  ·exact fun _ _ h1 h2=>zz h1 h2 (rfl)
  ·exact fun _ _ h1 h2=>zz h1 h2 (.inr ⟨rfl,rfl⟩)
  ·exact fun _ _ h _=>zn h
  ·exact fun _ _ h _=>zn h
  ·exact fun _ _ h _=>zn h
  ·exact fun _ _ h _=>zn h
  ·exact fun _ _ h _=>zn h
  ·exact fun _ _ h _=>zn h
  ·exact fun _ _ h _=>zn h
  ·exact fun _ _ h _=>zn h
  ·exact fun _ _ h _=>zn h
  ·exact fun _ _ h _=>zn h
  ·exact fun _ _ h _=>zn h
  ·exact fun _ _ h _=>zn h
  ·exact fun _ _ h _=>zn h
  ·exact fun _ _ h _=>zn h
  ·exact fun _ _ h1 h2=>zz h1 h2 (.inr ⟨rfl,rfl⟩)
  ·exact fun _ _ h1 h2=>zz h1 h2 (⟨_,_,_,_,_,.inr ⟨rfl,rfl⟩,.inr ⟨rfl,rfl⟩,.inr ⟨rfl,rfl⟩,.inr ⟨rfl,rfl⟩,.inr ⟨rfl,rfl⟩,rfl⟩)
  ·exact fun _ _ h1 h2=>zz h1 h2 (⟨_,_,_,_,_,.inr ⟨rfl,rfl⟩,.inr ⟨rfl,rfl⟩,.inr ⟨rfl,rfl⟩,.inr ⟨rfl,rfl⟩,.inr ⟨rfl,rfl⟩,rfl⟩)
  ·exact fun _ _ h1 h2=>zz h1 h2 (.inr ⟨rfl,rfl⟩)
  ·exact fun _ _ h1 h2=>zz h1 h2 (rfl)
  ·exact fun _ _ h1 h2=>zz h1 h2 (rfl)
  ·exact fun _ _ h _=>zn h
  ·exact fun _ _ h _=>zn h
  ·exact fun _ _ h _=>zn h
  ·exact fun _ _ h _=>zn h
  ·exact fun _ _ h _=>zn h
  ·exact fun _ _ h _=>zn h
  ·exact fun _ _ h _=>zn h
  ·exact fun _ _ h _=>zn h
  ·exact fun _ _ h _=>zn h
  ·exact fun _ _ h _=>zn h
  ·exact fun _ _ h _=>zn h
  ·exact fun _ _ h _=>zn h
  ·exact fun _ _ h _=>zn h
  ·exact fun _ _ h1 h2=>zz h1 h2 (rfl)
  ·exact fun _ _ h _=>zn h
  ·exact fun _ _ h _=>zn h
  ·exact fun _ _ h _=>zn h
  ·exact fun _ _ h1 h2=>zz h1 h2 (rfl)
  ·exact fun _ _ h _=>zn h
  ·exact fun _ _ h _=>zn h
  ·exact fun _ _ h _=>zn h
  ·exact fun _ _ h _=>zn h
  ·exact fun _ _ h _=>zn h
  ·exact fun _ _ h _=>zn h
  ·exact fun _ _ h _=>zn h
  ·exact fun _ _ h1 h2=>zz h1 h2 (rfl)
  ·exact fun _ _ h1 h2=>zz h1 h2 (rfl)
  ·exact fun _ _ h _=>zn h
  ·exact fun _ _ h _=>zn h
  ·exact fun _ _ h _=>zn h
  ·exact fun _ _ h _=>zn h
  ·exact fun _ _ h _=>zn h
  ·exact fun _ _ h _=>zn h
  ·exact fun _ _ h _=>zn h
  ·exact fun _ _ h _=>zn h
  ·exact fun _ _ h1 h2=>zz h1 h2 (rfl)
  ·exact fun _ _ h _=>zn h
  ·exact fun _ _ h _=>zn h
  ·exact fun _ _ h _=>zn h
  ·exact fun _ _ h _=>zn h
  ·exact fun _ _ h _=>zn h
  ·exact fun _ _ h1 h2=>zz h1 h2 (rfl)
  ·exact fun _ _ h _=>zn h
  ·exact fun _ _ h1 h2=>zz h1 h2 (rfl)
  ·exact fun _ _ h _=>zn h
  ·exact fun _ _ h _=>zn h
  ·exact fun _ _ h _=>zn h
  ·exact fun _ _ h _=>zn h
  ·exact fun _ _ h _=>zn h
  ·exact fun _ _ h _=>zn h
  ·exact fun _ _ h _=>zn h
  ·exact fun _ _ h _=>zn h
  ·exact fun _ _ h1 h2=>zz h1 h2 (rfl)
  ·exact fun _ _ h _=>zn h
  ·exact fun _ _ h _=>zn h
  ·exact fun _ _ h _=>zn h
  ·exact fun _ _ h _=>zn h
  ·exact fun _ _ h _=>zn h
  ·exact fun _ _ h _=>zn h
  ·exact fun _ _ h _=>zn h
  ·exact fun _ _ h _=>zn h
  ·exact fun _ _ h _=>zn h
  ·exact fun _ _ h _=>zn h
  ·exact fun _ _ h _=>zn h
  ·exact fun _ _ h _=>zn h
  ·exact fun _ _ h _=>zn h
  ·exact fun _ _ h _=>zn h
  ·exact fun _ _ h _=>zn h
  ·exact fun _ _ h _=>zn h
  ·exact fun _ _ h _=>zn h
  ·exact fun _ _ h _=>zn h
  ·exact fun _ _ h _=>zn h
  ·exact fun _ _ h _=>zn h
  ·exact fun _ _ h _=>zn h
  ·exact fun _ _ h _=>zn h
  ·exact fun _ _ h _=>zn h
 exact all _ hm z za h3 h2
theorem Xe:Try.prog.underlying 3=some (.int .i64):=by kernel_rfl
def Xf(x:Int):Prop:=IntKind.min .i64≤x∧x≤IntKind.max .i64
theorem sh3{n:Nat}{l:List AV}(h:Shape Try.prog n 3 l):∃ x,Xf x∧∃ a,l=[a]∧My x a:=by
 obtain⟨m,rfl,h1⟩:=Iw Xe h
 exact⟨m,h1,_,rfl,rfl⟩
theorem Xg:Try.prog.underlying 22=some (.slice 3):=by kernel_rfl
theorem Xh:(Try.prog.underlying 3).isSome=true:=by kernel_rfl
theorem Xi:(Try.prog.underlying 3).map ed=some false:=by kernel_rfl
theorem Xj:Try.prog.underlying 3=Try.prog.underlying 3:=by kernel_rfl
def LL(x:List Int):Prop:=x.length≤maxLen∧∀ y,y∈x→Xf y
theorem QU{n:Nat}{l:List AV}(h:Shape Try.prog n 22 l):∃ x,LL x∧∃ a,l=[a]∧DY x a:=by
 obtain⟨d,hd⟩:=Option.isSome_iff_exists.1 Xh
 have o6:ed d=false:=by have:=Xi; rw[hd]at this; simpa using this
 obtain⟨ys,xs,rfl,h1,h2⟩:=wi (Q:=fun y x=>Xf y∧My y x) Xg hd h (by
  rintro k x ⟨cl,h1,h2⟩
  rw[o6]at h1
  simp only[Bool.false_eq_true,if_false]at h1
  replace h2:=jK Xj h2
  subst h1
  obtain⟨y,hy,a,ha,r⟩:=sh3 h2
  simp only[List.cons.injEq,and_true]at ha
  subst ha
  exact⟨y,hy,r⟩)
 refine⟨ys,⟨h2,?_⟩,_,rfl,.inl ⟨xs,rfl,h1.mono fun _ _ h=>h.2⟩⟩
 intro y hy
 obtain⟨i,hi⟩:=List.getElem?_of_mem hy
 obtain⟨_,_,h3⟩:=h1.get hi
 exact h3.1
theorem Xk:Try.prog.underlying 23=some (.slice 22):=by kernel_rfl
theorem Xl:(Try.prog.underlying 22).isSome=true:=by kernel_rfl
theorem Xm:(Try.prog.underlying 22).map ed=some false:=by kernel_rfl
theorem Xn:Try.prog.underlying 22=Try.prog.underlying 22:=by kernel_rfl
def TJ(x:List (List Int)):Prop:=x.length≤maxLen∧∀ y,y∈x→LL y
theorem Xo{n:Nat}{l:List AV}(h:Shape Try.prog n 23 l):∃ x,TJ x∧∃ a,l=[a]∧Ob x a:=by
 obtain⟨d,hd⟩:=Option.isSome_iff_exists.1 Xl
 have o6:ed d=false:=by have:=Xm; rw[hd]at this; simpa using this
 obtain⟨ys,xs,rfl,h1,h2⟩:=wi (Q:=fun y x=>LL y∧DY y x) Xk hd h (by
  rintro k x ⟨cl,h1,h2⟩
  rw[o6]at h1
  simp only[Bool.false_eq_true,if_false]at h1
  replace h2:=jK Xn h2
  subst h1
  obtain⟨y,hy,a,ha,r⟩:=QU h2
  simp only[List.cons.injEq,and_true]at ha
  subst ha
  exact⟨y,hy,r⟩)
 refine⟨ys,⟨h2,?_⟩,_,rfl,.inl ⟨xs,rfl,h1.mono fun _ _ h=>h.2⟩⟩
 intro y hy
 obtain⟨i,hi⟩:=List.getElem?_of_mem hy
 obtain⟨_,_,h3⟩:=h1.get hi
 exact h3.1
def Xp(x:bJ):Prop:=LL x.ay∧TJ x.af∧LL x.aC
theorem QV:Try.prog.underlying 22=Try.prog.underlying 22:=by kernel_rfl
theorem QW:Try.prog.underlying 23=Try.prog.underlying 23:=by kernel_rfl
theorem QX:Try.prog.underlying 22=Try.prog.underlying 22:=by kernel_rfl
theorem WR{n:Nat}{l:List AV}(h:Shape Try.prog n 24 l):∃ x,Xp x∧Iy x (.agg l):=by
 obtain⟨hl,k,hf⟩:=BN Qp (t:=24) rfl rfl h
 rw[oF Qp (t:=24) rfl]at hl
 have h0:=hf (0,22) (by simp)
 rw[oF Qp (t:=22) rfl]at h0
 replace h0:=jK (QV) h0
 have h1:=hf (1,23) (by simp)
 rw[oF Qp (t:=23) rfl]at h1
 replace h1:=jK (QW) h1
 have h2:=hf (2,22) (by simp)
 rw[oF Qp (t:=22) rfl]at h2
 replace h2:=jK (QX) h2
 match l,hl with
 |[a0,a1,a2],_=>
  replace h0:Shape Try.prog k 22 [a0]:=h0
  obtain⟨x0,w0,b0,e0,r0⟩:=QU h0
  simp only[List.cons.injEq,and_true]at e0
  subst e0
  have s0:=r0
  replace h1:Shape Try.prog k 23 [a1]:=h1
  obtain⟨x1,w1,b1,e1,r1⟩:=Xo h1
  simp only[List.cons.injEq,and_true]at e1
  subst e1
  have s1:=r1
  replace h2:Shape Try.prog k 22 [a2]:=h2
  obtain⟨x2,w2,b2,e2,r2⟩:=QU h2
  simp only[List.cons.injEq,and_true]at e2
  subst e2
  have s2:=r2
  exact⟨⟨x0,x1,x2⟩,⟨w0,w1,w2⟩,⟨_,_,_,s0,s1,s2,rfl⟩⟩
end Go.Proofs.Ytedjbjphpnkpoaa
end
section
/- Copies of slices in this seat: what the library's functions come to (printed by gen_lib.py). -/
namespace Go.Proofs.Ytedjbjphpnkpoaa.qd
open Go.PI
noncomputable def C0:Ctx where
 P:=Try.prog
 kind:=fun f=>if f=61 then .imp else .pure
 kn:=fun _=>none
 acc:=fun _ _=>false
instance:jB C0:=⟨rfl,rfl⟩
noncomputable def R(t:Nat):bH:=(eZ Try.prog t).getD ⟨.bool,0,0,none,false⟩
theorem IB:aP C0.P 22=some (R 3):=by kernel_rfl
theorem IC:bZ C0.P 22=true:=by kernel_rfl
theorem Xs:(cq (R 3)).isSome=true:=by kernel_rfl
theorem UD:(R 3).size=1:=by kernel_rfl
theorem ag3:(R 3).isAgg=false:=by kernel_rfl
theorem by3:(R 3).bytes=8:=by kernel_rfl
theorem Xt:C0.P.funcs[61]?=some Try.f61:=by kernel_rfl
theorem TK:bZ C0.P 23=true:=by kernel_rfl
theorem st3:bZ C0.P 3=false:=by kernel_rfl
theorem Xe:C0.P.underlying 3=some (.int .i64):=by kernel_rfl
noncomputable def wm:AV:=(cq (R 3)).getD .undef
theorem zv3:cq (R 3)=some wm:=by kernel_rfl
theorem zo3:aG (R 3).isAgg (R 3).size wm=true:=by kernel_rfl
theorem ID:kp C0 61 [.lit cK,int 0] []=some (.val (.lit cK),[]):=
 (bg (mo C0 61 [.lit cK,int 0] [])).2 ⟨100,by kernel_rfl⟩
theorem LQ(n:Nat)(hn:0<n)(h1:n*(R 3).bytes≤2^44)(h2:n≤2^44):kp C0 61 [.lit cK,int n] []=some (.val (.bp (R 3).size 0 n 0 0 none),[some (.arr true true false (List.replicate n wm))]):=by
 rw[AR (fn:=Try.f61) Xt rfl]
 have zl:∀ f d,C0.acc f d=false:=fun _ _=>rfl
 have hr:0<(R 3).size:=by rw[UD]; decide
 have hw:IntKind.i64.wrap ((n:Int)-0)=(n:Int):=by rw[IntWalk.i64_in _ (by omega)]; omega
 have TT:IntKind.i64.wrap (0-0)=(0:Int):=by decide
 have QY:¬((n:Int)<0):=by omega
 have fp:(0:Int)<(n:Int):=by omega
 have HF:Option.map (az [AV.lit cK]) none=(none:Option AV):=rfl
 simp (decide:=true) only [Try.f61,D1,zl,Oj IC,Ol IC,LO,Om,On IB,Oo IB hn,LM,LP IB st3 Xe zv3 hr zo3 hn h1 h2,hw,TT,QY,fp,bol,Option.map_none,gP,jb,pB,eQ,List.map_cons,List.map_nil,dV,ka,n6,pD,JV,lF,pE,n5,k6,xE,az,nQ,gM,gD,bC,eT,EP,A5,kM,JX,qj,Gn,Gp,dt,xh,Cn,Gs,Gt,Gr,List.getElem?_toArray,List.replicate_succ,List.replicate_zero,Nat.reduceSub,Nat.reduceAdd,Option.bind_some,Option.map_some,decide_true,decide_false,EN,List.length_nil,List.length_cons,List.nil_append,List.cons_append,Nat.zero_add,MD,ME,MF,MG,kY,qf]
theorem Ta:C0.P.funcs[40]?=some Try.f40:=by kernel_rfl
theorem Xu:eZ C0.P 22=some (R 22):=by kernel_rfl
theorem TL:(R 22).isAgg=false:=by kernel_rfl
theorem TM:(R 22).size=1:=by kernel_rfl
theorem Xv:aP C0.P 23=some (R 22):=by kernel_rfl
theorem Xw:arrayElem C0.P 23=none:=by kernel_rfl
theorem TN{nm:Nat}{ev:Operand→AV}{dst:Option Tmp}{type:TypeId}{pos:String}{after:Array Edge}{guard:Option (Nat×Bool)}{hp:ag}{x:Operand}:
  (aM C0.P nm ev ⟨dst,.load 22 x,type,pos,after,guard⟩).run hp=JY (Gv false 1 hp (ev x)):=by rw[M4 Xu,M6 TL TM]
theorem TO(x ix:AV):eM C0.P 23 x ix=(asNat ix).bind fun i=>nx false 1 i x:=by rw[J2 Xv Xw,TL,TM]
def I1(ls:List (List AV))(k:Nat)(s:St):Prop:=
 ∃ (i:Nat) (j1 j4 j5 j6 j7 j8 LR LS LU LV LW LX LY LZ L0 L1 L2 L3 L4 TP TQ Pg L5 L6 L7 L8 L9 Ma Mb Mc:AV),k=ls.length-i∧i≤ls.length∧s=⟨40,[.sl (ls.map .sl),j1,.lit cK,int ((ls.take i).flatten.length:Nat),j4,j5,j6,j7,j8,.sl (ls.map .sl),int ls.length,int i,LR,LS,LU,LV,LW,LX,LY,LZ,L0,L1,L2,L3,L4,TP,TQ,Pg,L5,L6,L7,L8,L9,Ma,Mb,Mc],[]⟩
def P1(ls:List (List AV))(o:Out):Prop:=
 ∃ (Ph j1 j4 j5 j6 j7 j8 LR LS LU LV LW LX LY LZ L0 L1 L2 L3 L4 TP TQ Pg L5 L6 L7 L8 L9 Ma Mb Mc:AV),o=.exit 0 ⟨40,[.sl (ls.map .sl),j1,.lit cK,int (ls.flatten.length:Nat),j4,j5,j6,j7,j8,.sl (ls.map .sl),int ls.length,Ph,LR,LS,LU,LV,LW,LX,LY,LZ,L0,L1,L2,L3,L4,TP,TQ,Pg,L5,L6,L7,L8,L9,Ma,Mb,Mc],[]⟩
theorem Hd{α:Type}(ls:List (List α))(i:Nat):(ls.take i).flatten.length≤ls.flatten.length:=by
 have h:ls.flatten.length=(ls.take i).flatten.length+(ls.drop i).flatten.length:=by
  rw[←List.length_append,←List.flatten_append,List.take_append_drop]
 omega
theorem AF{α:Type}(ls:List (List α))(i:Nat)(h:i<ls.length):(ls.take (i+1)).flatten=(ls.take i).flatten++ls[i]:=by
 rw[List.take_succ_eq_append_getElem h,List.flatten_append]; simp only[List.flatten_cons,List.flatten_nil,List.append_nil]
noncomputable def cur(ls:List (List AV))(i:Nat):AV:=if ls.flatten.length=0 then .lit cK else .bp (R 3).size 0 ls.flatten.length 0 (ls.take i).flatten.length none
noncomputable def sD(ls:List (List AV))(i:Nat):ag:=if ls.flatten.length=0 then [] else [some (.arr true true false ((ls.take i).flatten++List.replicate (ls.flatten.length-(ls.take i).flatten.length) wm))]
theorem Md(ls:List (List AV))(h1:ls.flatten.length*(R 3).bytes≤2^44)(h2:ls.flatten.length≤2^44):kp C0 61 [.lit (.slice none 0 0),int ls.flatten.length] []=some (.val (cur ls 0),sD ls 0):=by
 unfold cur sD
 by_cases h:ls.flatten.length=0
 ·rw[if_pos h,if_pos h,h]; exact ID
 ·rw[if_neg h,if_neg h]
  simpa using LQ _ (by omega) h1 h2
theorem IE(ls:List (List AV))(i:Nat):gH 0 (cur ls i) (sD ls i)=sD ls i:=by
 unfold cur sD gH
 by_cases h:ls.flatten.length=0
 ·rw[if_pos h,if_pos h]; simp
 ·rw[if_neg h,if_neg h]; simp[below]
theorem FX(ls:List (List AV))(i:Nat):forget (sD ls i).length (cur ls (i+1))=cur ls (i+1):=by
 apply Hz
 unfold cur sD
 by_cases h:ls.flatten.length=0
 ·rw[if_pos h,if_pos h]; rfl
 ·rw[if_neg h,if_neg h]; simp[below]
theorem IG(ls:List (List AV))(i:Nat)(f:Nat)(fr:List AV):gG (sD ls i).length ⟨f,fr,sD ls (i+1)⟩=⟨f,fr.map (forget (sD ls i).length),sD ls (i+1)⟩:=by
 have hl:(sD ls i).length=(sD ls (i+1)).length:=by
  unfold sD
  by_cases h:ls.flatten.length=0
  ·rw[if_pos h,if_pos h]
  ·rw[if_neg h,if_neg h]; rfl
 have ht:(sD ls (i+1)).take (sD ls i).length=sD ls (i+1):=by rw[hl]; exact List.take_length
 rw[Co]
 ·simp only[ht]
 ·simp only[ht]
  unfold sD
  by_cases h:ls.flatten.length=0
  ·rw[if_pos h]; rfl
  ·rw[if_neg h]; rfl
theorem BO(a ys:List AV)(k:Nat)(z:AV)(h:ys.length≤k):bu (a++List.replicate k z) a.length ys=a++ys++List.replicate (k-ys.length) z:=by
 induction ys generalizing a k with
 |nil=>simp[bu]
 |cons y ys ih=>
  obtain⟨k,rfl⟩:∃ m,k=m+1:=⟨k-1,by simp at h; omega⟩
  have:=ih (a++[y]) k (by simp at h; omega)
  simp only[bu,List.replicate_succ]
  simp only[List.length_append,List.length_cons,List.length_nil]at this
  rw[List.set_append_right _ _ (Nat.le_refl _),Nat.sub_self,List.set_cons_zero]
  simpa[List.append_assoc] using this
theorem Oq(ls:List (List AV))(i:Nat)(hi:i<ls.length)(bf:ls[i].all (aG (R 3).isAgg (R 3).size)=true):
  ∃ wr,(∀ nm,(fC C0.P nm 22 22 (cur ls i) (.sl ls[i])).run (sD ls i)=some ⟨cur ls (i+1),wr⟩)∧ai (sD ls i) wr=sD ls (i+1):=by
 have hr:0<(R 3).size:=by rw[UD]; decide
 have hf:=AF ls i hi
 have hle:=Hd ls (i+1)
 have hlen:(ls.take (i+1)).flatten.length=(ls.take i).flatten.length+ls[i].length:=by rw[hf,List.length_append]
 by_cases h:ls.flatten.length=0
 ·have he:ls[i]=[]:=List.length_eq_zero_iff.1 (by omega)
  refine⟨[],fun nm=>?_,?_⟩
  ·unfold cur sD
   rw[if_pos h,if_pos h,if_pos h,he]
   simp[fC,IB,wo,IC,fM,RM.run_bind,RM.run_pure,Xs,hr]
  ·unfold sD; rw[if_pos h,if_pos h]; rfl
 ·by_cases he:ls[i]=[]
  ·have wG:ls[i].length=0:=by rw[he]; rfl
   rw[wG]at hlen
   have hG:(ls.take (i+1)).flatten=(ls.take i).flatten:=by rw[hf,he,List.append_nil]
   refine⟨[],fun nm=>?_,?_⟩
   ·unfold cur sD
    rw[if_neg h,if_neg h,if_neg h,he,hG]
    simp[fC,IB,wo,IC,fM,RM.run_bind,RM.run_pure,Xs,hr]
   ·unfold sD; rw[if_neg h,if_neg h,hG]; rfl
  ·have dM:ls[i].isEmpty=false:=by cases hq:ls[i]<;>simp_all
   have cC:((ls.take i).flatten++List.replicate (ls.flatten.length-(ls.take i).flatten.length) wm).length=ls.flatten.length:=by
    rw[List.length_append,List.length_replicate]; omega
   refine⟨[(0,.arr true true false ((ls.take (i+1)).flatten++List.replicate (ls.flatten.length-(ls.take (i+1)).flatten.length) wm))],fun nm=>?_,?_⟩
   ·unfold cur sD
    rw[if_neg h,if_neg h,if_neg h]
    have ho:=RM.xI (hp:=[some (.arr true true false ((ls.take i).flatten++List.replicate (ls.flatten.length-(ls.take i).flatten.length) wm))]) (n:=0) rfl
    rw[cC]at ho
    have Dr:=BO (ls.take i).flatten ls[i] (ls.flatten.length-(ls.take i).flatten.length) wm (by omega)
    simp only[fC,IB,wo,IC,fM,RM.run_bind,RM.run_pure,Option.bind_some,Xs,hr,bf,decide_true,Bool.and_self,dM,ho]
    rw[if_neg (by rintro (h1|h1|h1); (exact absurd h1 (by decide)); (rw[cC]at h1; omega); (exact h1 rfl)),if_pos (by simp only[Option.getD_none]; omega),if_pos (by rw[cC]; omega)]
    simp only[RM.run_pure,Nat.zero_add,Dr,hlen,←hf]
    rw[Nat.sub_sub]
   ·unfold sD; rw[if_neg h,if_neg h]; rfl
def I2(ls:List (List AV))(k:Nat)(s:St):Prop:=
 ∃ (i:Nat) (j1 j4 j5 j7 j8 j9 TR Ph LR LS LU LV LW LX LY LZ L0 L1 L2 L3 L4 L5 L6 L7 L8 L9 Ma Mb Mc:AV),k=ls.length-i∧i≤ls.length∧s=⟨40,[.sl (ls.map .sl),j1,.lit cK,int (ls.flatten.length:Nat),j4,j5,cur ls i,j7,j8,j9,TR,Ph,LR,LS,LU,LV,LW,LX,LY,LZ,L0,L1,L2,L3,L4,.sl (ls.map .sl),int ls.length,int i,L5,L6,L7,L8,L9,Ma,Mb,Mc],sD ls i⟩
def P2(ls:List (List AV))(o:Out):Prop:=
 ∃ (Pg j1 j4 j5 j7 j8 j9 TR Ph LR LS LU LV LW LX LY LZ L0 L1 L2 L3 L4 L5 L6 L7 L8 L9 Ma Mb Mc:AV),o=.exit 2 ⟨40,[.sl (ls.map .sl),j1,.lit cK,int (ls.flatten.length:Nat),j4,j5,cur ls ls.length,j7,j8,j9,TR,Ph,LR,LS,LU,LV,LW,LX,LY,LZ,L0,L1,L2,L3,L4,.sl (ls.map .sl),int ls.length,Pg,L5,L6,L7,L8,L9,Ma,Mb,Mc],sD ls ls.length⟩
theorem FN(ls:List (List AV))(hn:ls.length≤2^44)(bf:∀ l∈ls,l.all (aG (R 3).isAgg (R 3).size)=true)(SQ:ls.flatten.length*(R 3).bytes≤2^44)(hT:ls.flatten.length≤2^44):∃ res gZ,kp C0 40 [.sl (ls.map .sl)] []=some (.val res,gZ)∧(aX 1000 res).run gZ=some (.sl ls.flatten):=by
 have key:kp C0 40 [.sl (ls.map .sl)] []=some (.val (cur ls ls.length),sD ls ls.length):=by
  rw[AR (fn:=Try.f40) Ta rfl]
  have zl:∀ f d,C0.acc f d=false:=fun _ _=>rfl
  have hr:0<(R 3).size:=by rw[UD]; decide
  simp (decide:=true) only [Try.f40,D1,zl,ER TK,List.length_map,gP,jb,pB,eQ,List.map_cons,List.map_nil,dV,ka,n6,lF,JW,n5,k6,az,nQ,gM,gD,bC,eT,kM,dt,List.getElem?_toArray,List.replicate_succ,List.replicate_zero,Nat.reduceSub,Option.bind_some,List.length_nil,List.length_cons,List.nil_append,List.cons_append,Nat.zero_add,MD,ME,MF,MG,lB,Option.bind_assoc,A6]
  refine zU (I1 ls) (P1 ls) ls.length ?_ ?_ ?_
  ·exact⟨0,_,_,_,_,_,_,_,_,_,_,_,_,_,_,_,_,_,_,_,_,_,_,_,_,_,_,_,_,_,_,rfl,Nat.zero_le _,rfl⟩
  ·rintro k s ⟨i,j1,j4,j5,j6,j7,j8,LR,LS,LU,LV,LW,LX,LY,LZ,L0,L1,L2,L3,L4,TP,TQ,Pg,L5,L6,L7,L8,L9,Ma,Mb,Mc,hk,hi,rfl⟩
   have Me:IntKind.i64.wrap ((i:Int)+1)=((i+1:Nat):Int):=by
    rw[IntWalk.i64_in _ (by omega)]; omega
   by_cases cd:i<ls.length
   ·have lC:(ls.map AV.sl)[i]?=some (.sl ls[i]):=by simp[cd]
    have bN:aG false 1 (.sl ls[i])=true:=by simp[aG,ba]
    have hp0:eE false 1 (.sl ls[i]) 0=some (.sl ls[i]):=by simp[eE,ba]
    have xL:((i:Int)<(ls.length:Int)):=by omega
    have hf:=AF ls i cd
    have hle:=Hd ls (i+1)
    have hlen:(ls.take (i+1)).flatten.length=(ls.take i).flatten.length+ls[i].length:=by rw[hf,List.length_append]
    have kF:IntKind.i64.wrap (((ls.take i).flatten.length:Int)+(ls[i].length:Int))=(((ls.take (i+1)).flatten.length:Nat):Int):=by
     rw[IntWalk.i64_in _ (by omega)]; omega
    have QY:¬(((ls.take (i+1)).flatten.length:Int)<0):=by omega
    left
    refine⟨_,by simp (decide:=true) only [lC,bN,xL,Me,kF,QY,TN,TO,ER IC,bol,gP,jb,pB,eQ,List.map_cons,List.map_nil,dV,ka,n6,Gq,pD,tc,lF,pE,n5,k6,xE,az,nQ,gM,gD,bC,eT,EP,A5,kM,qj,A3,dt,List.getElem?_toArray,Option.bind_some,Option.map_some,decide_true,decide_false,List.length_nil,ba,JY,eE,if_true,MD,ME,MF,MG,lB,kY,vC,td,rJ,nx,Gv,qf,A6]; rfl,ls.length-(i+1),by omega,?_⟩
    rw[Co (by simp)]
    exact⟨i+1,_,_,_,_,_,_,_,_,_,_,_,_,_,_,_,_,_,_,_,_,_,_,_,_,_,_,_,_,_,_,rfl,by omega,rfl⟩
   ·have xL:¬((i:Int)<(ls.length:Int)):=by omega
    have QG:i=ls.length:=by omega
    right
    refine⟨_,by simp (decide:=true) only [xL,bol,gP,jb,pB,eQ,List.map_cons,List.map_nil,dV,ka,pD,xE,az,gD,bC,eT,A5,kM,qj,dt,te,List.getElem?_toArray,Option.bind_some,Option.map_some,decide_false,List.length_nil,MD,ME,MF,MG,kY,uh]; rfl,by simp,?_⟩
    have:ls.take i=ls:=by rw[QG]; exact List.take_length
    rw[this]
    exact⟨_,_,_,_,_,_,_,_,_,_,_,_,_,_,_,_,_,_,_,_,_,_,_,_,_,_,_,_,_,_,_,rfl⟩
  ·rintro o ⟨Ph,j1,j4,j5,j6,j7,j8,LR,LS,LU,LV,LW,LX,LY,LZ,L0,L1,L2,L3,L4,TP,TQ,Pg,L5,L6,L7,L8,L9,Ma,Mb,Mc,rfl⟩
   simp (decide:=true) only [gP,jb,pB,eQ,List.map_cons,List.map_nil,dV,n6,n5,az,nQ,gM,gD,bC,eT,kM,dt,List.getElem?_toArray,Option.bind_some,List.length_nil,nt,EO,MD,ME,MF,MG,zV,Option.bind_assoc]
   have Xx:C0.kind 61=.imp:=rfl
   have TS:∀ a t,au (Op.call ⟨.value (.func 61),a,t⟩)=false:=fun _ _=>rfl
   simp only[nV,rf,TS,Xx]
   rw[Md ls SQ hT]
   simp only[Option.bind_some,Ge,List.length_nil,IE]
   simp (decide:=true) only [ER TK,List.length_map,gP,jb,pB,eQ,List.map_cons,List.map_nil,dV,ka,n6,lF,pE,n5,k6,az,nQ,gM,gD,bC,eT,kM,dt,List.getElem?_toArray,Option.bind_some,MD,ME,MF,MG,lB,Option.bind_assoc,A6]
   refine zU (I2 ls) (P2 ls) ls.length ?_ ?_ ?_
   ·exact⟨0,_,_,_,_,_,_,_,_,_,_,_,_,_,_,_,_,_,_,_,_,_,_,_,_,_,_,_,_,_,rfl,Nat.zero_le _,rfl⟩
   ·rintro k s ⟨i,j1,j4,j5,j7,j8,j9,TR,Ph,LR,LS,LU,LV,LW,LX,LY,LZ,L0,L1,L2,L3,L4,L5,L6,L7,L8,L9,Ma,Mb,Mc,hk,hi,rfl⟩
    have Me:IntKind.i64.wrap ((i:Int)+1)=((i+1:Nat):Int):=by
     rw[IntWalk.i64_in _ (by omega)]; omega
    by_cases cd:i<ls.length
    ·have lC:(ls.map AV.sl)[i]?=some (.sl ls[i]):=by simp[cd]
     have bN:aG false 1 (.sl ls[i])=true:=by simp[aG,ba]
     have hp0:eE false 1 (.sl ls[i]) 0=some (.sl ls[i]):=by simp[eE,ba]
     have xL:((i:Int)<(ls.length:Int)):=by omega
     obtain⟨wr,U5,Eb⟩:=Oq ls i cd (bf _ (List.getElem_mem cd))
     left
     refine⟨_,by simp (decide:=true) only [lC,bN,xL,Me,LM,U5,Eb,TN,TO,bol,gP,jb,pB,eQ,List.map_cons,List.map_nil,dV,ka,n6,Gq,pD,tc,lF,pE,n5,k6,xE,az,nQ,gM,gD,bC,eT,EP,kM,qj,A3,dt,List.getElem?_toArray,Option.bind_some,Option.map_some,decide_true,ba,JY,eE,if_true,MD,ME,MF,MG,lB,kY,vC,td,rJ,nx,Gv,qf]; rfl,ls.length-(i+1),by omega,?_⟩
     rw[IG]
     simp only[List.map_cons,List.map_nil,FX]
     exact⟨i+1,_,_,_,_,_,_,_,_,_,_,_,_,_,_,_,_,_,_,_,_,_,_,_,_,_,_,_,_,_,rfl,by omega,rfl⟩
    ·have xL:¬((i:Int)<(ls.length:Int)):=by omega
     have QG:i=ls.length:=by omega
     right
     refine⟨_,by simp (decide:=true) only [xL,bol,gP,jb,pB,eQ,List.map_cons,List.map_nil,dV,ka,pD,xE,az,gD,bC,eT,A5,kM,qj,dt,te,List.getElem?_toArray,Option.bind_some,Option.map_some,decide_false,MD,ME,MF,MG,kY,uh]; rfl,by simp,?_⟩
     subst QG
     exact⟨_,_,_,_,_,_,_,_,_,_,_,_,_,_,_,_,_,_,_,_,_,_,_,_,_,_,_,_,_,_,rfl⟩
   ·rintro o ⟨Pg,j1,j4,j5,j7,j8,j9,TR,Ph,LR,LS,LU,LV,LW,LX,LY,LZ,L0,L1,L2,L3,L4,L5,L6,L7,L8,L9,Ma,Mb,Mc,rfl⟩
    simp (decide:=true) only [gP,jb,pB,eQ,List.map_cons,List.map_nil,dV,ka,n6,pE,n5,k6,az,gD,bC,eT,kM,dt,xh,Cn,Gs,Gt,Gr,List.getElem?_toArray,Option.bind_some,Option.map_some,MD,ME,MF,MG,zV]
 refine⟨_,_,key,?_⟩
 unfold cur sD
 by_cases h:ls.flatten.length=0
 ·rw[if_pos h,if_pos h,List.length_eq_zero_iff.1 h]; rfl
 ·rw[if_neg h,if_neg h]
  simp only[List.take_length,Nat.sub_self,List.replicate_zero,List.append_nil]
  exact FV (RM.xI rfl)
end Go.Proofs.Ytedjbjphpnkpoaa.qd
end
section
/- The context of this seat, contracts of library functions, the greatest common divisor. -/
set_option maxRecDepth 100000
set_option maxHeartbeats 0
namespace Go.Proofs.Ytedjbjphpnkpoaa
open Go.PI
def DQ:bH:=⟨.bool,1,8,none,false⟩
noncomputable def C:Ctx where
 P:=Try.prog
 kind:=fun f=>match Go.PI.cr [(24,()),(25,()),(26,()),(30,()),(37,()),(45,()),(47,()),(49,()),(56,()),(63,()),(64,()),(65,()),(66,()),(67,()),(68,()),(69,()),(70,()),(73,()),(74,()),(75,()),(77,()),(84,()),(85,()),(87,()),(89,()),(90,()),(91,()),(92,()),(93,()),(94,()),(97,()),(98,()),(111,()),(112,()),(113,()),(119,()),(120,()),(123,())] f with|some _=>.imp|none=>.pure
 kn:=fun g=>Go.PI.cr [(40,mD DQ)] g
 acc:=fun _ _=>true
 qP:=fun f d=>(Go.PI.GN [(6,38,[(0,1),(2,1)]),(8,6,[(0,1),(1,1),(2,1)])] f d).getD []
theorem Ly : ∀ (f : FuncId) (fn : Func), Try.prog.funcs[f]? = some fn → fn.body.isSome = true → (fn.name == "runtime.NumGoroutine") = false := by
 have h : (Try.prog.funcs.toList.all fun fn => !(fn.name == "runtime.NumGoroutine") || !fn.body.isSome) = true := by kernel_rfl
 intro f fn hf hb
 have hm:fn∈Try.prog.funcs.toList:=by
  have:=Array.mem_of_getElem? hf
  exact Array.mem_toList_iff.2 this
 have:=List.all_eq_true.1 h fn hm
 rw[hb]at this
 simpa using this
theorem N6:qd.C0.Ok where
 name:=Ly
 kn:=fun g h al r hg=>by simp[qd.C0]at hg
 qY:=fun g h al hp e h1=>by cases h1
 EW:=fun g h hg=>by simp[qd.C0]at hg
 iU:=fun g h al r gZ hg=>by simp[qd.C0]at hg
 Ba:=fun g h hg=>by simp[qd.C0]at hg
theorem Lz{g:FuncId}{h:List AV→Option AV}(hg:C.kn g=some h):g=40∧h=mD DQ:=by
 have:=gA (show Go.PI.cr [(40,mD DQ)] g=some h from hg)
 simp only[List.mem_singleton,Prod.mk.injEq]at this
 exact this
theorem Cok:C.Ok where
 name:=Ly
 kn:=by
  intro g h al r hg hr Ec w vs hI ha
  obtain⟨rfl,rfl⟩:=Lz hg
  exact It (r:=DQ) N6 (fun ls h0 h1 h2 h3=>qd.FN ls h0 (by rw[qd.ag3,qd.UD]; exact h1) (by rw[qd.by3]; exact h2) h3) hr Ec w vs hI ha
 EW:=by
  intro g h hg
  obtain⟨rfl,rfl⟩:=Lz hg
  exact⟨_,qd.Ta,rfl⟩
 qY:=fun g h al hp e h1=>by cases h1
 iU:=fun g h al r gZ hg=>by cases hg
 Ba:=fun g h hg=>by cases hg
theorem ok3(x:Int)(a:AV)(h:My x a):aG DQ.isAgg DQ.size a=true:=(yM (eI h)).1
def _root_.Go.aa.gU(s:List (List Int)):Option (List Int):=tv 8 s
theorem Qq:p6 C T 40 ⟨[23],[22],fun x=>Go.aa.gU x⟩:=
 FO (C:=C) (T:=T) (g:=40) (t:=23) (u:=22) (I:=mD DQ) (F:=Go.aa.gU) rfl rfl fun x a y h hy=>by
  obtain⟨l,h1,h2⟩:=FP (r:=DQ) (rpe:=My) (x:=x) (y:=y) ok3 h hy
  exact⟨l,h1,.inl ⟨l,rfl,h2⟩⟩
def _root_.Go.aa.il:Option Bool:=some true
def kc:List (Nat×vV T):=[]
theorem sf:∀ (g:FuncId) (σ:vV T),cr kc g=some σ→G3 C T g σ:=fun g σ h=>by simp[kc,cr]at h
def tB:FuncId→Nat→Bool:=fun _ _=>false
def SL:FuncId→Tmp→List Tw:=fun _ _=>[]
def _root_.Go.aa.Fj:Nat→Int→Int→Option Int
 |0,_,_=>none
 |n+1,a,b=>bif b==0 then some a else bif decide (b=0) then none else (Go.aa.Fj n b (a.tmod b)).bind fun i=>some i
noncomputable def gS(n:Nat):od:=GX C T Bz (fun _ _=>none) (fun _ _=>false) [(82,⟨[3,3],[3],fun x=>Go.aa.Fj n x.1 x.2⟩)] 1 kc tB SL
theorem LA:∀ n,p6 C T 82 ⟨[3,3],[3],fun x=>Go.aa.Fj n x.1 x.2⟩
 |0=>⟨rfl,fun x al y _ h=>by cases h⟩
 |n+1=>by
  have h0:(GX C T Bz (fun _ _=>none) (fun _ _=>false) [(82,⟨[3,3],[3],fun x=>Go.aa.Fj n x.1 x.2⟩)] 0 kc tB SL).Ok:=Dg Yg Qp Yh sf
  have h1:(gS n).Ok:=tH h0 rfl (LA n)
  exact DS (S:=gS n) (k:=400) (σ:=⟨[3,3],[3],fun x=>Go.aa.Fj (n+1) x.1 x.2⟩) h1 rfl rfl fun x=>by kernel_rfl
def _root_.Go.aa.jR(a b:Int):Option Int:=Go.aa.Fj 200 a b
theorem Qr:p6 C T 82 ⟨[3,3],[3],fun x=>Go.aa.jR x.1 x.2⟩:=LA 200
end Go.Proofs.Ytedjbjphpnkpoaa
end
section
/- Models of the functions of this seat, and that they hold (printed by chain.py). -/
set_option maxRecDepth 100000
set_option maxHeartbeats 0
namespace Go.Proofs.Ytedjbjphpnkpoaa
open Go.PI
end Go.Proofs.Ytedjbjphpnkpoaa
open Go Go.PI Go.Proofs Go.Proofs.Ytedjbjphpnkpoaa
noncomputable def Go.aa.nH(n:Int)(low:Int)(high:Int):Option Bool:=
 bif decide (low≤n) then
 some (decide (n≤high))
 else
 some false
noncomputable def Go.aa.jS(l:List Int)(K1:Int):Option Bool:=
 (aO (ω:=Bool ⊕ Bool×Int) (fun ((b1,i2):Bool×Int)=>
 bif decide (i2<(↑l.length:Int)) then
 bif decide (0≤i2) then
 (l[i2.toNat]?).bind fun i3=>
 (aa.nH i3 0 (IntKind.i64.wrap (K1-1))).bind fun b4=>
 bif !b4 then
 some (Sum.inr (Sum.inl false))
 else
 bif decide (0<i2) then
 bif decide (0≤IntKind.i64.wrap (i2-1)) then
 (l[(IntKind.i64.wrap (i2-1)).toNat]?).bind fun i5=>
 bif decide (i3≤i5) then
 some (Sum.inr (Sum.inl false))
 else
 some (Sum.inl (b1,IntKind.i64.wrap (i2+1)))
 else
 none
 else
 some (Sum.inl (b1,IntKind.i64.wrap (i2+1)))
 else
 none
 else
 some (Sum.inr (Sum.inr (b1,i2)))) (false,0)).bind fun w6=>
 Sum.elim (fun b7=>
 some b7) (fun (b8,i9)=>
 (aa.nH (↑l.length:Int) 1 6).bind fun Rb=>
 some Rb) w6
noncomputable def Go.aa.gn(n:bJ):Option Bool:=
 bif decide (8<(↑n.ay.length:Int)) then
 some false
 else
 bif decide (8<(↑n.af.length:Int)) then
 some false
 else
 bif !(↑n.aC.length:Int)==(↑n.af.length:Int) then
 some false
 else
 (aa.gU [n.ay,n.aC]).bind fun l1=>
 (aO (ω:=Bool ⊕ Bool×Int) (fun ((b2,i3):Bool×Int)=>
 bif decide (i3<(↑l1.length:Int)) then
 bif decide (0≤i3) then
 (l1[i3.toNat]?).bind fun i4=>
 (aa.nH i4 0 1000).bind fun b5=>
 bif !b5 then
 some (Sum.inr (Sum.inl false))
 else
 some (Sum.inl (b2,IntKind.i64.wrap (i3+1)))
 else
 none
 else
 some (Sum.inr (Sum.inr (b2,i3)))) (false,0)).bind fun w6=>
 Sum.elim (fun b7=>
 some b7) (fun (b8,i9)=>
 (aO (ω:=Bool ⊕ Bool×Int) (fun ((Rb,i11):Bool×Int)=>
 bif decide (i11<(↑n.af.length:Int)) then
 bif decide (0≤i11) then
 (n.af[i11.toNat]?).bind fun SE=>
 (aa.jS SE (↑n.ay.length:Int)).bind fun OV=>
 bif !OV then
 some (Sum.inr (Sum.inl false))
 else
 some (Sum.inl (Rb,IntKind.i64.wrap (i11+1)))
 else
 none
 else
 some (Sum.inr (Sum.inr (Rb,i11)))) (b8,0)).bind fun ZN=>
 Sum.elim (fun Up=>
 some Up) (fun (VR,i17)=>
 some true) ZN) w6
noncomputable def Go.aa.oa(s:List Bool)(v:Bool):Option Int:=
 (aO (ω:=Int ⊕ Int×Int) (fun ((i1,i2):Int×Int)=>
 bif decide (i2<(↑s.length:Int)) then
 bif decide (0≤i2) then
 (s[i2.toNat]?).bind fun b3=>
 bif v==b3 then
 some (Sum.inr (Sum.inl i2))
 else
 some (Sum.inl (i1,IntKind.i64.wrap (i2+1)))
 else
 none
 else
 some (Sum.inr (Sum.inr (i1,i2)))) (0,0)).bind fun w4=>
 Sum.elim (fun i5=>
 some i5) (fun (i6,i7)=>
 some (-1)) w4
noncomputable def Go.aa.fc(s:List Bool)(v:Bool):Option Bool:=
 (aa.oa s v).bind fun i1=>
 some (decide (0≤i1))
noncomputable def Go.aa.bO(f:ak):Option Bool:=
 bif decide ((if f.du<IntKind.i64.wrap (0-f.du) then IntKind.i64.wrap (0-f.du) else f.du)≤1000000000) then
 bif decide (1≤f.Den) then
 some (decide (f.Den≤1000000000))
 else
 some false
 else
 some false
noncomputable def Go.aa.cS(f:ak):Option ak:=
 (aa.jR (if f.du<IntKind.i64.wrap (0-f.du) then IntKind.i64.wrap (0-f.du) else f.du) (if f.Den<IntKind.i64.wrap (0-f.Den) then IntKind.i64.wrap (0-f.Den) else f.Den)).bind fun i1=>
 bif decide (f.Den<0) then
 bif decide (IntKind.i64.wrap (0-i1)=0) then
 none
 else
 bif decide (IntKind.i64.wrap (0-i1)=0) then
 none
 else
 some (ak.mk (IntKind.i64.wrap (f.du.tdiv (IntKind.i64.wrap (0-i1)))) (IntKind.i64.wrap (f.Den.tdiv (IntKind.i64.wrap (0-i1)))))
 else
 bif decide (i1=0) then
 none
 else
 bif decide (i1=0) then
 none
 else
 some (ak.mk (IntKind.i64.wrap (f.du.tdiv i1)) (IntKind.i64.wrap (f.Den.tdiv i1)))
noncomputable def Go.aa.cM(a:ak):Option Bool:=
 bif decide (-1000000000≤a.du) then
 (aa.bO a).bind fun b1=>
 bif b1 then
 (aa.cS a).bind fun q2=>
 some (q2.du==a.du&&q2.Den==a.Den)
 else
 some false
 else
 some false
noncomputable def Go.aa.qv(x:Int):Option Bool:=
 some (!x==x)
noncomputable def Go.aa.pO(x:Int)(y:Int):Option Int:=
 (aa.qv x).bind fun b1=>
 (aa.qv y).bind fun b2=>
 bif b1 then
 bif b2 then
 some 0
 else
 some (-1)
 else
 bif b2 then
 some 1
 else
 bif decide (x<y) then
 some (-1)
 else
 bif decide (y<x) then
 some 1
 else
 some 0
noncomputable def Go.aa.qu(a:ak)(b:ak):Option (Int×Int):=
 (aa.cM a).bind fun b1=>
 bif !b1 then
 some (0,1)
 else
 (aa.cM b).bind fun b2=>
 bif !b2 then
 some (0,1)
 else
 (aa.pO (IntKind.i64.wrap (a.du*b.Den)) (IntKind.i64.wrap (b.du*a.Den))).bind fun i3=>
 some (i3,0)
noncomputable def Go.aa.fR(a:ak)(b:ak):Option Bool:=
 (aa.qu a b).bind fun (i1,i2)=>
 some (decide (i1<0))
noncomputable def Go.aa.n9(l:List Int)(K1:Int):Option Bool:=
 (aO (ω:=Bool ⊕ Bool×Int) (fun ((b1,i2):Bool×Int)=>
 bif decide (i2<(↑l.length:Int)) then
 bif decide (0≤i2) then
 (l[i2.toNat]?).bind fun i3=>
 bif decide (i3<0) then
 some (Sum.inr (Sum.inl false))
 else
 bif decide (0≤i2) then
 (l[i2.toNat]?).bind fun i4=>
 bif decide (K1≤i4) then
 some (Sum.inr (Sum.inl false))
 else
 bif decide (0<i2) then
 bif decide (0≤i2) then
 (l[i2.toNat]?).bind fun i5=>
 bif decide (0≤IntKind.i64.wrap (i2-1)) then
 (l[(IntKind.i64.wrap (i2-1)).toNat]?).bind fun i6=>
 bif decide (i5≤i6) then
 some (Sum.inr (Sum.inl false))
 else
 some (Sum.inl (b1,IntKind.i64.wrap (i2+1)))
 else
 none
 else
 none
 else
 some (Sum.inl (b1,IntKind.i64.wrap (i2+1)))
 else
 none
 else
 none
 else
 some (Sum.inr (Sum.inr (b1,i2)))) (false,0)).bind fun w7=>
 Sum.elim (fun b8=>
 some b8) (fun (b9,i10)=>
 bif decide (1≤(↑l.length:Int)) then
 some (decide ((↑l.length:Int)≤6))
 else
 some false) w7
noncomputable def Go.aa.cN(n:bJ):Option Bool:=
 bif decide (8<(↑n.ay.length:Int)) then
 some false
 else
 bif decide (8<(↑n.af.length:Int)) then
 some false
 else
 bif !(↑n.aC.length:Int)==(↑n.af.length:Int) then
 some false
 else
 (aO (ω:=Bool ⊕ Bool×Int) (fun ((b1,i2):Bool×Int)=>
 bif decide (i2<(↑n.ay.length:Int)) then
 bif decide (0≤i2) then
 (n.ay[i2.toNat]?).bind fun i3=>
 bif decide (i3<0) then
 some (Sum.inr (Sum.inl false))
 else
 bif decide (0≤i2) then
 (n.ay[i2.toNat]?).bind fun i4=>
 bif decide (1000<i4) then
 some (Sum.inr (Sum.inl false))
 else
 some (Sum.inl (b1,IntKind.i64.wrap (i2+1)))
 else
 none
 else
 none
 else
 some (Sum.inr (Sum.inr (b1,i2)))) (false,0)).bind fun w5=>
 Sum.elim (fun b6=>
 some b6) (fun (b7,i8)=>
 (aO (ω:=Bool ⊕ Bool×Int) (fun ((b9,i10):Bool×Int)=>
 bif decide (i10<(↑n.af.length:Int)) then
 bif decide (0≤i10) then
 (n.af[i10.toNat]?).bind fun Ae=>
 (aa.n9 Ae (↑n.ay.length:Int)).bind fun Ef=>
 bif !Ef then
 some (Sum.inr (Sum.inl false))
 else
 bif decide (0≤i10) then
 (n.aC[i10.toNat]?).bind fun i13=>
 bif decide (i13<0) then
 some (Sum.inr (Sum.inl false))
 else
 bif decide (0≤i10) then
 (n.aC[i10.toNat]?).bind fun i14=>
 bif decide (1000<i14) then
 some (Sum.inr (Sum.inl false))
 else
 some (Sum.inl (b9,IntKind.i64.wrap (i10+1)))
 else
 none
 else
 none
 else
 none
 else
 some (Sum.inr (Sum.inr (b9,i10)))) (b7,0)).bind fun ZO=>
 Sum.elim (fun VR=>
 some VR) (fun (b17,i18)=>
 some true) ZO) w5
noncomputable def Go.aa.pT(l:List Int)(link:Int):Option Bool:=
 (aO (ω:=Bool ⊕ Bool×Int) (fun ((b1,i2):Bool×Int)=>
 bif decide (i2<(↑l.length:Int)) then
 bif decide (0≤i2) then
 (l[i2.toNat]?).bind fun i3=>
 bif i3==link then
 some (Sum.inr (Sum.inl true))
 else
 some (Sum.inl (b1,IntKind.i64.wrap (i2+1)))
 else
 none
 else
 some (Sum.inr (Sum.inr (b1,i2)))) (false,0)).bind fun w4=>
 Sum.elim (fun b5=>
 some b5) (fun (b6,i7)=>
 some false) w4
noncomputable def Go.aa.oi(num:Int)(mU:Int):Option Bool:=
 bif decide (-1000000000≤num) then
 bif decide (num≤1000000000) then
 bif decide (1≤mU) then
 some (decide (mU≤1000000000))
 else
 some false
 else
 some false
 else
 some false
noncomputable def Go.aa.qD(n:Int):Option Int:=
 some (if n<IntKind.i64.wrap (0-n) then IntKind.i64.wrap (0-n) else n)
noncomputable def Go.aa.jW(a:Int)(b:Int):Option Int:=
 (aO (ω:=Int×Int) (fun ((i1,i2):Int×Int)=>
 bif !i2==0 then
 bif decide (i2=0) then
 none
 else
 some (Sum.inl (i2,i1.tmod i2))
 else
 some (Sum.inr (i1,i2))) (a,b)).bind fun (i3,i4)=>
 some i3
noncomputable def Go.aa.dA(a:ak):Option Bool:=
 (aa.oi a.du a.Den).bind fun b1=>
 bif b1 then
 (aa.qD a.du).bind fun i2=>
 (aa.jW i2 a.Den).bind fun i3=>
 some (i3==1)
 else
 some false
noncomputable def Go.aa.jX(num:Int)(mU:Int):Option (ak×Int):=
 bif decide (mU<0) then
 (aa.qD (IntKind.i64.wrap (0-num))).bind fun i1=>
 (aa.jW i1 (IntKind.i64.wrap (0-mU))).bind fun i2=>
 bif decide (i2=0) then
 none
 else
 bif decide (i2=0) then
 none
 else
 (aa.oi (IntKind.i64.wrap ((IntKind.i64.wrap (0-num)).tdiv i2)) (IntKind.i64.wrap ((IntKind.i64.wrap (0-mU)).tdiv i2))).bind fun b3=>
 bif !b3 then
 some (ak.mk 0 0,3)
 else
 bif decide (i2=0) then
 none
 else
 bif decide (i2=0) then
 none
 else
 some (ak.mk (IntKind.i64.wrap ((IntKind.i64.wrap (0-num)).tdiv i2)) (IntKind.i64.wrap ((IntKind.i64.wrap (0-mU)).tdiv i2)),0)
 else
 (aa.qD num).bind fun i4=>
 (aa.jW i4 mU).bind fun i5=>
 bif decide (i5=0) then
 none
 else
 bif decide (i5=0) then
 none
 else
 (aa.oi (IntKind.i64.wrap (num.tdiv i5)) (IntKind.i64.wrap (mU.tdiv i5))).bind fun b6=>
 bif !b6 then
 some (ak.mk 0 0,3)
 else
 bif decide (i5=0) then
 none
 else
 bif decide (i5=0) then
 none
 else
 some (ak.mk (IntKind.i64.wrap (num.tdiv i5)) (IntKind.i64.wrap (mU.tdiv i5)),0)
noncomputable def Go.aa.Af(a:ak)(b:ak):Option (ak×Int):=
 (aa.dA a).bind fun b1=>
 bif !b1 then
 some (ak.mk 0 0,1)
 else
 (aa.dA b).bind fun b2=>
 bif !b2 then
 some (ak.mk 0 0,1)
 else
 (aa.jX (IntKind.i64.wrap (IntKind.i64.wrap (a.du*b.Den)-IntKind.i64.wrap (b.du*a.Den))) (IntKind.i64.wrap (a.Den*b.Den))).bind fun (q3,i4)=>
 some (q3,i4)
noncomputable def Go.aa.Ag(a:ak)(b:ak):Option (ak×Int):=
 (aa.dA a).bind fun b1=>
 bif !b1 then
 some (ak.mk 0 0,1)
 else
 (aa.dA b).bind fun b2=>
 bif !b2 then
 some (ak.mk 0 0,1)
 else
 bif b.du==0 then
 some (ak.mk 0 0,14)
 else
 (aa.jX (IntKind.i64.wrap (a.du*b.Den)) (IntKind.i64.wrap (a.Den*b.du))).bind fun (q3,i4)=>
 some (q3,i4)
noncomputable def Go.aa.vX(n:bJ)(fixed:List Bool)(x:List ak)(link:Int):Option (ak×Int):=
 bif decide (0≤link) then
 (n.ay[link.toNat]?).bind fun i1=>
 (aO (ω:=Int×Int×Int×Int) (fun ((i2,i3,i4,i5):Int×Int×Int×Int)=>
 bif decide (i3<(↑n.af.length:Int)) then
 bif decide (0≤i3) then
 (n.af[i3.toNat]?).bind fun l6=>
 (aa.pT l6 link).bind fun b7=>
 bif b7 then
 bif decide (0≤i3) then
 (fixed[i3.toNat]?).bind fun b8=>
 bif b8 then
 bif decide (0≤i3) then
 (x[i3.toNat]?).bind fun q9=>
 (aa.Af (ak.mk i4 i5) q9).bind fun (CX,i11)=>
 bif b7 then
 bif decide (0≤i3) then
 (fixed[i3.toNat]?).bind fun Ef=>
 bif !Ef then
 some (Sum.inl (IntKind.i64.wrap (i2+1),IntKind.i64.wrap (i3+1),CX.du,CX.Den))
 else
 some (Sum.inl (i2,IntKind.i64.wrap (i3+1),CX.du,CX.Den))
 else
 none
 else
 some (Sum.inl (i2,IntKind.i64.wrap (i3+1),CX.du,CX.Den))
 else
 none
 else
 bif b7 then
 bif decide (0≤i3) then
 (fixed[i3.toNat]?).bind fun OV=>
 bif !OV then
 some (Sum.inl (IntKind.i64.wrap (i2+1),IntKind.i64.wrap (i3+1),i4,i5))
 else
 some (Sum.inl (i2,IntKind.i64.wrap (i3+1),i4,i5))
 else
 none
 else
 some (Sum.inl (i2,IntKind.i64.wrap (i3+1),i4,i5))
 else
 none
 else
 bif b7 then
 bif decide (0≤i3) then
 (fixed[i3.toNat]?).bind fun VS=>
 bif !VS then
 some (Sum.inl (IntKind.i64.wrap (i2+1),IntKind.i64.wrap (i3+1),i4,i5))
 else
 some (Sum.inl (i2,IntKind.i64.wrap (i3+1),i4,i5))
 else
 none
 else
 some (Sum.inl (i2,IntKind.i64.wrap (i3+1),i4,i5))
 else
 none
 else
 some (Sum.inr (i2,i3,i4,i5))) (0,0,i1,1)).bind fun (i15,i16,i17,i18)=>
 bif i15==0 then
 some (ak.mk i17 i18,0)
 else
 (aa.Ag (ak.mk i17 i18) (ak.mk i15 1)).bind fun (VU,i20)=>
 some (VU,i15)
 else
 none
noncomputable def Go.aa.iH(a:ak)(b:ak):Option (Int×Int):=
 (aa.dA a).bind fun b1=>
 bif !b1 then
 some (0,1)
 else
 (aa.dA b).bind fun b2=>
 bif !b2 then
 some (0,1)
 else
 bif decide (IntKind.i64.wrap (a.du*b.Den)<IntKind.i64.wrap (b.du*a.Den)) then
 some (-1,0)
 else
 bif decide (IntKind.i64.wrap (b.du*a.Den)<IntKind.i64.wrap (a.du*b.Den)) then
 some (1,0)
 else
 some (0,0)
noncomputable def Go.aa.vY(n:bJ):Option ((List ak)×Int):=
 (aa.cN n).bind fun b1=>
 bif !b1 then
 some ([],1)
 else
 bif decide ((↑n.af.length:Int).toNat*16≤2^47)&&decide ((↑n.af.length:Int).toNat<2^62) then
 bif decide ((↑n.af.length:Int).toNat*1≤2^47)&&decide ((↑n.af.length:Int).toNat<2^62) then
 (aO (ω:=Int×List ak×List Bool) (fun ((i2,l3,l4):Int×List ak×List Bool)=>
 bif decide (0<i2) then
 (aO (ω:=Int×Int×Int×Int) (fun ((i5,i6,i7,i8):Int×Int×Int×Int)=>
 bif decide (i6<(↑n.ay.length:Int)) then
 (aa.vX n l4 l3 i6).bind fun (q9,i10)=>
 (aa.iH q9 (ak.mk i7 i8)).bind fun (i11,i12)=>
 bif decide (0<i10) then
 bif decide (i11<0) then
 some (Sum.inl (i6,IntKind.i64.wrap (i6+1),q9.du,q9.Den))
 else
 some (Sum.inl (i5,IntKind.i64.wrap (i6+1),i7,i8))
 else
 some (Sum.inl (i5,IntKind.i64.wrap (i6+1),i7,i8))
 else
 some (Sum.inr (i5,i6,i7,i8))) (-1,0,1000000,1)).bind fun (i13,i14,i15,i16)=>
 (aO (ω:=Int×Int×Int×Int×Int) (fun ((i17,i18,i19,i20,i21):Int×Int×Int×Int×Int)=>
 bif decide (i19<(↑n.af.length:Int)) then
 bif decide (0≤i19) then
 (n.aC[i19.toNat]?).bind fun i22=>
 (aa.iH (ak.mk i22 1) (ak.mk i20 i21)).bind fun (i23,i24)=>
 bif decide (0≤i19) then
 bif decide (i19.toNat<l4.length) then
 (l4[0+i19.toNat]?).bind fun ZQ=>
 bif !ZQ then
 bif decide (0≤i19) then
 (n.aC[i19.toNat]?).bind fun i26=>
 bif decide (0<i26) then
 bif decide (i23<0) then
 some (Sum.inl (i19,-1,IntKind.i64.wrap (i19+1),i22,1))
 else
 some (Sum.inl (i17,i18,IntKind.i64.wrap (i19+1),i20,i21))
 else
 some (Sum.inl (i17,i18,IntKind.i64.wrap (i19+1),i20,i21))
 else
 none
 else
 some (Sum.inl (i17,i18,IntKind.i64.wrap (i19+1),i20,i21))
 else
 none
 else
 none
 else
 none
 else
 some (Sum.inr (i17,i18,i19,i20,i21))) (-1,i13,0,i15,i16)).bind fun (i27,i28,i29,i30,i31)=>
 (aO (ω:=Int×Int×List ak×List Bool) (fun ((i32,i33,qE,rl):Int×Int×List ak×List Bool)=>
 bif decide (i33<(↑n.af.length:Int)) then
 bif decide (0≤i28) then
 bif decide (0≤i33) then
 (n.af[i33.toNat]?).bind fun ZR=>
 (aa.pT ZR i28).bind fun VV=>
 bif decide (0≤i33) then
 bif decide (i33.toNat<rl.length) then
 (rl[0+i33.toNat]?).bind fun Qi=>
 bif !Qi then
 bif VV then
 bif decide (0≤i33) then
 bif decide (i33.toNat<rl.length) then
 (rl[0+i33.toNat]?).bind fun X5=>
 bif decide (0≤i33) then
 bif decide (i33.toNat<qE.length) then
 (qE[0+i33.toNat]?).bind fun q40=>
 bif decide ((qE.set (0+i33.toNat) (ak.mk i30 i31)).length=l3.length) then
 bif decide ((rl.set (0+i33.toNat) true).length=l4.length) then
 some (Sum.inl (IntKind.i64.wrap (i32-1),IntKind.i64.wrap (i33+1),qE.set (0+i33.toNat) (ak.mk i30 i31),rl.set (0+i33.toNat) true))
 else
 none
 else
 none
 else
 none
 else
 none
 else
 none
 else
 none
 else
 bif decide (i28<0) then
 bif i33==i27 then
 bif decide (0≤i33) then
 bif decide (i33.toNat<rl.length) then
 (rl[0+i33.toNat]?).bind fun X6=>
 bif decide (0≤i33) then
 bif decide (i33.toNat<qE.length) then
 (qE[0+i33.toNat]?).bind fun q42=>
 bif decide ((qE.set (0+i33.toNat) (ak.mk i30 i31)).length=l3.length) then
 bif decide ((rl.set (0+i33.toNat) true).length=l4.length) then
 some (Sum.inl (IntKind.i64.wrap (i32-1),IntKind.i64.wrap (i33+1),qE.set (0+i33.toNat) (ak.mk i30 i31),rl.set (0+i33.toNat) true))
 else
 none
 else
 none
 else
 none
 else
 none
 else
 none
 else
 none
 else
 bif decide (qE.length=l3.length) then
 bif decide (rl.length=l4.length) then
 some (Sum.inl (i32,IntKind.i64.wrap (i33+1),qE,rl))
 else
 none
 else
 none
 else
 bif decide (qE.length=l3.length) then
 bif decide (rl.length=l4.length) then
 some (Sum.inl (i32,IntKind.i64.wrap (i33+1),qE,rl))
 else
 none
 else
 none
 else
 bif decide (qE.length=l3.length) then
 bif decide (rl.length=l4.length) then
 some (Sum.inl (i32,IntKind.i64.wrap (i33+1),qE,rl))
 else
 none
 else
 none
 else
 none
 else
 none
 else
 none
 else
 bif decide (0≤i33) then
 bif decide (i33.toNat<rl.length) then
 (rl[0+i33.toNat]?).bind fun VW=>
 bif !VW then
 bif decide (i28<0) then
 bif i33==i27 then
 bif decide (0≤i33) then
 bif decide (i33.toNat<rl.length) then
 (rl[0+i33.toNat]?).bind fun X7=>
 bif decide (0≤i33) then
 bif decide (i33.toNat<qE.length) then
 (qE[0+i33.toNat]?).bind fun VX=>
 bif decide ((qE.set (0+i33.toNat) (ak.mk i30 i31)).length=l3.length) then
 bif decide ((rl.set (0+i33.toNat) true).length=l4.length) then
 some (Sum.inl (IntKind.i64.wrap (i32-1),IntKind.i64.wrap (i33+1),qE.set (0+i33.toNat) (ak.mk i30 i31),rl.set (0+i33.toNat) true))
 else
 none
 else
 none
 else
 none
 else
 none
 else
 none
 else
 none
 else
 bif decide (qE.length=l3.length) then
 bif decide (rl.length=l4.length) then
 some (Sum.inl (i32,IntKind.i64.wrap (i33+1),qE,rl))
 else
 none
 else
 none
 else
 bif decide (qE.length=l3.length) then
 bif decide (rl.length=l4.length) then
 some (Sum.inl (i32,IntKind.i64.wrap (i33+1),qE,rl))
 else
 none
 else
 none
 else
 bif decide (qE.length=l3.length) then
 bif decide (rl.length=l4.length) then
 some (Sum.inl (i32,IntKind.i64.wrap (i33+1),qE,rl))
 else
 none
 else
 none
 else
 none
 else
 none
 else
 bif decide (qE.length=l3.length) then
 bif decide (rl.length=l4.length) then
 some (Sum.inr (i32,i33,qE,rl))
 else
 none
 else
 none) (i2,0,l3,l4)).bind fun (i46,i47,Qj,Rc)=>
 bif decide (Qj.length=(List.replicate (↑n.af.length:Int).toNat (ak.mk 0 0)).length) then
 bif decide (Rc.length=(List.replicate (↑n.af.length:Int).toNat false).length) then
 some (Sum.inl (i46,Qj,Rc))
 else
 none
 else
 none
 else
 bif decide (l3.length=(List.replicate (↑n.af.length:Int).toNat (ak.mk 0 0)).length) then
 bif decide (l4.length=(List.replicate (↑n.af.length:Int).toNat false).length) then
 some (Sum.inr (i2,l3,l4))
 else
 none
 else
 none) ((↑n.af.length:Int),List.replicate (↑n.af.length:Int).toNat (ak.mk 0 0),List.replicate (↑n.af.length:Int).toNat false)).bind fun (i50,NO,l52)=>
 some (NO,0)
 else
 none
 else
 none
noncomputable def Go.aa.dx(n:Int):Option ak:=
 some (ak.mk n 1)
noncomputable def Go.aa.mM(s:List Int)(v:Int):Option Int:=
 (aO (ω:=Int ⊕ Int×Int) (fun ((i1,i2):Int×Int)=>
 bif decide (i2<(↑s.length:Int)) then
 bif decide (0≤i2) then
 (s[i2.toNat]?).bind fun i3=>
 bif v==i3 then
 some (Sum.inr (Sum.inl i2))
 else
 some (Sum.inl (i1,IntKind.i64.wrap (i2+1)))
 else
 none
 else
 some (Sum.inr (Sum.inr (i1,i2)))) (0,0)).bind fun w4=>
 Sum.elim (fun i5=>
 some i5) (fun (i6,i7)=>
 some (-1)) w4
noncomputable def Go.aa.bM(s:List Int)(v:Int):Option Bool:=
 (aa.mM s v).bind fun i1=>
 some (decide (0≤i1))
noncomputable def Go.aa.bq(f:ak):Option (ak×Int):=
 (aa.cS f).bind fun q1=>
 (aa.bO q1).bind fun b2=>
 bif !b2 then
 some (ak.mk 0 0,3)
 else
 some (q1,0)
noncomputable def Go.aa.Ah(a:ak)(b:ak):Option (ak×Int):=
 (aa.cM a).bind fun b1=>
 bif !b1 then
 some (ak.mk 0 0,1)
 else
 (aa.cM b).bind fun b2=>
 bif !b2 then
 some (ak.mk 0 0,1)
 else
 bif IntKind.i64.wrap (a.Den*b.Den)==0 then
 some (ak.mk 0 0,14)
 else
 (aa.bq (ak.mk (IntKind.i64.wrap (IntKind.i64.wrap (a.du*b.Den)+IntKind.i64.wrap (b.du*a.Den))) (IntKind.i64.wrap (a.Den*b.Den)))).bind fun (q3,i4)=>
 some (q3,i4)
noncomputable def Go.aa.mB(s:cf)(l:Int):Option (ak×Bool):=
 (aa.dx 0).bind fun q1=>
 (aO (ω:=Int×Int×Bool×Int×Int ⊕ Int×Int×Int) (fun ((i2,i3,i4):Int×Int×Int)=>
 bif decide (i2<(↑s.Net.af.length:Int)) then
 bif decide (0≤i2) then
 (s.Net.af[i2.toNat]?).bind fun l5=>
 (aa.bM l5 l).bind fun b6=>
 bif b6 then
 bif decide (0≤i2) then
 (s.CW[i2.toNat]?).bind fun q7=>
 (aa.Ah (ak.mk i3 i4) q7).bind fun (q8,i9)=>
 bif !i9==0 then
 some (Sum.inr (Sum.inl (i3,i4,false,i3,i4)))
 else
 some (Sum.inl (IntKind.i64.wrap (i2+1),q8.du,q8.Den))
 else
 none
 else
 some (Sum.inl (IntKind.i64.wrap (i2+1),i3,i4))
 else
 none
 else
 some (Sum.inr (Sum.inr (i2,i3,i4)))) (0,q1.du,q1.Den)).bind fun SF=>
 Sum.elim (fun (i11,i12,OV,i14,i15)=>
 some (ak.mk i14 i15,OV)) (fun (i16,i17,i18)=>
 bif decide (0≤l) then
 (s.Net.ay[l.toNat]?).bind fun i19=>
 (aa.dx i19).bind fun VY=>
 (aa.fR VY (ak.mk i17 i18)).bind fun SG=>
 some (ak.mk i17 i18,!SG)
 else
 none) SF
noncomputable def Go.aa.jj(n:bJ)(x:List ak):Option Bool:=
 (aa.gn n).bind fun b1=>
 bif !b1 then
 some false
 else
 bif !(↑x.length:Int)==(↑n.af.length:Int) then
 some false
 else
 (aO (ω:=Bool ⊕ Bool×Int) (fun ((b2,i3):Bool×Int)=>
 bif decide (i3<(↑x.length:Int)) then
 bif decide (0≤i3) then
 (x[i3.toNat]?).bind fun q4=>
 (aa.cM q4).bind fun b5=>
 bif !b5 then
 some (Sum.inr (Sum.inl false))
 else
 bif decide (q4.du<0) then
 some (Sum.inr (Sum.inl false))
 else
 bif decide (0≤i3) then
 (n.aC[i3.toNat]?).bind fun i6=>
 bif decide (0<i6) then
 bif decide (0≤i3) then
 (n.aC[i3.toNat]?).bind fun i7=>
 (aa.dx i7).bind fun q8=>
 (aa.fR q8 q4).bind fun b9=>
 bif b9 then
 some (Sum.inr (Sum.inl false))
 else
 some (Sum.inl (b2,IntKind.i64.wrap (i3+1)))
 else
 none
 else
 some (Sum.inl (b2,IntKind.i64.wrap (i3+1)))
 else
 none
 else
 none
 else
 some (Sum.inr (Sum.inr (b2,i3)))) (false,0)).bind fun SF=>
 Sum.elim (fun SH=>
 some SH) (fun (Ef,i13)=>
 bif decide ((↑x.length:Int).toNat*1≤2^47)&&decide ((↑x.length:Int).toNat<2^62) then
 (aO (ω:=Int×List Bool) (fun ((i14,sH):Int×List Bool)=>
 bif decide (i14<(↑n.aC.length:Int)) then
 bif decide (0≤i14) then
 (n.aC[i14.toNat]?).bind fun i16=>
 bif decide (0<i16) then
 bif decide (0≤i14) then
 (x[i14.toNat]?).bind fun H7=>
 (aa.dx i16).bind fun OW=>
 bif decide (0≤i14) then
 bif decide (i14.toNat<sH.length) then
 (sH[0+i14.toNat]?).bind fun b19=>
 bif decide ((sH.set (0+i14.toNat) (H7.du==OW.du&&H7.Den==OW.Den)).length=(List.replicate (↑x.length:Int).toNat false).length) then
 some (Sum.inl (IntKind.i64.wrap (i14+1),sH.set (0+i14.toNat) (H7.du==OW.du&&H7.Den==OW.Den)))
 else
 none
 else
 none
 else
 none
 else
 none
 else
 bif decide (0≤i14) then
 bif decide (i14.toNat<sH.length) then
 (sH[0+i14.toNat]?).bind fun X8=>
 bif decide ((sH.set (0+i14.toNat) false).length=(List.replicate (↑x.length:Int).toNat false).length) then
 some (Sum.inl (IntKind.i64.wrap (i14+1),sH.set (0+i14.toNat) false))
 else
 none
 else
 none
 else
 none
 else
 none
 else
 bif decide (sH.length=(List.replicate (↑x.length:Int).toNat false).length) then
 some (Sum.inr (i14,sH))
 else
 none) (0,List.replicate (↑x.length:Int).toNat false)).bind fun (i21,GW)=>
 (aO (ω:=Bool×List Bool ⊕ Bool×Int×List Bool) (fun ((Uq,i24,Eg):Bool×Int×List Bool)=>
 bif decide (i24<(↑n.ay.length:Int)) then
 (aa.mB (cf.mk n [] x) i24:Option (ak×Bool)).bind fun (Ur,Us)=>
 bif !Us then
 bif decide (Eg.length=GW.length) then
 some (Sum.inr (Sum.inl (false,Eg)))
 else
 none
 else
 (aO (ω:=Int×List Bool) (fun ((i28,yf):Int×List Bool)=>
 bif decide (i28<(↑n.af.length:Int)) then
 bif decide (0≤i28) then
 (n.af[i28.toNat]?).bind fun ZS=>
 (aa.bM ZS i24).bind fun ZT=>
 bif ZT then
 (aO (ω:=Int×Bool) (fun ((i32,OX):Int×Bool)=>
 bif decide (i32<(↑n.af.length:Int)) then
 bif decide (0≤i32) then
 (n.af[i32.toNat]?).bind fun qE=>
 (aa.bM qE i24).bind fun VZ=>
 bif VZ then
 bif OX then
 bif decide (0≤i28) then
 (x[i28.toNat]?).bind fun Ut=>
 bif decide (0≤i32) then
 (x[i32.toNat]?).bind fun ZU=>
 (aa.fR Ut ZU).bind fun Qi=>
 some (Sum.inl (IntKind.i64.wrap (i32+1),!Qi))
 else
 none
 else
 none
 else
 some (Sum.inl (IntKind.i64.wrap (i32+1),false))
 else
 some (Sum.inl (IntKind.i64.wrap (i32+1),OX))
 else
 none
 else
 some (Sum.inr (i32,OX))) (0,true)).bind fun (i39,V0)=>
 bif decide (0≤i28) then
 bif decide (i28.toNat<yf.length) then
 (yf[0+i28.toNat]?).bind fun X6=>
 bif X6 then
 bif decide (0≤i28) then
 bif decide (i28.toNat<yf.length) then
 (yf[0+i28.toNat]?).bind fun b42=>
 bif decide ((yf.set (0+i28.toNat) true).length=Eg.length) then
 some (Sum.inl (IntKind.i64.wrap (i28+1),yf.set (0+i28.toNat) true))
 else
 none
 else
 none
 else
 none
 else
 bif V0 then
 bif decide (0≤i24) then
 (n.ay[i24.toNat]?).bind fun i43=>
 (aa.dx i43).bind fun Uu=>
 bif decide (0≤i28) then
 bif decide (i28.toNat<yf.length) then
 (yf[0+i28.toNat]?).bind fun b45=>
 bif decide ((yf.set (0+i28.toNat) (Ur.du==Uu.du&&Ur.Den==Uu.Den)).length=Eg.length) then
 some (Sum.inl (IntKind.i64.wrap (i28+1),yf.set (0+i28.toNat) (Ur.du==Uu.du&&Ur.Den==Uu.Den)))
 else
 none
 else
 none
 else
 none
 else
 none
 else
 bif decide (0≤i28) then
 bif decide (i28.toNat<yf.length) then
 (yf[0+i28.toNat]?).bind fun Rd=>
 bif decide ((yf.set (0+i28.toNat) false).length=Eg.length) then
 some (Sum.inl (IntKind.i64.wrap (i28+1),yf.set (0+i28.toNat) false))
 else
 none
 else
 none
 else
 none
 else
 none
 else
 none
 else
 bif decide (yf.length=Eg.length) then
 some (Sum.inl (IntKind.i64.wrap (i28+1),yf))
 else
 none
 else
 none
 else
 bif decide (yf.length=Eg.length) then
 some (Sum.inr (i28,yf))
 else
 none) (0,Eg)).bind fun (i47,Qj)=>
 bif decide (Qj.length=GW.length) then
 some (Sum.inl (Uq,IntKind.i64.wrap (i24+1),Qj))
 else
 none
 else
 bif decide (Eg.length=GW.length) then
 some (Sum.inr (Sum.inr (Uq,i24,Eg)))
 else
 none) (Ef,0,GW)).bind fun ZV=>
 Sum.elim (fun (ZW,NO)=>
 some ZW) (fun (X9,i53,Mw)=>
 (aa.fc Mw false).bind fun V1=>
 some !V1) ZV
 else
 none) SF
noncomputable def Go.aa.Ai(a:ak)(b:ak):Option (ak×Int):=
 (aa.dA a).bind fun b1=>
 bif !b1 then
 some (ak.mk 0 0,1)
 else
 (aa.dA b).bind fun b2=>
 bif !b2 then
 some (ak.mk 0 0,1)
 else
 (aa.jX (IntKind.i64.wrap (IntKind.i64.wrap (a.du*b.Den)+IntKind.i64.wrap (b.du*a.Den))) (IntKind.i64.wrap (a.Den*b.Den))).bind fun (q3,i4)=>
 some (q3,i4)
noncomputable def Go.aa.oj(n:bJ)(x:List ak)(link:Int):Option (ak×Bool):=
 (aO (ω:=Bool×Int×Int×Int×Int ⊕ Bool×Int×Int×Int) (fun ((b1,i2,i3,i4):Bool×Int×Int×Int)=>
 bif decide (i2<(↑n.af.length:Int)) then
 bif decide (0≤i2) then
 (n.af[i2.toNat]?).bind fun l5=>
 (aa.pT l5 link).bind fun b6=>
 bif b6 then
 bif decide (0≤i2) then
 (x[i2.toNat]?).bind fun q7=>
 (aa.Ai (ak.mk i3 i4) q7).bind fun (q8,i9)=>
 bif !i9==0 then
 some (Sum.inr (Sum.inl (false,i3,i4,i3,i4)))
 else
 some (Sum.inl (b1,IntKind.i64.wrap (i2+1),q8.du,q8.Den))
 else
 none
 else
 some (Sum.inl (b1,IntKind.i64.wrap (i2+1),i3,i4))
 else
 none
 else
 some (Sum.inr (Sum.inr (b1,i2,i3,i4)))) (false,0,0,1)).bind fun SF=>
 Sum.elim (fun (SH,i12,i13,i14,i15)=>
 some (ak.mk i14 i15,SH)) (fun (VR,i17,i18,i19)=>
 some (ak.mk i18 i19,true)) SF
noncomputable def Go.aa.oq(n:bJ)(x:List ak)(FB:Int)(link:Int):Option Bool:=
 (aa.oj n x link).bind fun (q1,b2)=>
 (aO (ω:=Bool ⊕ Bool×Int) (fun ((b3,i4):Bool×Int)=>
 bif decide (i4<(↑n.af.length:Int)) then
 bif decide (0≤i4) then
 (n.af[i4.toNat]?).bind fun l5=>
 (aa.pT l5 link).bind fun b6=>
 bif decide (0≤i4) then
 (x[i4.toNat]?).bind fun q7=>
 bif decide (0≤FB) then
 (x[FB.toNat]?).bind fun q8=>
 (aa.iH q7 q8).bind fun (i9,i10)=>
 bif b6 then
 bif decide (0<i9) then
 some (Sum.inr (Sum.inl false))
 else
 some (Sum.inl (b3,IntKind.i64.wrap (i4+1)))
 else
 some (Sum.inl (b3,IntKind.i64.wrap (i4+1)))
 else
 none
 else
 none
 else
 none
 else
 some (Sum.inr (Sum.inr (b3,i4)))) (false,0)).bind fun V2=>
 Sum.elim (fun Ef=>
 some Ef) (fun (OV,i14)=>
 bif q1.Den==1 then
 bif decide (0≤link) then
 (n.ay[link.toNat]?).bind fun i15=>
 some (q1.du==i15)
 else
 none
 else
 some false) V2
noncomputable def Go.aa.vZ(n:bJ)(x:List ak):Option Bool:=
 (aa.cN n).bind fun b1=>
 bif !b1 then
 some false
 else
 bif !(↑x.length:Int)==(↑n.af.length:Int) then
 some false
 else
 (aO (ω:=Bool ⊕ Bool×Int) (fun ((b2,i3):Bool×Int)=>
 bif decide (i3<(↑x.length:Int)) then
 bif decide (0≤i3) then
 (x[i3.toNat]?).bind fun q4=>
 (aa.dA q4).bind fun b5=>
 bif !b5 then
 some (Sum.inr (Sum.inl false))
 else
 bif decide (0≤i3) then
 (x[i3.toNat]?).bind fun q6=>
 bif decide (q6.du<0) then
 some (Sum.inr (Sum.inl false))
 else
 bif decide (0≤i3) then
 (n.aC[i3.toNat]?).bind fun i7=>
 bif decide (0<i7) then
 bif decide (0≤i3) then
 (x[i3.toNat]?).bind fun q8=>
 bif decide (0≤i3) then
 (n.aC[i3.toNat]?).bind fun i9=>
 bif decide (0≤i3) then
 (x[i3.toNat]?).bind fun CX=>
 bif decide (IntKind.i64.wrap (i9*CX.Den)<q8.du) then
 some (Sum.inr (Sum.inl false))
 else
 some (Sum.inl (b2,IntKind.i64.wrap (i3+1)))
 else
 none
 else
 none
 else
 none
 else
 some (Sum.inl (b2,IntKind.i64.wrap (i3+1)))
 else
 none
 else
 none
 else
 none
 else
 some (Sum.inr (Sum.inr (b2,i3)))) (false,0)).bind fun V2=>
 Sum.elim (fun Ef=>
 some Ef) (fun (OV,i14)=>
 (aO (ω:=Bool ⊕ Bool×Int) (fun ((Up,i16):Bool×Int)=>
 bif decide (i16<(↑n.ay.length:Int)) then
 (aa.oj n x i16).bind fun (H7,V3)=>
 bif !V3 then
 some (Sum.inr (Sum.inl false))
 else
 bif decide (0≤i16) then
 (n.ay[i16.toNat]?).bind fun i19=>
 bif decide (IntKind.i64.wrap (i19*H7.Den)<H7.du) then
 some (Sum.inr (Sum.inl false))
 else
 some (Sum.inl (Up,IntKind.i64.wrap (i16+1)))
 else
 none
 else
 some (Sum.inr (Sum.inr (Up,i16)))) (OV,0)).bind fun ZX=>
 Sum.elim (fun SG=>
 some SG) (fun (V4,i23)=>
 (aO (ω:=Bool ⊕ Bool×Int) (fun ((Uv,i25):Bool×Int)=>
 bif decide (i25<(↑x.length:Int)) then
 bif decide (0≤i25) then
 (n.aC[i25.toNat]?).bind fun i26=>
 bif decide (0<i26) then
 bif decide (0≤i25) then
 (x[i25.toNat]?).bind fun ZY=>
 bif ZY.Den==1 then
 bif decide (0≤i25) then
 (x[i25.toNat]?).bind fun SI=>
 bif decide (0≤i25) then
 (n.aC[i25.toNat]?).bind fun i29=>
 (aO (ω:=Bool×Int) (fun ((V5,i31):Bool×Int)=>
 bif decide (0≤i25) then
 (n.af[i25.toNat]?).bind fun ZZ=>
 bif decide (i31<(↑ZZ.length:Int)) then
 bif !V5 then
 bif decide (0≤i25) then
 (n.af[i25.toNat]?).bind fun Z0=>
 bif decide (0≤i31) then
 (Z0[i31.toNat]?).bind fun i34=>
 (aa.oq n x i25 i34).bind fun VZ=>
 some (Sum.inl (VZ,IntKind.i64.wrap (i31+1)))
 else
 none
 else
 none
 else
 some (Sum.inr (V5,i31))
 else
 some (Sum.inr (V5,i31))
 else
 none) (SI.du==i29,0)).bind fun (V6,i37)=>
 bif !V6 then
 some (Sum.inr (Sum.inl false))
 else
 some (Sum.inl (Uv,IntKind.i64.wrap (i25+1)))
 else
 none
 else
 none
 else
 (aO (ω:=Bool×Int) (fun ((Qi,i39):Bool×Int)=>
 bif decide (0≤i25) then
 (n.af[i25.toNat]?).bind fun Z1=>
 bif decide (i39<(↑Z1.length:Int)) then
 bif !Qi then
 bif decide (0≤i25) then
 (n.af[i25.toNat]?).bind fun Z2=>
 bif decide (0≤i39) then
 (Z2[i39.toNat]?).bind fun i42=>
 (aa.oq n x i25 i42).bind fun VW=>
 some (Sum.inl (VW,IntKind.i64.wrap (i39+1)))
 else
 none
 else
 none
 else
 some (Sum.inr (Qi,i39))
 else
 some (Sum.inr (Qi,i39))
 else
 none) (false,0)).bind fun (X7,i45)=>
 bif !X7 then
 some (Sum.inr (Sum.inl false))
 else
 some (Sum.inl (Uv,IntKind.i64.wrap (i25+1)))
 else
 none
 else
 (aO (ω:=Bool×Int) (fun ((Rd,i47):Bool×Int)=>
 bif decide (0≤i25) then
 (n.af[i25.toNat]?).bind fun Qj=>
 bif decide (i47<(↑Qj.length:Int)) then
 bif !Rd then
 bif decide (0≤i25) then
 (n.af[i25.toNat]?).bind fun Rc=>
 bif decide (0≤i47) then
 (Rc[i47.toNat]?).bind fun i50=>
 (aa.oq n x i25 i50).bind fun Z3=>
 some (Sum.inl (Z3,IntKind.i64.wrap (i47+1)))
 else
 none
 else
 none
 else
 some (Sum.inr (Rd,i47))
 else
 some (Sum.inr (Rd,i47))
 else
 none) (false,0)).bind fun (X9,i53)=>
 bif !X9 then
 some (Sum.inr (Sum.inl false))
 else
 some (Sum.inl (Uv,IntKind.i64.wrap (i25+1)))
 else
 none
 else
 some (Sum.inr (Sum.inr (Uv,i25)))) (V4,0)).bind fun Z4=>
 Sum.elim (fun V1=>
 some V1) (fun (Z5,i57)=>
 some true) Z4) ZX) V2
noncomputable def Go.aa.gp(n:bJ):Option Bool:=
 (aO (ω:=Bool ⊕ Bool×Int) (fun ((b1,i2):Bool×Int)=>
 bif decide (i2<(↑n.af.length:Int)) then
 bif decide (i2<50) then
 bif decide (0≤i2) then
 (n.af[i2.toNat]?).bind fun l3=>
 bif decide (50<(↑l3.length:Int)) then
 some (Sum.inr (Sum.inl false))
 else
 some (Sum.inl (b1,IntKind.i64.wrap (i2+1)))
 else
 none
 else
 some (Sum.inr (Sum.inr (b1,i2)))
 else
 some (Sum.inr (Sum.inr (b1,i2)))) (false,0)).bind fun w4=>
 Sum.elim (fun b5=>
 some b5) (fun (b6,i7)=>
 bif decide ((↑n.ay.length:Int)≤50) then
 bif decide ((↑n.af.length:Int)≤50) then
 some (decide ((↑n.aC.length:Int)≤50))
 else
 some false
 else
 some false) w4
noncomputable def Go.aa.lU(a:List ak)(b:List ak):Option Bool:=
 bif !(↑a.length:Int)==(↑b.length:Int) then
 some false
 else
 (aO (ω:=Bool ⊕ Bool×Int) (fun ((b1,i2):Bool×Int)=>
 bif decide (i2<(↑a.length:Int)) then
 bif decide (0≤i2) then
 (a[i2.toNat]?).bind fun q3=>
 bif decide (0≤i2) then
 (b[i2.toNat]?).bind fun q4=>
 bif !(q3.du==q4.du&&q3.Den==q4.Den) then
 some (Sum.inr (Sum.inl false))
 else
 some (Sum.inl (b1,IntKind.i64.wrap (i2+1)))
 else
 none
 else
 none
 else
 some (Sum.inr (Sum.inr (b1,i2)))) (false,0)).bind fun w5=>
 Sum.elim (fun b6=>
 some b6) (fun (b7,i8)=>
 some true) w5
noncomputable def Go.aa.nG(a:ak)(b:ak):Option (ak×Int):=
 (aa.cM a).bind fun b1=>
 bif !b1 then
 some (ak.mk 0 0,1)
 else
 (aa.cM b).bind fun b2=>
 bif !b2 then
 some (ak.mk 0 0,1)
 else
 bif IntKind.i64.wrap (a.Den*b.Den)==0 then
 some (ak.mk 0 0,14)
 else
 (aa.bq (ak.mk (IntKind.i64.wrap (IntKind.i64.wrap (a.du*b.Den)-IntKind.i64.wrap (b.du*a.Den))) (IntKind.i64.wrap (a.Den*b.Den)))).bind fun (q3,i4)=>
 some (q3,i4)
noncomputable def Go.aa.qt(a:ak)(b:ak):Option (ak×Int):=
 (aa.cM a).bind fun b1=>
 bif !b1 then
 some (ak.mk 0 0,1)
 else
 (aa.cM b).bind fun b2=>
 bif !b2 then
 some (ak.mk 0 0,1)
 else
 bif IntKind.i64.wrap (a.Den*b.du)==0 then
 some (ak.mk 0 0,14)
 else
 (aa.bq (ak.mk (IntKind.i64.wrap (a.du*b.Den)) (IntKind.i64.wrap (a.Den*b.du)))).bind fun (q3,i4)=>
 some (q3,i4)
noncomputable def Go.aa.ck(l:Int)(s:cf):Option (ak×Bool):=
 bif decide (0≤l) then
 (s.Net.ay[l.toNat]?).bind fun i1=>
 (aa.dx i1).bind fun q2=>
 (aO (ω:=Int×Int×Int×Int) (fun ((i3,i4,i5,i6):Int×Int×Int×Int)=>
 bif decide (i3<(↑s.Net.af.length:Int)) then
 bif decide (0≤i3) then
 (s.Net.af[i3.toNat]?).bind fun l7=>
 (aa.bM l7 l).bind fun b8=>
 bif b8 then
 bif decide (0≤i3) then
 (s.CV[i3.toNat]?).bind fun b9=>
 bif !b9 then
 some (Sum.inl (IntKind.i64.wrap (i3+1),IntKind.i64.wrap (i4+1),i5,i6))
 else
 bif decide (0≤i3) then
 (s.CW[i3.toNat]?).bind fun CX=>
 (aa.nG (ak.mk i5 i6) CX).bind fun (Ms,i12)=>
 some (Sum.inl (IntKind.i64.wrap (i3+1),i4,Ms.du,Ms.Den))
 else
 none
 else
 none
 else
 some (Sum.inl (IntKind.i64.wrap (i3+1),i4,i5,i6))
 else
 none
 else
 some (Sum.inr (i3,i4,i5,i6))) (0,0,q2.du,q2.Den)).bind fun (i13,i14,i15,i16)=>
 bif i14==0 then
 some (ak.mk i15 i16,false)
 else
 (aa.dx i14).bind fun H7=>
 (aa.qt (ak.mk i15 i16) H7).bind fun (OW,i19)=>
 some (OW,true)
 else
 none
noncomputable def Go.aa.fG(l:Int)(s:cf)(FB:Int):Option Bool:=
 bif decide (0≤FB) then
 (s.Net.af[FB.toNat]?).bind fun l1=>
 (aa.bM l1 l).bind fun b2=>
 some b2
 else
 none
noncomputable def Go.aa.cz(l:Int)(s:cf):Option (ak×Bool):=
 bif decide (0≤l) then
 (s.Net.aC[l.toNat]?).bind fun i1=>
 (aa.dx i1).bind fun q2=>
 bif decide (0≤l) then
 (s.Net.aC[l.toNat]?).bind fun i3=>
 bif decide (0<i3) then
 bif decide (0≤l) then
 (s.CV[l.toNat]?).bind fun b4=>
 some (q2,!b4)
 else
 none
 else
 some (q2,false)
 else
 none
 else
 none
noncomputable def Go.aa.lV(l:Int)(s:cf)(FB:Int):Option Bool:=
 some (l==FB)
noncomputable def Go.aa.bG(n:bJ):Option ((List ak)×Int):=
 (aa.gn n).bind fun b1=>
 bif !b1 then
 some ([],1)
 else
 bif decide ((↑n.af.length:Int).toNat*1≤2^47)&&decide ((↑n.af.length:Int).toNat<2^62) then
 bif decide ((↑n.af.length:Int).toNat*16≤2^47)&&decide ((↑n.af.length:Int).toNat<2^62) then
 (aO (ω:=Int×List dP) (fun ((i2,l3):Int×List dP)=>
 bif decide (i2<(↑n.ay.length:Int)) then
 bif decide ((l3.length+1)*16≤2^44)&&decide (l3.length+1≤2^44) then
 some (Sum.inl (IntKind.i64.wrap (i2+1),l3++[dP.mk true i2]))
 else
 none
 else
 some (Sum.inr (i2,l3))) (0,[])).bind fun (i4,l5)=>
 (aO (ω:=Int×List dP) (fun ((i6,l7):Int×List dP)=>
 bif decide (i6<(↑n.aC.length:Int)) then
 bif decide ((l7.length+1)*16≤2^44)&&decide (l7.length+1≤2^44) then
 some (Sum.inl (IntKind.i64.wrap (i6+1),l7++[dP.mk false i6]))
 else
 none
 else
 some (Sum.inr (i6,l7))) (0,l5)).bind fun (i8,l9)=>
 (aO (ω:=List ak×List Bool) (fun ((H8,Ae):List ak×List Bool)=>
 (aa.fc Ae false).bind fun Ef=>
 bif Ef then
 (aO (ω:=Int×List ak×List dP) (fun ((i13,De,sH):Int×List ak×List dP)=>
 bif decide (i13<(↑l9.length:Int)) then
 bif decide (0≤i13) then
 bif decide (i13.toNat<l9.length) then
 (l9[0+i13.toNat]?).bind fun SJ=>
 bif SJ.A then
 (aa.ck SJ.N (cf.mk n Ae H8)).bind fun (H7,V3)=>
 bif V3 then
 bif decide ((De.length+1)*16≤2^44)&&decide (De.length+1≤2^44) then
 bif decide ((sH.length+1)*16≤2^44)&&decide (sH.length+1≤2^44) then
 some (Sum.inl (IntKind.i64.wrap (i13+1),De++[H7],sH++[dP.mk true SJ.N]))
 else
 none
 else
 none
 else
 some (Sum.inl (IntKind.i64.wrap (i13+1),De,sH))
 else
 (aa.cz SJ.N (cf.mk n Ae H8)).bind fun (VU,X8)=>
 bif X8 then
 bif decide ((De.length+1)*16≤2^44)&&decide (De.length+1≤2^44) then
 bif decide ((sH.length+1)*16≤2^44)&&decide (sH.length+1≤2^44) then
 some (Sum.inl (IntKind.i64.wrap (i13+1),De++[VU],sH++[dP.mk false SJ.N]))
 else
 none
 else
 none
 else
 some (Sum.inl (IntKind.i64.wrap (i13+1),De,sH))
 else
 none
 else
 none
 else
 some (Sum.inr (i13,De,sH))) (0,[],[])).bind fun (i21,GW,Bx)=>
 bif decide (0<GW.length) then
 (GW[0]?).bind fun SK=>
 (aO (ω:=Int×Int×Int) (fun ((i25,i26,i27):Int×Int×Int)=>
 bif decide (i25<(↑GW.length:Int)) then
 bif decide (0≤i25) then
 bif decide (i25.toNat<GW.length) then
 (GW[0+i25.toNat]?).bind fun SI=>
 (aa.fR SI (ak.mk i26 i27)).bind fun Z6=>
 bif Z6 then
 some (Sum.inl (IntKind.i64.wrap (i25+1),SI.du,SI.Den))
 else
 some (Sum.inl (IntKind.i64.wrap (i25+1),i26,i27))
 else
 none
 else
 none
 else
 some (Sum.inr (i25,i26,i27))) (0,SK.du,SK.Den)).bind fun (i30,i31,i32)=>
 (aO (ω:=Int×List Int) (fun ((i33,qE):Int×List Int)=>
 bif decide (i33<(↑Bx.length:Int)) then
 bif decide (0≤i33) then
 bif decide (i33.toNat<Bx.length) then
 (Bx[0+i33.toNat]?).bind fun Re=>
 bif Re.A then
 (aO (ω:=Int×List Int) (fun ((i36,Qk):Int×List Int)=>
 bif decide (i36<(↑n.af.length:Int)) then
 bif decide (0≤i33) then
 bif decide (i33.toNat<GW.length) then
 (GW[0+i33.toNat]?).bind fun Ya=>
 bif Ya.du==i31&&Ya.Den==i32 then
 bif decide (0≤i36) then
 bif decide (i36.toNat<Ae.length) then
 (Ae[0+i36.toNat]?).bind fun X5=>
 bif !X5 then
 (aa.fG Re.N (cf.mk n Ae H8) i36).bind fun V0=>
 bif V0 then
 bif decide ((Qk.length+1)*8≤2^44)&&decide (Qk.length+1≤2^44) then
 some (Sum.inl (IntKind.i64.wrap (i36+1),Qk++[i36]))
 else
 none
 else
 some (Sum.inl (IntKind.i64.wrap (i36+1),Qk))
 else
 some (Sum.inl (IntKind.i64.wrap (i36+1),Qk))
 else
 none
 else
 none
 else
 some (Sum.inl (IntKind.i64.wrap (i36+1),Qk))
 else
 none
 else
 none
 else
 some (Sum.inr (i36,Qk))) (0,qE)).bind fun (i41,Z7)=>
 some (Sum.inl (IntKind.i64.wrap (i33+1),Z7))
 else
 (aO (ω:=Int×List Int) (fun ((i43,NP):Int×List Int)=>
 bif decide (i43<(↑n.af.length:Int)) then
 bif decide (0≤i33) then
 bif decide (i33.toNat<GW.length) then
 (GW[0+i33.toNat]?).bind fun VX=>
 bif VX.du==i31&&VX.Den==i32 then
 bif decide (0≤i43) then
 bif decide (i43.toNat<Ae.length) then
 (Ae[0+i43.toNat]?).bind fun Rd=>
 bif !Rd then
 (aa.lV Re.N (cf.mk n Ae H8) i43).bind fun Z8=>
 bif Z8 then
 bif decide ((NP.length+1)*8≤2^44)&&decide (NP.length+1≤2^44) then
 some (Sum.inl (IntKind.i64.wrap (i43+1),NP++[i43]))
 else
 none
 else
 some (Sum.inl (IntKind.i64.wrap (i43+1),NP))
 else
 some (Sum.inl (IntKind.i64.wrap (i43+1),NP))
 else
 none
 else
 none
 else
 some (Sum.inl (IntKind.i64.wrap (i43+1),NP))
 else
 none
 else
 none
 else
 some (Sum.inr (i43,NP))) (0,qE)).bind fun (i48,Rc)=>
 some (Sum.inl (IntKind.i64.wrap (i33+1),Rc))
 else
 none
 else
 none
 else
 some (Sum.inr (i33,qE))) (0,[])).bind fun (i50,NO)=>
 (aO (ω:=Int×List ak×List Bool) (fun ((i52,Ql,Mw):Int×List ak×List Bool)=>
 bif decide (i52<(↑NO.length:Int)) then
 bif decide (0≤i52) then
 bif decide (i52.toNat<NO.length) then
 (NO[0+i52.toNat]?).bind fun i55=>
 bif decide (0≤i55) then
 bif decide (i55.toNat<Mw.length) then
 (Mw[0+i55.toNat]?).bind fun Z5=>
 bif decide (0≤i55) then
 bif decide (i55.toNat<Ql.length) then
 (Ql[0+i55.toNat]?).bind fun q57=>
 bif decide ((Ql.set (0+i55.toNat) (ak.mk i31 i32)).length=H8.length) then
 bif decide ((Mw.set (0+i55.toNat) true).length=Ae.length) then
 some (Sum.inl (IntKind.i64.wrap (i52+1),Ql.set (0+i55.toNat) (ak.mk i31 i32),Mw.set (0+i55.toNat) true))
 else
 none
 else
 none
 else
 none
 else
 none
 else
 none
 else
 none
 else
 none
 else
 none
 else
 bif decide (Ql.length=H8.length) then
 bif decide (Mw.length=Ae.length) then
 some (Sum.inr (i52,Ql,Mw))
 else
 none
 else
 none) (0,H8,Ae)).bind fun (i58,Yb,Yc)=>
 bif decide (Yb.length=(List.replicate (↑n.af.length:Int).toNat (ak.mk 0 0)).length) then
 bif decide (Yc.length=(List.replicate (↑n.af.length:Int).toNat false).length) then
 some (Sum.inl (Yb,Yc))
 else
 none
 else
 none
 else
 none
 else
 bif decide (H8.length=(List.replicate (↑n.af.length:Int).toNat (ak.mk 0 0)).length) then
 bif decide (Ae.length=(List.replicate (↑n.af.length:Int).toNat false).length) then
 some (Sum.inr (H8,Ae))
 else
 none
 else
 none) (List.replicate (↑n.af.length:Int).toNat (ak.mk 0 0),List.replicate (↑n.af.length:Int).toNat false)).bind fun (Z9,l62)=>
 some (Z9,0)
 else
 none
 else
 none
noncomputable def Go.aa.Df(n:Int):Option ak:=
 some (ak.mk n 1)
noncomputable def Go.aa.K2(n:bJ)(want:List ak):Option Bool:=
 (aa.bG n).bind fun (l1,i2)=>
 (aa.jj n want).bind fun b3=>
 bif i2==0 then
 bif b3 then
 (aa.lU l1 want).bind fun b4=>
 some b4
 else
 some false
 else
 some false
noncomputable def Go.aa.pU(n:bJ)(parts:List Int)(mU:Int):Option ((List Int)):=
 bif decide ((↑n.ay.length:Int).toNat*8≤2^47)&&decide ((↑n.ay.length:Int).toNat<2^62) then
 (aO (ω:=Int×List Int) (fun ((i1,l2):Int×List Int)=>
 bif decide (i1<(↑n.ay.length:Int)) then
 bif decide (0≤i1) then
 (n.ay[i1.toNat]?).bind fun i3=>
 bif decide (0≤i1) then
 bif decide (i1.toNat<l2.length) then
 (l2[0+i1.toNat]?).bind fun i4=>
 bif decide ((l2.set (0+i1.toNat) (IntKind.i64.wrap (i3*mU))).length=(List.replicate (↑n.ay.length:Int).toNat (0:Int)).length) then
 some (Sum.inl (IntKind.i64.wrap (i1+1),l2.set (0+i1.toNat) (IntKind.i64.wrap (i3*mU))))
 else
 none
 else
 none
 else
 none
 else
 none
 else
 bif decide (l2.length=(List.replicate (↑n.ay.length:Int).toNat (0:Int)).length) then
 some (Sum.inr (i1,l2))
 else
 none) (0,List.replicate (↑n.ay.length:Int).toNat (0:Int))).bind fun (i5,l6)=>
 bif decide ((↑n.af.length:Int).toNat*8≤2^47)&&decide ((↑n.af.length:Int).toNat<2^62) then
 (aO (ω:=Int×List Int×List Int) (fun ((i7,l8,l9):Int×List Int×List Int)=>
 bif decide (i7<(↑n.af.length:Int)) then
 bif decide (i7<(↑parts.length:Int)) then
 bif decide (0≤i7) then
 (n.aC[i7.toNat]?).bind fun i10=>
 bif decide (0<i10) then
 bif decide (0≤i7) then
 (n.aC[i7.toNat]?).bind fun i11=>
 (aO (ω:=Int×Int) (fun ((i12,i13):Int×Int)=>
 bif decide (0≤i7) then
 (n.af[i7.toNat]?).bind fun De=>
 bif decide (i13<(↑De.length:Int)) then
 bif decide (0≤i7) then
 (n.af[i7.toNat]?).bind fun sH=>
 bif decide (0≤i13) then
 (sH[i13.toNat]?).bind fun i16=>
 bif decide (0≤i16) then
 bif decide (i16.toNat<l8.length) then
 (l8[0+i16.toNat]?).bind fun i17=>
 some (Sum.inl (if i17<i12 then i17 else i12,IntKind.i64.wrap (i13+1)))
 else
 none
 else
 none
 else
 none
 else
 none
 else
 some (Sum.inr (i12,i13))
 else
 none) (IntKind.i64.wrap (i11*mU),0)).bind fun (i18,i19)=>
 bif decide (0≤i7) then
 (parts[i7.toNat]?).bind fun i20=>
 bif decide (IntKind.i64.wrap (i18+1)=0) then
 none
 else
 bif decide (0≤i7) then
 bif decide (i7.toNat<l9.length) then
 (l9[0+i7.toNat]?).bind fun i21=>
 (aO (ω:=Int×List Int) (fun ((i22,Bx):Int×List Int)=>
 bif decide (0≤i7) then
 (n.af[i7.toNat]?).bind fun l24=>
 bif decide (i22<(↑l24.length:Int)) then
 bif decide (0≤i7) then
 (n.af[i7.toNat]?).bind fun Eg=>
 bif decide (0≤i22) then
 (Eg[i22.toNat]?).bind fun i26=>
 bif decide (0≤i26) then
 bif decide (i26.toNat<Bx.length) then
 (Bx[0+i26.toNat]?).bind fun i27=>
 bif decide (0≤i7) then
 bif decide (i7.toNat<(l9.set (0+i7.toNat) ((IntKind.i64.wrap i20).tmod (IntKind.i64.wrap (i18+1)))).length) then
 ((l9.set (0+i7.toNat) ((IntKind.i64.wrap i20).tmod (IntKind.i64.wrap (i18+1))))[0+i7.toNat]?).bind fun i28=>
 bif decide (0≤i26) then
 bif decide (i26.toNat<Bx.length) then
 (Bx[0+i26.toNat]?).bind fun i29=>
 bif decide ((Bx.set (0+i26.toNat) (IntKind.i64.wrap (i27-i28))).length=l8.length) then
 some (Sum.inl (IntKind.i64.wrap (i22+1),Bx.set (0+i26.toNat) (IntKind.i64.wrap (i27-i28))))
 else
 none
 else
 none
 else
 none
 else
 none
 else
 none
 else
 none
 else
 none
 else
 none
 else
 none
 else
 bif decide (Bx.length=l8.length) then
 some (Sum.inr (i22,Bx))
 else
 none
 else
 none) (0,l8)).bind fun (i30,Qm)=>
 bif decide (Qm.length=l6.length) then
 bif decide ((l9.set (0+i7.toNat) ((IntKind.i64.wrap i20).tmod (IntKind.i64.wrap (i18+1)))).length=(List.replicate (↑n.af.length:Int).toNat (0:Int)).length) then
 some (Sum.inl (IntKind.i64.wrap (i7+1),Qm,l9.set (0+i7.toNat) ((IntKind.i64.wrap i20).tmod (IntKind.i64.wrap (i18+1)))))
 else
 none
 else
 none
 else
 none
 else
 none
 else
 none
 else
 none
 else
 (aO (ω:=Int×Int) (fun ((i32,i33):Int×Int)=>
 bif decide (0≤i7) then
 (n.af[i7.toNat]?).bind fun qE=>
 bif decide (i33<(↑qE.length:Int)) then
 bif decide (0≤i7) then
 (n.af[i7.toNat]?).bind fun rl=>
 bif decide (0≤i33) then
 (rl[i33.toNat]?).bind fun i36=>
 bif decide (0≤i36) then
 bif decide (i36.toNat<l8.length) then
 (l8[0+i36.toNat]?).bind fun i37=>
 some (Sum.inl (if i37<i32 then i37 else i32,IntKind.i64.wrap (i33+1)))
 else
 none
 else
 none
 else
 none
 else
 none
 else
 some (Sum.inr (i32,i33))
 else
 none) (IntKind.i64.wrap (1000*mU),0)).bind fun (i38,i39)=>
 bif decide (0≤i7) then
 (parts[i7.toNat]?).bind fun i40=>
 bif decide (IntKind.i64.wrap (i38+1)=0) then
 none
 else
 bif decide (0≤i7) then
 bif decide (i7.toNat<l9.length) then
 (l9[0+i7.toNat]?).bind fun i41=>
 (aO (ω:=Int×List Int) (fun ((i42,OY):Int×List Int)=>
 bif decide (0≤i7) then
 (n.af[i7.toNat]?).bind fun NP=>
 bif decide (i42<(↑NP.length:Int)) then
 bif decide (0≤i7) then
 (n.af[i7.toNat]?).bind fun l45=>
 bif decide (0≤i42) then
 (l45[i42.toNat]?).bind fun i46=>
 bif decide (0≤i46) then
 bif decide (i46.toNat<OY.length) then
 (OY[0+i46.toNat]?).bind fun i47=>
 bif decide (0≤i7) then
 bif decide (i7.toNat<(l9.set (0+i7.toNat) ((IntKind.i64.wrap i40).tmod (IntKind.i64.wrap (i38+1)))).length) then
 ((l9.set (0+i7.toNat) ((IntKind.i64.wrap i40).tmod (IntKind.i64.wrap (i38+1))))[0+i7.toNat]?).bind fun i48=>
 bif decide (0≤i46) then
 bif decide (i46.toNat<OY.length) then
 (OY[0+i46.toNat]?).bind fun i49=>
 bif decide ((OY.set (0+i46.toNat) (IntKind.i64.wrap (i47-i48))).length=l8.length) then
 some (Sum.inl (IntKind.i64.wrap (i42+1),OY.set (0+i46.toNat) (IntKind.i64.wrap (i47-i48))))
 else
 none
 else
 none
 else
 none
 else
 none
 else
 none
 else
 none
 else
 none
 else
 none
 else
 none
 else
 bif decide (OY.length=l8.length) then
 some (Sum.inr (i42,OY))
 else
 none
 else
 none) (0,l8)).bind fun (i50,NO)=>
 bif decide (NO.length=l6.length) then
 bif decide ((l9.set (0+i7.toNat) ((IntKind.i64.wrap i40).tmod (IntKind.i64.wrap (i38+1)))).length=(List.replicate (↑n.af.length:Int).toNat (0:Int)).length) then
 some (Sum.inl (IntKind.i64.wrap (i7+1),NO,l9.set (0+i7.toNat) ((IntKind.i64.wrap i40).tmod (IntKind.i64.wrap (i38+1)))))
 else
 none
 else
 none
 else
 none
 else
 none
 else
 none
 else
 none
 else
 bif decide (l8.length=l6.length) then
 bif decide (l9.length=(List.replicate (↑n.af.length:Int).toNat (0:Int)).length) then
 some (Sum.inr (i7,l8,l9))
 else
 none
 else
 none
 else
 bif decide (l8.length=l6.length) then
 bif decide (l9.length=(List.replicate (↑n.af.length:Int).toNat (0:Int)).length) then
 some (Sum.inr (i7,l8,l9))
 else
 none
 else
 none) (0,l6,List.replicate (↑n.af.length:Int).toNat (0:Int))).bind fun (i52,Ql,Mw)=>
 some Mw
 else
 none
 else
 none
noncomputable def Go.aa.lW(r:ak)(num:Int)(mU:Int):Option Int:=
 some (IntKind.i64.wrap (IntKind.i64.wrap (r.du*mU)-IntKind.i64.wrap (num*r.Den)))
noncomputable def Go.aa.sk(n:bJ)(parts:List Int)(mU:Int):Option Bool:=
 (aa.il).bind fun b1=>
 (aa.gp n).bind fun b2=>
 bif b2 then
 (aa.cN n).bind fun b3=>
 bif !b3 then
 some b1
 else
 (aa.pU n parts (IntKind.i64.wrap (1+(IntKind.i64.wrap mU).tmod 60))).bind fun l4=>
 (aa.bG n).bind fun (l5,i6)=>
 bif !i6==0 then
 some false
 else
 bif !(↑l5.length:Int)==(↑l4.length:Int) then
 some false
 else
 (aO (ω:=Bool×Int) (fun ((b7,i8):Bool×Int)=>
 bif decide (i8<(↑l5.length:Int)) then
 bif decide (0≤i8) then
 (l5[i8.toNat]?).bind fun q9=>
 bif decide (0≤i8) then
 (l4[i8.toNat]?).bind fun i10=>
 (aa.lW q9 i10 (IntKind.i64.wrap (1+(IntKind.i64.wrap mU).tmod 60))).bind fun i11=>
 bif decide (0≤i11) then
 some (Sum.inl (b7,IntKind.i64.wrap (i8+1)))
 else
 (aO (ω:=Bool×Int) (fun ((Ef,i13):Bool×Int)=>
 bif decide (i13<(↑l5.length:Int)) then
 bif decide (0≤i13) then
 (l5[i13.toNat]?).bind fun q14=>
 bif decide (0≤i8) then
 (l5[i8.toNat]?).bind fun q15=>
 (aa.iH q14 q15).bind fun (i16,i17)=>
 bif Ef then
 some (Sum.inl (true,IntKind.i64.wrap (i13+1)))
 else
 bif decide (i16≤0) then
 bif decide (0≤i13) then
 (l5[i13.toNat]?).bind fun OW=>
 bif decide (0≤i13) then
 (l4[i13.toNat]?).bind fun i19=>
 (aa.lW OW i19 (IntKind.i64.wrap (1+(IntKind.i64.wrap mU).tmod 60))).bind fun i20=>
 some (Sum.inl (decide (0<i20),IntKind.i64.wrap (i13+1)))
 else
 none
 else
 none
 else
 some (Sum.inl (false,IntKind.i64.wrap (i13+1)))
 else
 none
 else
 none
 else
 some (Sum.inr (Ef,i13))) (false,0)).bind fun (SG,i22)=>
 bif b7 then
 some (Sum.inl (SG,IntKind.i64.wrap (i8+1)))
 else
 some (Sum.inl (false,IntKind.i64.wrap (i8+1)))
 else
 none
 else
 none
 else
 some (Sum.inr (b7,i8))) (b1,0)).bind fun (Uq,i24)=>
 some Uq
 else
 some b1
noncomputable def Go.aa.tG(n:bJ)(times:Int):Option Bool:=
 (aa.il).bind fun b1=>
 (aa.gp n).bind fun b2=>
 bif b2 then
 (aa.cN n).bind fun b3=>
 bif !b3 then
 some b1
 else
 bif decide (times<1) then
 some b1
 else
 bif decide (1000<times) then
 some b1
 else
 (aO (ω:=Int×List (List Int)×List Int×List Int) (fun ((i4,l5,l6,l7):Int×List (List Int)×List Int×List Int)=>
 bif decide (i4<(↑n.ay.length:Int)) then
 bif decide (0≤i4) then
 (n.ay[i4.toNat]?).bind fun i8=>
 bif decide ((l6.length+1)*8≤2^44)&&decide (l6.length+1≤2^44) then
 some (Sum.inl (IntKind.i64.wrap (i4+1),l5,l6++[IntKind.i64.wrap (i8*times)],l7))
 else
 none
 else
 none
 else
 some (Sum.inr (i4,l5,l6,l7))) (0,n.af,[],[])).bind fun (i9,H8,Ae,SE)=>
 (aO (ω:=Int×List (List Int)×List Int×List Int) (fun ((i13,De,sH,NQ):Int×List (List Int)×List Int×List Int)=>
 bif decide (i13<(↑n.aC.length:Int)) then
 bif decide (0≤i13) then
 (n.aC[i13.toNat]?).bind fun i17=>
 bif decide ((NQ.length+1)*8≤2^44)&&decide (NQ.length+1≤2^44) then
 some (Sum.inl (IntKind.i64.wrap (i13+1),De,sH,NQ++[IntKind.i64.wrap (i17*times)]))
 else
 none
 else
 none
 else
 some (Sum.inr (i13,De,sH,NQ))) (0,H8,Ae,SE)).bind fun (i18,Qn,Uw,Yd)=>
 (aa.cN (bJ.mk Uw Qn Yd)).bind fun V4=>
 bif !V4 then
 some b1
 else
 (aa.bG n).bind fun (Bx,i24)=>
 (aa.bG (bJ.mk Uw Qn Yd)).bind fun (Eg,i26)=>
 bif !i24==0 then
 some false
 else
 bif !i26==0 then
 some false
 else
 bif !(↑Bx.length:Int)==(↑Eg.length:Int) then
 some false
 else
 (aO (ω:=Bool×Int) (fun ((Us,i28):Bool×Int)=>
 bif decide (i28<(↑Bx.length:Int)) then
 bif Us then
 bif decide (0≤i28) then
 (Eg[i28.toNat]?).bind fun q29=>
 bif decide (0≤i28) then
 (Bx[i28.toNat]?).bind fun q30=>
 bif decide (0≤i28) then
 (Bx[i28.toNat]?).bind fun q31=>
 bif decide (0≤i28) then
 (Eg[i28.toNat]?).bind fun q32=>
 some (Sum.inl (IntKind.i64.wrap (q29.du*q30.Den)==IntKind.i64.wrap (IntKind.i64.wrap (times*q31.du)*q32.Den),IntKind.i64.wrap (i28+1)))
 else
 none
 else
 none
 else
 none
 else
 none
 else
 some (Sum.inl (false,IntKind.i64.wrap (i28+1)))
 else
 some (Sum.inr (Us,i28))) (b1,0)).bind fun (OX,i34)=>
 some OX
 else
 some b1
noncomputable def Go.aa.uW(n:bJ)(oQ:Int)(more:Int):Option Bool:=
 (aa.il).bind fun b1=>
 (aa.gp n).bind fun b2=>
 bif b2 then
 (aa.cN n).bind fun b3=>
 bif !b3 then
 some b1
 else
 bif (↑n.af.length:Int)==0 then
 some b1
 else
 bif decide (oQ<0) then
 some b1
 else
 bif decide (more<0) then
 some b1
 else
 bif decide (1000<more) then
 some b1
 else
 bif decide ((↑n.ay.length:Int)=0) then
 none
 else
 bif decide (0≤(↑n.ay.length:Int).toNat)&&decide ((↑n.ay.length:Int).toNat*8≤2^47)&&decide ((↑n.ay.length:Int).toNat<2^62) then
 bif decide (0+n.ay.length≤(↑n.ay.length:Int).toNat)&&decide (0+n.ay.length≤(List.replicate (↑n.ay.length:Int).toNat (0:Int)).length) then
 bif decide (0≤oQ.tmod (↑n.ay.length:Int)) then
 bif decide ((oQ.tmod (↑n.ay.length:Int)).toNat<0+n.ay.length) then
 ((n.ay++List.drop (0+n.ay.length) (List.replicate (↑n.ay.length:Int).toNat (0:Int)))[0+(oQ.tmod (↑n.ay.length:Int)).toNat]?).bind fun i4=>
 bif decide (0≤oQ.tmod (↑n.ay.length:Int)) then
 bif decide ((oQ.tmod (↑n.ay.length:Int)).toNat<0+n.ay.length) then
 ((n.ay++List.drop (0+n.ay.length) (List.replicate (↑n.ay.length:Int).toNat (0:Int)))[0+(oQ.tmod (↑n.ay.length:Int)).toNat]?).bind fun i5=>
 (aa.bG n).bind fun (l6,i7)=>
 bif decide (0+(0+n.ay.length)≤((n.ay++List.drop (0+n.ay.length) (List.replicate (↑n.ay.length:Int).toNat (0:Int))).set (0+(oQ.tmod (↑n.ay.length:Int)).toNat) (if IntKind.i64.wrap (i4+more)<1000 then IntKind.i64.wrap (i4+more) else 1000)).length) then
 (aa.bG (bJ.mk (List.take (0+n.ay.length) (List.drop 0 ((n.ay++List.drop (0+n.ay.length) (List.replicate (↑n.ay.length:Int).toNat (0:Int))).set (0+(oQ.tmod (↑n.ay.length:Int)).toNat) (if IntKind.i64.wrap (i4+more)<1000 then IntKind.i64.wrap (i4+more) else 1000)))) n.af n.aC)).bind fun (l8,i9)=>
 bif !i7==0 then
 some false
 else
 bif !i9==0 then
 some false
 else
 bif !(↑l6.length:Int)==(↑n.af.length:Int) then
 some false
 else
 bif !(↑l8.length:Int)==(↑l6.length:Int) then
 some false
 else
 (l6[0]?).bind fun CX=>
 (l8[0]?).bind fun Ms=>
 (aO (ω:=Int×Int×Int×Int×Int) (fun ((i12,i13,i14,i15,i16):Int×Int×Int×Int×Int)=>
 bif decide (i12<(↑l6.length:Int)) then
 bif decide (0≤i12) then
 (l6[i12.toNat]?).bind fun H7=>
 (aa.iH H7 (ak.mk i15 i16)).bind fun (i18,i19)=>
 bif decide (0≤i12) then
 (l8[i12.toNat]?).bind fun VY=>
 (aa.iH VY (ak.mk i13 i14)).bind fun (i21,i22)=>
 bif decide (i18<0) then
 bif decide (0≤i12) then
 (l6[i12.toNat]?).bind fun Ux=>
 bif decide (i21<0) then
 bif decide (0≤i12) then
 (l8[i12.toNat]?).bind fun SK=>
 some (Sum.inl (IntKind.i64.wrap (i12+1),SK.du,SK.Den,Ux.du,Ux.Den))
 else
 none
 else
 some (Sum.inl (IntKind.i64.wrap (i12+1),i13,i14,Ux.du,Ux.Den))
 else
 none
 else
 bif decide (i21<0) then
 bif decide (0≤i12) then
 (l8[i12.toNat]?).bind fun Ye=>
 some (Sum.inl (IntKind.i64.wrap (i12+1),Ye.du,Ye.Den,i15,i16))
 else
 none
 else
 some (Sum.inl (IntKind.i64.wrap (i12+1),i13,i14,i15,i16))
 else
 none
 else
 none
 else
 some (Sum.inr (i12,i13,i14,i15,i16))) (0,Ms.du,Ms.Den,CX.du,CX.Den)).bind fun (i26,i27,i28,i29,i30)=>
 (aa.iH (ak.mk i29 i30) (ak.mk i27 i28)).bind fun (i31,i32)=>
 (aa.oj n l6 (oQ.tmod (↑n.ay.length:Int))).bind fun (Yf,b34)=>
 bif b34 then
 bif decide (0≤oQ.tmod (↑n.ay.length:Int)) then
 (n.ay[(oQ.tmod (↑n.ay.length:Int)).toNat]?).bind fun i35=>
 bif b1 then
 bif i32==0 then
 bif decide (i31≤0) then
 bif !decide (Yf.du<IntKind.i64.wrap (i35*Yf.Den)) then
 some true
 else
 (aa.lU l6 l8).bind fun V6=>
 some V6
 else
 some false
 else
 some false
 else
 some false
 else
 none
 else
 bif b1 then
 bif i32==0 then
 bif decide (i31≤0) then
 some true
 else
 some false
 else
 some false
 else
 some false
 else
 none
 else
 none
 else
 none
 else
 none
 else
 none
 else
 none
 else
 none
 else
 some b1
noncomputable def Go.aa.fH(n:bJ):Option Bool:=
 (aa.il).bind fun b1=>
 (aa.gp n).bind fun b2=>
 bif b2 then
 (aa.cN n).bind fun b3=>
 bif !b3 then
 some b1
 else
 (aO (ω:=Int×List Int×List (List Int)×List Int) (fun ((i4,l5,l6,l7):Int×List Int×List (List Int)×List Int)=>
 bif decide (0≤i4) then
 bif decide (0≤i4) then
 (n.ay[i4.toNat]?).bind fun i8=>
 bif decide ((l5.length+1)*8≤2^44)&&decide (l5.length+1≤2^44) then
 some (Sum.inl (IntKind.i64.wrap (i4-1),l5++[i8],l6,l7))
 else
 none
 else
 none
 else
 some (Sum.inr (i4,l5,l6,l7))) (IntKind.i64.wrap ((↑n.ay.length:Int)-1),[],[],[])).bind fun (i9,H8,Ae,SE)=>
 (aO (ω:=Int×List Int×List (List Int)×List Int) (fun ((i13,De,sH,NQ):Int×List Int×List (List Int)×List Int)=>
 bif decide (0≤i13) then
 bif decide (0≤i13) then
 (n.af[i13.toNat]?).bind fun l17=>
 (aO (ω:=Int×List Int) (fun ((i18,Qn):Int×List Int)=>
 bif decide (0≤i18) then
 bif decide (0≤i13) then
 (n.af[i13.toNat]?).bind fun Uw=>
 bif decide (0≤i18) then
 (Uw[i18.toNat]?).bind fun i21=>
 bif decide ((Qn.length+1)*8≤2^44)&&decide (Qn.length+1≤2^44) then
 some (Sum.inl (IntKind.i64.wrap (i18-1),Qn++[IntKind.i64.wrap (IntKind.i64.wrap ((↑n.ay.length:Int)-1)-i21)]))
 else
 none
 else
 none
 else
 none
 else
 some (Sum.inr (i18,Qn))) (IntKind.i64.wrap ((↑l17.length:Int)-1),[])).bind fun (i22,Bx)=>
 bif decide ((sH.length+1)*24≤2^44)&&decide (sH.length+1≤2^44) then
 bif decide (0≤i13) then
 (n.aC[i13.toNat]?).bind fun i24=>
 bif decide ((NQ.length+1)*8≤2^44)&&decide (NQ.length+1≤2^44) then
 some (Sum.inl (IntKind.i64.wrap (i13-1),De,sH++[Bx],NQ++[i24]))
 else
 none
 else
 none
 else
 none
 else
 none
 else
 some (Sum.inr (i13,De,sH,NQ))) (IntKind.i64.wrap ((↑n.af.length:Int)-1),H8,Ae,SE)).bind fun (i25,l26,l27,l28)=>
 (aa.bG n).bind fun (yf,i30)=>
 (aa.bG (bJ.mk l26 l27 l28)).bind fun (Qm,i32)=>
 bif !i30==0 then
 some false
 else
 bif !i32==0 then
 some false
 else
 bif !(↑yf.length:Int)==(↑n.af.length:Int) then
 some false
 else
 bif !(↑Qm.length:Int)==(↑yf.length:Int) then
 some false
 else
 (aO (ω:=Bool×Int) (fun ((OX,i34):Bool×Int)=>
 bif decide (i34<(↑yf.length:Int)) then
 bif OX then
 bif decide (0≤i34) then
 (yf[i34.toNat]?).bind fun Re=>
 bif decide (0≤IntKind.i64.wrap (IntKind.i64.wrap ((↑Qm.length:Int)-1)-i34)) then
 (Qm[(IntKind.i64.wrap (IntKind.i64.wrap ((↑Qm.length:Int)-1)-i34)).toNat]?).bind fun Ut=>
 some (Sum.inl (Re.du==Ut.du&&Re.Den==Ut.Den,IntKind.i64.wrap (i34+1)))
 else
 none
 else
 none
 else
 some (Sum.inl (false,IntKind.i64.wrap (i34+1)))
 else
 some (Sum.inr (OX,i34))) (b1,0)).bind fun (VV,i38)=>
 some VV
 else
 some b1
noncomputable def Go.aa.ky(n:bJ)(x:List ak):Option Bool:=
 (aa.il).bind fun b1=>
 (aa.gp n).bind fun b2=>
 bif !b2 then
 some b1
 else
 bif decide (50<(↑x.length:Int)) then
 some b1
 else
 (aa.bG n).bind fun (l3,i4)=>
 (aa.vY n).bind fun (l5,i6)=>
 bif b1 then
 (aa.lU l3 l5).bind fun b7=>
 bif b7 then
 bif i4==i6 then
 (aa.jj n x).bind fun b8=>
 (aa.vZ n x).bind fun b9=>
 bif b8==b9 then
 (aa.gn n).bind fun Rb=>
 (aa.cN n).bind fun SH=>
 some (Rb==SH)
 else
 some false
 else
 some false
 else
 some false
 else
 some false
noncomputable def Go.aa.qT(n:bJ)(x:List ak):Option Bool:=
 (aa.il).bind fun b1=>
 (aa.gp n).bind fun b2=>
 bif b2 then
 (aa.cN n).bind fun b3=>
 bif !b3 then
 some b1
 else
 bif decide (50<(↑x.length:Int)) then
 some b1
 else
 (aa.bG n).bind fun (l4,i5)=>
 (aa.jj n l4).bind fun b6=>
 (aa.jj n x).bind fun b7=>
 (aO (ω:=Bool×Int) (fun ((b8,i9):Bool×Int)=>
 bif decide (i9<(↑l4.length:Int)) then
 bif b8 then
 bif decide (0≤i9) then
 (l4[i9.toNat]?).bind fun CX=>
 bif decide (1≤CX.Den) then
 bif decide (0≤i9) then
 (l4[i9.toNat]?).bind fun Ms=>
 some (Sum.inl (decide (Ms.Den≤18),IntKind.i64.wrap (i9+1)))
 else
 none
 else
 some (Sum.inl (false,IntKind.i64.wrap (i9+1)))
 else
 none
 else
 some (Sum.inl (false,IntKind.i64.wrap (i9+1)))
 else
 some (Sum.inr (b8,i9))) (b1,0)).bind fun (Ef,i13)=>
 bif Ef then
 bif i5==0 then
 bif b6 then
 (aa.lU x l4).bind fun VS=>
 some (b7==VS)
 else
 some false
 else
 some false
 else
 some false
 else
 some b1
namespace Go.Proofs.Ytedjbjphpnkpoaa
noncomputable def hints:List (Nat×Nat×Hint):=[(43,2,⟨[(4,.val 4),(5,.val 3)],[6,7,8,9,12,13,14,15,16,17,18,19,20,21,22,23,24,25,26,27,28,29,30,31,32,33,34,35,36,37,38,39,40,10,11],[],[⟨none,[(4,.val 4)],[],[],[]⟩,⟨some 0,[(4,.val 4),(5,.val 3)],[],[],[]⟩]⟩),(18,1004,⟨[(2,.val 4),(3,.val 3)],[25,26,27,28,29,32,33,34,35,36,37,38,39,40,41,42,43,44,45,30,31],[],[⟨none,[(2,.val 4)],[],[],[]⟩,⟨some 0,[(2,.val 4),(3,.val 3)],[],[],[]⟩]⟩),(18,1009,⟨[(2,.val 4),(4,.val 3)],[46,47,48,49,50,53,54,55,56,57,58,59,60,61,5,62,63,64,65,66,67,68,69,70,71,72,73,74,75,76,77,78,79,51,52],[],[⟨none,[(2,.val 4)],[],[],[]⟩,⟨some 2,[(2,.val 4),(4,.val 3)],[],[],[]⟩]⟩),(32,2,⟨[(4,.val 4),(5,.val 3)],[6,7,8,9,12,13,14,15,16,17,10,11],[],[⟨none,[(4,.val 4)],[],[],[]⟩,⟨some 0,[(4,.val 4),(5,.val 3)],[],[],[]⟩]⟩),(59,1,⟨[(0,.val 3),(1,.val 3)],[6,7,8,9,10,5,11,12],[],[⟨some 0,[(0,.val 3),(1,.val 3)],[],[],[]⟩]⟩),(31,3004,⟨[(11,.val 3),(12,.val 3)],[20,21,22,23,24,27,28,29,30,31,32,33,13,34,35,36,37,38,39,40,42,43,44,45,46,47,41,48,49,50,51,52,53,54,55,56,57,58,59,25,26],[(2,.agg [.val 2,.val 2])],[⟨some 0,[(11,.val 3),(12,.val 3)],[],[],[]⟩]⟩),(13,5012,⟨[(9,.val 3),(11,.val 3)],[40,41,42,43,44,48,49,50,51,52,47,53,54,12,13,56,57,58,55,59,60,14,15,61,62,63,64,65,66,67,68,45,46],[(4,.agg [.val 2,.val 2])],[⟨some 2,[(9,.val 3),(11,.val 3)],[],[],[]⟩]⟩),(13,5020,⟨[(10,.val 3),(9,.val 3),(16,.val 3)],[69,70,71,72,73,76,77,78,79,80,81,17,83,84,85,82,86,87,18,19,88,89,90,91,92,93,94,95,96,97,98,99,100,101,102,103,104,105,106,74,75],[(4,.agg [.val 2,.val 2])],[⟨some 4,[(10,.val 3),(9,.val 3),(16,.val 3)],[],[],[]⟩]⟩),(13,5029,⟨[(7,.val 3),(20,.val 3)],[107,108,109,110,111,114,115,116,117,118,119,120,121,122,123,124,21,125,126,127,128,129,130,131,132,133,134,135,136,137,138,139,140,141,142,143,144,145,146,147,148,149,150,112,113],[(2,.fix 35),(3,.fix 4)],[⟨some 6,[(7,.val 3),(20,.val 3)],[],[],[]⟩]⟩),(13,4007,⟨[(7,.val 3)],[37,38,39,8,9,10,11,40,41,42,43,44,48,49,50,51,52,47,53,54,12,13,56,57,58,55,59,60,14,15,61,62,63,64,65,66,67,68,45,46,16,69,70,71,72,73,76,77,78,79,80,81,17,83,84,85,82,86,87,18,19,88,89,90,91,92,93,94,95,96,97,98,99,100,101,102,103,104,105,106,74,75,20,107,108,109,110,111,114,115,116,117,118,119,120,121,122,123,124,21,125,126,127,128,129,130,131,132,133,134,135,136,137,138,139,140,141,142,143,144,145,146,147,148,149,150,112,113],[(2,.fix 35),(3,.fix 4)],[⟨some 0,[(7,.val 3)],[],[],[]⟩]⟩),(56,7001,⟨[(12,.val 3)],[13,14,15,16,4,5,17,18,19,20,21,22,23,24,25,26],[(3,.one (.val 2)),(2,.agg [.val 2,.val 2])],[⟨some 0,[(12,.val 3)],[],[(6,.ready)],[]⟩]⟩),(15,2004,⟨[(4,.val 4),(30,.val 3)],[31,32,33,34,6,5,35,36,37,38,39,40,41,42,43,44,45,46,47,48,49,50,51,52,53,54,55,56,57,58,59,60,61],[],[⟨none,[(4,.val 4)],[.gV],[],[]⟩,⟨some 0,[(4,.val 4),(30,.val 3)],[],[],[]⟩]⟩),(15,6012,⟨[(72,.val 3)],[73,74,75,76,9,10,77,78,79,80,81,82,83,84,85,86,87,88,89,90,91],[(4,.fix 4)],[⟨some 2,[(72,.val 3)],[],[],[]⟩]⟩),(56,16001,⟨[(12,.val 3)],[13,14,15,16,4,5,17,18,19,20,21,22,23,24,25,26],[(12,.one (.val 4))],[⟨some 0,[(12,.val 3)],[],[(15,.ready),(10,.busy)],[]⟩]⟩),(56,11001,⟨[(12,.val 3)],[13,14,15,16,4,5,17,18,19,20,21,22,23,24,25,26],[(4,.fix 4)],[⟨some 0,[(12,.val 3)],[],[(10,.ready)],[]⟩]⟩),(15,6017,⟨[(4,.val 4),(95,.val 3)],[96,97,11,99,100,101,98,102,103,12,13,104,105,106,107,108,147],[(4,.fix 4)],[⟨none,[(4,.val 4)],[.gV,.gV],[],[]⟩,⟨some 4,[(4,.val 4),(95,.val 3)],[],[],[]⟩]⟩),(22,3003,⟨[(7,.val 4),(9,.val 3)],[14,15,16,17,18,21,22,23,24,25,26,27,10,28,30,31,32,33,34,35,29,36,37,11,12,38,39,40,41,19,20],[(2,.agg [.val 2,.val 2])],[⟨none,[(7,.val 4)],[.gV],[],[(1,.agg [.val 2,.val 2])]⟩,⟨some 0,[(7,.val 4),(9,.val 3)],[],[],[]⟩]⟩),(39,2003,⟨[(8,.val 4),(11,.val 3)],[22,23,24,25,26,29,30,31,32,33,34,35,12,37,38,39,40,41,42,43,44,45,36,46,47,13,14,48,49,50,51,52,27,28],[],[⟨none,[(8,.val 4)],[],[],[]⟩,⟨some 0,[(8,.val 4),(11,.val 3)],[],[],[]⟩]⟩),(16,1005,⟨[(4,.val 4),(6,.val 3)],[26,27,28,29,32,33,34,35,36,7,37,38,39,40,41,42,43,44,45,46,47,48,49,50,51,52,53,54,55,56,57,58,59,60,61,62,63,64,65,66,67,68,69,70,71,72,73,30,31],[],[⟨none,[(4,.val 4)],[],[],[]⟩,⟨some 0,[(4,.val 4),(6,.val 3)],[],[],[]⟩]⟩),(16,1011,⟨[(4,.val 4),(8,.val 3)],[74,75,76,77,78,82,83,84,85,81,86,87,9,10,88,89,90,91,92,93,94,95,96,97,98,99,100,101,102,79,80],[],[⟨none,[(4,.val 4)],[.gV],[],[]⟩,⟨some 2,[(4,.val 4),(8,.val 3)],[],[],[]⟩]⟩),(16,1021,⟨[(12,.val 4),(13,.val 3)],[136,137,138,139,140,141,142,143,144,145,146,147,150,151,152,153,154,155,156,157,158,159,160,161,148,149],[],[⟨some 6,[(12,.val 4),(13,.val 3)],[],[],[]⟩]⟩),(16,1017,⟨[(4,.val 4),(11,.val 3)],[103,104,105,106,109,110,111,112,113,114,115,116,117,118,119,120,121,122,123,124,125,126,127,128,129,130,131,132,133,134,135,12,13,136,137,138,139,140,141,142,143,144,145,146,147,150,151,152,153,154,155,156,157,158,159,160,161,148,149,162,163,107,108],[],[⟨none,[(4,.val 4)],[],[],[]⟩,⟨some 4,[(4,.val 4),(11,.val 3)],[],[],[]⟩]⟩),(11,1002,⟨[(2,.val 4),(3,.val 3)],[4,5,6,7,8,9,10,11,12,15,16,17,18,19,20,21,13,14],[],[⟨none,[(2,.val 4)],[],[],[]⟩,⟨some 0,[(2,.val 4),(3,.val 3)],[],[],[]⟩]⟩),(14,4,⟨[(4,.val 4),(5,.val 3)],[11,12,13,14,17,18,19,20,21,22,23,24,25,15,16],[],[⟨none,[(4,.val 4)],[],[],[]⟩,⟨some 0,[(4,.val 4),(5,.val 3)],[],[],[]⟩]⟩),(86,2,⟨[(4,.val 3),(8,.val 3)],[9,10,5,11,12,13,14,15,16,17,18],[],[⟨none,[(4,.val 3)],[],[],[]⟩,⟨some 0,[(4,.val 3),(8,.val 3)],[],[],[]⟩]⟩),(42,2,⟨[(4,.val 4),(9,.val 3)],[10,11,12,13,5,6,14,15,16,17,18,19,20,21,22,23,24,25,26,27,28,29,30,31,32],[],[⟨none,[(4,.val 4)],[],[],[]⟩,⟨some 0,[(4,.val 4),(9,.val 3)],[],[],[]⟩]⟩),(17,2004,⟨[(2,.val 4),(33,.val 3)],[34,35,36,4,37,38,39,40],[],[⟨none,[(2,.val 4)],[],[],[]⟩,⟨some 0,[(2,.val 4),(33,.val 3)],[],[],[]⟩]⟩),(17,2010,⟨[(2,.val 4),(44,.val 3)],[45,46,47,6,48,49,50,51,52,53,54],[],[⟨none,[(2,.val 4)],[],[],[]⟩,⟨some 2,[(2,.val 4),(44,.val 3)],[],[],[]⟩]⟩),(48,2,⟨[(4,.val 3),(8,.val 3)],[9,10,5,11,12,13,14,15,16,17,18],[],[⟨none,[(4,.val 3)],[],[],[]⟩,⟨some 0,[(4,.val 3),(8,.val 3)],[],[],[]⟩]⟩),(12,6006,⟨[(5,.own 1 5),(25,.val 3)],[26,27,6,28,29,30,31,32,33],[(5,.list 82)],[⟨some 0,[(5,.own 1 5),(25,.val 3)],[],[],[]⟩]⟩),(12,6011,⟨[(5,.own 1 5),(37,.val 3)],[38,39,7,40,41,42,43,44,45],[(5,.list 82)],[⟨some 2,[(5,.own 1 5),(37,.val 3)],[],[],[]⟩]⟩),(30,8003,⟨[(4,.own 2 6),(5,.own 1 7),(19,.val 3)],[20,21,22,7,24,25,26,23,27,28,8,9,29,30,31,32,33,34,35,36,37,38],[(6,.list 35),(7,.list 82)],[⟨some 0,[(4,.own 2 6),(5,.own 1 7),(19,.val 3)],[],[],[]⟩]⟩),(49,10003,⟨[(13,.val 3)],[14,15,16,7,17,18,19,20,21,22],[(9,.agg [.val 2,.val 2])],[⟨some 0,[(13,.val 3)],[],[],[]⟩]⟩),(30,10015,⟨[(11,.own 1 9),(54,.val 3)],[55,56,14,57,58,59,60,61,62,63,64,65,66,67,68,69,70,71,72,73,74,75,76,77,78,79,80,81,82,83],[(9,.list 3)],[⟨some 4,[(11,.own 1 9),(54,.val 3)],[],[],[]⟩]⟩),(30,10012,⟨[(11,.own 1 9),(43,.val 3)],[44,45,46,47,12,13,48,49,50,51,52,53,54,55,56,14,57,58,59,60,61,62,63,64,65,66,67,68,69,70,71,72,73,74,75,76,77,78,79,80,81,82,83,84],[(9,.list 3)],[⟨some 2,[(11,.own 1 9),(43,.val 3)],[],[],[]⟩]⟩),(30,10022,⟨[(87,.val 3)],[88,89,90,16,91,92,93,94,95,96,97,98,99,100,101,102,103,104],[(3,.fix 35),(2,.fix 4)],[⟨some 6,[(87,.val 3)],[],[],[]⟩]⟩),(12,6015,⟨[],[46,47,48,49,50,51,52,53],[(3,.fix 35),(2,.fix 4)],[⟨some 4,[],[],[],[]⟩]⟩),(19,3003,⟨[(8,.val 3)],[18,19,20,21,22,25,26,27,28,29,30,31,32,33,34,23,24],[(2,.fix 3)],[⟨some 0,[(8,.val 3)],[],[],[]⟩]⟩),(19,4014,⟨[(11,.val 3),(12,.val 3)],[67,68,69,70,71,72,73,74,77,78,79,80,81,82,83,84,85,86,87,88,89,75,76],[],[⟨some 4,[(11,.val 3),(12,.val 3)],[],[],[]⟩]⟩),(19,4019,⟨[(13,.val 3)],[101,102,103,104,105,106,107,108,111,112,113,114,115,116,117,118,119,120,121,122,123,124,125,126,127,109,110],[(2,.fix 3)],[⟨some 6,[(13,.val 3)],[],[],[]⟩]⟩),(19,4008,⟨[(10,.val 3)],[39,40,41,42,43,44,45,46,47,48,49,52,53,11,54,55,56,57,58,59,60,61,62,63,64,65,66,12,67,68,69,70,71,72,73,74,77,78,79,80,81,82,83,84,85,86,87,88,89,75,76,90,91,92,93,94,95,96,97,98,99,100,13,101,102,103,104,105,106,107,108,111,112,113,114,115,116,117,118,119,120,121,122,123,124,125,126,127,109,110,50,51],[(2,.fix 3),(3,.fix 3)],[⟨some 2,[(10,.val 3)],[],[],[]⟩]⟩),(5,1017,⟨[(15,.val 4),(16,.val 3)],[69,70,71,72,76,77,78,79,80,81,82,83,84,75,85,86,17,18,87,88,89,90,91,92,93,94,95,96,97,98,99,100,101,102,103,104,73,74],[],[⟨some 2,[(15,.val 4),(16,.val 3)],[],[],[]⟩]⟩),(5,1012,⟨[(7,.val 4),(14,.val 3)],[52,53,54,55,58,59,60,61,62,63,64,65,66,67,68,15,16,69,70,71,72,76,77,78,79,80,81,82,83,84,75,85,86,17,18,87,88,89,90,91,92,93,94,95,96,97,98,99,100,101,102,103,104,73,74,105,106,107,108,56,57],[],[⟨some 0,[(7,.val 4),(14,.val 3)],[],[],[]⟩]⟩),(7,6016,⟨[(18,.val 3)],[123,124,125,126,130,131,132,133,134,135,129,136,137,19,20,139,140,141,142,143,144,138,145,146,21,22,147,148,149,150,151,152,153,154,155,156,157,158,127,128],[(5,.agg [.val 2,.val 2]),(4,.agg [.val 2,.val 2])],[⟨some 0,[(18,.val 3)],[],[],[]⟩]⟩),(4,1010,⟨[(5,.val 4),(12,.val 3)],[40,41,42,43,46,47,48,49,50,51,52,53,54,55,56,57,58,59,60,61,62,44,45],[],[⟨some 0,[(5,.val 4),(12,.val 3)],[],[],[]⟩]⟩),(6,4008,⟨[(9,.val 3)],[39,40,41,42,43,46,47,48,49,50,51,52,53,54,55,56,57,44,45],[(3,.agg [.own 1 1,.val 23,.own 1 2]),(1,.list 3),(2,.list 3)],[⟨some 0,[(9,.val 3)],[],[],[]⟩]⟩),(6,4012,⟨[(10,.val 3)],[58,59,60,61,62,65,66,67,68,69,70,71,72,73,74,75,76,63,64],[(3,.agg [.own 1 1,.val 23,.own 1 2]),(1,.list 3),(2,.list 3)],[⟨some 2,[(10,.val 3)],[],[],[]⟩]⟩),(6,4023,⟨[(5,.val 4),(16,.val 3)],[105,106,107,108,111,112,113,114,115,116,117,118,119,120,121,122,123,124,125,126,127,128,129,130,131,132,133,134,135,136,137,138,109,110],[],[⟨some 4,[(5,.val 4),(16,.val 3)],[],[],[]⟩]⟩),(8,5008,⟨[(7,.val 3)],[31,32,35,36,37,38,39,40,41,42,43,44,33,34],[(1,.agg [.own 1 2,.own 1 3,.own 1 4]),(2,.list 3),(3,.list 22),(4,.list 3)],[⟨some 0,[(7,.val 3)],[],[],[]⟩]⟩),(8,6016,⟨[(9,.own 1 5),(10,.val 3)],[60,61,64,65,66,67,68,69,70,71,72,73,74,75,76,77,78,79,62,63],[(5,.list 3)],[⟨some 4,[(9,.own 1 5),(10,.val 3)],[],[],[]⟩]⟩),(8,5012,⟨[(8,.val 3)],[49,50,9,53,54,55,56,57,58,59,10,60,61,64,65,66,67,68,69,70,71,72,73,74,75,76,77,78,79,62,63,80,81,82,83,84,85,86,87,88,89,90,91,92,93,94,95,51,52],[(1,.agg [.own 1 2,.own 1 3,.own 1 4]),(2,.list 3),(3,.list 22),(4,.list 3)],[⟨some 2,[(8,.val 3)],[],[],[]⟩]⟩),(8,5026,⟨[(3,.val 4),(15,.val 3)],[127,128,129,130,133,134,135,136,137,138,139,140,141,142,143,144,145,146,147,148,131,132],[],[⟨some 6,[(3,.val 4),(15,.val 3)],[],[],[]⟩]⟩)]
noncomputable def Qo:List (Nat×Nat×Hint):=[(56,7001,⟨[(12,.val 3)],[13,14,15,16,4,5,17,18,19,20,21,22,23,24,25,26],[(3,.agg [.val 2,.val 2])],[⟨none,[],[],[(6,.jump none)],[(2,.one (.val 4)),(1,.agg [.val 2,.val 2])]⟩,⟨some 0,[(12,.val 3)],[],[(6,.ready)],[]⟩]⟩)]
def uN:FuncId→Nat→Bool:=fun f _=>Nat.beq f 10
noncomputable def V7:List (Nat×uM T):=[(41,⟨[3,3,3],[4],fun x=>Go.aa.nH x.1 x.2.1 x.2.2⟩),
 (42,⟨[22,3],[4],fun x=>Go.aa.jS x.1 x.2⟩),
 (40,⟨[23],[22],fun x=>Go.aa.gU x⟩),
 (17,⟨[25],[4],fun x=>Go.aa.gn x⟩),
 (48,⟨[53,4],[3],fun x=>Go.aa.oa x.1 x.2⟩),
 (29,⟨[53,4],[4],fun x=>Go.aa.fc x.1 x.2⟩),
 (52,⟨[87],[4],fun x=>Go.aa.bO x⟩),
 (82,⟨[3,3],[3],fun x=>Go.aa.jR x.1 x.2⟩),
 (53,⟨[87],[87],fun x=>Go.aa.cS x⟩),
 (33,⟨[35],[4],fun x=>Go.aa.cM x⟩),
 (95,⟨[3],[4],fun x=>Go.aa.qv x⟩),
 (83,⟨[3,3],[3],fun x=>Go.aa.pO x.1 x.2⟩),
 (54,⟨[35,35],[3,29],fun x=>Go.aa.qu x.1 x.2⟩),
 (34,⟨[35,35],[4],fun x=>Go.aa.fR x.1 x.2⟩),
 (43,⟨[22,3],[4],fun x=>Go.aa.n9 x.1 x.2⟩),
 (18,⟨[25],[4],fun x=>Go.aa.cN x⟩),
 (32,⟨[22,3],[4],fun x=>Go.aa.pT x.1 x.2⟩),
 (58,⟨[3,3],[4],fun x=>Go.aa.oi x.1 x.2⟩),
 (60,⟨[3],[3],fun x=>Go.aa.qD x⟩),
 (59,⟨[3,3],[3],fun x=>Go.aa.jW x.1 x.2⟩),
 (38,⟨[35],[4],fun x=>Go.aa.dA x⟩),
 (62,⟨[3,3],[35,29],fun x=>Go.aa.jX x.1 x.2⟩),
 (50,⟨[35,35],[35,29],fun x=>Go.aa.Af x.1 x.2⟩),
 (51,⟨[35,35],[35,29],fun x=>Go.aa.Ag x.1 x.2⟩),
 (31,⟨[25,53,26,3],[35,3],fun x=>Go.aa.vX x.1 x.2.1 x.2.2.1 x.2.2.2⟩),
 (21,⟨[35,35],[3,29],fun x=>Go.aa.iH x.1 x.2⟩),
 (13,⟨[25],[26,29],fun x=>Go.aa.vY x⟩),
 (35,⟨[3],[35],fun x=>Go.aa.dx x⟩),
 (86,⟨[22,3],[3],fun x=>Go.aa.mM x.1 x.2⟩),
 (57,⟨[22,3],[4],fun x=>Go.aa.bM x.1 x.2⟩),
 (96,⟨[87],[35,29],fun x=>Go.aa.bq x⟩),
 (55,⟨[35,35],[35,29],fun x=>Go.aa.Ah x.1 x.2⟩),
 (36,⟨[52,57],[35,4],fun x=>Go.aa.mB x.1 x.2⟩),
 (15,⟨[25,26],[4],fun x=>Go.aa.jj x.1 x.2⟩),
 (44,⟨[35,35],[35,29],fun x=>Go.aa.Ai x.1 x.2⟩),
 (22,⟨[25,26,3],[35,4],fun x=>Go.aa.oj x.1 x.2.1 x.2.2⟩),
 (39,⟨[25,26,3,3],[4],fun x=>Go.aa.oq x.1 x.2.1 x.2.2.1 x.2.2.2⟩),
 (16,⟨[25,26],[4],fun x=>Go.aa.vZ x.1 x.2⟩),
 (11,⟨[25],[4],fun x=>Go.aa.gp x⟩),
 (14,⟨[26,26],[4],fun x=>Go.aa.lU x.1 x.2⟩),
 (117,⟨[35,35],[35,29],fun x=>Go.aa.nG x.1 x.2⟩),
 (118,⟨[35,35],[35,29],fun x=>Go.aa.qt x.1 x.2⟩),
 (115,⟨[57,52],[35,4],fun x=>Go.aa.ck x.1 x.2⟩),
 (116,⟨[57,52,3],[4],fun x=>Go.aa.fG x.1 x.2.1 x.2.2⟩),
 (121,⟨[58,52],[35,4],fun x=>Go.aa.cz x.1 x.2⟩),
 (122,⟨[58,52,3],[4],fun x=>Go.aa.lV x.1 x.2.1 x.2.2⟩),
 (12,⟨[25],[26,29],fun x=>Go.aa.bG x⟩),
 (28,⟨[3],[35],fun x=>Go.aa.Df x⟩),
 (27,⟨[25,26],[4],fun x=>Go.aa.K2 x.1 x.2⟩),
 (19,⟨[25,36,3],[22],fun x=>Go.aa.pU x.1 x.2.1 x.2.2⟩),
 (20,⟨[35,3,3],[3],fun x=>Go.aa.lW x.1 x.2.1 x.2.2⟩),
 (10,⟨[],[4],fun x=>Go.aa.il ⟩),
 (5,⟨[25,36,5],[4],fun x=>Go.aa.sk x.1 x.2.1 x.2.2⟩),
 (6,⟨[25,3],[4],fun x=>Go.aa.tG x.1 x.2⟩),
 (7,⟨[25,3,3],[4],fun x=>Go.aa.uW x.1 x.2.1 x.2.2⟩),
 (8,⟨[25],[4],fun x=>Go.aa.fH x⟩),
 (3,⟨[25,26],[4],fun x=>Go.aa.ky x.1 x.2⟩),
 (4,⟨[25,26],[4],fun x=>Go.aa.qT x.1 x.2⟩)]
noncomputable abbrev S(n:Nat):od:=GX C T Bz (Go.PI.GN hints) uN V7 n kc tB SL
theorem K3{h h':FuncId→Nat→Option Hint}{r:FuncId→Nat→Bool}{L:List (Nat×uM T)}{n:Nat}(k:(GX C T Bz h r L n kc tB SL).Ok):(GX C T Bz h' r L n kc tB SL).Ok:=⟨k.T,k.Q,k.Z,k.sum,k.own⟩
theorem s0:(S 0).Ok:=Dg Yg Qp Yh sf
end Go.Proofs.Ytedjbjphpnkpoaa
end
