/- Part 5 of the proof: texts of this session laid one behind the other. -/
import Derived.Test.YtedjbjphpnkpoaaProg
import Derived.KernelRfl
import Derived.Test.YtedjbjphpnkpoaaX4
set_option linter.unusedVariables false
set_option linter.unusedSimpArgs false
section
/- The types of this seat: what must hold of them (printed by gen_tys.py out of the dump). -/
set_option maxRecDepth 100000
namespace Go.Proofs.Ytedjbjphpnkpoaa
open Go.PI
theorem Ir{H:ah den}{v:V}{vs:List V}{l:List AV}:RL T H (v::vs) l↔∃ c cs,l=c::cs∧R T H v c∧RL T H vs cs:=DB (T:=T)
theorem Ua{H:ah den}{l:List AV}:RL T H [] l↔l=[]:=Fu (T:=T)
theorem SX(x:bP)(a:AV)(H:ah den)(h:H2 x a):R T H (NH x) a:=by
 obtain⟨a0,a1,a2,h0,h1,h2,rfl⟩:=h
 unfold NH
 simp only[R]
 refine⟨_,rfl,?_⟩
 simp only[RL,R,and_true,true_and]
 exact⟨h0,h1,h2⟩
theorem SY(v:V)(x:bP)(a:AV)(H:ah den)(h:NI v=some x)(hr:R T H v a):H2 x a:=by
 unfold NI at h
 split at h
 ·simp only[Option.bind_eq_some_iff,Option.some.injEq]at h
  obtain⟨b0,g0,b1,g1,b2,g2,rfl⟩:=h
  simp only[R]at hr
  obtain⟨_,rfl,hl⟩:=hr
  obtain⟨c0,_,rfl,r0,hl⟩:=Ir.1 hl
  obtain⟨c1,_,rfl,r1,hl⟩:=Ir.1 hl
  obtain⟨c2,_,rfl,r2,hl⟩:=Ir.1 hl
  cases Ua.1 hl
  have e0:=fY (T:=T) (e:=3) (fun _ _ _ h hr=>eH (T:=T) h hr) g0 r0
  have e1:=fY (T:=T) (e:=22) (fun _ _ _ h hr=>fY (T:=T) (e:=3) (fun _ _ _ h hr=>eH (T:=T) h hr) h hr) g1 r1
  have e2:=fY (T:=T) (e:=3) (fun _ _ _ h hr=>eH (T:=T) h hr) g2 r2
  exact⟨_,_,_,e0,e1,e2,rfl⟩
 ·simp at h
theorem SZ(x:bP)(a:AV)(h:H2 x a):aG true 3 a=true∧closed a=true:=by
 obtain⟨a0,a1,a2,h0,h1,h2,rfl⟩:=h
 have k0:=eG h0
 have k1:=eG h1
 have k2:=eG h2
 exact⟨by simp[aG,tI,qI,tJ,k0.2.2,k1.2.2,k2.2.2],by simp[closed,aY,k0.2.1,k1.2.1,k2.2.1]⟩
theorem S0(x:aj)(a:AV)(H:ah den)(h:DD x a):R T H (NJ x) a:=by
 unfold DD at h; subst h
 unfold NJ
 simp only[R]
 refine⟨_,rfl,?_⟩
 simp only[RL,R,and_true,true_and]
theorem NN(v:V)(x:aj)(a:AV)(H:ah den)(h:Lc v=some x)(hr:R T H v a):DD x a:=by
 unfold Lc at h
 split at h
 ·simp only[Option.bind_eq_some_iff,Option.some.injEq]at h
  obtain⟨b0,g0,b1,g1,rfl⟩:=h
  simp only[R]at hr
  obtain⟨_,rfl,hl⟩:=hr
  obtain⟨c0,_,rfl,r0,hl⟩:=Ir.1 hl
  obtain⟨c1,_,rfl,r1,hl⟩:=Ir.1 hl
  cases Ua.1 hl
  cases eH (T:=T) g0 r0
  cases eH (T:=T) g1 r1
  exact rfl
 ·simp at h
theorem S1(x:aj)(a:AV)(h:DD x a):aG true 2 a=true∧closed a=true:=by
 unfold DD at h; subst h
 exact⟨by simp[aG,tI,qI,tJ],by simp[closed,aY]⟩
theorem Qh(x:ca)(a:AV)(H:ah den)(h:H3 x a):R T H (Ld x) a:=by
 obtain⟨a0,a1,a2,a3,a4,h0,h1,h2,h3,h4,rfl⟩:=h
 unfold Ld
 simp only[R]
 refine⟨_,rfl,?_⟩
 simp only[RL,R,and_true,true_and]
 exact⟨h0,h1,h2,h3,h4⟩
theorem Qi(v:V)(x:ca)(a:AV)(H:ah den)(h:Lf v=some x)(hr:R T H v a):H3 x a:=by
 unfold Lf at h
 split at h
 ·simp only[Option.bind_eq_some_iff,Option.some.injEq]at h
  obtain⟨b0,g0,b1,g1,b2,g2,b3,g3,b4,g4,rfl⟩:=h
  simp only[R]at hr
  obtain⟨_,rfl,hl⟩:=hr
  obtain⟨c0,_,rfl,r0,hl⟩:=Ir.1 hl
  obtain⟨c1,_,rfl,r1,hl⟩:=Ir.1 hl
  obtain⟨c2,_,rfl,r2,hl⟩:=Ir.1 hl
  obtain⟨c3,_,rfl,r3,hl⟩:=Ir.1 hl
  obtain⟨c4,_,rfl,r4,hl⟩:=Ir.1 hl
  cases Ua.1 hl
  have e0:=fY (T:=T) (e:=3) (fun _ _ _ h hr=>eH (T:=T) h hr) g0 r0
  have e1:=fY (T:=T) (e:=22) (fun _ _ _ h hr=>fY (T:=T) (e:=3) (fun _ _ _ h hr=>eH (T:=T) h hr) h hr) g1 r1
  have e2:=fY (T:=T) (e:=3) (fun _ _ _ h hr=>eH (T:=T) h hr) g2 r2
  have e3:=fY (T:=T) (e:=4) (fun _ _ _ h hr=>La (T:=T) h hr) g3 r3
  have e4:=fY (T:=T) (e:=35) (fun _ _ _ h hr=>NN _ _ _ H h hr) g4 r4
  exact⟨_,_,_,_,_,e0,e1,e2,e3,e4,rfl⟩
 ·simp at h
theorem S2(x:ca)(a:AV)(h:H3 x a):aG true 5 a=true∧closed a=true:=by
 obtain⟨a0,a1,a2,a3,a4,h0,h1,h2,h3,h4,rfl⟩:=h
 have k0:=eG h0
 have k1:=eG h1
 have k2:=eG h2
 have k3:=eG h3
 have k4:=eG h4
 exact⟨by simp[aG,tI,qI,tJ,k0.2.2,k1.2.2,k2.2.2,k3.2.2,k4.2.2],by simp[closed,aY,k0.2.1,k1.2.1,k2.2.1,k3.2.1,k4.2.1]⟩
theorem S3(x:dP)(a:AV)(H:ah den)(h:DE x a):R T H (NK x) a:=by
 unfold DE at h; subst h
 obtain⟨b,n⟩:=x
 cases b<;>simp[NK,R]
theorem Qj(v:V)(x:dP)(a:AV)(H:ah den)(h:Lg v=some x)(hr:R T H v a):DE x a:=by
 unfold Lg at h
 split at h
 ·rename_i t w
  simp only[Option.bind_eq_some_iff]at h
  obtain⟨n,g,h⟩:=h
  simp only[R]at hr
  obtain⟨a',rfl,hr⟩:=hr
  have e:=eH (T:=T) g hr
  subst e
  cases h1:Nat.beq t 57 with
  |true=>
   rw[h1]at h
   obtain rfl:=Nat.eq_of_beq_eq_true h1
   cases h
   rfl
  |false=>
   rw[h1]at h
   cases h2:Nat.beq t 58 with
   |true=>
    rw[h2]at h
    obtain rfl:=Nat.eq_of_beq_eq_true h2
    cases h
    rfl
   |false=>rw[h2]at h; cases h
 ·simp at h
theorem S4(x:dP)(a:AV)(h:DE x a):aG false 1 a=true∧closed a=true:=by
 unfold DE at h; subst h
 exact⟨rfl,rfl⟩
theorem S5(x:aj)(a:AV)(H:ah den)(h:Fv x a):R T H (NL x) a:=by
 unfold Fv at h; subst h
 unfold NL
 simp only[R]
 refine⟨_,rfl,?_⟩
 simp only[RL,R,and_true,true_and]
theorem S6(v:V)(x:aj)(a:AV)(H:ah den)(h:NM v=some x)(hr:R T H v a):Fv x a:=by
 unfold NM at h
 split at h
 ·simp only[Option.bind_eq_some_iff,Option.some.injEq]at h
  obtain⟨b0,g0,b1,g1,rfl⟩:=h
  simp only[R]at hr
  obtain⟨_,rfl,hl⟩:=hr
  obtain⟨c0,_,rfl,r0,hl⟩:=Ir.1 hl
  obtain⟨c1,_,rfl,r1,hl⟩:=Ir.1 hl
  cases Ua.1 hl
  cases eH (T:=T) g0 r0
  cases eH (T:=T) g1 r1
  exact rfl
 ·simp at h
theorem S7(x:aj)(a:AV)(h:Fv x a):aG true 2 a=true∧closed a=true:=by
 unfold Fv at h; subst h
 exact⟨by simp[aG,tI,qI,tJ],by simp[closed,aY]⟩
theorem WD(t:Nat)(x:den t)(a:AV)(H:ah den)(h:rp t x a):R T H (up t x) a:=by
 unfold rp at h
 split at h
 ·exact uL (T:=T) h
 ·exact uL (T:=T) h
 ·exact uL (T:=T) h
 ·exact uL (T:=T) h
 ·exact uL (T:=T) h
 ·exact uG (T:=T) (e:=3) h
 ·exact uG (T:=T) (e:=22) h
 ·exact SX _ _ H h
 ·exact SX _ _ H h
 ·exact uG (T:=T) (e:=35) h
 ·exact uL (T:=T) h
 ·exact S0 _ _ H h
 ·exact S0 _ _ H h
 ·exact uG (T:=T) (e:=73) h
 ·exact uG (T:=T) (e:=4) h
 ·exact Qh _ _ H h
 ·exact Qh _ _ H h
 ·exact uG (T:=T) (e:=82) h
 ·exact uL (T:=T) h
 ·exact uL (T:=T) h
 ·exact uL (T:=T) h
 ·exact uL (T:=T) h
 ·exact S3 _ _ H h
 ·exact S3 _ _ H h
 ·exact S5 _ _ H h
 ·exact S5 _ _ H h
 ·exact uL (T:=T) h
 ·exact uL (T:=T) h
 ·exact uL (T:=T) h
 ·exact uL (T:=T) h
 ·exact uP (T:=T) (fun b hb=>Qh _ _ H hb) rfl h
 ·exact h.elim
theorem WE(t:Nat)(v:V)(x:den t)(a:AV)(H:ah den)(h:dn t v=some x)(hr:R T H v a):rp t x a:=by
 revert x h hr
 refine dn.fun_cases_unfolding (motive:=fun t v r=>∀ (x:den t),r=some x→R T H v a→rp t x a) ?_ ?_ ?_ ?_ ?_ ?_ ?_ ?_ ?_ ?_ ?_ ?_ ?_ ?_ ?_ ?_ ?_ ?_ ?_ ?_ ?_ ?_ ?_ ?_ ?_ ?_ ?_ ?_ ?_ ?_ ?_ ?_ t v
 ·intro v x h hr; exact eH (T:=T) h hr
 ·intro v x h hr; exact eH (T:=T) h hr
 ·intro v x h hr; exact La (T:=T) h hr
 ·intro v x h hr; exact eH (T:=T) h hr
 ·intro v x h hr; exact SH (T:=T) h hr
 ·intro v x h hr; exact fY (T:=T) (e:=3) (fun _ _ _ h hr=>eH (T:=T) h hr) h hr
 ·intro v x h hr; exact fY (T:=T) (e:=22) (fun _ _ _ h hr=>fY (T:=T) (e:=3) (fun _ _ _ h hr=>eH (T:=T) h hr) h hr) h hr
 ·intro v x h hr; exact SY _ _ _ H h hr
 ·intro v x h hr; exact SY _ _ _ H h hr
 ·intro v x h hr; exact fY (T:=T) (e:=35) (fun _ _ _ h hr=>NN _ _ _ H h hr) h hr
 ·intro v x h hr; exact eH (T:=T) h hr
 ·intro v x h hr; exact NN _ _ _ H h hr
 ·intro v x h hr; exact NN _ _ _ H h hr
 ·intro v x h hr; exact fY (T:=T) (e:=73) (fun _ _ _ h hr=>eH (T:=T) h hr) h hr
 ·intro v x h hr; exact fY (T:=T) (e:=4) (fun _ _ _ h hr=>La (T:=T) h hr) h hr
 ·intro v x h hr; exact Qi _ _ _ H h hr
 ·intro v x h hr; exact Qi _ _ _ H h hr
 ·intro v x h hr; exact fY (T:=T) (e:=82) (fun _ _ _ h hr=>Qj _ _ _ H h hr) h hr
 ·intro v x h hr; exact eH (T:=T) h hr
 ·intro v x h hr; exact eH (T:=T) h hr
 ·intro v x h hr; exact eH (T:=T) h hr
 ·intro v x h hr; exact eH (T:=T) h hr
 ·intro v x h hr; exact Qj _ _ _ H h hr
 ·intro v x h hr; exact Qj _ _ _ H h hr
 ·intro v x h hr; exact S6 _ _ _ H h hr
 ·intro v x h hr; exact S6 _ _ _ H h hr
 ·intro v x h hr; exact eH (T:=T) h hr
 ·intro v x h hr; exact eH (T:=T) h hr
 ·intro v x h hr; exact eH (T:=T) h hr
 ·intro v x h hr; exact eH (T:=T) h hr
 ·intro v x h hr; exact Qd (T:=T) (fun _ _ h hr=>Qi _ _ _ H h hr) h hr
 ·intros; rename_i h _; cases h
theorem S8(t:Nat)(x:den t)(a:AV)(h:rp t x a):aG (SS t) (OH t) a=true∧closed a=true:=by
 unfold rp at h
 split at h
 ·exact yy (eI h)
 ·exact yy (eI h)
 ·exact yy (eB h)
 ·exact yy (eI h)
 ·exact yy (eS h)
 ·exact yy (eG h)
 ·exact yy (eG h)
 ·exact SZ _ _ h
 ·exact SZ _ _ h
 ·exact yy (eG h)
 ·exact yy (eI h)
 ·exact S1 _ _ h
 ·exact S1 _ _ h
 ·exact yy (eG h)
 ·exact yy (eG h)
 ·exact S2 _ _ h
 ·exact S2 _ _ h
 ·exact yy (eG h)
 ·exact yy (eI h)
 ·exact yy (eI h)
 ·exact yy (eI h)
 ·exact yy (eI h)
 ·exact S4 _ _ h
 ·exact S4 _ _ h
 ·exact S7 _ _ h
 ·exact S7 _ _ h
 ·exact yy (eI h)
 ·exact yy (eI h)
 ·exact yy (eI h)
 ·exact yy (eI h)
 ·exact yy (eP h)
 ·exact h.elim
theorem S9(t:Nat)(f:(den t→Bool)×(den t→V)×(den t→V))(h:Qg t=some f)(x:den t):(bif f.1 x then f.2.1 x else f.2.2 x)=up t x:=by
 unfold Qg at h
 split at h
 ·cases h; rfl
 ·cases h; rfl
 ·cases h
theorem XP:T.Ok:=⟨fun t x a H h=>WD t x a H h,fun t v x a H h hr=>WE t v x a H h hr,fun t x a h=>(S8 t x a h).1,fun t x a h=>(S8 t x a h).2,fun t f h x=>S9 t f h x⟩
theorem PK:gH.Ok ⟨Try.prog,Bb,fun _=>false⟩:=gH.Ok.of (by kernel_rfl) (by kernel_rfl) (by kernel_rfl) (by kernel_rfl) (by kernel_rfl)
def ZP(q:Nat×jS):Prop:=∀ z za,OI q.1=some z→q.2.zero=some za→rp q.1 z za
theorem XQ:T.tC ⟨Try.prog,Bb,fun _=>false⟩:=by
 intro t m z za h1 h2 h3
 have hm:=gu h1
 have all:∀ q,q∈Bb→ZP q:=by
  unfold Bb
  intro q hq
  simp only[List.mem_cons,List.not_mem_nil,or_false]at hq
  rcases hq with rfl|rfl|rfl|rfl|rfl|rfl|rfl|rfl|rfl|rfl|rfl|rfl|rfl|rfl|rfl|rfl|rfl|rfl|rfl|rfl|rfl|rfl|rfl|rfl|rfl|rfl|rfl|rfl|rfl|rfl|rfl|rfl|rfl|rfl|rfl|rfl|rfl|rfl|rfl|rfl|rfl|rfl|rfl|rfl|rfl|rfl|rfl|rfl|rfl|rfl|rfl|rfl|rfl|rfl|rfl|rfl|rfl|rfl|rfl|rfl|rfl|rfl|rfl|rfl|rfl|rfl|rfl|rfl|rfl|rfl|rfl|rfl|rfl|rfl|rfl|rfl|rfl|rfl|rfl|rfl|rfl|rfl|rfl|rfl|rfl|rfl|rfl|rfl|rfl|rfl|rfl|rfl|rfl|rfl|rfl|rfl|rfl|rfl|rfl|rfl|rfl|rfl|rfl|rfl|rfl|rfl|rfl|rfl|rfl|rfl|rfl|rfl|rfl|rfl|rfl|rfl|rfl|rfl|rfl|rfl|rfl|rfl|rfl|rfl|rfl|rfl|rfl|rfl|rfl|rfl|rfl
  ·exact fun _ _ h _=>zn h
  ·exact fun _ _ h1 h2=>zz h1 h2 (rfl)
  ·exact fun _ _ h1 h2=>zz h1 h2 (rfl)
  ·exact fun _ _ h1 h2=>zz h1 h2 (rfl)
  ·exact fun _ _ h1 h2=>zz h1 h2 (rfl)
  ·exact fun _ _ h _=>zn h
  ·exact fun _ _ h _=>zn h
  ·exact fun _ _ h _=>zn h
  ·exact fun _ _ h1 h2=>zz h1 h2 (rfl)
  ·exact fun _ _ h _=>zn h
  ·exact fun _ _ h _=>zn h
  ·exact fun _ _ h _=>zn h
  ·exact fun _ _ h _=>zn h
  ·exact fun _ _ h _=>zn h
  ·exact fun _ _ h _=>zn h
  ·exact fun _ _ h _=>zn h
  ·exact fun _ _ h _=>zn h
  ·exact fun _ _ h _=>zn h
  ·exact fun _ _ h _=>zn h
  ·exact fun _ _ h _=>zn h
  ·exact fun _ _ h _=>zn h
  ·exact fun _ _ h1 h2=>zz h1 h2 (.inr ⟨rfl,rfl⟩)
  ·exact fun _ _ h1 h2=>zz h1 h2 (.inr ⟨rfl,rfl⟩)
  ·exact fun _ _ h1 h2=>zz h1 h2 (⟨_,_,_,.inr ⟨rfl,rfl⟩,.inr ⟨rfl,rfl⟩,.inr ⟨rfl,rfl⟩,rfl⟩)
  ·exact fun _ _ h1 h2=>zz h1 h2 (⟨_,_,_,.inr ⟨rfl,rfl⟩,.inr ⟨rfl,rfl⟩,.inr ⟨rfl,rfl⟩,rfl⟩)
  ·exact fun _ _ h1 h2=>zz h1 h2 (.inr ⟨rfl,rfl⟩)
  ·exact fun _ _ h _=>zn h
  ·exact fun _ _ h _=>zn h
  ·exact fun _ _ h1 h2=>zz h1 h2 (rfl)
  ·exact fun _ _ h _=>zn h
  ·exact fun _ _ h _=>zn h
  ·exact fun _ _ h _=>zn h
  ·exact fun _ _ h1 h2=>zz h1 h2 (rfl)
  ·exact fun _ _ h1 h2=>zz h1 h2 (rfl)
  ·exact fun _ _ h1 h2=>zz h1 h2 (.inr ⟨rfl,rfl⟩)
  ·exact fun _ _ h _=>zn h
  ·exact fun _ _ h _=>zn h
  ·exact fun _ _ h _=>zn h
  ·exact fun _ _ h _=>zn h
  ·exact fun _ _ h _=>zn h
  ·exact fun _ _ h _=>zn h
  ·exact fun _ _ h _=>zn h
  ·exact fun _ _ h _=>zn h
  ·exact fun _ _ h _=>zn h
  ·exact fun _ _ h _=>zn h
  ·exact fun _ _ h _=>zn h
  ·exact fun _ _ h _=>zn h
  ·exact fun _ _ h _=>zn h
  ·exact fun _ _ h _=>zn h
  ·exact fun _ _ h1 h2=>zz h1 h2 (.inr ⟨rfl,rfl⟩)
  ·exact fun _ _ h1 h2=>zz h1 h2 (⟨_,_,_,_,_,.inr ⟨rfl,rfl⟩,.inr ⟨rfl,rfl⟩,.inr ⟨rfl,rfl⟩,.inr ⟨rfl,rfl⟩,.inr ⟨rfl,rfl⟩,rfl⟩)
  ·exact fun _ _ h1 h2=>zz h1 h2 (⟨_,_,_,_,_,.inr ⟨rfl,rfl⟩,.inr ⟨rfl,rfl⟩,.inr ⟨rfl,rfl⟩,.inr ⟨rfl,rfl⟩,.inr ⟨rfl,rfl⟩,rfl⟩)
  ·exact fun _ _ h1 h2=>zz h1 h2 (.inr ⟨rfl,rfl⟩)
  ·exact fun _ _ h1 h2=>zz h1 h2 (rfl)
  ·exact fun _ _ h1 h2=>zz h1 h2 (rfl)
  ·exact fun _ _ h _=>zn h
  ·exact fun _ _ h _=>zn h
  ·exact fun _ _ h _=>zn h
  ·exact fun _ _ h _=>zn h
  ·exact fun _ _ h _=>zn h
  ·exact fun _ _ h _=>zn h
  ·exact fun _ _ h _=>zn h
  ·exact fun _ _ h _=>zn h
  ·exact fun _ _ h _=>zn h
  ·exact fun _ _ h _=>zn h
  ·exact fun _ _ h _=>zn h
  ·exact fun _ _ h _=>zn h
  ·exact fun _ _ h _=>zn h
  ·exact fun _ _ h1 h2=>zz h1 h2 (rfl)
  ·exact fun _ _ h _=>zn h
  ·exact fun _ _ h _=>zn h
  ·exact fun _ _ h _=>zn h
  ·exact fun _ _ h1 h2=>zz h1 h2 (rfl)
  ·exact fun _ _ h _=>zn h
  ·exact fun _ _ h _=>zn h
  ·exact fun _ _ h _=>zn h
  ·exact fun _ _ h _=>zn h
  ·exact fun _ _ h _=>zn h
  ·exact fun _ _ h _=>zn h
  ·exact fun _ _ h _=>zn h
  ·exact fun _ _ h1 h2=>zz h1 h2 (rfl)
  ·exact fun _ _ h1 h2=>zz h1 h2 (rfl)
  ·exact fun _ _ h _=>zn h
  ·exact fun _ _ h _=>zn h
  ·exact fun _ _ h _=>zn h
  ·exact fun _ _ h _=>zn h
  ·exact fun _ _ h _=>zn h
  ·exact fun _ _ h _=>zn h
  ·exact fun _ _ h _=>zn h
  ·exact fun _ _ h _=>zn h
  ·exact fun _ _ h1 h2=>zz h1 h2 (rfl)
  ·exact fun _ _ h _=>zn h
  ·exact fun _ _ h _=>zn h
  ·exact fun _ _ h _=>zn h
  ·exact fun _ _ h _=>zn h
  ·exact fun _ _ h _=>zn h
  ·exact fun _ _ h1 h2=>zz h1 h2 (rfl)
  ·exact fun _ _ h _=>zn h
  ·exact fun _ _ h1 h2=>zz h1 h2 (rfl)
  ·exact fun _ _ h _=>zn h
  ·exact fun _ _ h _=>zn h
  ·exact fun _ _ h _=>zn h
  ·exact fun _ _ h _=>zn h
  ·exact fun _ _ h _=>zn h
  ·exact fun _ _ h _=>zn h
  ·exact fun _ _ h _=>zn h
  ·exact fun _ _ h _=>zn h
  ·exact fun _ _ h1 h2=>zz h1 h2 (rfl)
  ·exact fun _ _ h _=>zn h
  ·exact fun _ _ h _=>zn h
  ·exact fun _ _ h _=>zn h
  ·exact fun _ _ h _=>zn h
  ·exact fun _ _ h _=>zn h
  ·exact fun _ _ h _=>zn h
  ·exact fun _ _ h _=>zn h
  ·exact fun _ _ h _=>zn h
  ·exact fun _ _ h _=>zn h
  ·exact fun _ _ h _=>zn h
  ·exact fun _ _ h _=>zn h
  ·exact fun _ _ h _=>zn h
  ·exact fun _ _ h _=>zn h
  ·exact fun _ _ h _=>zn h
  ·exact fun _ _ h _=>zn h
  ·exact fun _ _ h _=>zn h
  ·exact fun _ _ h _=>zn h
  ·exact fun _ _ h _=>zn h
  ·exact fun _ _ h _=>zn h
  ·exact fun _ _ h _=>zn h
  ·exact fun _ _ h _=>zn h
  ·exact fun _ _ h _=>zn h
  ·exact fun _ _ h _=>zn h
 exact all _ hm z za h3 h2
theorem WG:Try.prog.underlying 3=some (.int .i64):=by kernel_rfl
def WH(x:Int):Prop:=IntKind.min .i64≤x∧x≤IntKind.max .i64
theorem sh3{n:Nat}{l:List AV}(h:Shape Try.prog n 3 l):∃ x,WH x∧∃ a,l=[a]∧L5 x a:=by
 obtain⟨m,rfl,h1⟩:=HY WG h
 exact⟨m,h1,_,rfl,rfl⟩
theorem WI:Try.prog.underlying 22=some (.slice 3):=by kernel_rfl
theorem WJ:(Try.prog.underlying 3).isSome=true:=by kernel_rfl
theorem WK:(Try.prog.underlying 3).map eg=some false:=by kernel_rfl
theorem WL:Try.prog.underlying 3=Try.prog.underlying 3:=by kernel_rfl
def Lh(x:List Int):Prop:=x.length≤maxLen∧∀ y,y∈x→WH y
theorem Qk{n:Nat}{l:List AV}(h:Shape Try.prog n 22 l):∃ x,Lh x∧∃ a,l=[a]∧DC x a:=by
 obtain⟨d,hd⟩:=Option.isSome_iff_exists.1 WJ
 have oS:eg d=false:=by have:=WK; rw[hd]at this; simpa using this
 obtain⟨ys,xs,rfl,h1,h2⟩:=vY (Q:=fun y x=>WH y∧L5 y x) WI hd h (by
  rintro k x ⟨cl,h1,h2⟩
  rw[oS]at h1
  simp only[Bool.false_eq_true,if_false]at h1
  replace h2:=jI WL h2
  subst h1
  obtain⟨y,hy,a,ha,r⟩:=sh3 h2
  simp only[List.cons.injEq,and_true]at ha
  subst ha
  exact⟨y,hy,r⟩)
 refine⟨ys,⟨h2,?_⟩,_,rfl,.inl ⟨xs,rfl,h1.mono fun _ _ h=>h.2⟩⟩
 intro y hy
 obtain⟨i,hi⟩:=List.getElem?_of_mem hy
 obtain⟨_,_,h3⟩:=h1.get hi
 exact h3.1
theorem WM:Try.prog.underlying 23=some (.slice 22):=by kernel_rfl
theorem WN:(Try.prog.underlying 22).isSome=true:=by kernel_rfl
theorem WO:(Try.prog.underlying 22).map eg=some false:=by kernel_rfl
theorem WQ:Try.prog.underlying 22=Try.prog.underlying 22:=by kernel_rfl
def Ta(x:List (List Int)):Prop:=x.length≤maxLen∧∀ y,y∈x→Lh y
theorem WR{n:Nat}{l:List AV}(h:Shape Try.prog n 23 l):∃ x,Ta x∧∃ a,l=[a]∧NG x a:=by
 obtain⟨d,hd⟩:=Option.isSome_iff_exists.1 WN
 have oS:eg d=false:=by have:=WO; rw[hd]at this; simpa using this
 obtain⟨ys,xs,rfl,h1,h2⟩:=vY (Q:=fun y x=>Lh y∧DC y x) WM hd h (by
  rintro k x ⟨cl,h1,h2⟩
  rw[oS]at h1
  simp only[Bool.false_eq_true,if_false]at h1
  replace h2:=jI WQ h2
  subst h1
  obtain⟨y,hy,a,ha,r⟩:=Qk h2
  simp only[List.cons.injEq,and_true]at ha
  subst ha
  exact⟨y,hy,r⟩)
 refine⟨ys,⟨h2,?_⟩,_,rfl,.inl ⟨xs,rfl,h1.mono fun _ _ h=>h.2⟩⟩
 intro y hy
 obtain⟨i,hi⟩:=List.getElem?_of_mem hy
 obtain⟨_,_,h3⟩:=h1.get hi
 exact h3.1
def WS(x:bP):Prop:=Lh x.aD∧Ta x.ag∧Lh x.aA
theorem Ql:Try.prog.underlying 22=Try.prog.underlying 22:=by kernel_rfl
theorem Qm:Try.prog.underlying 23=Try.prog.underlying 23:=by kernel_rfl
theorem Qn:Try.prog.underlying 22=Try.prog.underlying 22:=by kernel_rfl
theorem Wi{n:Nat}{l:List AV}(h:Shape Try.prog n 24 l):∃ x,WS x∧H2 x (.agg l):=by
 obtain⟨hl,k,hf⟩:=Bq PK (t:=24) rfl rfl h
 rw[ou PK (t:=24) rfl]at hl
 have h0:=hf (0,22) (by simp)
 rw[ou PK (t:=22) rfl]at h0
 replace h0:=jI (Ql) h0
 have h1:=hf (1,23) (by simp)
 rw[ou PK (t:=23) rfl]at h1
 replace h1:=jI (Qm) h1
 have h2:=hf (2,22) (by simp)
 rw[ou PK (t:=22) rfl]at h2
 replace h2:=jI (Qn) h2
 match l,hl with
 |[a0,a1,a2],_=>
  replace h0:Shape Try.prog k 22 [a0]:=h0
  obtain⟨x0,w0,b0,e0,r0⟩:=Qk h0
  simp only[List.cons.injEq,and_true]at e0
  subst e0
  have s0:=r0
  replace h1:Shape Try.prog k 23 [a1]:=h1
  obtain⟨x1,w1,b1,e1,r1⟩:=WR h1
  simp only[List.cons.injEq,and_true]at e1
  subst e1
  have s1:=r1
  replace h2:Shape Try.prog k 22 [a2]:=h2
  obtain⟨x2,w2,b2,e2,r2⟩:=Qk h2
  simp only[List.cons.injEq,and_true]at e2
  subst e2
  have s2:=r2
  exact⟨⟨x0,x1,x2⟩,⟨w0,w1,w2⟩,⟨_,_,_,s0,s1,s2,rfl⟩⟩
end Go.Proofs.Ytedjbjphpnkpoaa
end
section
/- Copies of slices in this seat: what the library's functions come to (printed by gen_lib.py). -/
namespace Go.Proofs.Ytedjbjphpnkpoaa.p7
open Go.PI
noncomputable def C0:Ctx where
 P:=Try.prog
 kind:=fun f=>if f=61 then .imp else .pure
 kl:=fun _=>none
 acc:=fun _ _=>false
instance:jz C0:=⟨rfl,rfl⟩
noncomputable def R(t:Nat):bG:=(eW Try.prog t).getD ⟨.bool,0,0,none,false⟩
theorem H5:aN C0.P 22=some (R 3):=by kernel_rfl
theorem H6:bV C0.P 22=true:=by kernel_rfl
theorem WV:(cj (R 3)).isSome=true:=by kernel_rfl
theorem T6:(R 3).size=1:=by kernel_rfl
theorem ag3:(R 3).isAgg=false:=by kernel_rfl
theorem by3:(R 3).bytes=8:=by kernel_rfl
theorem WW:C0.P.funcs[61]?=some Try.f61:=by kernel_rfl
theorem Tb:bV C0.P 23=true:=by kernel_rfl
theorem st3:bV C0.P 3=false:=by kernel_rfl
theorem WG:C0.P.underlying 3=some (.int .i64):=by kernel_rfl
noncomputable def v7:AV:=(cj (R 3)).getD .undef
theorem zv3:cj (R 3)=some v7:=by kernel_rfl
theorem zo3:aG (R 3).isAgg (R 3).size v7=true:=by kernel_rfl
theorem H7:kn C0 61 [.lit cK,int 0] []=some (.val (.lit cK),[]):=
 (bg (mc C0 61 [.lit cK,int 0] [])).2 ⟨100,by kernel_rfl⟩
theorem Lm(n:Nat)(hn:0<n)(h1:n*(R 3).bytes≤2^44)(h2:n≤2^44):kn C0 61 [.lit cK,int n] []=some (.val (.bp (R 3).size 0 n 0 0 none),[some (.arr true true false (List.replicate n v7))]):=by
 rw[Aw (fn:=Try.f61) WW rfl]
 have yY:∀ f d,C0.acc f d=false:=fun _ _=>rfl
 have hr:0<(R 3).size:=by rw[T6]; decide
 have hw:IntKind.i64.wrap ((n:Int)-0)=(n:Int):=by rw[IntWalk.i64_in _ (by omega)]; omega
 have Tk:IntKind.i64.wrap (0-0)=(0:Int):=by decide
 have Qo:¬((n:Int)<0):=by omega
 have fk:(0:Int)<(n:Int):=by omega
 have Hd:Option.map (ay [AV.lit cK]) none=(none:Option AV):=rfl
 simp (decide:=true) only [Try.f61,DF,yY,NO H6,NP H6,Lk,NQ,NR H5,NS H5 hn,Li,Ll H5 st3 WG zv3 hr zo3 hn h1 h2,hw,Tk,Qo,fk,bol,Option.map_none,gN,iW,pj,eM,List.map_cons,List.map_nil,dW,jZ,nR,pn,Jr,lr,po,nQ,kV,xn,ay,nF,gK,gz,bC,eR,Ep,AJ,kL,Jt,qf,FV,FX,dk,wX,B3,F0,F1,FZ,List.getElem?_toArray,List.replicate_succ,List.replicate_zero,Nat.reduceSub,Nat.reduceAdd,Option.bind_some,Option.map_some,decide_true,decide_false,En,List.length_nil,List.length_cons,List.nil_append,List.cons_append,Nat.zero_add,Ma,Mb,Mc,Md,kU,qa]
theorem SC:C0.P.funcs[40]?=some Try.f40:=by kernel_rfl
theorem WX:eW C0.P 22=some (R 22):=by kernel_rfl
theorem Tc:(R 22).isAgg=false:=by kernel_rfl
theorem Td:(R 22).size=1:=by kernel_rfl
theorem WY:aN C0.P 23=some (R 22):=by kernel_rfl
theorem WZ:arrayElem C0.P 23=none:=by kernel_rfl
theorem Te{nm:Nat}{ev:Operand→AV}{dst:Option Tmp}{type:TypeId}{pos:String}{after:Array Edge}{guard:Option (Nat×Bool)}{hp:af}{x:Operand}:
  (aK C0.P nm ev ⟨dst,.load 22 x,type,pos,after,guard⟩).run hp=Ju (F3 false 1 hp (ev x)):=by rw[MA WX,MC Tc Td]
theorem Tf(x ix:AV):eK C0.P 23 x ix=(asNat ix).bind fun i=>nb false 1 i x:=by rw[Jy WY WZ,Tc,Td]
def I1(ls:List (List AV))(k:Nat)(s:St):Prop:=
 ∃ (i:Nat) (j1 j4 j5 j6 j7 j8 Ln Lo Lp Lq Lr Ls Lt Lu Lv Lw Lx Ly Lz Tg Th OJ LA LB LC LD LF LG LH LI:AV),k=ls.length-i∧i≤ls.length∧s=⟨40,[.sl (ls.map .sl),j1,.lit cK,int ((ls.take i).flatten.length:Nat),j4,j5,j6,j7,j8,.sl (ls.map .sl),int ls.length,int i,Ln,Lo,Lp,Lq,Lr,Ls,Lt,Lu,Lv,Lw,Lx,Ly,Lz,Tg,Th,OJ,LA,LB,LC,LD,LF,LG,LH,LI],[]⟩
def P1(ls:List (List AV))(o:Out):Prop:=
 ∃ (OK j1 j4 j5 j6 j7 j8 Ln Lo Lp Lq Lr Ls Lt Lu Lv Lw Lx Ly Lz Tg Th OJ LA LB LC LD LF LG LH LI:AV),o=.exit 0 ⟨40,[.sl (ls.map .sl),j1,.lit cK,int (ls.flatten.length:Nat),j4,j5,j6,j7,j8,.sl (ls.map .sl),int ls.length,OK,Ln,Lo,Lp,Lq,Lr,Ls,Lt,Lu,Lv,Lw,Lx,Ly,Lz,Tg,Th,OJ,LA,LB,LC,LD,LF,LG,LH,LI],[]⟩
theorem GL{α:Type}(ls:List (List α))(i:Nat):(ls.take i).flatten.length≤ls.flatten.length:=by
 have h:ls.flatten.length=(ls.take i).flatten.length+(ls.drop i).flatten.length:=by
  rw[←List.length_append,←List.flatten_append,List.take_append_drop]
 omega
theorem Ai{α:Type}(ls:List (List α))(i:Nat)(h:i<ls.length):(ls.take (i+1)).flatten=(ls.take i).flatten++ls[i]:=by
 rw[List.take_succ_eq_append_getElem h,List.flatten_append]; simp only[List.flatten_cons,List.flatten_nil,List.append_nil]
noncomputable def cur(ls:List (List AV))(i:Nat):AV:=if ls.flatten.length=0 then .lit cK else .bp (R 3).size 0 ls.flatten.length 0 (ls.take i).flatten.length none
noncomputable def sv(ls:List (List AV))(i:Nat):af:=if ls.flatten.length=0 then [] else [some (.arr true true false ((ls.take i).flatten++List.replicate (ls.flatten.length-(ls.take i).flatten.length) v7))]
theorem LJ(ls:List (List AV))(h1:ls.flatten.length*(R 3).bytes≤2^44)(h2:ls.flatten.length≤2^44):kn C0 61 [.lit (.slice none 0 0),int ls.flatten.length] []=some (.val (cur ls 0),sv ls 0):=by
 unfold cur sv
 by_cases h:ls.flatten.length=0
 ·rw[if_pos h,if_pos h,h]; exact H7
 ·rw[if_neg h,if_neg h]
  simpa using Lm _ (by omega) h1 h2
theorem H8(ls:List (List AV))(i:Nat):gE 0 (cur ls i) (sv ls i)=sv ls i:=by
 unfold cur sv gE
 by_cases h:ls.flatten.length=0
 ·rw[if_pos h,if_pos h]; simp
 ·rw[if_neg h,if_neg h]; simp[below]
theorem Fx(ls:List (List AV))(i:Nat):forget (sv ls i).length (cur ls (i+1))=cur ls (i+1):=by
 apply G6
 unfold cur sv
 by_cases h:ls.flatten.length=0
 ·rw[if_pos h,if_pos h]; rfl
 ·rw[if_neg h,if_neg h]; simp[below]
theorem H9(ls:List (List AV))(i:Nat)(f:Nat)(fr:List AV):gD (sv ls i).length ⟨f,fr,sv ls (i+1)⟩=⟨f,fr.map (forget (sv ls i).length),sv ls (i+1)⟩:=by
 have hl:(sv ls i).length=(sv ls (i+1)).length:=by
  unfold sv
  by_cases h:ls.flatten.length=0
  ·rw[if_pos h,if_pos h]
  ·rw[if_neg h,if_neg h]; rfl
 have ht:(sv ls (i+1)).take (sv ls i).length=sv ls (i+1):=by rw[hl]; exact List.take_length
 rw[B4]
 ·simp only[ht]
 ·simp only[ht]
  unfold sv
  by_cases h:ls.flatten.length=0
  ·rw[if_pos h]; rfl
  ·rw[if_neg h]; rfl
theorem Br(a ys:List AV)(k:Nat)(z:AV)(h:ys.length≤k):bw (a++List.replicate k z) a.length ys=a++ys++List.replicate (k-ys.length) z:=by
 induction ys generalizing a k with
 |nil=>simp[bw]
 |cons y ys ih=>
  obtain⟨k,rfl⟩:∃ m,k=m+1:=⟨k-1,by simp at h; omega⟩
  have:=ih (a++[y]) k (by simp at h; omega)
  simp only[bw,List.replicate_succ]
  simp only[List.length_append,List.length_cons,List.length_nil]at this
  rw[List.set_append_right _ _ (Nat.le_refl _),Nat.sub_self,List.set_cons_zero]
  simpa[List.append_assoc] using this
theorem NT(ls:List (List AV))(i:Nat)(hi:i<ls.length)(bf:ls[i].all (aG (R 3).isAgg (R 3).size)=true):
  ∃ wr,(∀ nm,(ft C0.P nm 22 22 (cur ls i) (.sl ls[i])).run (sv ls i)=some ⟨cur ls (i+1),wr⟩)∧ak (sv ls i) wr=sv ls (i+1):=by
 have hr:0<(R 3).size:=by rw[T6]; decide
 have hf:=Ai ls i hi
 have hle:=GL ls (i+1)
 have hlen:(ls.take (i+1)).flatten.length=(ls.take i).flatten.length+ls[i].length:=by rw[hf,List.length_append]
 by_cases h:ls.flatten.length=0
 ·have he:ls[i]=[]:=List.length_eq_zero_iff.1 (by omega)
  refine⟨[],fun nm=>?_,?_⟩
  ·unfold cur sv
   rw[if_pos h,if_pos h,if_pos h,he]
   simp[ft,H5,v8,H6,fJ,RM.run_bind,RM.run_pure,WV,hr]
  ·unfold sv; rw[if_pos h,if_pos h]; rfl
 ·by_cases he:ls[i]=[]
  ·have wm:ls[i].length=0:=by rw[he]; rfl
   rw[wm]at hlen
   have iw:(ls.take (i+1)).flatten=(ls.take i).flatten:=by rw[hf,he,List.append_nil]
   refine⟨[],fun nm=>?_,?_⟩
   ·unfold cur sv
    rw[if_neg h,if_neg h,if_neg h,he,iw]
    simp[ft,H5,v8,H6,fJ,RM.run_bind,RM.run_pure,WV,hr]
   ·unfold sv; rw[if_neg h,if_neg h,iw]; rfl
  ·have dK:ls[i].isEmpty=false:=by cases hq:ls[i]<;>simp_all
   have cC:((ls.take i).flatten++List.replicate (ls.flatten.length-(ls.take i).flatten.length) v7).length=ls.flatten.length:=by
    rw[List.length_append,List.length_replicate]; omega
   refine⟨[(0,.arr true true false ((ls.take (i+1)).flatten++List.replicate (ls.flatten.length-(ls.take (i+1)).flatten.length) v7))],fun nm=>?_,?_⟩
   ·unfold cur sv
    rw[if_neg h,if_neg h,if_neg h]
    have ho:=RM.xu (hp:=[some (.arr true true false ((ls.take i).flatten++List.replicate (ls.flatten.length-(ls.take i).flatten.length) v7))]) (n:=0) rfl
    rw[cC]at ho
    have C6:=Br (ls.take i).flatten ls[i] (ls.flatten.length-(ls.take i).flatten.length) v7 (by omega)
    simp only[ft,H5,v8,H6,fJ,RM.run_bind,RM.run_pure,Option.bind_some,WV,hr,bf,decide_true,Bool.and_self,dK,ho]
    rw[if_neg (by rintro (h1|h1|h1); (exact absurd h1 (by decide)); (rw[cC]at h1; omega); (exact h1 rfl)),if_pos (by simp only[Option.getD_none]; omega),if_pos (by rw[cC]; omega)]
    simp only[RM.run_pure,Nat.zero_add,C6,hlen,←hf]
    rw[Nat.sub_sub]
   ·unfold sv; rw[if_neg h,if_neg h]; rfl
def I2(ls:List (List AV))(k:Nat)(s:St):Prop:=
 ∃ (i:Nat) (j1 j4 j5 j7 j8 j9 Ti OK Ln Lo Lp Lq Lr Ls Lt Lu Lv Lw Lx Ly Lz LA LB LC LD LF LG LH LI:AV),k=ls.length-i∧i≤ls.length∧s=⟨40,[.sl (ls.map .sl),j1,.lit cK,int (ls.flatten.length:Nat),j4,j5,cur ls i,j7,j8,j9,Ti,OK,Ln,Lo,Lp,Lq,Lr,Ls,Lt,Lu,Lv,Lw,Lx,Ly,Lz,.sl (ls.map .sl),int ls.length,int i,LA,LB,LC,LD,LF,LG,LH,LI],sv ls i⟩
def P2(ls:List (List AV))(o:Out):Prop:=
 ∃ (OJ j1 j4 j5 j7 j8 j9 Ti OK Ln Lo Lp Lq Lr Ls Lt Lu Lv Lw Lx Ly Lz LA LB LC LD LF LG LH LI:AV),o=.exit 2 ⟨40,[.sl (ls.map .sl),j1,.lit cK,int (ls.flatten.length:Nat),j4,j5,cur ls ls.length,j7,j8,j9,Ti,OK,Ln,Lo,Lp,Lq,Lr,Ls,Lt,Lu,Lv,Lw,Lx,Ly,Lz,.sl (ls.map .sl),int ls.length,OJ,LA,LB,LC,LD,LF,LG,LH,LI],sv ls ls.length⟩
theorem Fo(ls:List (List AV))(hn:ls.length≤2^44)(bf:∀ l∈ls,l.all (aG (R 3).isAgg (R 3).size)=true)(Si:ls.flatten.length*(R 3).bytes≤2^44)(hT:ls.flatten.length≤2^44):∃ res gX,kn C0 40 [.sl (ls.map .sl)] []=some (.val res,gX)∧(aW 1000 res).run gX=some (.sl ls.flatten):=by
 have key:kn C0 40 [.sl (ls.map .sl)] []=some (.val (cur ls ls.length),sv ls ls.length):=by
  rw[Aw (fn:=Try.f40) SC rfl]
  have yY:∀ f d,C0.acc f d=false:=fun _ _=>rfl
  have hr:0<(R 3).size:=by rw[T6]; decide
  simp (decide:=true) only [Try.f40,DF,yY,Er Tb,List.length_map,gN,iW,pj,eM,List.map_cons,List.map_nil,dW,jZ,nR,lr,Js,nQ,kV,ay,nF,gK,gz,bC,eR,kL,dk,List.getElem?_toArray,List.replicate_succ,List.replicate_zero,Nat.reduceSub,Option.bind_some,List.length_nil,List.length_cons,List.nil_append,List.cons_append,Nat.zero_add,Ma,Mb,Mc,Md,ll,Option.bind_assoc,AK]
  refine zt (I1 ls) (P1 ls) ls.length ?_ ?_ ?_
  ·exact⟨0,_,_,_,_,_,_,_,_,_,_,_,_,_,_,_,_,_,_,_,_,_,_,_,_,_,_,_,_,_,_,rfl,Nat.zero_le _,rfl⟩
  ·rintro k s ⟨i,j1,j4,j5,j6,j7,j8,Ln,Lo,Lp,Lq,Lr,Ls,Lt,Lu,Lv,Lw,Lx,Ly,Lz,Tg,Th,OJ,LA,LB,LC,LD,LF,LG,LH,LI,hk,hi,rfl⟩
   have LK:IntKind.i64.wrap ((i:Int)+1)=((i+1:Nat):Int):=by
    rw[IntWalk.i64_in _ (by omega)]; omega
   by_cases bZ:i<ls.length
   ·have na:(ls.map AV.sl)[i]?=some (.sl ls[i]):=by simp[bZ]
    have bL:aG false 1 (.sl ls[i])=true:=by simp[aG,a9]
    have hp0:eE false 1 (.sl ls[i]) 0=some (.sl ls[i]):=by simp[eE,a9]
    have xx:((i:Int)<(ls.length:Int)):=by omega
    have hf:=Ai ls i bZ
    have hle:=GL ls (i+1)
    have hlen:(ls.take (i+1)).flatten.length=(ls.take i).flatten.length+ls[i].length:=by rw[hf,List.length_append]
    have kF:IntKind.i64.wrap (((ls.take i).flatten.length:Int)+(ls[i].length:Int))=(((ls.take (i+1)).flatten.length:Nat):Int):=by
     rw[IntWalk.i64_in _ (by omega)]; omega
    have Qo:¬(((ls.take (i+1)).flatten.length:Int)<0):=by omega
    left
    refine⟨_,by simp (decide:=true) only [na,bL,xx,LK,kF,Qo,Te,Tf,Er H6,bol,gN,iW,pj,eM,List.map_cons,List.map_nil,dW,jZ,nR,FY,pn,sV,lr,po,nQ,kV,xn,ay,nF,gK,gz,bC,eR,Ep,AJ,kL,qf,AH,dk,List.getElem?_toArray,Option.bind_some,Option.map_some,decide_true,decide_false,List.length_nil,a9,Ju,eE,if_true,Ma,Mb,Mc,Md,ll,kU,vn,sW,rD,nb,F3,qa,AK]; rfl,ls.length-(i+1),by omega,?_⟩
    rw[B4 (by simp)]
    exact⟨i+1,_,_,_,_,_,_,_,_,_,_,_,_,_,_,_,_,_,_,_,_,_,_,_,_,_,_,_,_,_,_,rfl,by omega,rfl⟩
   ·have xx:¬((i:Int)<(ls.length:Int)):=by omega
    have P4:i=ls.length:=by omega
    right
    refine⟨_,by simp (decide:=true) only [xx,bol,gN,iW,pj,eM,List.map_cons,List.map_nil,dW,jZ,pn,xn,ay,gz,bC,eR,AJ,kL,qf,dk,sX,List.getElem?_toArray,Option.bind_some,Option.map_some,decide_false,List.length_nil,Ma,Mb,Mc,Md,kU,tZ]; rfl,by simp,?_⟩
    have:ls.take i=ls:=by rw[P4]; exact List.take_length
    rw[this]
    exact⟨_,_,_,_,_,_,_,_,_,_,_,_,_,_,_,_,_,_,_,_,_,_,_,_,_,_,_,_,_,_,_,rfl⟩
  ·rintro o ⟨OK,j1,j4,j5,j6,j7,j8,Ln,Lo,Lp,Lq,Lr,Ls,Lt,Lu,Lv,Lw,Lx,Ly,Lz,Tg,Th,OJ,LA,LB,LC,LD,LF,LG,LH,LI,rfl⟩
   simp (decide:=true) only [gN,iW,pj,eM,List.map_cons,List.map_nil,dW,nR,nQ,ay,nF,gK,gz,bC,eR,kL,dk,List.getElem?_toArray,Option.bind_some,List.length_nil,m8,Eo,Ma,Mb,Mc,Md,zu,Option.bind_assoc]
   have W0:C0.kind 61=.imp:=rfl
   have Tj:∀ a t,au (Op.call ⟨.value (.func 61),a,t⟩)=false:=fun _ _=>rfl
   simp only[nL,qW,Tj,W0]
   rw[LJ ls Si hT]
   simp only[Option.bind_some,FM,List.length_nil,H8]
   simp (decide:=true) only [Er Tb,List.length_map,gN,iW,pj,eM,List.map_cons,List.map_nil,dW,jZ,nR,lr,po,nQ,kV,ay,nF,gK,gz,bC,eR,kL,dk,List.getElem?_toArray,Option.bind_some,Ma,Mb,Mc,Md,ll,Option.bind_assoc,AK]
   refine zt (I2 ls) (P2 ls) ls.length ?_ ?_ ?_
   ·exact⟨0,_,_,_,_,_,_,_,_,_,_,_,_,_,_,_,_,_,_,_,_,_,_,_,_,_,_,_,_,_,rfl,Nat.zero_le _,rfl⟩
   ·rintro k s ⟨i,j1,j4,j5,j7,j8,j9,Ti,OK,Ln,Lo,Lp,Lq,Lr,Ls,Lt,Lu,Lv,Lw,Lx,Ly,Lz,LA,LB,LC,LD,LF,LG,LH,LI,hk,hi,rfl⟩
    have LK:IntKind.i64.wrap ((i:Int)+1)=((i+1:Nat):Int):=by
     rw[IntWalk.i64_in _ (by omega)]; omega
    by_cases bZ:i<ls.length
    ·have na:(ls.map AV.sl)[i]?=some (.sl ls[i]):=by simp[bZ]
     have bL:aG false 1 (.sl ls[i])=true:=by simp[aG,a9]
     have hp0:eE false 1 (.sl ls[i]) 0=some (.sl ls[i]):=by simp[eE,a9]
     have xx:((i:Int)<(ls.length:Int)):=by omega
     obtain⟨wr,Uy,AB⟩:=NT ls i bZ (bf _ (List.getElem_mem bZ))
     left
     refine⟨_,by simp (decide:=true) only [na,bL,xx,LK,Li,Uy,AB,Te,Tf,bol,gN,iW,pj,eM,List.map_cons,List.map_nil,dW,jZ,nR,FY,pn,sV,lr,po,nQ,kV,xn,ay,nF,gK,gz,bC,eR,Ep,kL,qf,AH,dk,List.getElem?_toArray,Option.bind_some,Option.map_some,decide_true,a9,Ju,eE,if_true,Ma,Mb,Mc,Md,ll,kU,vn,sW,rD,nb,F3,qa]; rfl,ls.length-(i+1),by omega,?_⟩
     rw[H9]
     simp only[List.map_cons,List.map_nil,Fx]
     exact⟨i+1,_,_,_,_,_,_,_,_,_,_,_,_,_,_,_,_,_,_,_,_,_,_,_,_,_,_,_,_,_,rfl,by omega,rfl⟩
    ·have xx:¬((i:Int)<(ls.length:Int)):=by omega
     have P4:i=ls.length:=by omega
     right
     refine⟨_,by simp (decide:=true) only [xx,bol,gN,iW,pj,eM,List.map_cons,List.map_nil,dW,jZ,pn,xn,ay,gz,bC,eR,AJ,kL,qf,dk,sX,List.getElem?_toArray,Option.bind_some,Option.map_some,decide_false,Ma,Mb,Mc,Md,kU,tZ]; rfl,by simp,?_⟩
     subst P4
     exact⟨_,_,_,_,_,_,_,_,_,_,_,_,_,_,_,_,_,_,_,_,_,_,_,_,_,_,_,_,_,_,rfl⟩
   ·rintro o ⟨OJ,j1,j4,j5,j7,j8,j9,Ti,OK,Ln,Lo,Lp,Lq,Lr,Ls,Lt,Lu,Lv,Lw,Lx,Ly,Lz,LA,LB,LC,LD,LF,LG,LH,LI,rfl⟩
    simp (decide:=true) only [gN,iW,pj,eM,List.map_cons,List.map_nil,dW,jZ,nR,po,nQ,kV,ay,gz,bC,eR,kL,dk,wX,B3,F0,F1,FZ,List.getElem?_toArray,Option.bind_some,Option.map_some,Ma,Mb,Mc,Md,zu]
 refine⟨_,_,key,?_⟩
 unfold cur sv
 by_cases h:ls.flatten.length=0
 ·rw[if_pos h,if_pos h,List.length_eq_zero_iff.1 h]; rfl
 ·rw[if_neg h,if_neg h]
  simp only[List.take_length,Nat.sub_self,List.replicate_zero,List.append_nil]
  exact Fw (RM.xu rfl)
end Go.Proofs.Ytedjbjphpnkpoaa.p7
end
section
/- The context of this seat, contracts of library functions, the greatest common divisor. -/
set_option maxRecDepth 100000
set_option maxHeartbeats 0
namespace Go.Proofs.Ytedjbjphpnkpoaa
open Go.PI
def Du:bG:=⟨.bool,1,8,none,false⟩
noncomputable def C:Ctx where
 P:=Try.prog
 kind:=fun f=>match Go.PI.cm [(24,()),(25,()),(26,()),(30,()),(37,()),(45,()),(47,()),(49,()),(56,()),(63,()),(64,()),(65,()),(66,()),(67,()),(68,()),(69,()),(70,()),(73,()),(74,()),(75,()),(77,()),(84,()),(85,()),(87,()),(89,()),(90,()),(91,()),(92,()),(93,()),(94,()),(97,()),(98,()),(111,()),(112,()),(113,()),(119,()),(120,()),(123,())] f with|some _=>.imp|none=>.pure
 kl:=fun g=>Go.PI.cm [(40,mu Du)] g
 acc:=fun _ _=>true
 qK:=fun f d=>(Go.PI.Gk [(6,38,[(0,1),(2,1)])] f d).getD []
theorem K4 : ∀ (f : FuncId) (fn : Func), Try.prog.funcs[f]? = some fn → fn.body.isSome = true → (fn.name == "runtime.NumGoroutine") = false := by
 have h : (Try.prog.funcs.toList.all fun fn => !(fn.name == "runtime.NumGoroutine") || !fn.body.isSome) = true := by kernel_rfl
 intro f fn hf hb
 have hm:fn∈Try.prog.funcs.toList:=by
  have:=Array.mem_of_getElem? hf
  exact Array.mem_toList_iff.2 this
 have:=List.all_eq_true.1 h fn hm
 rw[hb]at this
 simpa using this
theorem NA:p7.C0.Ok where
 name:=K4
 kl:=fun g h al r hg=>by simp[p7.C0]at hg
 qT:=fun g h al hp e h1=>by cases h1
 Ey:=fun g h hg=>by simp[p7.C0]at hg
 iM:=fun g h al r gX hg=>by simp[p7.C0]at hg
 AO:=fun g h hg=>by simp[p7.C0]at hg
theorem K5{g:FuncId}{h:List AV→Option AV}(hg:C.kl g=some h):g=40∧h=mu Du:=by
 have:=gu (show Go.PI.cm [(40,mu Du)] g=some h from hg)
 simp only[List.mem_singleton,Prod.mk.injEq]at this
 exact this
theorem Cok:C.Ok where
 name:=K4
 kl:=by
  intro g h al r hg hr Ec w vs hI ha
  obtain⟨rfl,rfl⟩:=K5 hg
  exact HV (r:=Du) NA (fun ls h0 h1 h2 h3=>p7.Fo ls h0 (by rw[p7.ag3,p7.T6]; exact h1) (by rw[p7.by3]; exact h2) h3) hr Ec w vs hI ha
 Ey:=by
  intro g h hg
  obtain⟨rfl,rfl⟩:=K5 hg
  exact⟨_,p7.SC,rfl⟩
 qT:=fun g h al hp e h1=>by cases h1
 iM:=fun g h al r gX hg=>by cases hg
 AO:=fun g h hg=>by cases hg
theorem ok3(x:Int)(a:AV)(h:L5 x a):aG Du.isAgg Du.size a=true:=(yy (eI h)).1
def _root_.Go.aa.gR(s:List (List Int)):Option (List Int):=tj 8 s
theorem PL:pV C T 40 ⟨[23],[22],fun x=>Go.aa.gR x⟩:=
 Fp (C:=C) (T:=T) (g:=40) (t:=23) (u:=22) (I:=mu Du) (F:=Go.aa.gR) rfl rfl fun x a y h hy=>by
  obtain⟨l,h1,h2⟩:=Fq (r:=Du) (rpe:=L5) (x:=x) (y:=y) ok3 h hy
  exact⟨l,h1,.inl ⟨l,rfl,h2⟩⟩
def _root_.Go.aa.jF:Option Bool:=some true
def ka:List (Nat×vI T):=[]
theorem rZ:∀ (g:FuncId) (σ:vI T),cm ka g=some σ→GB C T g σ:=fun g σ h=>by simp[ka,cm]at h
def tp:FuncId→Nat→Bool:=fun _ _=>false
def Sb:FuncId→Tmp→List Tw:=fun _ _=>[]
def _root_.Go.aa.ER:Nat→Int→Int→Option Int
 |0,_,_=>none
 |n+1,a,b=>bif b==0 then some a else bif decide (b=0) then none else (Go.aa.ER n b (a.tmod b)).bind fun i=>some i
noncomputable def gS(n:Nat):nW:=Gv C T Bb (fun _ _=>none) (fun _ _=>false) [(82,⟨[3,3],[3],fun x=>Go.aa.ER n x.1 x.2⟩)] 1 ka tp Sb
theorem K6:∀ n,pV C T 82 ⟨[3,3],[3],fun x=>Go.aa.ER n x.1 x.2⟩
 |0=>⟨rfl,fun x al y _ h=>by cases h⟩
 |n+1=>by
  have h0:(Gv C T Bb (fun _ _=>none) (fun _ _=>false) [(82,⟨[3,3],[3],fun x=>Go.aa.ER n x.1 x.2⟩)] 0 ka tp Sb).Ok:=CW XP PK XQ rZ
  have h1:(gS n).Ok:=tz h0 rfl (K6 n)
  exact Dw (S:=gS n) (k:=400) (σ:=⟨[3,3],[3],fun x=>Go.aa.ER (n+1) x.1 x.2⟩) h1 rfl rfl fun x=>by kernel_rfl
def _root_.Go.aa.jO(a b:Int):Option Int:=Go.aa.ER 200 a b
theorem PM:pV C T 82 ⟨[3,3],[3],fun x=>Go.aa.jO x.1 x.2⟩:=K6 200
end Go.Proofs.Ytedjbjphpnkpoaa
end
section
/- Models of the functions of this seat, and that they hold (printed by chain.py). -/
set_option maxRecDepth 100000
set_option maxHeartbeats 0
namespace Go.Proofs.Ytedjbjphpnkpoaa
open Go.PI
end Go.Proofs.Ytedjbjphpnkpoaa
open Go Go.PI Go.Proofs Go.Proofs.Ytedjbjphpnkpoaa
noncomputable def Go.aa.nv(n:Int)(low:Int)(high:Int):Option Bool:=
 bif decide (low≤n) then
 some (decide (n≤high))
 else
 some false
noncomputable def Go.aa.jP(l:List Int)(Kw:Int):Option Bool:=
 (aQ (ω:=Bool ⊕ Bool×Int) (fun ((b1,i2):Bool×Int)=>
 bif decide (i2<(↑l.length:Int)) then
 bif decide (0≤i2) then
 (l[i2.toNat]?).bind fun i3=>
 (aa.nv i3 0 (IntKind.i64.wrap (Kw-1))).bind fun b4=>
 bif !b4 then
 some (Sum.inr (Sum.inl false))
 else
 bif decide (0<i2) then
 bif decide (0≤IntKind.i64.wrap (i2-1)) then
 (l[(IntKind.i64.wrap (i2-1)).toNat]?).bind fun i5=>
 bif decide (i3≤i5) then
 some (Sum.inr (Sum.inl false))
 else
 some (Sum.inl (b1,IntKind.i64.wrap (i2+1)))
 else
 none
 else
 some (Sum.inl (b1,IntKind.i64.wrap (i2+1)))
 else
 none
 else
 some (Sum.inr (Sum.inr (b1,i2)))) (false,0)).bind fun w6=>
 Sum.elim (fun b7=>
 some b7) (fun (b8,i9)=>
 (aa.nv (↑l.length:Int) 1 6).bind fun QE=>
 some QE) w6
noncomputable def Go.aa.gl(n:bP):Option Bool:=
 bif decide (8<(↑n.aD.length:Int)) then
 some false
 else
 bif decide (8<(↑n.ag.length:Int)) then
 some false
 else
 bif !(↑n.aA.length:Int)==(↑n.ag.length:Int) then
 some false
 else
 (aa.gR [n.aD,n.aA]).bind fun l1=>
 (aQ (ω:=Bool ⊕ Bool×Int) (fun ((b2,i3):Bool×Int)=>
 bif decide (i3<(↑l1.length:Int)) then
 bif decide (0≤i3) then
 (l1[i3.toNat]?).bind fun i4=>
 (aa.nv i4 0 1000).bind fun b5=>
 bif !b5 then
 some (Sum.inr (Sum.inl false))
 else
 some (Sum.inl (b2,IntKind.i64.wrap (i3+1)))
 else
 none
 else
 some (Sum.inr (Sum.inr (b2,i3)))) (false,0)).bind fun w6=>
 Sum.elim (fun b7=>
 some b7) (fun (b8,i9)=>
 (aQ (ω:=Bool ⊕ Bool×Int) (fun ((QE,i11):Bool×Int)=>
 bif decide (i11<(↑n.ag.length:Int)) then
 bif decide (0≤i11) then
 (n.ag[i11.toNat]?).bind fun Vj=>
 (aa.jP Vj (↑n.aD.length:Int)).bind fun Om=>
 bif !Om then
 some (Sum.inr (Sum.inl false))
 else
 some (Sum.inl (QE,IntKind.i64.wrap (i11+1)))
 else
 none
 else
 some (Sum.inr (Sum.inr (QE,i11)))) (b8,0)).bind fun Zo=>
 Sum.elim (fun TQ=>
 some TQ) (fun (Vk,i17)=>
 some true) Zo) w6
noncomputable def Go.aa.nV(s:List Bool)(v:Bool):Option Int:=
 (aQ (ω:=Int ⊕ Int×Int) (fun ((i1,i2):Int×Int)=>
 bif decide (i2<(↑s.length:Int)) then
 bif decide (0≤i2) then
 (s[i2.toNat]?).bind fun b3=>
 bif v==b3 then
 some (Sum.inr (Sum.inl i2))
 else
 some (Sum.inl (i1,IntKind.i64.wrap (i2+1)))
 else
 none
 else
 some (Sum.inr (Sum.inr (i1,i2)))) (0,0)).bind fun w4=>
 Sum.elim (fun i5=>
 some i5) (fun (i6,i7)=>
 some (-1)) w4
noncomputable def Go.aa.e9(s:List Bool)(v:Bool):Option Bool:=
 (aa.nV s v).bind fun i1=>
 some (decide (0≤i1))
noncomputable def Go.aa.bM(f:aj):Option Bool:=
 bif decide ((if f.dC<IntKind.i64.wrap (0-f.dC) then IntKind.i64.wrap (0-f.dC) else f.dC)≤1000000000) then
 bif decide (1≤f.Den) then
 some (decide (f.Den≤1000000000))
 else
 some false
 else
 some false
noncomputable def Go.aa.cR(f:aj):Option aj:=
 (aa.jO (if f.dC<IntKind.i64.wrap (0-f.dC) then IntKind.i64.wrap (0-f.dC) else f.dC) (if f.Den<IntKind.i64.wrap (0-f.Den) then IntKind.i64.wrap (0-f.Den) else f.Den)).bind fun i1=>
 bif decide (f.Den<0) then
 bif decide (IntKind.i64.wrap (0-i1)=0) then
 none
 else
 bif decide (IntKind.i64.wrap (0-i1)=0) then
 none
 else
 some (aj.mk (IntKind.i64.wrap (f.dC.tdiv (IntKind.i64.wrap (0-i1)))) (IntKind.i64.wrap (f.Den.tdiv (IntKind.i64.wrap (0-i1)))))
 else
 bif decide (i1=0) then
 none
 else
 bif decide (i1=0) then
 none
 else
 some (aj.mk (IntKind.i64.wrap (f.dC.tdiv i1)) (IntKind.i64.wrap (f.Den.tdiv i1)))
noncomputable def Go.aa.cM(a:aj):Option Bool:=
 bif decide (-1000000000≤a.dC) then
 (aa.bM a).bind fun b1=>
 bif b1 then
 (aa.cR a).bind fun q2=>
 some (q2.dC==a.dC&&q2.Den==a.Den)
 else
 some false
 else
 some false
noncomputable def Go.aa.qo(x:Int):Option Bool:=
 some (!x==x)
noncomputable def Go.aa.pI(x:Int)(y:Int):Option Int:=
 (aa.qo x).bind fun b1=>
 (aa.qo y).bind fun b2=>
 bif b1 then
 bif b2 then
 some 0
 else
 some (-1)
 else
 bif b2 then
 some 1
 else
 bif decide (x<y) then
 some (-1)
 else
 bif decide (y<x) then
 some 1
 else
 some 0
noncomputable def Go.aa.qn(a:aj)(b:aj):Option (Int×Int):=
 (aa.cM a).bind fun b1=>
 bif !b1 then
 some (0,1)
 else
 (aa.cM b).bind fun b2=>
 bif !b2 then
 some (0,1)
 else
 (aa.pI (IntKind.i64.wrap (a.dC*b.Den)) (IntKind.i64.wrap (b.dC*a.Den))).bind fun i3=>
 some (i3,0)
noncomputable def Go.aa.fO(a:aj)(b:aj):Option Bool:=
 (aa.qn a b).bind fun (i1,i2)=>
 some (decide (i1<0))
noncomputable def Go.aa.nU(l:List Int)(Kw:Int):Option Bool:=
 (aQ (ω:=Bool ⊕ Bool×Int) (fun ((b1,i2):Bool×Int)=>
 bif decide (i2<(↑l.length:Int)) then
 bif decide (0≤i2) then
 (l[i2.toNat]?).bind fun i3=>
 bif decide (i3<0) then
 some (Sum.inr (Sum.inl false))
 else
 bif decide (0≤i2) then
 (l[i2.toNat]?).bind fun i4=>
 bif decide (Kw≤i4) then
 some (Sum.inr (Sum.inl false))
 else
 bif decide (0<i2) then
 bif decide (0≤i2) then
 (l[i2.toNat]?).bind fun i5=>
 bif decide (0≤IntKind.i64.wrap (i2-1)) then
 (l[(IntKind.i64.wrap (i2-1)).toNat]?).bind fun i6=>
 bif decide (i5≤i6) then
 some (Sum.inr (Sum.inl false))
 else
 some (Sum.inl (b1,IntKind.i64.wrap (i2+1)))
 else
 none
 else
 none
 else
 some (Sum.inl (b1,IntKind.i64.wrap (i2+1)))
 else
 none
 else
 none
 else
 some (Sum.inr (Sum.inr (b1,i2)))) (false,0)).bind fun w7=>
 Sum.elim (fun b8=>
 some b8) (fun (b9,i10)=>
 bif decide (1≤(↑l.length:Int)) then
 some (decide ((↑l.length:Int)≤6))
 else
 some false) w7
noncomputable def Go.aa.cX(n:bP):Option Bool:=
 bif decide (8<(↑n.aD.length:Int)) then
 some false
 else
 bif decide (8<(↑n.ag.length:Int)) then
 some false
 else
 bif !(↑n.aA.length:Int)==(↑n.ag.length:Int) then
 some false
 else
 (aQ (ω:=Bool ⊕ Bool×Int) (fun ((b1,i2):Bool×Int)=>
 bif decide (i2<(↑n.aD.length:Int)) then
 bif decide (0≤i2) then
 (n.aD[i2.toNat]?).bind fun i3=>
 bif decide (i3<0) then
 some (Sum.inr (Sum.inl false))
 else
 bif decide (0≤i2) then
 (n.aD[i2.toNat]?).bind fun i4=>
 bif decide (1000<i4) then
 some (Sum.inr (Sum.inl false))
 else
 some (Sum.inl (b1,IntKind.i64.wrap (i2+1)))
 else
 none
 else
 none
 else
 some (Sum.inr (Sum.inr (b1,i2)))) (false,0)).bind fun w5=>
 Sum.elim (fun b6=>
 some b6) (fun (b7,i8)=>
 (aQ (ω:=Bool ⊕ Bool×Int) (fun ((b9,i10):Bool×Int)=>
 bif decide (i10<(↑n.ag.length:Int)) then
 bif decide (0≤i10) then
 (n.ag[i10.toNat]?).bind fun Bw=>
 (aa.nU Bw (↑n.aD.length:Int)).bind fun DU=>
 bif !DU then
 some (Sum.inr (Sum.inl false))
 else
 bif decide (0≤i10) then
 (n.aA[i10.toNat]?).bind fun i13=>
 bif decide (i13<0) then
 some (Sum.inr (Sum.inl false))
 else
 bif decide (0≤i10) then
 (n.aA[i10.toNat]?).bind fun i14=>
 bif decide (1000<i14) then
 some (Sum.inr (Sum.inl false))
 else
 some (Sum.inl (b9,IntKind.i64.wrap (i10+1)))
 else
 none
 else
 none
 else
 none
 else
 some (Sum.inr (Sum.inr (b9,i10)))) (b7,0)).bind fun Zp=>
 Sum.elim (fun Vk=>
 some Vk) (fun (b17,i18)=>
 some true) Zp) w5
noncomputable def Go.aa.pO(l:List Int)(link:Int):Option Bool:=
 (aQ (ω:=Bool ⊕ Bool×Int) (fun ((b1,i2):Bool×Int)=>
 bif decide (i2<(↑l.length:Int)) then
 bif decide (0≤i2) then
 (l[i2.toNat]?).bind fun i3=>
 bif i3==link then
 some (Sum.inr (Sum.inl true))
 else
 some (Sum.inl (b1,IntKind.i64.wrap (i2+1)))
 else
 none
 else
 some (Sum.inr (Sum.inr (b1,i2)))) (false,0)).bind fun w4=>
 Sum.elim (fun b5=>
 some b5) (fun (b6,i7)=>
 some false) w4
noncomputable def Go.aa.n4(num:Int)(mJ:Int):Option Bool:=
 bif decide (-1000000000≤num) then
 bif decide (num≤1000000000) then
 bif decide (1≤mJ) then
 some (decide (mJ≤1000000000))
 else
 some false
 else
 some false
 else
 some false
noncomputable def Go.aa.qz(n:Int):Option Int:=
 some (if n<IntKind.i64.wrap (0-n) then IntKind.i64.wrap (0-n) else n)
noncomputable def Go.aa.jU(a:Int)(b:Int):Option Int:=
 (aQ (ω:=Int×Int) (fun ((i1,i2):Int×Int)=>
 bif !i2==0 then
 bif decide (i2=0) then
 none
 else
 some (Sum.inl (i2,i1.tmod i2))
 else
 some (Sum.inr (i1,i2))) (a,b)).bind fun (i3,i4)=>
 some i3
noncomputable def Go.aa.dw(a:aj):Option Bool:=
 (aa.n4 a.dC a.Den).bind fun b1=>
 bif b1 then
 (aa.qz a.dC).bind fun i2=>
 (aa.jU i2 a.Den).bind fun i3=>
 some (i3==1)
 else
 some false
noncomputable def Go.aa.jV(num:Int)(mJ:Int):Option (aj×Int):=
 bif decide (mJ<0) then
 (aa.qz (IntKind.i64.wrap (0-num))).bind fun i1=>
 (aa.jU i1 (IntKind.i64.wrap (0-mJ))).bind fun i2=>
 bif decide (i2=0) then
 none
 else
 bif decide (i2=0) then
 none
 else
 (aa.n4 (IntKind.i64.wrap ((IntKind.i64.wrap (0-num)).tdiv i2)) (IntKind.i64.wrap ((IntKind.i64.wrap (0-mJ)).tdiv i2))).bind fun b3=>
 bif !b3 then
 some (aj.mk 0 0,3)
 else
 bif decide (i2=0) then
 none
 else
 bif decide (i2=0) then
 none
 else
 some (aj.mk (IntKind.i64.wrap ((IntKind.i64.wrap (0-num)).tdiv i2)) (IntKind.i64.wrap ((IntKind.i64.wrap (0-mJ)).tdiv i2)),0)
 else
 (aa.qz num).bind fun i4=>
 (aa.jU i4 mJ).bind fun i5=>
 bif decide (i5=0) then
 none
 else
 bif decide (i5=0) then
 none
 else
 (aa.n4 (IntKind.i64.wrap (num.tdiv i5)) (IntKind.i64.wrap (mJ.tdiv i5))).bind fun b6=>
 bif !b6 then
 some (aj.mk 0 0,3)
 else
 bif decide (i5=0) then
 none
 else
 bif decide (i5=0) then
 none
 else
 some (aj.mk (IntKind.i64.wrap (num.tdiv i5)) (IntKind.i64.wrap (mJ.tdiv i5)),0)
noncomputable def Go.aa.zU(a:aj)(b:aj):Option (aj×Int):=
 (aa.dw a).bind fun b1=>
 bif !b1 then
 some (aj.mk 0 0,1)
 else
 (aa.dw b).bind fun b2=>
 bif !b2 then
 some (aj.mk 0 0,1)
 else
 (aa.jV (IntKind.i64.wrap (IntKind.i64.wrap (a.dC*b.Den)-IntKind.i64.wrap (b.dC*a.Den))) (IntKind.i64.wrap (a.Den*b.Den))).bind fun (q3,i4)=>
 some (q3,i4)
noncomputable def Go.aa.zV(a:aj)(b:aj):Option (aj×Int):=
 (aa.dw a).bind fun b1=>
 bif !b1 then
 some (aj.mk 0 0,1)
 else
 (aa.dw b).bind fun b2=>
 bif !b2 then
 some (aj.mk 0 0,1)
 else
 bif b.dC==0 then
 some (aj.mk 0 0,14)
 else
 (aa.jV (IntKind.i64.wrap (a.dC*b.Den)) (IntKind.i64.wrap (a.Den*b.dC))).bind fun (q3,i4)=>
 some (q3,i4)
noncomputable def Go.aa.vK(n:bP)(fixed:List Bool)(x:List aj)(link:Int):Option (aj×Int):=
 bif decide (0≤link) then
 (n.aD[link.toNat]?).bind fun i1=>
 (aQ (ω:=Int×Int×Int×Int) (fun ((i2,i3,i4,i5):Int×Int×Int×Int)=>
 bif decide (i3<(↑n.ag.length:Int)) then
 bif decide (0≤i3) then
 (n.ag[i3.toNat]?).bind fun l6=>
 (aa.pO l6 link).bind fun b7=>
 bif b7 then
 bif decide (0≤i3) then
 (fixed[i3.toNat]?).bind fun b8=>
 bif b8 then
 bif decide (0≤i3) then
 (x[i3.toNat]?).bind fun q9=>
 (aa.zU (aj.mk i4 i5) q9).bind fun (CE,i11)=>
 bif b7 then
 bif decide (0≤i3) then
 (fixed[i3.toNat]?).bind fun DU=>
 bif !DU then
 some (Sum.inl (IntKind.i64.wrap (i2+1),IntKind.i64.wrap (i3+1),CE.dC,CE.Den))
 else
 some (Sum.inl (i2,IntKind.i64.wrap (i3+1),CE.dC,CE.Den))
 else
 none
 else
 some (Sum.inl (i2,IntKind.i64.wrap (i3+1),CE.dC,CE.Den))
 else
 none
 else
 bif b7 then
 bif decide (0≤i3) then
 (fixed[i3.toNat]?).bind fun Om=>
 bif !Om then
 some (Sum.inl (IntKind.i64.wrap (i2+1),IntKind.i64.wrap (i3+1),i4,i5))
 else
 some (Sum.inl (i2,IntKind.i64.wrap (i3+1),i4,i5))
 else
 none
 else
 some (Sum.inl (i2,IntKind.i64.wrap (i3+1),i4,i5))
 else
 none
 else
 bif b7 then
 bif decide (0≤i3) then
 (fixed[i3.toNat]?).bind fun Vl=>
 bif !Vl then
 some (Sum.inl (IntKind.i64.wrap (i2+1),IntKind.i64.wrap (i3+1),i4,i5))
 else
 some (Sum.inl (i2,IntKind.i64.wrap (i3+1),i4,i5))
 else
 none
 else
 some (Sum.inl (i2,IntKind.i64.wrap (i3+1),i4,i5))
 else
 none
 else
 some (Sum.inr (i2,i3,i4,i5))) (0,0,i1,1)).bind fun (i15,i16,i17,i18)=>
 bif i15==0 then
 some (aj.mk i17 i18,0)
 else
 (aa.zV (aj.mk i17 i18) (aj.mk i15 1)).bind fun (Vm,i20)=>
 some (Vm,i15)
 else
 none
noncomputable def Go.aa.iC(a:aj)(b:aj):Option (Int×Int):=
 (aa.dw a).bind fun b1=>
 bif !b1 then
 some (0,1)
 else
 (aa.dw b).bind fun b2=>
 bif !b2 then
 some (0,1)
 else
 bif decide (IntKind.i64.wrap (a.dC*b.Den)<IntKind.i64.wrap (b.dC*a.Den)) then
 some (-1,0)
 else
 bif decide (IntKind.i64.wrap (b.dC*a.Den)<IntKind.i64.wrap (a.dC*b.Den)) then
 some (1,0)
 else
 some (0,0)
noncomputable def Go.aa.vL(n:bP):Option ((List aj)×Int):=
 (aa.cX n).bind fun b1=>
 bif !b1 then
 some ([],1)
 else
 bif decide ((↑n.ag.length:Int).toNat*16≤2^47)&&decide ((↑n.ag.length:Int).toNat<2^62) then
 bif decide ((↑n.ag.length:Int).toNat*1≤2^47)&&decide ((↑n.ag.length:Int).toNat<2^62) then
 (aQ (ω:=Int×List aj×List Bool) (fun ((i2,l3,l4):Int×List aj×List Bool)=>
 bif decide (0<i2) then
 (aQ (ω:=Int×Int×Int×Int) (fun ((i5,i6,i7,i8):Int×Int×Int×Int)=>
 bif decide (i6<(↑n.aD.length:Int)) then
 (aa.vK n l4 l3 i6).bind fun (q9,i10)=>
 (aa.iC q9 (aj.mk i7 i8)).bind fun (i11,i12)=>
 bif decide (0<i10) then
 bif decide (i11<0) then
 some (Sum.inl (i6,IntKind.i64.wrap (i6+1),q9.dC,q9.Den))
 else
 some (Sum.inl (i5,IntKind.i64.wrap (i6+1),i7,i8))
 else
 some (Sum.inl (i5,IntKind.i64.wrap (i6+1),i7,i8))
 else
 some (Sum.inr (i5,i6,i7,i8))) (-1,0,1000000,1)).bind fun (i13,i14,i15,i16)=>
 (aQ (ω:=Int×Int×Int×Int×Int) (fun ((i17,i18,i19,i20,i21):Int×Int×Int×Int×Int)=>
 bif decide (i19<(↑n.ag.length:Int)) then
 bif decide (0≤i19) then
 (n.aA[i19.toNat]?).bind fun i22=>
 (aa.iC (aj.mk i22 1) (aj.mk i20 i21)).bind fun (i23,i24)=>
 bif decide (0≤i19) then
 bif decide (i19.toNat<l4.length) then
 (l4[0+i19.toNat]?).bind fun Zq=>
 bif !Zq then
 bif decide (0≤i19) then
 (n.aA[i19.toNat]?).bind fun i26=>
 bif decide (0<i26) then
 bif decide (i23<0) then
 some (Sum.inl (i19,-1,IntKind.i64.wrap (i19+1),i22,1))
 else
 some (Sum.inl (i17,i18,IntKind.i64.wrap (i19+1),i20,i21))
 else
 some (Sum.inl (i17,i18,IntKind.i64.wrap (i19+1),i20,i21))
 else
 none
 else
 some (Sum.inl (i17,i18,IntKind.i64.wrap (i19+1),i20,i21))
 else
 none
 else
 none
 else
 none
 else
 some (Sum.inr (i17,i18,i19,i20,i21))) (-1,i13,0,i15,i16)).bind fun (i27,i28,i29,i30,i31)=>
 (aQ (ω:=Int×Int×List aj×List Bool) (fun ((i32,i33,qA,rb):Int×Int×List aj×List Bool)=>
 bif decide (i33<(↑n.ag.length:Int)) then
 bif decide (0≤i28) then
 bif decide (0≤i33) then
 (n.ag[i33.toNat]?).bind fun Zr=>
 (aa.pO Zr i28).bind fun Zs=>
 bif decide (0≤i33) then
 bif decide (i33.toNat<rb.length) then
 (rb[0+i33.toNat]?).bind fun PE=>
 bif !PE then
 bif Zs then
 bif decide (0≤i33) then
 bif decide (i33.toNat<rb.length) then
 (rb[0+i33.toNat]?).bind fun XB=>
 bif decide (0≤i33) then
 bif decide (i33.toNat<qA.length) then
 (qA[0+i33.toNat]?).bind fun q40=>
 bif decide ((qA.set (0+i33.toNat) (aj.mk i30 i31)).length=l3.length) then
 bif decide ((rb.set (0+i33.toNat) true).length=l4.length) then
 some (Sum.inl (IntKind.i64.wrap (i32-1),IntKind.i64.wrap (i33+1),qA.set (0+i33.toNat) (aj.mk i30 i31),rb.set (0+i33.toNat) true))
 else
 none
 else
 none
 else
 none
 else
 none
 else
 none
 else
 none
 else
 bif decide (i28<0) then
 bif i33==i27 then
 bif decide (0≤i33) then
 bif decide (i33.toNat<rb.length) then
 (rb[0+i33.toNat]?).bind fun XC=>
 bif decide (0≤i33) then
 bif decide (i33.toNat<qA.length) then
 (qA[0+i33.toNat]?).bind fun q42=>
 bif decide ((qA.set (0+i33.toNat) (aj.mk i30 i31)).length=l3.length) then
 bif decide ((rb.set (0+i33.toNat) true).length=l4.length) then
 some (Sum.inl (IntKind.i64.wrap (i32-1),IntKind.i64.wrap (i33+1),qA.set (0+i33.toNat) (aj.mk i30 i31),rb.set (0+i33.toNat) true))
 else
 none
 else
 none
 else
 none
 else
 none
 else
 none
 else
 none
 else
 bif decide (qA.length=l3.length) then
 bif decide (rb.length=l4.length) then
 some (Sum.inl (i32,IntKind.i64.wrap (i33+1),qA,rb))
 else
 none
 else
 none
 else
 bif decide (qA.length=l3.length) then
 bif decide (rb.length=l4.length) then
 some (Sum.inl (i32,IntKind.i64.wrap (i33+1),qA,rb))
 else
 none
 else
 none
 else
 bif decide (qA.length=l3.length) then
 bif decide (rb.length=l4.length) then
 some (Sum.inl (i32,IntKind.i64.wrap (i33+1),qA,rb))
 else
 none
 else
 none
 else
 none
 else
 none
 else
 none
 else
 bif decide (0≤i33) then
 bif decide (i33.toNat<rb.length) then
 (rb[0+i33.toNat]?).bind fun Vn=>
 bif !Vn then
 bif decide (i28<0) then
 bif i33==i27 then
 bif decide (0≤i33) then
 bif decide (i33.toNat<rb.length) then
 (rb[0+i33.toNat]?).bind fun XD=>
 bif decide (0≤i33) then
 bif decide (i33.toNat<qA.length) then
 (qA[0+i33.toNat]?).bind fun Vo=>
 bif decide ((qA.set (0+i33.toNat) (aj.mk i30 i31)).length=l3.length) then
 bif decide ((rb.set (0+i33.toNat) true).length=l4.length) then
 some (Sum.inl (IntKind.i64.wrap (i32-1),IntKind.i64.wrap (i33+1),qA.set (0+i33.toNat) (aj.mk i30 i31),rb.set (0+i33.toNat) true))
 else
 none
 else
 none
 else
 none
 else
 none
 else
 none
 else
 none
 else
 bif decide (qA.length=l3.length) then
 bif decide (rb.length=l4.length) then
 some (Sum.inl (i32,IntKind.i64.wrap (i33+1),qA,rb))
 else
 none
 else
 none
 else
 bif decide (qA.length=l3.length) then
 bif decide (rb.length=l4.length) then
 some (Sum.inl (i32,IntKind.i64.wrap (i33+1),qA,rb))
 else
 none
 else
 none
 else
 bif decide (qA.length=l3.length) then
 bif decide (rb.length=l4.length) then
 some (Sum.inl (i32,IntKind.i64.wrap (i33+1),qA,rb))
 else
 none
 else
 none
 else
 none
 else
 none
 else
 bif decide (qA.length=l3.length) then
 bif decide (rb.length=l4.length) then
 some (Sum.inr (i32,i33,qA,rb))
 else
 none
 else
 none) (i2,0,l3,l4)).bind fun (i46,i47,PF,QF)=>
 bif decide (PF.length=(List.replicate (↑n.ag.length:Int).toNat (aj.mk 0 0)).length) then
 bif decide (QF.length=(List.replicate (↑n.ag.length:Int).toNat false).length) then
 some (Sum.inl (i46,PF,QF))
 else
 none
 else
 none
 else
 bif decide (l3.length=(List.replicate (↑n.ag.length:Int).toNat (aj.mk 0 0)).length) then
 bif decide (l4.length=(List.replicate (↑n.ag.length:Int).toNat false).length) then
 some (Sum.inr (i2,l3,l4))
 else
 none
 else
 none) ((↑n.ag.length:Int),List.replicate (↑n.ag.length:Int).toNat (aj.mk 0 0),List.replicate (↑n.ag.length:Int).toNat false)).bind fun (i50,Nk,l52)=>
 some (Nk,0)
 else
 none
 else
 none
noncomputable def Go.aa.dt(n:Int):Option aj:=
 some (aj.mk n 1)
noncomputable def Go.aa.mB(s:List Int)(v:Int):Option Int:=
 (aQ (ω:=Int ⊕ Int×Int) (fun ((i1,i2):Int×Int)=>
 bif decide (i2<(↑s.length:Int)) then
 bif decide (0≤i2) then
 (s[i2.toNat]?).bind fun i3=>
 bif v==i3 then
 some (Sum.inr (Sum.inl i2))
 else
 some (Sum.inl (i1,IntKind.i64.wrap (i2+1)))
 else
 none
 else
 some (Sum.inr (Sum.inr (i1,i2)))) (0,0)).bind fun w4=>
 Sum.elim (fun i5=>
 some i5) (fun (i6,i7)=>
 some (-1)) w4
noncomputable def Go.aa.bK(s:List Int)(v:Int):Option Bool:=
 (aa.mB s v).bind fun i1=>
 some (decide (0≤i1))
noncomputable def Go.aa.bo(f:aj):Option (aj×Int):=
 (aa.cR f).bind fun q1=>
 (aa.bM q1).bind fun b2=>
 bif !b2 then
 some (aj.mk 0 0,3)
 else
 some (q1,0)
noncomputable def Go.aa.zW(a:aj)(b:aj):Option (aj×Int):=
 (aa.cM a).bind fun b1=>
 bif !b1 then
 some (aj.mk 0 0,1)
 else
 (aa.cM b).bind fun b2=>
 bif !b2 then
 some (aj.mk 0 0,1)
 else
 bif IntKind.i64.wrap (a.Den*b.Den)==0 then
 some (aj.mk 0 0,14)
 else
 (aa.bo (aj.mk (IntKind.i64.wrap (IntKind.i64.wrap (a.dC*b.Den)+IntKind.i64.wrap (b.dC*a.Den))) (IntKind.i64.wrap (a.Den*b.Den)))).bind fun (q3,i4)=>
 some (q3,i4)
noncomputable def Go.aa.mq(s:ca)(l:Int):Option (aj×Bool):=
 (aa.dt 0).bind fun q1=>
 (aQ (ω:=Int×Int×Bool×Int×Int ⊕ Int×Int×Int) (fun ((i2,i3,i4):Int×Int×Int)=>
 bif decide (i2<(↑s.Net.ag.length:Int)) then
 bif decide (0≤i2) then
 (s.Net.ag[i2.toNat]?).bind fun l5=>
 (aa.bK l5 l).bind fun b6=>
 bif b6 then
 bif decide (0≤i2) then
 (s.CD[i2.toNat]?).bind fun q7=>
 (aa.zW (aj.mk i3 i4) q7).bind fun (q8,i9)=>
 bif !i9==0 then
 some (Sum.inr (Sum.inl (i3,i4,false,i3,i4)))
 else
 some (Sum.inl (IntKind.i64.wrap (i2+1),q8.dC,q8.Den))
 else
 none
 else
 some (Sum.inl (IntKind.i64.wrap (i2+1),i3,i4))
 else
 none
 else
 some (Sum.inr (Sum.inr (i2,i3,i4)))) (0,q1.dC,q1.Den)).bind fun R4=>
 Sum.elim (fun (i11,i12,Om,i14,i15)=>
 some (aj.mk i14 i15,Om)) (fun (i16,i17,i18)=>
 bif decide (0≤l) then
 (s.Net.aD[l.toNat]?).bind fun i19=>
 (aa.dt i19).bind fun Vp=>
 (aa.fO Vp (aj.mk i17 i18)).bind fun R5=>
 some (aj.mk i17 i18,!R5)
 else
 none) R4
noncomputable def Go.aa.jd(n:bP)(x:List aj):Option Bool:=
 (aa.gl n).bind fun b1=>
 bif !b1 then
 some false
 else
 bif !(↑x.length:Int)==(↑n.ag.length:Int) then
 some false
 else
 (aQ (ω:=Bool ⊕ Bool×Int) (fun ((b2,i3):Bool×Int)=>
 bif decide (i3<(↑x.length:Int)) then
 bif decide (0≤i3) then
 (x[i3.toNat]?).bind fun q4=>
 (aa.cM q4).bind fun b5=>
 bif !b5 then
 some (Sum.inr (Sum.inl false))
 else
 bif decide (q4.dC<0) then
 some (Sum.inr (Sum.inl false))
 else
 bif decide (0≤i3) then
 (n.aA[i3.toNat]?).bind fun i6=>
 bif decide (0<i6) then
 bif decide (0≤i3) then
 (n.aA[i3.toNat]?).bind fun i7=>
 (aa.dt i7).bind fun q8=>
 (aa.fO q8 q4).bind fun b9=>
 bif b9 then
 some (Sum.inr (Sum.inl false))
 else
 some (Sum.inl (b2,IntKind.i64.wrap (i3+1)))
 else
 none
 else
 some (Sum.inl (b2,IntKind.i64.wrap (i3+1)))
 else
 none
 else
 none
 else
 some (Sum.inr (Sum.inr (b2,i3)))) (false,0)).bind fun R4=>
 Sum.elim (fun R6=>
 some R6) (fun (DU,i13)=>
 bif decide ((↑x.length:Int).toNat*1≤2^47)&&decide ((↑x.length:Int).toNat<2^62) then
 (aQ (ω:=Int×List Bool) (fun ((i14,wj):Int×List Bool)=>
 bif decide (i14<(↑n.aA.length:Int)) then
 bif decide (0≤i14) then
 (n.aA[i14.toNat]?).bind fun i16=>
 bif decide (0<i16) then
 bif decide (0≤i14) then
 (x[i14.toNat]?).bind fun HE=>
 (aa.dt i16).bind fun On=>
 bif decide (0≤i14) then
 bif decide (i14.toNat<wj.length) then
 (wj[0+i14.toNat]?).bind fun b19=>
 bif decide ((wj.set (0+i14.toNat) (HE.dC==On.dC&&HE.Den==On.Den)).length=(List.replicate (↑x.length:Int).toNat false).length) then
 some (Sum.inl (IntKind.i64.wrap (i14+1),wj.set (0+i14.toNat) (HE.dC==On.dC&&HE.Den==On.Den)))
 else
 none
 else
 none
 else
 none
 else
 none
 else
 bif decide (0≤i14) then
 bif decide (i14.toNat<wj.length) then
 (wj[0+i14.toNat]?).bind fun XE=>
 bif decide ((wj.set (0+i14.toNat) false).length=(List.replicate (↑x.length:Int).toNat false).length) then
 some (Sum.inl (IntKind.i64.wrap (i14+1),wj.set (0+i14.toNat) false))
 else
 none
 else
 none
 else
 none
 else
 none
 else
 bif decide (wj.length=(List.replicate (↑x.length:Int).toNat false).length) then
 some (Sum.inr (i14,wj))
 else
 none) (0,List.replicate (↑x.length:Int).toNat false)).bind fun (i21,Gt)=>
 (aQ (ω:=Bool×List Bool ⊕ Bool×Int×List Bool) (fun ((TR,i24,DV):Bool×Int×List Bool)=>
 bif decide (i24<(↑n.aD.length:Int)) then
 (aa.mq (ca.mk n [] x) i24:Option (aj×Bool)).bind fun (TS,TT)=>
 bif !TT then
 bif decide (DV.length=Gt.length) then
 some (Sum.inr (Sum.inl (false,DV)))
 else
 none
 else
 (aQ (ω:=Int×List Bool) (fun ((i28,Bx):Int×List Bool)=>
 bif decide (i28<(↑n.ag.length:Int)) then
 bif decide (0≤i28) then
 (n.ag[i28.toNat]?).bind fun Zt=>
 (aa.bK Zt i24).bind fun Zu=>
 bif Zu then
 (aQ (ω:=Int×Bool) (fun ((i32,R7):Int×Bool)=>
 bif decide (i32<(↑n.ag.length:Int)) then
 bif decide (0≤i32) then
 (n.ag[i32.toNat]?).bind fun qA=>
 (aa.bK qA i24).bind fun Vq=>
 bif Vq then
 bif R7 then
 bif decide (0≤i28) then
 (x[i28.toNat]?).bind fun Zv=>
 bif decide (0≤i32) then
 (x[i32.toNat]?).bind fun Zw=>
 (aa.fO Zv Zw).bind fun PE=>
 some (Sum.inl (IntKind.i64.wrap (i32+1),!PE))
 else
 none
 else
 none
 else
 some (Sum.inl (IntKind.i64.wrap (i32+1),false))
 else
 some (Sum.inl (IntKind.i64.wrap (i32+1),R7))
 else
 none
 else
 some (Sum.inr (i32,R7))) (0,true)).bind fun (i39,Vr)=>
 bif decide (0≤i28) then
 bif decide (i28.toNat<Bx.length) then
 (Bx[0+i28.toNat]?).bind fun XC=>
 bif XC then
 bif decide (0≤i28) then
 bif decide (i28.toNat<Bx.length) then
 (Bx[0+i28.toNat]?).bind fun b42=>
 bif decide ((Bx.set (0+i28.toNat) true).length=DV.length) then
 some (Sum.inl (IntKind.i64.wrap (i28+1),Bx.set (0+i28.toNat) true))
 else
 none
 else
 none
 else
 none
 else
 bif Vr then
 bif decide (0≤i24) then
 (n.aD[i24.toNat]?).bind fun i43=>
 (aa.dt i43).bind fun TU=>
 bif decide (0≤i28) then
 bif decide (i28.toNat<Bx.length) then
 (Bx[0+i28.toNat]?).bind fun b45=>
 bif decide ((Bx.set (0+i28.toNat) (TS.dC==TU.dC&&TS.Den==TU.Den)).length=DV.length) then
 some (Sum.inl (IntKind.i64.wrap (i28+1),Bx.set (0+i28.toNat) (TS.dC==TU.dC&&TS.Den==TU.Den)))
 else
 none
 else
 none
 else
 none
 else
 none
 else
 bif decide (0≤i28) then
 bif decide (i28.toNat<Bx.length) then
 (Bx[0+i28.toNat]?).bind fun QG=>
 bif decide ((Bx.set (0+i28.toNat) false).length=DV.length) then
 some (Sum.inl (IntKind.i64.wrap (i28+1),Bx.set (0+i28.toNat) false))
 else
 none
 else
 none
 else
 none
 else
 none
 else
 none
 else
 bif decide (Bx.length=DV.length) then
 some (Sum.inl (IntKind.i64.wrap (i28+1),Bx))
 else
 none
 else
 none
 else
 bif decide (Bx.length=DV.length) then
 some (Sum.inr (i28,Bx))
 else
 none) (0,DV)).bind fun (i47,PF)=>
 bif decide (PF.length=Gt.length) then
 some (Sum.inl (TR,IntKind.i64.wrap (i24+1),PF))
 else
 none
 else
 bif decide (DV.length=Gt.length) then
 some (Sum.inr (Sum.inr (TR,i24,DV)))
 else
 none) (DU,0,Gt)).bind fun Zx=>
 Sum.elim (fun (Zy,Nk)=>
 some Zy) (fun (XF,i53,L3)=>
 (aa.e9 L3 false).bind fun Vs=>
 some !Vs) Zx
 else
 none) R4
noncomputable def Go.aa.zX(a:aj)(b:aj):Option (aj×Int):=
 (aa.dw a).bind fun b1=>
 bif !b1 then
 some (aj.mk 0 0,1)
 else
 (aa.dw b).bind fun b2=>
 bif !b2 then
 some (aj.mk 0 0,1)
 else
 (aa.jV (IntKind.i64.wrap (IntKind.i64.wrap (a.dC*b.Den)+IntKind.i64.wrap (b.dC*a.Den))) (IntKind.i64.wrap (a.Den*b.Den))).bind fun (q3,i4)=>
 some (q3,i4)
noncomputable def Go.aa.n5(n:bP)(x:List aj)(link:Int):Option (aj×Bool):=
 (aQ (ω:=Bool×Int×Int×Int×Int ⊕ Bool×Int×Int×Int) (fun ((b1,i2,i3,i4):Bool×Int×Int×Int)=>
 bif decide (i2<(↑n.ag.length:Int)) then
 bif decide (0≤i2) then
 (n.ag[i2.toNat]?).bind fun l5=>
 (aa.pO l5 link).bind fun b6=>
 bif b6 then
 bif decide (0≤i2) then
 (x[i2.toNat]?).bind fun q7=>
 (aa.zX (aj.mk i3 i4) q7).bind fun (q8,i9)=>
 bif !i9==0 then
 some (Sum.inr (Sum.inl (false,i3,i4,i3,i4)))
 else
 some (Sum.inl (b1,IntKind.i64.wrap (i2+1),q8.dC,q8.Den))
 else
 none
 else
 some (Sum.inl (b1,IntKind.i64.wrap (i2+1),i3,i4))
 else
 none
 else
 some (Sum.inr (Sum.inr (b1,i2,i3,i4)))) (false,0,0,1)).bind fun R4=>
 Sum.elim (fun (R6,i12,i13,i14,i15)=>
 some (aj.mk i14 i15,R6)) (fun (Vk,i17,i18,i19)=>
 some (aj.mk i18 i19,true)) R4
noncomputable def Go.aa.n6(n:bP)(x:List aj)(Fa:Int)(link:Int):Option Bool:=
 (aa.n5 n x link).bind fun (q1,b2)=>
 (aQ (ω:=Bool ⊕ Bool×Int) (fun ((b3,i4):Bool×Int)=>
 bif decide (i4<(↑n.ag.length:Int)) then
 bif decide (0≤i4) then
 (n.ag[i4.toNat]?).bind fun l5=>
 (aa.pO l5 link).bind fun b6=>
 bif decide (0≤i4) then
 (x[i4.toNat]?).bind fun q7=>
 bif decide (0≤Fa) then
 (x[Fa.toNat]?).bind fun q8=>
 (aa.iC q7 q8).bind fun (i9,i10)=>
 bif b6 then
 bif decide (0<i9) then
 some (Sum.inr (Sum.inl false))
 else
 some (Sum.inl (b3,IntKind.i64.wrap (i4+1)))
 else
 some (Sum.inl (b3,IntKind.i64.wrap (i4+1)))
 else
 none
 else
 none
 else
 none
 else
 some (Sum.inr (Sum.inr (b3,i4)))) (false,0)).bind fun Vt=>
 Sum.elim (fun DU=>
 some DU) (fun (Om,i14)=>
 bif q1.Den==1 then
 bif decide (0≤link) then
 (n.aD[link.toNat]?).bind fun i15=>
 some (q1.dC==i15)
 else
 none
 else
 some false) Vt
noncomputable def Go.aa.vM(n:bP)(x:List aj):Option Bool:=
 (aa.cX n).bind fun b1=>
 bif !b1 then
 some false
 else
 bif !(↑x.length:Int)==(↑n.ag.length:Int) then
 some false
 else
 (aQ (ω:=Bool ⊕ Bool×Int) (fun ((b2,i3):Bool×Int)=>
 bif decide (i3<(↑x.length:Int)) then
 bif decide (0≤i3) then
 (x[i3.toNat]?).bind fun q4=>
 (aa.dw q4).bind fun b5=>
 bif !b5 then
 some (Sum.inr (Sum.inl false))
 else
 bif decide (0≤i3) then
 (x[i3.toNat]?).bind fun q6=>
 bif decide (q6.dC<0) then
 some (Sum.inr (Sum.inl false))
 else
 bif decide (0≤i3) then
 (n.aA[i3.toNat]?).bind fun i7=>
 bif decide (0<i7) then
 bif decide (0≤i3) then
 (x[i3.toNat]?).bind fun q8=>
 bif decide (0≤i3) then
 (n.aA[i3.toNat]?).bind fun i9=>
 bif decide (0≤i3) then
 (x[i3.toNat]?).bind fun CE=>
 bif decide (IntKind.i64.wrap (i9*CE.Den)<q8.dC) then
 some (Sum.inr (Sum.inl false))
 else
 some (Sum.inl (b2,IntKind.i64.wrap (i3+1)))
 else
 none
 else
 none
 else
 none
 else
 some (Sum.inl (b2,IntKind.i64.wrap (i3+1)))
 else
 none
 else
 none
 else
 none
 else
 some (Sum.inr (Sum.inr (b2,i3)))) (false,0)).bind fun Vt=>
 Sum.elim (fun DU=>
 some DU) (fun (Om,i14)=>
 (aQ (ω:=Bool ⊕ Bool×Int) (fun ((TQ,i16):Bool×Int)=>
 bif decide (i16<(↑n.aD.length:Int)) then
 (aa.n5 n x i16).bind fun (HE,Vu)=>
 bif !Vu then
 some (Sum.inr (Sum.inl false))
 else
 bif decide (0≤i16) then
 (n.aD[i16.toNat]?).bind fun i19=>
 bif decide (IntKind.i64.wrap (i19*HE.Den)<HE.dC) then
 some (Sum.inr (Sum.inl false))
 else
 some (Sum.inl (TQ,IntKind.i64.wrap (i16+1)))
 else
 none
 else
 some (Sum.inr (Sum.inr (TQ,i16)))) (Om,0)).bind fun Zz=>
 Sum.elim (fun R5=>
 some R5) (fun (Vv,i23)=>
 (aQ (ω:=Bool ⊕ Bool×Int) (fun ((TW,i25):Bool×Int)=>
 bif decide (i25<(↑x.length:Int)) then
 bif decide (0≤i25) then
 (n.aA[i25.toNat]?).bind fun i26=>
 bif decide (0<i26) then
 bif decide (0≤i25) then
 (x[i25.toNat]?).bind fun ZA=>
 bif ZA.Den==1 then
 bif decide (0≤i25) then
 (x[i25.toNat]?).bind fun R8=>
 bif decide (0≤i25) then
 (n.aA[i25.toNat]?).bind fun i29=>
 (aQ (ω:=Bool×Int) (fun ((Vw,i31):Bool×Int)=>
 bif decide (0≤i25) then
 (n.ag[i25.toNat]?).bind fun ZB=>
 bif decide (i31<(↑ZB.length:Int)) then
 bif !Vw then
 bif decide (0≤i25) then
 (n.ag[i25.toNat]?).bind fun ZC=>
 bif decide (0≤i31) then
 (ZC[i31.toNat]?).bind fun i34=>
 (aa.n6 n x i25 i34).bind fun Vq=>
 some (Sum.inl (Vq,IntKind.i64.wrap (i31+1)))
 else
 none
 else
 none
 else
 some (Sum.inr (Vw,i31))
 else
 some (Sum.inr (Vw,i31))
 else
 none) (R8.dC==i29,0)).bind fun (Vx,i37)=>
 bif !Vx then
 some (Sum.inr (Sum.inl false))
 else
 some (Sum.inl (TW,IntKind.i64.wrap (i25+1)))
 else
 none
 else
 none
 else
 (aQ (ω:=Bool×Int) (fun ((PE,i39):Bool×Int)=>
 bif decide (0≤i25) then
 (n.ag[i25.toNat]?).bind fun ZD=>
 bif decide (i39<(↑ZD.length:Int)) then
 bif !PE then
 bif decide (0≤i25) then
 (n.ag[i25.toNat]?).bind fun ZE=>
 bif decide (0≤i39) then
 (ZE[i39.toNat]?).bind fun i42=>
 (aa.n6 n x i25 i42).bind fun Vn=>
 some (Sum.inl (Vn,IntKind.i64.wrap (i39+1)))
 else
 none
 else
 none
 else
 some (Sum.inr (PE,i39))
 else
 some (Sum.inr (PE,i39))
 else
 none) (false,0)).bind fun (XD,i45)=>
 bif !XD then
 some (Sum.inr (Sum.inl false))
 else
 some (Sum.inl (TW,IntKind.i64.wrap (i25+1)))
 else
 none
 else
 (aQ (ω:=Bool×Int) (fun ((QG,i47):Bool×Int)=>
 bif decide (0≤i25) then
 (n.ag[i25.toNat]?).bind fun PF=>
 bif decide (i47<(↑PF.length:Int)) then
 bif !QG then
 bif decide (0≤i25) then
 (n.ag[i25.toNat]?).bind fun QF=>
 bif decide (0≤i47) then
 (QF[i47.toNat]?).bind fun i50=>
 (aa.n6 n x i25 i50).bind fun ZF=>
 some (Sum.inl (ZF,IntKind.i64.wrap (i47+1)))
 else
 none
 else
 none
 else
 some (Sum.inr (QG,i47))
 else
 some (Sum.inr (QG,i47))
 else
 none) (false,0)).bind fun (XF,i53)=>
 bif !XF then
 some (Sum.inr (Sum.inl false))
 else
 some (Sum.inl (TW,IntKind.i64.wrap (i25+1)))
 else
 none
 else
 some (Sum.inr (Sum.inr (TW,i25)))) (Vv,0)).bind fun ZG=>
 Sum.elim (fun Vs=>
 some Vs) (fun (ZH,i57)=>
 some true) ZG) Zz) Vt
noncomputable def Go.aa.iz(n:bP):Option Bool:=
 (aQ (ω:=Bool ⊕ Bool×Int) (fun ((b1,i2):Bool×Int)=>
 bif decide (i2<(↑n.ag.length:Int)) then
 bif decide (i2<50) then
 bif decide (0≤i2) then
 (n.ag[i2.toNat]?).bind fun l3=>
 bif decide (50<(↑l3.length:Int)) then
 some (Sum.inr (Sum.inl false))
 else
 some (Sum.inl (b1,IntKind.i64.wrap (i2+1)))
 else
 none
 else
 some (Sum.inr (Sum.inr (b1,i2)))
 else
 some (Sum.inr (Sum.inr (b1,i2)))) (false,0)).bind fun w4=>
 Sum.elim (fun b5=>
 some b5) (fun (b6,i7)=>
 bif decide ((↑n.aD.length:Int)≤50) then
 bif decide ((↑n.ag.length:Int)≤50) then
 some (decide ((↑n.aA.length:Int)≤50))
 else
 some false
 else
 some false) w4
noncomputable def Go.aa.lK(a:List aj)(b:List aj):Option Bool:=
 bif !(↑a.length:Int)==(↑b.length:Int) then
 some false
 else
 (aQ (ω:=Bool ⊕ Bool×Int) (fun ((b1,i2):Bool×Int)=>
 bif decide (i2<(↑a.length:Int)) then
 bif decide (0≤i2) then
 (a[i2.toNat]?).bind fun q3=>
 bif decide (0≤i2) then
 (b[i2.toNat]?).bind fun q4=>
 bif !(q3.dC==q4.dC&&q3.Den==q4.Den) then
 some (Sum.inr (Sum.inl false))
 else
 some (Sum.inl (b1,IntKind.i64.wrap (i2+1)))
 else
 none
 else
 none
 else
 some (Sum.inr (Sum.inr (b1,i2)))) (false,0)).bind fun w5=>
 Sum.elim (fun b6=>
 some b6) (fun (b7,i8)=>
 some true) w5
noncomputable def Go.aa.nu(a:aj)(b:aj):Option (aj×Int):=
 (aa.cM a).bind fun b1=>
 bif !b1 then
 some (aj.mk 0 0,1)
 else
 (aa.cM b).bind fun b2=>
 bif !b2 then
 some (aj.mk 0 0,1)
 else
 bif IntKind.i64.wrap (a.Den*b.Den)==0 then
 some (aj.mk 0 0,14)
 else
 (aa.bo (aj.mk (IntKind.i64.wrap (IntKind.i64.wrap (a.dC*b.Den)-IntKind.i64.wrap (b.dC*a.Den))) (IntKind.i64.wrap (a.Den*b.Den)))).bind fun (q3,i4)=>
 some (q3,i4)
noncomputable def Go.aa.qm(a:aj)(b:aj):Option (aj×Int):=
 (aa.cM a).bind fun b1=>
 bif !b1 then
 some (aj.mk 0 0,1)
 else
 (aa.cM b).bind fun b2=>
 bif !b2 then
 some (aj.mk 0 0,1)
 else
 bif IntKind.i64.wrap (a.Den*b.dC)==0 then
 some (aj.mk 0 0,14)
 else
 (aa.bo (aj.mk (IntKind.i64.wrap (a.dC*b.Den)) (IntKind.i64.wrap (a.Den*b.dC)))).bind fun (q3,i4)=>
 some (q3,i4)
noncomputable def Go.aa.cd(l:Int)(s:ca):Option (aj×Bool):=
 bif decide (0≤l) then
 (s.Net.aD[l.toNat]?).bind fun i1=>
 (aa.dt i1).bind fun q2=>
 (aQ (ω:=Int×Int×Int×Int) (fun ((i3,i4,i5,i6):Int×Int×Int×Int)=>
 bif decide (i3<(↑s.Net.ag.length:Int)) then
 bif decide (0≤i3) then
 (s.Net.ag[i3.toNat]?).bind fun l7=>
 (aa.bK l7 l).bind fun b8=>
 bif b8 then
 bif decide (0≤i3) then
 (s.CC[i3.toNat]?).bind fun b9=>
 bif !b9 then
 some (Sum.inl (IntKind.i64.wrap (i3+1),IntKind.i64.wrap (i4+1),i5,i6))
 else
 bif decide (0≤i3) then
 (s.CD[i3.toNat]?).bind fun CE=>
 (aa.nu (aj.mk i5 i6) CE).bind fun (LZ,i12)=>
 some (Sum.inl (IntKind.i64.wrap (i3+1),i4,LZ.dC,LZ.Den))
 else
 none
 else
 none
 else
 some (Sum.inl (IntKind.i64.wrap (i3+1),i4,i5,i6))
 else
 none
 else
 some (Sum.inr (i3,i4,i5,i6))) (0,0,q2.dC,q2.Den)).bind fun (i13,i14,i15,i16)=>
 bif i14==0 then
 some (aj.mk i15 i16,false)
 else
 (aa.dt i14).bind fun HE=>
 (aa.qm (aj.mk i15 i16) HE).bind fun (On,i19)=>
 some (On,true)
 else
 none
noncomputable def Go.aa.fE(l:Int)(s:ca)(Fa:Int):Option Bool:=
 bif decide (0≤Fa) then
 (s.Net.ag[Fa.toNat]?).bind fun l1=>
 (aa.bK l1 l).bind fun b2=>
 some b2
 else
 none
noncomputable def Go.aa.cz(l:Int)(s:ca):Option (aj×Bool):=
 bif decide (0≤l) then
 (s.Net.aA[l.toNat]?).bind fun i1=>
 (aa.dt i1).bind fun q2=>
 bif decide (0≤l) then
 (s.Net.aA[l.toNat]?).bind fun i3=>
 bif decide (0<i3) then
 bif decide (0≤l) then
 (s.CC[l.toNat]?).bind fun b4=>
 some (q2,!b4)
 else
 none
 else
 some (q2,false)
 else
 none
 else
 none
noncomputable def Go.aa.lL(l:Int)(s:ca)(Fa:Int):Option Bool:=
 some (l==Fa)
noncomputable def Go.aa.cw(n:bP):Option ((List aj)×Int):=
 (aa.gl n).bind fun b1=>
 bif !b1 then
 some ([],1)
 else
 bif decide ((↑n.ag.length:Int).toNat*1≤2^47)&&decide ((↑n.ag.length:Int).toNat<2^62) then
 bif decide ((↑n.ag.length:Int).toNat*16≤2^47)&&decide ((↑n.ag.length:Int).toNat<2^62) then
 (aQ (ω:=Int×List dP) (fun ((i2,l3):Int×List dP)=>
 bif decide (i2<(↑n.aD.length:Int)) then
 bif decide ((l3.length+1)*16≤2^44)&&decide (l3.length+1≤2^44) then
 some (Sum.inl (IntKind.i64.wrap (i2+1),l3++[dP.mk true i2]))
 else
 none
 else
 some (Sum.inr (i2,l3))) (0,[])).bind fun (i4,l5)=>
 (aQ (ω:=Int×List dP) (fun ((i6,l7):Int×List dP)=>
 bif decide (i6<(↑n.aA.length:Int)) then
 bif decide ((l7.length+1)*16≤2^44)&&decide (l7.length+1≤2^44) then
 some (Sum.inl (IntKind.i64.wrap (i6+1),l7++[dP.mk false i6]))
 else
 none
 else
 some (Sum.inr (i6,l7))) (0,l5)).bind fun (i8,l9)=>
 (aQ (ω:=List aj×List Bool) (fun ((Kx,Bw):List aj×List Bool)=>
 (aa.e9 Bw false).bind fun DU=>
 bif DU then
 (aQ (ω:=Int×List aj×List dP) (fun ((i13,Gu,wj):Int×List aj×List dP)=>
 bif decide (i13<(↑l9.length:Int)) then
 bif decide (0≤i13) then
 bif decide (i13.toNat<l9.length) then
 (l9[0+i13.toNat]?).bind fun R9=>
 bif R9.A then
 (aa.cd R9.N (ca.mk n Bw Kx)).bind fun (HE,Vu)=>
 bif Vu then
 bif decide ((Gu.length+1)*16≤2^44)&&decide (Gu.length+1≤2^44) then
 bif decide ((wj.length+1)*16≤2^44)&&decide (wj.length+1≤2^44) then
 some (Sum.inl (IntKind.i64.wrap (i13+1),Gu++[HE],wj++[dP.mk true R9.N]))
 else
 none
 else
 none
 else
 some (Sum.inl (IntKind.i64.wrap (i13+1),Gu,wj))
 else
 (aa.cz R9.N (ca.mk n Bw Kx)).bind fun (Vm,XE)=>
 bif XE then
 bif decide ((Gu.length+1)*16≤2^44)&&decide (Gu.length+1≤2^44) then
 bif decide ((wj.length+1)*16≤2^44)&&decide (wj.length+1≤2^44) then
 some (Sum.inl (IntKind.i64.wrap (i13+1),Gu++[Vm],wj++[dP.mk false R9.N]))
 else
 none
 else
 none
 else
 some (Sum.inl (IntKind.i64.wrap (i13+1),Gu,wj))
 else
 none
 else
 none
 else
 some (Sum.inr (i13,Gu,wj))) (0,[],[])).bind fun (i21,Gt,CU)=>
 bif decide (0<Gt.length) then
 (Gt[0]?).bind fun Sa=>
 (aQ (ω:=Int×Int×Int) (fun ((i25,i26,i27):Int×Int×Int)=>
 bif decide (i25<(↑Gt.length:Int)) then
 bif decide (0≤i25) then
 bif decide (i25.toNat<Gt.length) then
 (Gt[0+i25.toNat]?).bind fun R8=>
 (aa.fO R8 (aj.mk i26 i27)).bind fun ZI=>
 bif ZI then
 some (Sum.inl (IntKind.i64.wrap (i25+1),R8.dC,R8.Den))
 else
 some (Sum.inl (IntKind.i64.wrap (i25+1),i26,i27))
 else
 none
 else
 none
 else
 some (Sum.inr (i25,i26,i27))) (0,Sa.dC,Sa.Den)).bind fun (i30,i31,i32)=>
 (aQ (ω:=Int×List Int) (fun ((i33,qA):Int×List Int)=>
 bif decide (i33<(↑CU.length:Int)) then
 bif decide (0≤i33) then
 bif decide (i33.toNat<CU.length) then
 (CU[0+i33.toNat]?).bind fun Vy=>
 bif Vy.A then
 (aQ (ω:=Int×List Int) (fun ((i36,PG):Int×List Int)=>
 bif decide (i36<(↑n.ag.length:Int)) then
 bif decide (0≤i33) then
 bif decide (i33.toNat<Gt.length) then
 (Gt[0+i33.toNat]?).bind fun XG=>
 bif XG.dC==i31&&XG.Den==i32 then
 bif decide (0≤i36) then
 bif decide (i36.toNat<Bw.length) then
 (Bw[0+i36.toNat]?).bind fun XB=>
 bif !XB then
 (aa.fE Vy.N (ca.mk n Bw Kx) i36).bind fun Vr=>
 bif Vr then
 bif decide ((PG.length+1)*8≤2^44)&&decide (PG.length+1≤2^44) then
 some (Sum.inl (IntKind.i64.wrap (i36+1),PG++[i36]))
 else
 none
 else
 some (Sum.inl (IntKind.i64.wrap (i36+1),PG))
 else
 some (Sum.inl (IntKind.i64.wrap (i36+1),PG))
 else
 none
 else
 none
 else
 some (Sum.inl (IntKind.i64.wrap (i36+1),PG))
 else
 none
 else
 none
 else
 some (Sum.inr (i36,PG))) (0,qA)).bind fun (i41,ZJ)=>
 some (Sum.inl (IntKind.i64.wrap (i33+1),ZJ))
 else
 (aQ (ω:=Int×List Int) (fun ((i43,Nl):Int×List Int)=>
 bif decide (i43<(↑n.ag.length:Int)) then
 bif decide (0≤i33) then
 bif decide (i33.toNat<Gt.length) then
 (Gt[0+i33.toNat]?).bind fun Vo=>
 bif Vo.dC==i31&&Vo.Den==i32 then
 bif decide (0≤i43) then
 bif decide (i43.toNat<Bw.length) then
 (Bw[0+i43.toNat]?).bind fun QG=>
 bif !QG then
 (aa.lL Vy.N (ca.mk n Bw Kx) i43).bind fun ZK=>
 bif ZK then
 bif decide ((Nl.length+1)*8≤2^44)&&decide (Nl.length+1≤2^44) then
 some (Sum.inl (IntKind.i64.wrap (i43+1),Nl++[i43]))
 else
 none
 else
 some (Sum.inl (IntKind.i64.wrap (i43+1),Nl))
 else
 some (Sum.inl (IntKind.i64.wrap (i43+1),Nl))
 else
 none
 else
 none
 else
 some (Sum.inl (IntKind.i64.wrap (i43+1),Nl))
 else
 none
 else
 none
 else
 some (Sum.inr (i43,Nl))) (0,qA)).bind fun (i48,QF)=>
 some (Sum.inl (IntKind.i64.wrap (i33+1),QF))
 else
 none
 else
 none
 else
 some (Sum.inr (i33,qA))) (0,[])).bind fun (i50,Nk)=>
 (aQ (ω:=Int×List aj×List Bool) (fun ((i52,PH,L3):Int×List aj×List Bool)=>
 bif decide (i52<(↑Nk.length:Int)) then
 bif decide (0≤i52) then
 bif decide (i52.toNat<Nk.length) then
 (Nk[0+i52.toNat]?).bind fun i55=>
 bif decide (0≤i55) then
 bif decide (i55.toNat<L3.length) then
 (L3[0+i55.toNat]?).bind fun ZH=>
 bif decide (0≤i55) then
 bif decide (i55.toNat<PH.length) then
 (PH[0+i55.toNat]?).bind fun q57=>
 bif decide ((PH.set (0+i55.toNat) (aj.mk i31 i32)).length=Kx.length) then
 bif decide ((L3.set (0+i55.toNat) true).length=Bw.length) then
 some (Sum.inl (IntKind.i64.wrap (i52+1),PH.set (0+i55.toNat) (aj.mk i31 i32),L3.set (0+i55.toNat) true))
 else
 none
 else
 none
 else
 none
 else
 none
 else
 none
 else
 none
 else
 none
 else
 none
 else
 bif decide (PH.length=Kx.length) then
 bif decide (L3.length=Bw.length) then
 some (Sum.inr (i52,PH,L3))
 else
 none
 else
 none) (0,Kx,Bw)).bind fun (i58,XH,XI)=>
 bif decide (XH.length=(List.replicate (↑n.ag.length:Int).toNat (aj.mk 0 0)).length) then
 bif decide (XI.length=(List.replicate (↑n.ag.length:Int).toNat false).length) then
 some (Sum.inl (XH,XI))
 else
 none
 else
 none
 else
 none
 else
 bif decide (Kx.length=(List.replicate (↑n.ag.length:Int).toNat (aj.mk 0 0)).length) then
 bif decide (Bw.length=(List.replicate (↑n.ag.length:Int).toNat false).length) then
 some (Sum.inr (Kx,Bw))
 else
 none
 else
 none) (List.replicate (↑n.ag.length:Int).toNat (aj.mk 0 0),List.replicate (↑n.ag.length:Int).toNat false)).bind fun (ZL,l62)=>
 some (ZL,0)
 else
 none
 else
 none
noncomputable def Go.aa.CV(n:Int):Option aj:=
 some (aj.mk n 1)
noncomputable def Go.aa.Ky(n:bP)(want:List aj):Option Bool:=
 (aa.cw n).bind fun (l1,i2)=>
 (aa.jd n want).bind fun b3=>
 bif i2==0 then
 bif b3 then
 (aa.lK l1 want).bind fun b4=>
 some b4
 else
 some false
 else
 some false
noncomputable def Go.aa.pP(n:bP)(parts:List Int)(mJ:Int):Option ((List Int)):=
 bif decide ((↑n.aD.length:Int).toNat*8≤2^47)&&decide ((↑n.aD.length:Int).toNat<2^62) then
 (aQ (ω:=Int×List Int) (fun ((i1,l2):Int×List Int)=>
 bif decide (i1<(↑n.aD.length:Int)) then
 bif decide (0≤i1) then
 (n.aD[i1.toNat]?).bind fun i3=>
 bif decide (0≤i1) then
 bif decide (i1.toNat<l2.length) then
 (l2[0+i1.toNat]?).bind fun i4=>
 bif decide ((l2.set (0+i1.toNat) (IntKind.i64.wrap (i3*mJ))).length=(List.replicate (↑n.aD.length:Int).toNat (0:Int)).length) then
 some (Sum.inl (IntKind.i64.wrap (i1+1),l2.set (0+i1.toNat) (IntKind.i64.wrap (i3*mJ))))
 else
 none
 else
 none
 else
 none
 else
 none
 else
 bif decide (l2.length=(List.replicate (↑n.aD.length:Int).toNat (0:Int)).length) then
 some (Sum.inr (i1,l2))
 else
 none) (0,List.replicate (↑n.aD.length:Int).toNat (0:Int))).bind fun (i5,l6)=>
 bif decide ((↑n.ag.length:Int).toNat*8≤2^47)&&decide ((↑n.ag.length:Int).toNat<2^62) then
 (aQ (ω:=Int×List Int×List Int) (fun ((i7,l8,l9):Int×List Int×List Int)=>
 bif decide (i7<(↑n.ag.length:Int)) then
 bif decide (i7<(↑parts.length:Int)) then
 bif decide (0≤i7) then
 (n.aA[i7.toNat]?).bind fun i10=>
 bif decide (0<i10) then
 bif decide (0≤i7) then
 (n.aA[i7.toNat]?).bind fun i11=>
 (aQ (ω:=Int×Int) (fun ((i12,i13):Int×Int)=>
 bif decide (0≤i7) then
 (n.ag[i7.toNat]?).bind fun Gu=>
 bif decide (i13<(↑Gu.length:Int)) then
 bif decide (0≤i7) then
 (n.ag[i7.toNat]?).bind fun wj=>
 bif decide (0≤i13) then
 (wj[i13.toNat]?).bind fun i16=>
 bif decide (0≤i16) then
 bif decide (i16.toNat<l8.length) then
 (l8[0+i16.toNat]?).bind fun i17=>
 some (Sum.inl (if i17<i12 then i17 else i12,IntKind.i64.wrap (i13+1)))
 else
 none
 else
 none
 else
 none
 else
 none
 else
 some (Sum.inr (i12,i13))
 else
 none) (IntKind.i64.wrap (i11*mJ),0)).bind fun (i18,i19)=>
 bif decide (0≤i7) then
 (parts[i7.toNat]?).bind fun i20=>
 bif decide (IntKind.i64.wrap (i18+1)=0) then
 none
 else
 bif decide (0≤i7) then
 bif decide (i7.toNat<l9.length) then
 (l9[0+i7.toNat]?).bind fun i21=>
 (aQ (ω:=Int×List Int) (fun ((i22,CU):Int×List Int)=>
 bif decide (0≤i7) then
 (n.ag[i7.toNat]?).bind fun ZM=>
 bif decide (i22<(↑ZM.length:Int)) then
 bif decide (0≤i7) then
 (n.ag[i7.toNat]?).bind fun DV=>
 bif decide (0≤i22) then
 (DV[i22.toNat]?).bind fun i26=>
 bif decide (0≤i26) then
 bif decide (i26.toNat<CU.length) then
 (CU[0+i26.toNat]?).bind fun i27=>
 bif decide (0≤i7) then
 bif decide (i7.toNat<(l9.set (0+i7.toNat) ((IntKind.i64.wrap i20).tmod (IntKind.i64.wrap (i18+1)))).length) then
 ((l9.set (0+i7.toNat) ((IntKind.i64.wrap i20).tmod (IntKind.i64.wrap (i18+1))))[0+i7.toNat]?).bind fun i28=>
 bif decide (0≤i26) then
 bif decide (i26.toNat<CU.length) then
 (CU[0+i26.toNat]?).bind fun i29=>
 bif decide ((CU.set (0+i26.toNat) (IntKind.i64.wrap (i27-i28))).length=l8.length) then
 some (Sum.inl (IntKind.i64.wrap (i22+1),CU.set (0+i26.toNat) (IntKind.i64.wrap (i27-i28))))
 else
 none
 else
 none
 else
 none
 else
 none
 else
 none
 else
 none
 else
 none
 else
 none
 else
 none
 else
 bif decide (CU.length=l8.length) then
 some (Sum.inr (i22,CU))
 else
 none
 else
 none) (0,l8)).bind fun (i30,XJ)=>
 bif decide (XJ.length=l6.length) then
 bif decide ((l9.set (0+i7.toNat) ((IntKind.i64.wrap i20).tmod (IntKind.i64.wrap (i18+1)))).length=(List.replicate (↑n.ag.length:Int).toNat (0:Int)).length) then
 some (Sum.inl (IntKind.i64.wrap (i7+1),XJ,l9.set (0+i7.toNat) ((IntKind.i64.wrap i20).tmod (IntKind.i64.wrap (i18+1)))))
 else
 none
 else
 none
 else
 none
 else
 none
 else
 none
 else
 none
 else
 (aQ (ω:=Int×Int) (fun ((i32,i33):Int×Int)=>
 bif decide (0≤i7) then
 (n.ag[i7.toNat]?).bind fun qA=>
 bif decide (i33<(↑qA.length:Int)) then
 bif decide (0≤i7) then
 (n.ag[i7.toNat]?).bind fun rb=>
 bif decide (0≤i33) then
 (rb[i33.toNat]?).bind fun i36=>
 bif decide (0≤i36) then
 bif decide (i36.toNat<l8.length) then
 (l8[0+i36.toNat]?).bind fun i37=>
 some (Sum.inl (if i37<i32 then i37 else i32,IntKind.i64.wrap (i33+1)))
 else
 none
 else
 none
 else
 none
 else
 none
 else
 some (Sum.inr (i32,i33))
 else
 none) (IntKind.i64.wrap (1000*mJ),0)).bind fun (i38,i39)=>
 bif decide (0≤i7) then
 (parts[i7.toNat]?).bind fun i40=>
 bif decide (IntKind.i64.wrap (i38+1)=0) then
 none
 else
 bif decide (0≤i7) then
 bif decide (i7.toNat<l9.length) then
 (l9[0+i7.toNat]?).bind fun i41=>
 (aQ (ω:=Int×List Int) (fun ((i42,Oo):Int×List Int)=>
 bif decide (0≤i7) then
 (n.ag[i7.toNat]?).bind fun Nl=>
 bif decide (i42<(↑Nl.length:Int)) then
 bif decide (0≤i7) then
 (n.ag[i7.toNat]?).bind fun ZN=>
 bif decide (0≤i42) then
 (ZN[i42.toNat]?).bind fun i46=>
 bif decide (0≤i46) then
 bif decide (i46.toNat<Oo.length) then
 (Oo[0+i46.toNat]?).bind fun i47=>
 bif decide (0≤i7) then
 bif decide (i7.toNat<(l9.set (0+i7.toNat) ((IntKind.i64.wrap i40).tmod (IntKind.i64.wrap (i38+1)))).length) then
 ((l9.set (0+i7.toNat) ((IntKind.i64.wrap i40).tmod (IntKind.i64.wrap (i38+1))))[0+i7.toNat]?).bind fun i48=>
 bif decide (0≤i46) then
 bif decide (i46.toNat<Oo.length) then
 (Oo[0+i46.toNat]?).bind fun i49=>
 bif decide ((Oo.set (0+i46.toNat) (IntKind.i64.wrap (i47-i48))).length=l8.length) then
 some (Sum.inl (IntKind.i64.wrap (i42+1),Oo.set (0+i46.toNat) (IntKind.i64.wrap (i47-i48))))
 else
 none
 else
 none
 else
 none
 else
 none
 else
 none
 else
 none
 else
 none
 else
 none
 else
 none
 else
 bif decide (Oo.length=l8.length) then
 some (Sum.inr (i42,Oo))
 else
 none
 else
 none) (0,l8)).bind fun (i50,Nk)=>
 bif decide (Nk.length=l6.length) then
 bif decide ((l9.set (0+i7.toNat) ((IntKind.i64.wrap i40).tmod (IntKind.i64.wrap (i38+1)))).length=(List.replicate (↑n.ag.length:Int).toNat (0:Int)).length) then
 some (Sum.inl (IntKind.i64.wrap (i7+1),Nk,l9.set (0+i7.toNat) ((IntKind.i64.wrap i40).tmod (IntKind.i64.wrap (i38+1)))))
 else
 none
 else
 none
 else
 none
 else
 none
 else
 none
 else
 none
 else
 bif decide (l8.length=l6.length) then
 bif decide (l9.length=(List.replicate (↑n.ag.length:Int).toNat (0:Int)).length) then
 some (Sum.inr (i7,l8,l9))
 else
 none
 else
 none
 else
 bif decide (l8.length=l6.length) then
 bif decide (l9.length=(List.replicate (↑n.ag.length:Int).toNat (0:Int)).length) then
 some (Sum.inr (i7,l8,l9))
 else
 none
 else
 none) (0,l6,List.replicate (↑n.ag.length:Int).toNat (0:Int))).bind fun (i52,PH,L3)=>
 some L3
 else
 none
 else
 none
noncomputable def Go.aa.lM(r:aj)(num:Int)(mJ:Int):Option Int:=
 some (IntKind.i64.wrap (IntKind.i64.wrap (r.dC*mJ)-IntKind.i64.wrap (num*r.Den)))
noncomputable def Go.aa.sd(n:bP)(parts:List Int)(mJ:Int):Option Bool:=
 (aa.jF).bind fun b1=>
 (aa.iz n).bind fun b2=>
 bif b2 then
 (aa.cX n).bind fun b3=>
 bif !b3 then
 some b1
 else
 (aa.pP n parts (IntKind.i64.wrap (1+(IntKind.i64.wrap mJ).tmod 60))).bind fun l4=>
 (aa.cw n).bind fun (l5,i6)=>
 bif !i6==0 then
 some false
 else
 bif !(↑l5.length:Int)==(↑l4.length:Int) then
 some false
 else
 (aQ (ω:=Bool×Int) (fun ((b7,i8):Bool×Int)=>
 bif decide (i8<(↑l5.length:Int)) then
 bif decide (0≤i8) then
 (l5[i8.toNat]?).bind fun q9=>
 bif decide (0≤i8) then
 (l4[i8.toNat]?).bind fun i10=>
 (aa.lM q9 i10 (IntKind.i64.wrap (1+(IntKind.i64.wrap mJ).tmod 60))).bind fun i11=>
 bif decide (0≤i11) then
 some (Sum.inl (b7,IntKind.i64.wrap (i8+1)))
 else
 (aQ (ω:=Bool×Int) (fun ((DU,i13):Bool×Int)=>
 bif decide (i13<(↑l5.length:Int)) then
 bif decide (0≤i13) then
 (l5[i13.toNat]?).bind fun ZO=>
 bif decide (0≤i8) then
 (l5[i8.toNat]?).bind fun ZQ=>
 (aa.iC ZO ZQ).bind fun (i16,i17)=>
 bif DU then
 some (Sum.inl (true,IntKind.i64.wrap (i13+1)))
 else
 bif decide (i16≤0) then
 bif decide (0≤i13) then
 (l5[i13.toNat]?).bind fun On=>
 bif decide (0≤i13) then
 (l4[i13.toNat]?).bind fun i19=>
 (aa.lM On i19 (IntKind.i64.wrap (1+(IntKind.i64.wrap mJ).tmod 60))).bind fun i20=>
 some (Sum.inl (decide (0<i20),IntKind.i64.wrap (i13+1)))
 else
 none
 else
 none
 else
 some (Sum.inl (false,IntKind.i64.wrap (i13+1)))
 else
 none
 else
 none
 else
 some (Sum.inr (DU,i13))) (false,0)).bind fun (R5,i22)=>
 bif b7 then
 some (Sum.inl (R5,IntKind.i64.wrap (i8+1)))
 else
 some (Sum.inl (false,IntKind.i64.wrap (i8+1)))
 else
 none
 else
 none
 else
 some (Sum.inr (b7,i8))) (b1,0)).bind fun (TR,i24)=>
 some TR
 else
 some b1
noncomputable def Go.aa.fF(n:bP)(times:Int):Option Bool:=
 (aa.jF).bind fun b1=>
 (aa.iz n).bind fun b2=>
 bif b2 then
 (aa.cX n).bind fun b3=>
 bif !b3 then
 some b1
 else
 bif decide (times<1) then
 some b1
 else
 bif decide (1000<times) then
 some b1
 else
 (aQ (ω:=Int×List (List Int)×List Int×List Int) (fun ((i4,l5,l6,l7):Int×List (List Int)×List Int×List Int)=>
 bif decide (i4<(↑n.aD.length:Int)) then
 bif decide (0≤i4) then
 (n.aD[i4.toNat]?).bind fun i8=>
 bif decide ((l6.length+1)*8≤2^44)&&decide (l6.length+1≤2^44) then
 some (Sum.inl (IntKind.i64.wrap (i4+1),l5,l6++[IntKind.i64.wrap (i8*times)],l7))
 else
 none
 else
 none
 else
 some (Sum.inr (i4,l5,l6,l7))) (0,n.ag,[],[])).bind fun (i9,Kx,Bw,Vj)=>
 (aQ (ω:=Int×List (List Int)×List Int×List Int) (fun ((i13,Gu,wj,TX):Int×List (List Int)×List Int×List Int)=>
 bif decide (i13<(↑n.aA.length:Int)) then
 bif decide (0≤i13) then
 (n.aA[i13.toNat]?).bind fun i17=>
 bif decide ((TX.length+1)*8≤2^44)&&decide (TX.length+1≤2^44) then
 some (Sum.inl (IntKind.i64.wrap (i13+1),Gu,wj,TX++[IntKind.i64.wrap (i17*times)]))
 else
 none
 else
 none
 else
 some (Sum.inr (i13,Gu,wj,TX))) (0,Kx,Bw,Vj)).bind fun (i18,XK,XL,XM)=>
 (aa.cX (bP.mk XL XK XM)).bind fun Vv=>
 bif !Vv then
 some b1
 else
 (aa.cw n).bind fun (CU,i24)=>
 (aa.cw (bP.mk XL XK XM)).bind fun (DV,i26)=>
 bif !i24==0 then
 some false
 else
 bif !i26==0 then
 some false
 else
 bif !(↑CU.length:Int)==(↑DV.length:Int) then
 some false
 else
 (aQ (ω:=Bool×Int) (fun ((TT,i28):Bool×Int)=>
 bif decide (i28<(↑CU.length:Int)) then
 bif TT then
 bif decide (0≤i28) then
 (DV[i28.toNat]?).bind fun ZR=>
 bif decide (0≤i28) then
 (CU[i28.toNat]?).bind fun ZS=>
 bif decide (0≤i28) then
 (CU[i28.toNat]?).bind fun ZT=>
 bif decide (0≤i28) then
 (DV[i28.toNat]?).bind fun ZU=>
 some (Sum.inl (IntKind.i64.wrap (ZR.dC*ZS.Den)==IntKind.i64.wrap (IntKind.i64.wrap (times*ZT.dC)*ZU.Den),IntKind.i64.wrap (i28+1)))
 else
 none
 else
 none
 else
 none
 else
 none
 else
 some (Sum.inl (false,IntKind.i64.wrap (i28+1)))
 else
 some (Sum.inr (TT,i28))) (b1,0)).bind fun (R7,i34)=>
 some R7
 else
 some b1
noncomputable def Go.aa.uK(n:bP)(oG:Int)(more:Int):Option Bool:=
 (aa.jF).bind fun b1=>
 (aa.iz n).bind fun b2=>
 bif b2 then
 (aa.cX n).bind fun b3=>
 bif !b3 then
 some b1
 else
 bif (↑n.ag.length:Int)==0 then
 some b1
 else
 bif decide (oG<0) then
 some b1
 else
 bif decide (more<0) then
 some b1
 else
 bif decide (1000<more) then
 some b1
 else
 bif decide ((↑n.aD.length:Int)=0) then
 none
 else
 bif decide (0≤(↑n.aD.length:Int).toNat)&&decide ((↑n.aD.length:Int).toNat*8≤2^47)&&decide ((↑n.aD.length:Int).toNat<2^62) then
 bif decide (0+n.aD.length≤(↑n.aD.length:Int).toNat)&&decide (0+n.aD.length≤(List.replicate (↑n.aD.length:Int).toNat (0:Int)).length) then
 bif decide (0≤oG.tmod (↑n.aD.length:Int)) then
 bif decide ((oG.tmod (↑n.aD.length:Int)).toNat<0+n.aD.length) then
 ((n.aD++List.drop (0+n.aD.length) (List.replicate (↑n.aD.length:Int).toNat (0:Int)))[0+(oG.tmod (↑n.aD.length:Int)).toNat]?).bind fun i4=>
 bif decide (0≤oG.tmod (↑n.aD.length:Int)) then
 bif decide ((oG.tmod (↑n.aD.length:Int)).toNat<0+n.aD.length) then
 ((n.aD++List.drop (0+n.aD.length) (List.replicate (↑n.aD.length:Int).toNat (0:Int)))[0+(oG.tmod (↑n.aD.length:Int)).toNat]?).bind fun i5=>
 (aa.cw n).bind fun (l6,i7)=>
 bif decide (0+(0+n.aD.length)≤((n.aD++List.drop (0+n.aD.length) (List.replicate (↑n.aD.length:Int).toNat (0:Int))).set (0+(oG.tmod (↑n.aD.length:Int)).toNat) (if IntKind.i64.wrap (i4+more)<1000 then IntKind.i64.wrap (i4+more) else 1000)).length) then
 (aa.cw (bP.mk (List.take (0+n.aD.length) (List.drop 0 ((n.aD++List.drop (0+n.aD.length) (List.replicate (↑n.aD.length:Int).toNat (0:Int))).set (0+(oG.tmod (↑n.aD.length:Int)).toNat) (if IntKind.i64.wrap (i4+more)<1000 then IntKind.i64.wrap (i4+more) else 1000)))) n.ag n.aA)).bind fun (l8,i9)=>
 bif !i7==0 then
 some false
 else
 bif !i9==0 then
 some false
 else
 bif !(↑l6.length:Int)==(↑n.ag.length:Int) then
 some false
 else
 bif !(↑l8.length:Int)==(↑l6.length:Int) then
 some false
 else
 (l6[0]?).bind fun CE=>
 (l8[0]?).bind fun LZ=>
 (aQ (ω:=Int×Int×Int×Int×Int) (fun ((i12,i13,i14,i15,i16):Int×Int×Int×Int×Int)=>
 bif decide (i12<(↑l6.length:Int)) then
 bif decide (0≤i12) then
 (l6[i12.toNat]?).bind fun HE=>
 (aa.iC HE (aj.mk i15 i16)).bind fun (i18,i19)=>
 bif decide (0≤i12) then
 (l8[i12.toNat]?).bind fun Vp=>
 (aa.iC Vp (aj.mk i13 i14)).bind fun (i21,i22)=>
 bif decide (i18<0) then
 bif decide (0≤i12) then
 (l6[i12.toNat]?).bind fun TY=>
 bif decide (i21<0) then
 bif decide (0≤i12) then
 (l8[i12.toNat]?).bind fun Sa=>
 some (Sum.inl (IntKind.i64.wrap (i12+1),Sa.dC,Sa.Den,TY.dC,TY.Den))
 else
 none
 else
 some (Sum.inl (IntKind.i64.wrap (i12+1),i13,i14,TY.dC,TY.Den))
 else
 none
 else
 bif decide (i21<0) then
 bif decide (0≤i12) then
 (l8[i12.toNat]?).bind fun XN=>
 some (Sum.inl (IntKind.i64.wrap (i12+1),XN.dC,XN.Den,i15,i16))
 else
 none
 else
 some (Sum.inl (IntKind.i64.wrap (i12+1),i13,i14,i15,i16))
 else
 none
 else
 none
 else
 some (Sum.inr (i12,i13,i14,i15,i16))) (0,LZ.dC,LZ.Den,CE.dC,CE.Den)).bind fun (i26,i27,i28,i29,i30)=>
 (aa.iC (aj.mk i29 i30) (aj.mk i27 i28)).bind fun (i31,i32)=>
 (aa.n5 n l6 (oG.tmod (↑n.aD.length:Int))).bind fun (XO,ZV)=>
 bif ZV then
 bif decide (0≤oG.tmod (↑n.aD.length:Int)) then
 (n.aD[(oG.tmod (↑n.aD.length:Int)).toNat]?).bind fun i35=>
 bif b1 then
 bif i32==0 then
 bif decide (i31≤0) then
 bif !decide (XO.dC<IntKind.i64.wrap (i35*XO.Den)) then
 some true
 else
 (aa.lK l6 l8).bind fun Vx=>
 some Vx
 else
 some false
 else
 some false
 else
 some false
 else
 none
 else
 bif b1 then
 bif i32==0 then
 bif decide (i31≤0) then
 some true
 else
 some false
 else
 some false
 else
 some false
 else
 none
 else
 none
 else
 none
 else
 none
 else
 none
 else
 none
 else
 none
 else
 some b1
noncomputable def Go.aa.ky(n:bP)(x:List aj):Option Bool:=
 (aa.jF).bind fun b1=>
 (aa.iz n).bind fun b2=>
 bif !b2 then
 some b1
 else
 bif decide (50<(↑x.length:Int)) then
 some b1
 else
 (aa.cw n).bind fun (l3,i4)=>
 (aa.vL n).bind fun (l5,i6)=>
 bif b1 then
 (aa.lK l3 l5).bind fun b7=>
 bif b7 then
 bif i4==i6 then
 (aa.jd n x).bind fun b8=>
 (aa.vM n x).bind fun b9=>
 bif b8==b9 then
 (aa.gl n).bind fun QE=>
 (aa.cX n).bind fun R6=>
 some (QE==R6)
 else
 some false
 else
 some false
 else
 some false
 else
 some false
noncomputable def Go.aa.qO(n:bP)(x:List aj):Option Bool:=
 (aa.jF).bind fun b1=>
 (aa.iz n).bind fun b2=>
 bif b2 then
 (aa.cX n).bind fun b3=>
 bif !b3 then
 some b1
 else
 bif decide (50<(↑x.length:Int)) then
 some b1
 else
 (aa.cw n).bind fun (l4,i5)=>
 (aa.jd n l4).bind fun b6=>
 (aa.jd n x).bind fun b7=>
 (aQ (ω:=Bool×Int) (fun ((b8,i9):Bool×Int)=>
 bif decide (i9<(↑l4.length:Int)) then
 bif b8 then
 bif decide (0≤i9) then
 (l4[i9.toNat]?).bind fun CE=>
 bif decide (1≤CE.Den) then
 bif decide (0≤i9) then
 (l4[i9.toNat]?).bind fun LZ=>
 some (Sum.inl (decide (LZ.Den≤18),IntKind.i64.wrap (i9+1)))
 else
 none
 else
 some (Sum.inl (false,IntKind.i64.wrap (i9+1)))
 else
 none
 else
 some (Sum.inl (false,IntKind.i64.wrap (i9+1)))
 else
 some (Sum.inr (b8,i9))) (b1,0)).bind fun (DU,i13)=>
 bif DU then
 bif i5==0 then
 bif b6 then
 (aa.lK x l4).bind fun Vl=>
 some (b7==Vl)
 else
 some false
 else
 some false
 else
 some false
 else
 some b1
namespace Go.Proofs.Ytedjbjphpnkpoaa
noncomputable def hints:List (Nat×Nat×Hint):=[(43,2,⟨[(4,.val 4),(5,.val 3)],[6,7,8,9,12,13,14,15,16,17,18,19,20,21,22,23,24,25,26,27,28,29,30,31,32,33,34,35,36,37,38,39,40,10,11],[],[⟨none,[(4,.val 4)],[],[],[]⟩,⟨some 0,[(4,.val 4),(5,.val 3)],[],[],[]⟩]⟩),(18,1004,⟨[(2,.val 4),(3,.val 3)],[25,26,27,28,29,32,33,34,35,36,37,38,39,40,41,42,43,44,45,30,31],[],[⟨none,[(2,.val 4)],[],[],[]⟩,⟨some 0,[(2,.val 4),(3,.val 3)],[],[],[]⟩]⟩),(18,1009,⟨[(2,.val 4),(4,.val 3)],[46,47,48,49,50,53,54,55,56,57,58,59,60,61,5,62,63,64,65,66,67,68,69,70,71,72,73,74,75,76,77,78,79,51,52],[],[⟨none,[(2,.val 4)],[],[],[]⟩,⟨some 2,[(2,.val 4),(4,.val 3)],[],[],[]⟩]⟩),(32,2,⟨[(4,.val 4),(5,.val 3)],[6,7,8,9,12,13,14,15,16,17,10,11],[],[⟨none,[(4,.val 4)],[],[],[]⟩,⟨some 0,[(4,.val 4),(5,.val 3)],[],[],[]⟩]⟩),(59,1,⟨[(0,.val 3),(1,.val 3)],[6,7,8,9,10,5,11,12],[],[⟨some 0,[(0,.val 3),(1,.val 3)],[],[],[]⟩]⟩),(31,3004,⟨[(11,.val 3),(12,.val 3)],[20,21,22,23,24,27,28,29,30,31,32,33,13,34,35,36,37,38,39,40,42,43,44,45,46,47,41,48,49,50,51,52,53,54,55,56,57,58,59,25,26],[(2,.agg [.val 2,.val 2])],[⟨some 0,[(11,.val 3),(12,.val 3)],[],[],[]⟩]⟩),(13,5012,⟨[(9,.val 3),(11,.val 3)],[40,41,42,43,44,48,49,50,51,52,47,53,54,12,13,56,57,58,55,59,60,14,15,61,62,63,64,65,66,67,68,45,46],[(4,.agg [.val 2,.val 2])],[⟨some 2,[(9,.val 3),(11,.val 3)],[],[],[]⟩]⟩),(13,5020,⟨[(10,.val 3),(9,.val 3),(16,.val 3)],[69,70,71,72,73,76,77,78,79,80,81,17,83,84,85,82,86,87,18,19,88,89,90,91,92,93,94,95,96,97,98,99,100,101,102,103,104,105,106,74,75],[(4,.agg [.val 2,.val 2])],[⟨some 4,[(10,.val 3),(9,.val 3),(16,.val 3)],[],[],[]⟩]⟩),(13,5029,⟨[(7,.val 3),(20,.val 3)],[107,108,109,110,111,114,115,116,117,118,119,120,121,122,123,124,21,125,126,127,128,129,130,131,132,133,134,135,136,137,138,139,140,141,142,143,144,145,146,147,148,149,150,112,113],[(2,.fix 35),(3,.fix 4)],[⟨some 6,[(7,.val 3),(20,.val 3)],[],[],[]⟩]⟩),(13,4007,⟨[(7,.val 3)],[37,38,39,8,9,10,11,40,41,42,43,44,48,49,50,51,52,47,53,54,12,13,56,57,58,55,59,60,14,15,61,62,63,64,65,66,67,68,45,46,16,69,70,71,72,73,76,77,78,79,80,81,17,83,84,85,82,86,87,18,19,88,89,90,91,92,93,94,95,96,97,98,99,100,101,102,103,104,105,106,74,75,20,107,108,109,110,111,114,115,116,117,118,119,120,121,122,123,124,21,125,126,127,128,129,130,131,132,133,134,135,136,137,138,139,140,141,142,143,144,145,146,147,148,149,150,112,113],[(2,.fix 35),(3,.fix 4)],[⟨some 0,[(7,.val 3)],[],[],[]⟩]⟩),(56,7001,⟨[(12,.val 3)],[13,14,15,16,4,5,17,18,19,20,21,22,23,24,25,26],[(3,.one (.val 2)),(2,.agg [.val 2,.val 2])],[⟨some 0,[(12,.val 3)],[],[(6,.ready)],[]⟩]⟩),(15,2004,⟨[(4,.val 4),(30,.val 3)],[31,32,33,34,6,5,35,36,37,38,39,40,41,42,43,44,45,46,47,48,49,50,51,52,53,54,55,56,57,58,59,60,61],[],[⟨none,[(4,.val 4)],[.gT],[],[]⟩,⟨some 0,[(4,.val 4),(30,.val 3)],[],[],[]⟩]⟩),(15,6012,⟨[(72,.val 3)],[73,74,75,76,9,10,77,78,79,80,81,82,83,84,85,86,87,88,89,90,91],[(4,.fix 4)],[⟨some 2,[(72,.val 3)],[],[],[]⟩]⟩),(56,16001,⟨[(12,.val 3)],[13,14,15,16,4,5,17,18,19,20,21,22,23,24,25,26],[(12,.one (.val 4))],[⟨some 0,[(12,.val 3)],[],[(15,.ready),(10,.busy)],[]⟩]⟩),(56,11001,⟨[(12,.val 3)],[13,14,15,16,4,5,17,18,19,20,21,22,23,24,25,26],[(4,.fix 4)],[⟨some 0,[(12,.val 3)],[],[(10,.ready)],[]⟩]⟩),(15,6017,⟨[(4,.val 4),(95,.val 3)],[96,97,11,99,100,101,98,102,103,12,13,104,105,106,107,108,147],[(4,.fix 4)],[⟨none,[(4,.val 4)],[.gT,.gT],[],[]⟩,⟨some 4,[(4,.val 4),(95,.val 3)],[],[],[]⟩]⟩),(22,3003,⟨[(7,.val 4),(9,.val 3)],[14,15,16,17,18,21,22,23,24,25,26,27,10,28,30,31,32,33,34,35,29,36,37,11,12,38,39,40,41,19,20],[(2,.agg [.val 2,.val 2])],[⟨none,[(7,.val 4)],[.gT],[],[(1,.agg [.val 2,.val 2])]⟩,⟨some 0,[(7,.val 4),(9,.val 3)],[],[],[]⟩]⟩),(39,2003,⟨[(8,.val 4),(11,.val 3)],[22,23,24,25,26,29,30,31,32,33,34,35,12,37,38,39,40,41,42,43,44,45,36,46,47,13,14,48,49,50,51,52,27,28],[],[⟨none,[(8,.val 4)],[],[],[]⟩,⟨some 0,[(8,.val 4),(11,.val 3)],[],[],[]⟩]⟩),(16,1005,⟨[(4,.val 4),(6,.val 3)],[26,27,28,29,32,33,34,35,36,7,37,38,39,40,41,42,43,44,45,46,47,48,49,50,51,52,53,54,55,56,57,58,59,60,61,62,63,64,65,66,67,68,69,70,71,72,73,30,31],[],[⟨none,[(4,.val 4)],[],[],[]⟩,⟨some 0,[(4,.val 4),(6,.val 3)],[],[],[]⟩]⟩),(16,1011,⟨[(4,.val 4),(8,.val 3)],[74,75,76,77,78,82,83,84,85,81,86,87,9,10,88,89,90,91,92,93,94,95,96,97,98,99,100,101,102,79,80],[],[⟨none,[(4,.val 4)],[.gT],[],[]⟩,⟨some 2,[(4,.val 4),(8,.val 3)],[],[],[]⟩]⟩),(16,1021,⟨[(12,.val 4),(13,.val 3)],[136,137,138,139,140,141,142,143,144,145,146,147,150,151,152,153,154,155,156,157,158,159,160,161,148,149],[],[⟨some 6,[(12,.val 4),(13,.val 3)],[],[],[]⟩]⟩),(16,1017,⟨[(4,.val 4),(11,.val 3)],[103,104,105,106,109,110,111,112,113,114,115,116,117,118,119,120,121,122,123,124,125,126,127,128,129,130,131,132,133,134,135,12,13,136,137,138,139,140,141,142,143,144,145,146,147,150,151,152,153,154,155,156,157,158,159,160,161,148,149,162,163,107,108],[],[⟨none,[(4,.val 4)],[],[],[]⟩,⟨some 4,[(4,.val 4),(11,.val 3)],[],[],[]⟩]⟩),(11,1002,⟨[(2,.val 4),(3,.val 3)],[4,5,6,7,8,9,10,11,12,15,16,17,18,19,20,21,13,14],[],[⟨none,[(2,.val 4)],[],[],[]⟩,⟨some 0,[(2,.val 4),(3,.val 3)],[],[],[]⟩]⟩),(14,4,⟨[(4,.val 4),(5,.val 3)],[11,12,13,14,17,18,19,20,21,22,23,24,25,15,16],[],[⟨none,[(4,.val 4)],[],[],[]⟩,⟨some 0,[(4,.val 4),(5,.val 3)],[],[],[]⟩]⟩),(86,2,⟨[(4,.val 3),(8,.val 3)],[9,10,5,11,12,13,14,15,16,17,18],[],[⟨none,[(4,.val 3)],[],[],[]⟩,⟨some 0,[(4,.val 3),(8,.val 3)],[],[],[]⟩]⟩),(42,2,⟨[(4,.val 4),(9,.val 3)],[10,11,12,13,5,6,14,15,16,17,18,19,20,21,22,23,24,25,26,27,28,29,30,31,32],[],[⟨none,[(4,.val 4)],[],[],[]⟩,⟨some 0,[(4,.val 4),(9,.val 3)],[],[],[]⟩]⟩),(17,2004,⟨[(2,.val 4),(33,.val 3)],[34,35,36,4,37,38,39,40],[],[⟨none,[(2,.val 4)],[],[],[]⟩,⟨some 0,[(2,.val 4),(33,.val 3)],[],[],[]⟩]⟩),(17,2010,⟨[(2,.val 4),(44,.val 3)],[45,46,47,6,48,49,50,51,52,53,54],[],[⟨none,[(2,.val 4)],[],[],[]⟩,⟨some 2,[(2,.val 4),(44,.val 3)],[],[],[]⟩]⟩),(48,2,⟨[(4,.val 3),(8,.val 3)],[9,10,5,11,12,13,14,15,16,17,18],[],[⟨none,[(4,.val 3)],[],[],[]⟩,⟨some 0,[(4,.val 3),(8,.val 3)],[],[],[]⟩]⟩),(12,6006,⟨[(5,.own 1 5),(25,.val 3)],[26,27,6,28,29,30,31,32,33],[(5,.list 82)],[⟨some 0,[(5,.own 1 5),(25,.val 3)],[],[],[]⟩]⟩),(12,6011,⟨[(5,.own 1 5),(37,.val 3)],[38,39,7,40,41,42,43,44,45],[(5,.list 82)],[⟨some 2,[(5,.own 1 5),(37,.val 3)],[],[],[]⟩]⟩),(30,8003,⟨[(4,.own 2 6),(5,.own 1 7),(19,.val 3)],[20,21,22,7,24,25,26,23,27,28,8,9,29,30,31,32,33,34,35,36,37,38],[(6,.list 35),(7,.list 82)],[⟨some 0,[(4,.own 2 6),(5,.own 1 7),(19,.val 3)],[],[],[]⟩]⟩),(49,10003,⟨[(13,.val 3)],[14,15,16,7,17,18,19,20,21,22],[(9,.agg [.val 2,.val 2])],[⟨some 0,[(13,.val 3)],[],[],[]⟩]⟩),(30,10015,⟨[(11,.own 1 9),(54,.val 3)],[55,56,14,57,58,59,60,61,62,63,64,65,66,67,68,69,70,71,72,73,74,75,76,77,78,79,80,81,82,83],[(9,.list 3)],[⟨some 4,[(11,.own 1 9),(54,.val 3)],[],[],[]⟩]⟩),(30,10012,⟨[(11,.own 1 9),(43,.val 3)],[44,45,46,47,12,13,48,49,50,51,52,53,54,55,56,14,57,58,59,60,61,62,63,64,65,66,67,68,69,70,71,72,73,74,75,76,77,78,79,80,81,82,83,84],[(9,.list 3)],[⟨some 2,[(11,.own 1 9),(43,.val 3)],[],[],[]⟩]⟩),(30,10022,⟨[(87,.val 3)],[88,89,90,16,91,92,93,94,95,96,97,98,99,100,101,102,103,104],[(3,.fix 35),(2,.fix 4)],[⟨some 6,[(87,.val 3)],[],[],[]⟩]⟩),(12,6015,⟨[],[46,47,48,49,50,51,52,53],[(3,.fix 35),(2,.fix 4)],[⟨some 4,[],[],[],[]⟩]⟩),(19,3003,⟨[(8,.val 3)],[18,19,20,21,22,25,26,27,28,29,30,31,32,33,34,23,24],[(2,.fix 3)],[⟨some 0,[(8,.val 3)],[],[],[]⟩]⟩),(19,4014,⟨[(11,.val 3),(12,.val 3)],[67,68,69,70,71,72,73,74,77,78,79,80,81,82,83,84,85,86,87,88,89,75,76],[],[⟨some 4,[(11,.val 3),(12,.val 3)],[],[],[]⟩]⟩),(19,4019,⟨[(13,.val 3)],[101,102,103,104,105,106,107,108,111,112,113,114,115,116,117,118,119,120,121,122,123,124,125,126,127,109,110],[(2,.fix 3)],[⟨some 6,[(13,.val 3)],[],[],[]⟩]⟩),(19,4008,⟨[(10,.val 3)],[39,40,41,42,43,44,45,46,47,48,49,52,53,11,54,55,56,57,58,59,60,61,62,63,64,65,66,12,67,68,69,70,71,72,73,74,77,78,79,80,81,82,83,84,85,86,87,88,89,75,76,90,91,92,93,94,95,96,97,98,99,100,13,101,102,103,104,105,106,107,108,111,112,113,114,115,116,117,118,119,120,121,122,123,124,125,126,127,109,110,50,51],[(2,.fix 3),(3,.fix 3)],[⟨some 2,[(10,.val 3)],[],[],[]⟩]⟩),(5,1017,⟨[(15,.val 4),(16,.val 3)],[69,70,71,72,76,77,78,79,80,81,82,83,84,75,85,86,17,18,87,88,89,90,91,92,93,94,95,96,97,98,99,100,101,102,103,104,73,74],[],[⟨some 2,[(15,.val 4),(16,.val 3)],[],[],[]⟩]⟩),(5,1012,⟨[(7,.val 4),(14,.val 3)],[52,53,54,55,58,59,60,61,62,63,64,65,66,67,68,15,16,69,70,71,72,76,77,78,79,80,81,82,83,84,75,85,86,17,18,87,88,89,90,91,92,93,94,95,96,97,98,99,100,101,102,103,104,73,74,105,106,107,108,56,57],[],[⟨some 0,[(7,.val 4),(14,.val 3)],[],[],[]⟩]⟩),(7,6016,⟨[(18,.val 3)],[123,124,125,126,130,131,132,133,134,135,129,136,137,19,20,139,140,141,142,143,144,138,145,146,21,22,147,148,149,150,151,152,153,154,155,156,157,158,127,128],[(5,.agg [.val 2,.val 2]),(4,.agg [.val 2,.val 2])],[⟨some 0,[(18,.val 3)],[],[],[]⟩]⟩),(8,2008,⟨[(7,.val 3)],[31,32,35,36,37,38,39,40,41,42,43,44,33,34],[(1,.agg [.val 22,.val 23,.val 22])],[⟨some 0,[(7,.val 3)],[],[],[]⟩]⟩),(8,3016,⟨[(9,.own 1 2),(10,.val 3)],[60,61,64,65,66,67,68,69,70,71,72,73,74,75,76,77,78,79,62,63],[(2,.list 3)],[⟨some 4,[(9,.own 1 2),(10,.val 3)],[],[],[]⟩]⟩),(8,2012,⟨[(8,.val 3)],[49,50,9,53,54,55,56,57,58,59,10,60,61,64,65,66,67,68,69,70,71,72,73,74,75,76,77,78,79,62,63,80,81,82,83,84,85,86,87,88,89,90,91,92,93,94,95,51,52],[],[⟨some 2,[(8,.val 3)],[],[],[]⟩]⟩),(8,2026,⟨[(3,.val 4),(15,.val 3)],[127,128,129,130,133,134,135,136,137,138,139,140,141,142,143,144,145,146,147,148,131,132],[],[⟨some 6,[(3,.val 4),(15,.val 3)],[],[],[]⟩]⟩),(4,1010,⟨[(5,.val 4),(12,.val 3)],[40,41,42,43,46,47,48,49,50,51,52,53,54,55,56,57,58,59,60,61,62,44,45],[],[⟨some 0,[(5,.val 4),(12,.val 3)],[],[],[]⟩]⟩),(6,4008,⟨[(9,.val 3)],[39,40,41,42,43,46,47,48,49,50,51,52,53,54,55,56,57,44,45],[(3,.agg [.own 1 1,.val 23,.own 1 2]),(1,.list 3),(2,.list 3)],[⟨some 0,[(9,.val 3)],[],[],[]⟩]⟩),(6,4012,⟨[(10,.val 3)],[58,59,60,61,62,65,66,67,68,69,70,71,72,73,74,75,76,63,64],[(3,.agg [.own 1 1,.val 23,.own 1 2]),(1,.list 3),(2,.list 3)],[⟨some 2,[(10,.val 3)],[],[],[]⟩]⟩),(6,4023,⟨[(5,.val 4),(16,.val 3)],[105,106,107,108,111,112,113,114,115,116,117,118,119,120,121,122,123,124,125,126,127,128,129,130,131,132,133,134,135,136,137,138,109,110],[],[⟨some 4,[(5,.val 4),(16,.val 3)],[],[],[]⟩]⟩)]
noncomputable def PJ:List (Nat×Nat×Hint):=[(56,7001,⟨[(12,.val 3)],[13,14,15,16,4,5,17,18,19,20,21,22,23,24,25,26],[(3,.agg [.val 2,.val 2])],[⟨none,[],[],[(6,.jump none)],[(2,.one (.val 4)),(1,.agg [.val 2,.val 2])]⟩,⟨some 0,[(12,.val 3)],[],[(6,.ready)],[]⟩]⟩)]
def uC:FuncId→Nat→Bool:=fun f _=>Nat.beq f 10
noncomputable def Vz:List (Nat×uB T):=[(41,⟨[3,3,3],[4],fun x=>Go.aa.nv x.1 x.2.1 x.2.2⟩),
 (42,⟨[22,3],[4],fun x=>Go.aa.jP x.1 x.2⟩),
 (40,⟨[23],[22],fun x=>Go.aa.gR x⟩),
 (17,⟨[25],[4],fun x=>Go.aa.gl x⟩),
 (48,⟨[53,4],[3],fun x=>Go.aa.nV x.1 x.2⟩),
 (29,⟨[53,4],[4],fun x=>Go.aa.e9 x.1 x.2⟩),
 (52,⟨[87],[4],fun x=>Go.aa.bM x⟩),
 (82,⟨[3,3],[3],fun x=>Go.aa.jO x.1 x.2⟩),
 (53,⟨[87],[87],fun x=>Go.aa.cR x⟩),
 (33,⟨[35],[4],fun x=>Go.aa.cM x⟩),
 (95,⟨[3],[4],fun x=>Go.aa.qo x⟩),
 (83,⟨[3,3],[3],fun x=>Go.aa.pI x.1 x.2⟩),
 (54,⟨[35,35],[3,29],fun x=>Go.aa.qn x.1 x.2⟩),
 (34,⟨[35,35],[4],fun x=>Go.aa.fO x.1 x.2⟩),
 (43,⟨[22,3],[4],fun x=>Go.aa.nU x.1 x.2⟩),
 (18,⟨[25],[4],fun x=>Go.aa.cX x⟩),
 (32,⟨[22,3],[4],fun x=>Go.aa.pO x.1 x.2⟩),
 (58,⟨[3,3],[4],fun x=>Go.aa.n4 x.1 x.2⟩),
 (60,⟨[3],[3],fun x=>Go.aa.qz x⟩),
 (59,⟨[3,3],[3],fun x=>Go.aa.jU x.1 x.2⟩),
 (38,⟨[35],[4],fun x=>Go.aa.dw x⟩),
 (62,⟨[3,3],[35,29],fun x=>Go.aa.jV x.1 x.2⟩),
 (50,⟨[35,35],[35,29],fun x=>Go.aa.zU x.1 x.2⟩),
 (51,⟨[35,35],[35,29],fun x=>Go.aa.zV x.1 x.2⟩),
 (31,⟨[25,53,26,3],[35,3],fun x=>Go.aa.vK x.1 x.2.1 x.2.2.1 x.2.2.2⟩),
 (21,⟨[35,35],[3,29],fun x=>Go.aa.iC x.1 x.2⟩),
 (13,⟨[25],[26,29],fun x=>Go.aa.vL x⟩),
 (35,⟨[3],[35],fun x=>Go.aa.dt x⟩),
 (86,⟨[22,3],[3],fun x=>Go.aa.mB x.1 x.2⟩),
 (57,⟨[22,3],[4],fun x=>Go.aa.bK x.1 x.2⟩),
 (96,⟨[87],[35,29],fun x=>Go.aa.bo x⟩),
 (55,⟨[35,35],[35,29],fun x=>Go.aa.zW x.1 x.2⟩),
 (36,⟨[52,57],[35,4],fun x=>Go.aa.mq x.1 x.2⟩),
 (15,⟨[25,26],[4],fun x=>Go.aa.jd x.1 x.2⟩),
 (44,⟨[35,35],[35,29],fun x=>Go.aa.zX x.1 x.2⟩),
 (22,⟨[25,26,3],[35,4],fun x=>Go.aa.n5 x.1 x.2.1 x.2.2⟩),
 (39,⟨[25,26,3,3],[4],fun x=>Go.aa.n6 x.1 x.2.1 x.2.2.1 x.2.2.2⟩),
 (16,⟨[25,26],[4],fun x=>Go.aa.vM x.1 x.2⟩),
 (11,⟨[25],[4],fun x=>Go.aa.iz x⟩),
 (14,⟨[26,26],[4],fun x=>Go.aa.lK x.1 x.2⟩),
 (117,⟨[35,35],[35,29],fun x=>Go.aa.nu x.1 x.2⟩),
 (118,⟨[35,35],[35,29],fun x=>Go.aa.qm x.1 x.2⟩),
 (115,⟨[57,52],[35,4],fun x=>Go.aa.cd x.1 x.2⟩),
 (116,⟨[57,52,3],[4],fun x=>Go.aa.fE x.1 x.2.1 x.2.2⟩),
 (121,⟨[58,52],[35,4],fun x=>Go.aa.cz x.1 x.2⟩),
 (122,⟨[58,52,3],[4],fun x=>Go.aa.lL x.1 x.2.1 x.2.2⟩),
 (12,⟨[25],[26,29],fun x=>Go.aa.cw x⟩),
 (28,⟨[3],[35],fun x=>Go.aa.CV x⟩),
 (27,⟨[25,26],[4],fun x=>Go.aa.Ky x.1 x.2⟩),
 (19,⟨[25,36,3],[22],fun x=>Go.aa.pP x.1 x.2.1 x.2.2⟩),
 (20,⟨[35,3,3],[3],fun x=>Go.aa.lM x.1 x.2.1 x.2.2⟩),
 (10,⟨[],[4],fun x=>Go.aa.jF ⟩),
 (5,⟨[25,36,5],[4],fun x=>Go.aa.sd x.1 x.2.1 x.2.2⟩),
 (6,⟨[25,3],[4],fun x=>Go.aa.fF x.1 x.2⟩),
 (7,⟨[25,3,3],[4],fun x=>Go.aa.uK x.1 x.2.1 x.2.2⟩),
 (3,⟨[25,26],[4],fun x=>Go.aa.ky x.1 x.2⟩),
 (4,⟨[25,26],[4],fun x=>Go.aa.qO x.1 x.2⟩)]
noncomputable abbrev S(n:Nat):nW:=Gv C T Bb (Go.PI.Gk hints) uC Vz n ka tp Sb
theorem Kz{h h':FuncId→Nat→Option Hint}{r:FuncId→Nat→Bool}{L:List (Nat×uB T)}{n:Nat}(k:(Gv C T Bb h r L n ka tp Sb).Ok):(Gv C T Bb h' r L n ka tp Sb).Ok:=⟨k.T,k.Q,k.Z,k.sum,k.own⟩
theorem s0:(S 0).Ok:=CW XP PK XQ rZ
end Go.Proofs.Ytedjbjphpnkpoaa
end
