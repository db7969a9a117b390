/- Part 5 of the proof: texts of this session laid one behind the other. -/
import Derived.Test.YtedjbjphpnkpoaaProg
import Derived.KernelRfl
import Derived.Test.YtedjbjphpnkpoaaX4
set_option linter.unusedVariables false
set_option linter.unusedSimpArgs false
section
/- The types of this seat: what must hold of them (printed by gen_tys.py out of the dump). -/
set_option maxRecDepth 100000
namespace Go.Proofs.Ytedjbjphpnkpoaa
open Go.PI
theorem IT{H:ah den}{v:V}{vs:List V}{l:List AV}:RL T H (v::vs) l↔∃ c cs,l=c::cs∧R T H v c∧RL T H vs cs:=DQ (T:=T)
theorem UN{H:ah den}{l:List AV}:RL T H [] l↔l=[]:=FK (T:=T)
theorem TC(x:bD)(a:AV)(H:ah den)(h:It x a):R T H (Oa x) a:=by
 obtain⟨a0,a1,a2,h0,h1,h2,rfl⟩:=h
 unfold Oa
 simp only[R]
 refine⟨_,rfl,?_⟩
 simp only[RL,R,and_true,true_and]
 exact⟨h0,h1,h2⟩
theorem TD(v:V)(x:bD)(a:AV)(H:ah den)(h:Ob v=some x)(hr:R T H v a):It x a:=by
 unfold Ob at h
 split at h
 ·simp only[Option.bind_eq_some_iff,Option.some.injEq]at h
  obtain⟨b0,g0,b1,g1,b2,g2,rfl⟩:=h
  simp only[R]at hr
  obtain⟨_,rfl,hl⟩:=hr
  obtain⟨c0,_,rfl,r0,hl⟩:=IT.1 hl
  obtain⟨c1,_,rfl,r1,hl⟩:=IT.1 hl
  obtain⟨c2,_,rfl,r2,hl⟩:=IT.1 hl
  cases UN.1 hl
  have e0:=gh (T:=T) (e:=3) (fun _ _ _ h hr=>eR (T:=T) h hr) g0 r0
  have e1:=gh (T:=T) (e:=22) (fun _ _ _ h hr=>gh (T:=T) (e:=3) (fun _ _ _ h hr=>eR (T:=T) h hr) h hr) g1 r1
  have e2:=gh (T:=T) (e:=3) (fun _ _ _ h hr=>eR (T:=T) h hr) g2 r2
  exact⟨_,_,_,e0,e1,e2,rfl⟩
 ·simp at h
theorem TE(x:bD)(a:AV)(h:It x a):aG true 3 a=true∧closed a=true:=by
 obtain⟨a0,a1,a2,h0,h1,h2,rfl⟩:=h
 have k0:=eG h0
 have k1:=eG h1
 have k2:=eG h2
 exact⟨by simp[aG,tV,qO,tW,k0.2.2,k1.2.2,k2.2.2],by simp[closed,aZ,k0.2.1,k1.2.1,k2.2.1]⟩
theorem TF(x:ai)(a:AV)(H:ah den)(h:zk x a):R T H (Oc x) a:=by
 unfold zk at h; subst h
 unfold Oc
 simp only[R]
 refine⟨_,rfl,?_⟩
 simp only[RL,R,and_true,true_and]
theorem Og(v:V)(x:ai)(a:AV)(H:ah den)(h:LH v=some x)(hr:R T H v a):zk x a:=by
 unfold LH at h
 split at h
 ·simp only[Option.bind_eq_some_iff,Option.some.injEq]at h
  obtain⟨b0,g0,b1,g1,rfl⟩:=h
  simp only[R]at hr
  obtain⟨_,rfl,hl⟩:=hr
  obtain⟨c0,_,rfl,r0,hl⟩:=IT.1 hl
  obtain⟨c1,_,rfl,r1,hl⟩:=IT.1 hl
  cases UN.1 hl
  cases eR (T:=T) g0 r0
  cases eR (T:=T) g1 r1
  exact rfl
 ·simp at h
theorem TG(x:ai)(a:AV)(h:zk x a):aG true 2 a=true∧closed a=true:=by
 unfold zk at h; subst h
 exact⟨by simp[aG,tV,qO,tW],by simp[closed,aZ]⟩
theorem QS(x:cb)(a:AV)(H:ah den)(h:Iu x a):R T H (LI x) a:=by
 obtain⟨a0,a1,a2,a3,a4,h0,h1,h2,h3,h4,rfl⟩:=h
 unfold LI
 simp only[R]
 refine⟨_,rfl,?_⟩
 simp only[RL,R,and_true,true_and]
 exact⟨h0,h1,h2,h3,h4⟩
theorem QT(v:V)(x:cb)(a:AV)(H:ah den)(h:LJ v=some x)(hr:R T H v a):Iu x a:=by
 unfold LJ at h
 split at h
 ·simp only[Option.bind_eq_some_iff,Option.some.injEq]at h
  obtain⟨b0,g0,b1,g1,b2,g2,b3,g3,b4,g4,rfl⟩:=h
  simp only[R]at hr
  obtain⟨_,rfl,hl⟩:=hr
  obtain⟨c0,_,rfl,r0,hl⟩:=IT.1 hl
  obtain⟨c1,_,rfl,r1,hl⟩:=IT.1 hl
  obtain⟨c2,_,rfl,r2,hl⟩:=IT.1 hl
  obtain⟨c3,_,rfl,r3,hl⟩:=IT.1 hl
  obtain⟨c4,_,rfl,r4,hl⟩:=IT.1 hl
  cases UN.1 hl
  have e0:=gh (T:=T) (e:=3) (fun _ _ _ h hr=>eR (T:=T) h hr) g0 r0
  have e1:=gh (T:=T) (e:=22) (fun _ _ _ h hr=>gh (T:=T) (e:=3) (fun _ _ _ h hr=>eR (T:=T) h hr) h hr) g1 r1
  have e2:=gh (T:=T) (e:=3) (fun _ _ _ h hr=>eR (T:=T) h hr) g2 r2
  have e3:=gh (T:=T) (e:=4) (fun _ _ _ h hr=>LF (T:=T) h hr) g3 r3
  have e4:=gh (T:=T) (e:=35) (fun _ _ _ h hr=>Og _ _ _ H h hr) g4 r4
  exact⟨_,_,_,_,_,e0,e1,e2,e3,e4,rfl⟩
 ·simp at h
theorem TH(x:cb)(a:AV)(h:Iu x a):aG true 5 a=true∧closed a=true:=by
 obtain⟨a0,a1,a2,a3,a4,h0,h1,h2,h3,h4,rfl⟩:=h
 have k0:=eG h0
 have k1:=eG h1
 have k2:=eG h2
 have k3:=eG h3
 have k4:=eG h4
 exact⟨by simp[aG,tV,qO,tW,k0.2.2,k1.2.2,k2.2.2,k3.2.2,k4.2.2],by simp[closed,aZ,k0.2.1,k1.2.1,k2.2.1,k3.2.1,k4.2.1]⟩
theorem TI(x:dU)(a:AV)(H:ah den)(h:DT x a):R T H (Od x) a:=by
 unfold DT at h; subst h
 obtain⟨b,n⟩:=x
 cases b<;>simp[Od,R]
theorem QU(v:V)(x:dU)(a:AV)(H:ah den)(h:LK v=some x)(hr:R T H v a):DT x a:=by
 unfold LK at h
 split at h
 ·rename_i t w
  simp only[Option.bind_eq_some_iff]at h
  obtain⟨n,g,h⟩:=h
  simp only[R]at hr
  obtain⟨a',rfl,hr⟩:=hr
  have e:=eR (T:=T) g hr
  subst e
  cases h1:Nat.beq t 57 with
  |true=>
   rw[h1]at h
   obtain rfl:=Nat.eq_of_beq_eq_true h1
   cases h
   rfl
  |false=>
   rw[h1]at h
   cases h2:Nat.beq t 58 with
   |true=>
    rw[h2]at h
    obtain rfl:=Nat.eq_of_beq_eq_true h2
    cases h
    rfl
   |false=>rw[h2]at h; cases h
 ·simp at h
theorem TJ(x:dU)(a:AV)(h:DT x a):aG false 1 a=true∧closed a=true:=by
 unfold DT at h; subst h
 exact⟨rfl,rfl⟩
theorem TK(x:ai)(a:AV)(H:ah den)(h:FL x a):R T H (Oe x) a:=by
 unfold FL at h; subst h
 unfold Oe
 simp only[R]
 refine⟨_,rfl,?_⟩
 simp only[RL,R,and_true,true_and]
theorem TL(v:V)(x:ai)(a:AV)(H:ah den)(h:Of v=some x)(hr:R T H v a):FL x a:=by
 unfold Of at h
 split at h
 ·simp only[Option.bind_eq_some_iff,Option.some.injEq]at h
  obtain⟨b0,g0,b1,g1,rfl⟩:=h
  simp only[R]at hr
  obtain⟨_,rfl,hl⟩:=hr
  obtain⟨c0,_,rfl,r0,hl⟩:=IT.1 hl
  obtain⟨c1,_,rfl,r1,hl⟩:=IT.1 hl
  cases UN.1 hl
  cases eR (T:=T) g0 r0
  cases eR (T:=T) g1 r1
  exact rfl
 ·simp at h
theorem TM(x:ai)(a:AV)(h:FL x a):aG true 2 a=true∧closed a=true:=by
 unfold FL at h; subst h
 exact⟨by simp[aG,tV,qO,tW],by simp[closed,aZ]⟩
theorem Xh(t:Nat)(x:den t)(a:AV)(H:ah den)(h:rp t x a):R T H (up t x) a:=by
 unfold rp at h
 split at h
 ·exact uL (T:=T) h
 ·exact uL (T:=T) h
 ·exact uL (T:=T) h
 ·exact uL (T:=T) h
 ·exact uL (T:=T) h
 ·exact uG (T:=T) (e:=3) h
 ·exact uG (T:=T) (e:=22) h
 ·exact TC _ _ H h
 ·exact TC _ _ H h
 ·exact uG (T:=T) (e:=35) h
 ·exact uL (T:=T) h
 ·exact TF _ _ H h
 ·exact TF _ _ H h
 ·exact uG (T:=T) (e:=73) h
 ·exact uG (T:=T) (e:=4) h
 ·exact QS _ _ H h
 ·exact QS _ _ H h
 ·exact uG (T:=T) (e:=82) h
 ·exact uL (T:=T) h
 ·exact uL (T:=T) h
 ·exact uL (T:=T) h
 ·exact uL (T:=T) h
 ·exact TI _ _ H h
 ·exact TI _ _ H h
 ·exact TK _ _ H h
 ·exact TK _ _ H h
 ·exact uL (T:=T) h
 ·exact uL (T:=T) h
 ·exact uL (T:=T) h
 ·exact uL (T:=T) h
 ·exact uP (T:=T) (fun b hb=>QS _ _ H hb) rfl h
 ·exact h.elim
theorem Xi(t:Nat)(v:V)(x:den t)(a:AV)(H:ah den)(h:dn t v=some x)(hr:R T H v a):rp t x a:=by
 revert x h hr
 refine dn.fun_cases_unfolding (motive:=fun t v r=>∀ (x:den t),r=some x→R T H v a→rp t x a) ?_ ?_ ?_ ?_ ?_ ?_ ?_ ?_ ?_ ?_ ?_ ?_ ?_ ?_ ?_ ?_ ?_ ?_ ?_ ?_ ?_ ?_ ?_ ?_ ?_ ?_ ?_ ?_ ?_ ?_ ?_ ?_ t v
 ·intro v x h hr; exact eR (T:=T) h hr
 ·intro v x h hr; exact eR (T:=T) h hr
 ·intro v x h hr; exact LF (T:=T) h hr
 ·intro v x h hr; exact eR (T:=T) h hr
 ·intro v x h hr; exact Tn (T:=T) h hr
 ·intro v x h hr; exact gh (T:=T) (e:=3) (fun _ _ _ h hr=>eR (T:=T) h hr) h hr
 ·intro v x h hr; exact gh (T:=T) (e:=22) (fun _ _ _ h hr=>gh (T:=T) (e:=3) (fun _ _ _ h hr=>eR (T:=T) h hr) h hr) h hr
 ·intro v x h hr; exact TD _ _ _ H h hr
 ·intro v x h hr; exact TD _ _ _ H h hr
 ·intro v x h hr; exact gh (T:=T) (e:=35) (fun _ _ _ h hr=>Og _ _ _ H h hr) h hr
 ·intro v x h hr; exact eR (T:=T) h hr
 ·intro v x h hr; exact Og _ _ _ H h hr
 ·intro v x h hr; exact Og _ _ _ H h hr
 ·intro v x h hr; exact gh (T:=T) (e:=73) (fun _ _ _ h hr=>eR (T:=T) h hr) h hr
 ·intro v x h hr; exact gh (T:=T) (e:=4) (fun _ _ _ h hr=>LF (T:=T) h hr) h hr
 ·intro v x h hr; exact QT _ _ _ H h hr
 ·intro v x h hr; exact QT _ _ _ H h hr
 ·intro v x h hr; exact gh (T:=T) (e:=82) (fun _ _ _ h hr=>QU _ _ _ H h hr) h hr
 ·intro v x h hr; exact eR (T:=T) h hr
 ·intro v x h hr; exact eR (T:=T) h hr
 ·intro v x h hr; exact eR (T:=T) h hr
 ·intro v x h hr; exact eR (T:=T) h hr
 ·intro v x h hr; exact QU _ _ _ H h hr
 ·intro v x h hr; exact QU _ _ _ H h hr
 ·intro v x h hr; exact TL _ _ _ H h hr
 ·intro v x h hr; exact TL _ _ _ H h hr
 ·intro v x h hr; exact eR (T:=T) h hr
 ·intro v x h hr; exact eR (T:=T) h hr
 ·intro v x h hr; exact eR (T:=T) h hr
 ·intro v x h hr; exact eR (T:=T) h hr
 ·intro v x h hr; exact QO (T:=T) (fun _ _ h hr=>QT _ _ _ H h hr) h hr
 ·intros; rename_i h _; cases h
theorem TN(t:Nat)(x:den t)(a:AV)(h:rp t x a):aG (Tz t) (Pd t) a=true∧closed a=true:=by
 unfold rp at h
 split at h
 ·exact yN (eI h)
 ·exact yN (eI h)
 ·exact yN (eB h)
 ·exact yN (eI h)
 ·exact yN (eS h)
 ·exact yN (eG h)
 ·exact yN (eG h)
 ·exact TE _ _ h
 ·exact TE _ _ h
 ·exact yN (eG h)
 ·exact yN (eI h)
 ·exact TG _ _ h
 ·exact TG _ _ h
 ·exact yN (eG h)
 ·exact yN (eG h)
 ·exact TH _ _ h
 ·exact TH _ _ h
 ·exact yN (eG h)
 ·exact yN (eI h)
 ·exact yN (eI h)
 ·exact yN (eI h)
 ·exact yN (eI h)
 ·exact TJ _ _ h
 ·exact TJ _ _ h
 ·exact TM _ _ h
 ·exact TM _ _ h
 ·exact yN (eI h)
 ·exact yN (eI h)
 ·exact yN (eI h)
 ·exact yN (eI h)
 ·exact yN (eP h)
 ·exact h.elim
theorem TO(t:Nat)(f:(den t→Bool)×(den t→V)×(den t→V))(h:QR t=some f)(x:den t):(bif f.1 x then f.2.1 x else f.2.2 x)=up t x:=by
 unfold QR at h
 split at h
 ·cases h; rfl
 ·cases h; rfl
 ·cases h
theorem Yy:T.Ok:=⟨fun t x a H h=>Xh t x a H h,fun t v x a H h hr=>Xi t v x a H h hr,fun t x a h=>(TN t x a h).1,fun t x a h=>(TN t x a h).2,fun t f h x=>TO t f h x⟩
theorem K1:gP.Ok ⟨Try.prog,Br,fun _=>false⟩:=gP.Ok.of (by kernel_rfl) (by kernel_rfl) (by kernel_rfl) (by kernel_rfl) (by kernel_rfl)
def ZP(q:Nat×jY):Prop:=∀ z za,Pe q.1=some z→q.2.zero=some za→rp q.1 z za
theorem Yz:T.tO ⟨Try.prog,Br,fun _=>false⟩:=by
 intro t m z za h1 h2 h3
 have hm:=gC h1
 have all:∀ q,q∈Br→ZP q:=by
  unfold Br
  intro q hq
  simp only[List.mem_cons,List.not_mem_nil,or_false]at hq
  rcases hq with rfl|rfl|rfl|rfl|rfl|rfl|rfl|rfl|rfl|rfl|rfl|rfl|rfl|rfl|rfl|rfl|rfl|rfl|rfl|rfl|rfl|rfl|rfl|rfl|rfl|rfl|rfl|rfl|rfl|rfl|rfl|rfl|rfl|rfl|rfl|rfl|rfl|rfl|rfl|rfl|rfl|rfl|rfl|rfl|rfl|rfl|rfl|rfl|rfl|rfl|rfl|rfl|rfl|rfl|rfl|rfl|rfl|rfl|rfl|rfl|rfl|rfl|rfl|rfl|rfl|rfl|rfl|rfl|rfl|rfl|rfl|rfl|rfl|rfl|rfl|rfl|rfl|rfl|rfl|rfl|rfl|rfl|rfl|rfl|rfl|rfl|rfl|rfl|rfl|rfl|rfl|rfl|rfl|rfl|rfl|rfl|rfl|rfl|rfl|rfl|rfl|rfl|rfl|rfl|rfl|rfl|rfl|rfl|rfl|rfl|rfl|rfl|rfl|rfl|rfl|rfl|rfl|rfl|rfl|rfl|rfl|rfl|rfl|rfl|rfl|rfl|rfl|rfl|rfl|rfl|rfl
  ·exact fun _ _ h _=>zn h
  ·exact fun _ _ h1 h2=>zz h1 h2 (rfl)
  ·exact fun _ _ h1 h2=>zz h1 h2 (rfl)
  ·exact fun _ _ h1 h2=>zz h1 h2 (rfl)
  ·exact fun _ _ h1 h2=>zz h1 h2 (rfl)
  ·exact fun _ _ h _=>zn h
  ·exact fun _ _ h _=>zn h
  ·exact fun _ _ h _=>zn h
  ·exact fun _ _ h1 h2=>zz h1 h2 (rfl)
  ·exact fun _ _ h _=>zn h
  ·exact fun _ _ h _=>zn h
  ·exact fun _ _ h _=>zn h
  ·exact fun _ _ h _=>zn h
  ·exact fun _ _ h _=>zn h
  ·exact fun _ _ h _=>zn h
  ·exact fun _ _ h _=>zn h
  ·exact fun _ _ h _=>zn h
  ·exact fun _ _ h _=>zn h
  ·exact fun _ _ h _=>zn h
  ·exact fun _ _ h _=>zn h
  ·exact fun _ _ h _=>zn h
  ·exact fun _ _ h1 h2=>zz h1 h2 (.inr ⟨rfl,rfl⟩)
  ·exact fun _ _ h1 h2=>zz h1 h2 (.inr ⟨rfl,rfl⟩)
  ·exact fun _ _ h1 h2=>zz h1 h2 (⟨_,_,_,.inr ⟨rfl,rfl⟩,.inr ⟨rfl,rfl⟩,.inr ⟨rfl,rfl⟩,rfl⟩)
  ·exact fun _ _ h1 h2=>zz h1 h2 (⟨_,_,_,.inr ⟨rfl,rfl⟩,.inr ⟨rfl,rfl⟩,.inr ⟨rfl,rfl⟩,rfl⟩)
  ·exact fun _ _ h1 h2=>zz h1 h2 (.inr ⟨rfl,rfl⟩)
  ·exact fun _ _ h _=>zn h
  ·exact fun _ _ h _=>zn h
  ·exact fun _ _ h1 h2=>zz h1 h2 (rfl)
  ·exact fun _ _ h _=>zn h
  ·exact fun _ _ h _=>zn h
  ·exact fun _ _ h _=>zn h
  ·exact fun _ _ h1 h2=>zz h1 h2 (rfl)
  ·exact fun _ _ h1 h2=>zz h1 h2 (rfl)
  ·exact fun _ _ h1 h2=>zz h1 h2 (.inr ⟨rfl,rfl⟩)
  ·exact fun _ _ h _=>zn h
  ·exact fun _ _ h _=>zn h
  ·exact fun _ _ h _=>zn h
  ·exact fun _ _ h _=>zn h
  ·exact fun _ _ h _=>zn h
  ·exact fun _ _ h _=>zn h
  ·exact fun _ _ h _=>zn h
  ·exact fun _ _ h _=>zn h
  ·exact fun _ _ h _=>zn h
  ·exact fun _ _ h _=>zn h
  ·exact fun _ _ h _=>zn h
  ·exact fun _ _ h _=>zn h
  ·exact fun _ _ h _=>zn h
  ·exact fun _ _ h _=>zn h
  ·exact fun _ _ h1 h2=>zz h1 h2 (.inr ⟨rfl,rfl⟩)
  ·exact fun _ _ h1 h2=>zz h1 h2 (⟨_,_,_,_,_,.inr ⟨rfl,rfl⟩,.inr ⟨rfl,rfl⟩,.inr ⟨rfl,rfl⟩,.inr ⟨rfl,rfl⟩,.inr ⟨rfl,rfl⟩,rfl⟩)
  ·exact fun _ _ h1 h2=>zz h1 h2 (⟨_,_,_,_,_,.inr ⟨rfl,rfl⟩,.inr ⟨rfl,rfl⟩,.inr ⟨rfl,rfl⟩,.inr ⟨rfl,rfl⟩,.inr ⟨rfl,rfl⟩,rfl⟩)
  ·exact fun _ _ h1 h2=>zz h1 h2 (.inr ⟨rfl,rfl⟩)
  ·exact fun _ _ h1 h2=>zz h1 h2 (rfl)
  ·exact fun _ _ h1 h2=>zz h1 h2 (rfl)
  ·exact fun _ _ h _=>zn h
  ·exact fun _ _ h _=>zn h
  ·exact fun _ _ h _=>zn h
  ·exact fun _ _ h _=>zn h
  ·exact fun _ _ h _=>zn h
  ·exact fun _ _ h _=>zn h
  ·exact fun _ _ h _=>zn h
  ·exact fun _ _ h _=>zn h
  ·exact fun _ _ h _=>zn h
  ·exact fun _ _ h _=>zn h
  ·exact fun _ _ h _=>zn h
  ·exact fun _ _ h _=>zn h
  ·exact fun _ _ h _=>zn h
  ·exact fun _ _ h1 h2=>zz h1 h2 (rfl)
  ·exact fun _ _ h _=>zn h
  ·exact fun _ _ h _=>zn h
  ·exact fun _ _ h _=>zn h
  ·exact fun _ _ h1 h2=>zz h1 h2 (rfl)
  ·exact fun _ _ h _=>zn h
  ·exact fun _ _ h _=>zn h
  ·exact fun _ _ h _=>zn h
  ·exact fun _ _ h _=>zn h
  ·exact fun _ _ h _=>zn h
  ·exact fun _ _ h _=>zn h
  ·exact fun _ _ h _=>zn h
  ·exact fun _ _ h1 h2=>zz h1 h2 (rfl)
  ·exact fun _ _ h1 h2=>zz h1 h2 (rfl)
  ·exact fun _ _ h _=>zn h
  ·exact fun _ _ h _=>zn h
  ·exact fun _ _ h _=>zn h
  ·exact fun _ _ h _=>zn h
  ·exact fun _ _ h _=>zn h
  ·exact fun _ _ h _=>zn h
  ·exact fun _ _ h _=>zn h
  ·exact fun _ _ h _=>zn h
  ·exact fun _ _ h1 h2=>zz h1 h2 (rfl)
  ·exact fun _ _ h _=>zn h
  ·exact fun _ _ h _=>zn h
  ·exact fun _ _ h _=>zn h
  ·exact fun _ _ h _=>zn h
  ·exact fun _ _ h _=>zn h
  ·exact fun _ _ h1 h2=>zz h1 h2 (rfl)
  ·exact fun _ _ h _=>zn h
  ·exact fun _ _ h1 h2=>zz h1 h2 (rfl)
  ·exact fun _ _ h _=>zn h
  ·exact fun _ _ h _=>zn h
  ·exact fun _ _ h _=>zn h
  ·exact fun _ _ h _=>zn h
  ·exact fun _ _ h _=>zn h
  ·exact fun _ _ h _=>zn h
  ·exact fun _ _ h _=>zn h
  ·exact fun _ _ h _=>zn h
  ·exact fun _ _ h1 h2=>zz h1 h2 (rfl)
  ·exact fun _ _ h _=>zn h
  ·exact fun _ _ h _=>zn h
  ·exact fun _ _ h _=>zn h
  ·exact fun _ _ h _=>zn h
  ·exact fun _ _ h _=>zn h
  ·exact fun _ _ h _=>zn h
  ·exact fun _ _ h _=>zn h
  ·exact fun _ _ h _=>zn h
  ·exact fun _ _ h _=>zn h
  ·exact fun _ _ h _=>zn h
  ·exact fun _ _ h _=>zn h
  ·exact fun _ _ h _=>zn h
  ·exact fun _ _ h _=>zn h
  ·exact fun _ _ h _=>zn h
  ·exact fun _ _ h _=>zn h
  ·exact fun _ _ h _=>zn h
  ·exact fun _ _ h _=>zn h
  ·exact fun _ _ h _=>zn h
  ·exact fun _ _ h _=>zn h
  ·exact fun _ _ h _=>zn h
  ·exact fun _ _ h _=>zn h
  ·exact fun _ _ h _=>zn h
  ·exact fun _ _ h _=>zn h
 exact all _ hm z za h3 h2
theorem Xj:Try.prog.underlying 3=some (.int .i64):=by kernel_rfl
def TP(x:Int):Prop:=IntKind.min .i64≤x∧x≤IntKind.max .i64
theorem Xk{n:Nat}{l:List AV}(h:Shape Try.prog n 3 l):∃ x,TP x∧∃ a,l=[a]∧IQ x a:=by
 obtain⟨m,rfl,h1⟩:=Iq Xj h
 exact⟨m,h1,_,rfl,rfl⟩
theorem Xl:Try.prog.underlying 22=some (.slice 3):=by kernel_rfl
theorem Xm:(Try.prog.underlying 3).isSome=true:=by kernel_rfl
theorem Xn:(Try.prog.underlying 3).map dR=some false:=by kernel_rfl
theorem Xo:Try.prog.underlying 3=Try.prog.underlying 3:=by kernel_rfl
def LL(x:List Int):Prop:=x.length≤maxLen∧∀ y,y∈x→TP y
theorem QV{n:Nat}{l:List AV}(h:Shape Try.prog n 22 l):∃ x,LL x∧∃ a,l=[a]∧DS x a:=by
 obtain⟨d,hd⟩:=Option.isSome_iff_exists.1 Xm
 have oM:dR d=false:=by have:=Xn; rw[hd]at this; simpa using this
 obtain⟨ys,xs,rfl,h1,h2⟩:=qf (Q:=fun y x=>TP y∧IQ y x) Xl hd h (by
  rintro k x ⟨cl,h1,h2⟩
  rw[oM]at h1
  simp only[Bool.false_eq_true,if_false]at h1
  replace h2:=fc Xo h2
  subst h1
  obtain⟨y,hy,a,ha,r⟩:=Xk h2
  simp only[List.cons.injEq,and_true]at ha
  subst ha
  exact⟨y,hy,r⟩)
 refine⟨ys,⟨h2,?_⟩,_,rfl,.inl ⟨xs,rfl,h1.mono fun _ _ h=>h.2⟩⟩
 intro y hy
 obtain⟨i,hi⟩:=List.getElem?_of_mem hy
 obtain⟨_,_,h3⟩:=h1.get hi
 exact h3.1
theorem Xp:Try.prog.underlying 23=some (.slice 22):=by kernel_rfl
theorem Xq:(Try.prog.underlying 22).isSome=true:=by kernel_rfl
theorem Xr:(Try.prog.underlying 22).map dR=some false:=by kernel_rfl
theorem Xs:Try.prog.underlying 22=Try.prog.underlying 22:=by kernel_rfl
def TQ(x:List (List Int)):Prop:=x.length≤maxLen∧∀ y,y∈x→LL y
theorem Xt{n:Nat}{l:List AV}(h:Shape Try.prog n 23 l):∃ x,TQ x∧∃ a,l=[a]∧N9 x a:=by
 obtain⟨d,hd⟩:=Option.isSome_iff_exists.1 Xq
 have oM:dR d=false:=by have:=Xr; rw[hd]at this; simpa using this
 obtain⟨ys,xs,rfl,h1,h2⟩:=qf (Q:=fun y x=>LL y∧DS y x) Xp hd h (by
  rintro k x ⟨cl,h1,h2⟩
  rw[oM]at h1
  simp only[Bool.false_eq_true,if_false]at h1
  replace h2:=fc Xs h2
  subst h1
  obtain⟨y,hy,a,ha,r⟩:=QV h2
  simp only[List.cons.injEq,and_true]at ha
  subst ha
  exact⟨y,hy,r⟩)
 refine⟨ys,⟨h2,?_⟩,_,rfl,.inl ⟨xs,rfl,h1.mono fun _ _ h=>h.2⟩⟩
 intro y hy
 obtain⟨i,hi⟩:=List.getElem?_of_mem hy
 obtain⟨_,_,h3⟩:=h1.get hi
 exact h3.1
def Xu(x:bD):Prop:=LL x.aC∧TQ x.ae∧LL x.aH
theorem QW:Try.prog.underlying 22=Try.prog.underlying 22:=by kernel_rfl
theorem QX:Try.prog.underlying 23=Try.prog.underlying 23:=by kernel_rfl
theorem QY:Try.prog.underlying 22=Try.prog.underlying 22:=by kernel_rfl
theorem WU{n:Nat}{l:List AV}(h:Shape Try.prog n 24 l):∃ x,Xu x∧It x (.agg l):=by
 obtain⟨hl,k,hf⟩:=tU K1 (t:=24) rfl rfl h
 rw[iu K1 (t:=24) rfl]at hl
 have h0:=hf (0,22) (by simp)
 rw[iu K1 (t:=22) rfl]at h0
 replace h0:=fc (QW) h0
 have h1:=hf (1,23) (by simp)
 rw[iu K1 (t:=23) rfl]at h1
 replace h1:=fc (QX) h1
 have h2:=hf (2,22) (by simp)
 rw[iu K1 (t:=22) rfl]at h2
 replace h2:=fc (QY) h2
 match l,hl with
 |[a0,a1,a2],_=>
  replace h0:Shape Try.prog k 22 [a0]:=h0
  obtain⟨x0,w0,b0,e0,r0⟩:=QV h0
  simp only[List.cons.injEq,and_true]at e0
  subst e0
  have s0:=r0
  replace h1:Shape Try.prog k 23 [a1]:=h1
  obtain⟨x1,w1,b1,e1,r1⟩:=Xt h1
  simp only[List.cons.injEq,and_true]at e1
  subst e1
  have s1:=r1
  replace h2:Shape Try.prog k 22 [a2]:=h2
  obtain⟨x2,w2,b2,e2,r2⟩:=QV h2
  simp only[List.cons.injEq,and_true]at e2
  subst e2
  have s2:=r2
  exact⟨⟨x0,x1,x2⟩,⟨w0,w1,w2⟩,⟨_,_,_,s0,s1,s2,rfl⟩⟩
def QZ(x:ai):Prop:=TP x.c7∧TP x.Den
theorem Q0:Try.prog.underlying 3=Try.prog.underlying 3:=by kernel_rfl
theorem Q1:Try.prog.underlying 3=Try.prog.underlying 3:=by kernel_rfl
theorem Xv{n:Nat}{l:List AV}(h:Shape Try.prog n 34 l):∃ x,QZ x∧zk x (.agg l):=by
 obtain⟨hl,k,hf⟩:=tU K1 (t:=34) rfl rfl h
 rw[iu K1 (t:=34) rfl]at hl
 have h0:=hf (0,3) (by simp)
 rw[iu K1 (t:=3) rfl]at h0
 replace h0:=fc (Q0) h0
 have h1:=hf (1,3) (by simp)
 rw[iu K1 (t:=3) rfl]at h1
 replace h1:=fc (Q1) h1
 match l,hl with
 |[a0,a1],_=>
  replace h0:Shape Try.prog k 3 [a0]:=h0
  obtain⟨x0,w0,b0,e0,r0⟩:=Xk h0
  simp only[List.cons.injEq,and_true]at e0
  subst e0
  unfold IQ at r0; subst r0
  replace h1:Shape Try.prog k 3 [a1]:=h1
  obtain⟨x1,w1,b1,e1,r1⟩:=Xk h1
  simp only[List.cons.injEq,and_true]at e1
  subst e1
  unfold IQ at r1; subst r1
  exact⟨⟨x0,x1⟩,⟨w0,w1⟩,rfl⟩
theorem Xw:Try.prog.underlying 26=some (.slice 35):=by kernel_rfl
theorem Xx:(Try.prog.underlying 35).isSome=true:=by kernel_rfl
theorem Xy:(Try.prog.underlying 35).map dR=some true:=by kernel_rfl
theorem Xz:Try.prog.underlying 35=Try.prog.underlying 34:=by kernel_rfl
def XA(x:List ai):Prop:=x.length≤maxLen∧∀ y,y∈x→QZ y
theorem WV{n:Nat}{l:List AV}(h:Shape Try.prog n 26 l):∃ x,XA x∧∃ a,l=[a]∧QQ x a:=by
 obtain⟨d,hd⟩:=Option.isSome_iff_exists.1 Xx
 have oM:dR d=true:=by have:=Xy; rw[hd]at this; simpa using this
 obtain⟨ys,xs,rfl,h1,h2⟩:=qf (Q:=fun y x=>QZ y∧zk y x) Xw hd h (by
  rintro k x ⟨cl,h1,h2⟩
  rw[oM]at h1
  simp only[if_true]at h1
  replace h2:=fc Xz h2
  subst h1
  obtain⟨y,hy,r⟩:=Xv h2
  exact⟨y,hy,r⟩)
 refine⟨ys,⟨h2,?_⟩,_,rfl,.inl ⟨xs,rfl,h1.mono fun _ _ h=>h.2⟩⟩
 intro y hy
 obtain⟨i,hi⟩:=List.getElem?_of_mem hy
 obtain⟨_,_,h3⟩:=h1.get hi
 exact h3.1
end Go.Proofs.Ytedjbjphpnkpoaa
end
section
/- Copies of slices in this seat: what the library's functions come to (printed by gen_lib.py). -/
namespace Go.Proofs.Ytedjbjphpnkpoaa.qe
open Go.PI
noncomputable def C0:Ctx where
 P:=Try.prog
 kind:=fun f=>if f=61 then .imp else .pure
 ku:=fun _=>none
 acc:=fun _ _=>false
instance:jI C0:=⟨rfl,rfl⟩
noncomputable def R(t:Nat):bJ:=(fh Try.prog t).getD ⟨.bool,0,0,none,false⟩
theorem Iw:aP C0.P 22=some (R 3):=by kernel_rfl
theorem Ix:bX C0.P 22=true:=by kernel_rfl
theorem XD:(cj (R 3)).isSome=true:=by kernel_rfl
theorem UJ:(R 3).size=1:=by kernel_rfl
theorem ag3:(R 3).isAgg=false:=by kernel_rfl
theorem by3:(R 3).bytes=8:=by kernel_rfl
theorem XE:C0.P.funcs[61]?=some Try.f61:=by kernel_rfl
theorem TR:bX C0.P 23=true:=by kernel_rfl
theorem st3:bX C0.P 3=false:=by kernel_rfl
theorem Xj:C0.P.underlying 3=some (.int .i64):=by kernel_rfl
noncomputable def wo:AV:=(cj (R 3)).getD .undef
theorem zv3:cj (R 3)=some wo:=by kernel_rfl
theorem zo3:aG (R 3).isAgg (R 3).size wo=true:=by kernel_rfl
theorem Iy:kx C0 61 [.lit cK,int 0] []=some (.val (.lit cK),[]):=
 (bj (ml C0 61 [.lit cK,int 0] [])).2 ⟨100,by kernel_rfl⟩
theorem LQ(n:Nat)(hn:0<n)(h1:n*(R 3).bytes≤2^44)(h2:n≤2^44):kx C0 61 [.lit cK,int n] []=some (.val (.bq (R 3).size 0 n 0 0 none),[some (.arr true true false (List.replicate n wo))]):=by
 rw[AN (fn:=Try.f61) XE rfl]
 have zj:∀ f d,C0.acc f d=false:=fun _ _=>rfl
 have hr:0<(R 3).size:=by rw[UJ]; decide
 have hw:IntKind.i64.wrap ((n:Int)-0)=(n:Int):=by rw[IntWalk.i64_in _ (by omega)]; omega
 have T3:IntKind.i64.wrap (0-0)=(0:Int):=by decide
 have HR:¬((n:Int)<0):=by omega
 have dG:(0:Int)<(n:Int):=by omega
 have HA:Option.map (ay [AV.lit cK]) none=(none:Option AV):=rfl
 simp (decide:=true) only [Try.f61,DU,zj,Oh Ix,Oi Ix,LO,Oj,Ol Iw,Om Iw hn,LM,LP Iw st3 Xj zv3 hr zo3 hn h1 h2,hw,T3,HR,dG,bol,Option.map_none,gW,je,pB,eW,List.map_cons,List.map_nil,dZ,kf,n5,pD,JO,lD,pE,n4,k7,xF,ay,nP,gT,gF,bG,eY,EF,A1,kR,JQ,qm,Gd,Ge,dt,xm,Ch,Gh,Gi,Gg,List.getElem?_toArray,List.replicate_succ,List.replicate_zero,Nat.reduceSub,Nat.reduceAdd,Option.bind_some,Option.map_some,decide_true,decide_false,ED,List.length_nil,List.length_cons,List.nil_append,List.cons_append,Nat.zero_add,MD,ME,MF,MG,k6,qh]
theorem Th:C0.P.funcs[40]?=some Try.f40:=by kernel_rfl
theorem XF:fh C0.P 22=some (R 22):=by kernel_rfl
theorem TS:(R 22).isAgg=false:=by kernel_rfl
theorem TT:(R 22).size=1:=by kernel_rfl
theorem XG:aP C0.P 23=some (R 22):=by kernel_rfl
theorem XH:arrayElem C0.P 23=none:=by kernel_rfl
theorem TU{nm:Nat}{ev:Operand→AV}{dst:Option Tmp}{type:TypeId}{pos:String}{after:Array Edge}{guard:Option (Nat×Bool)}{hp:ag}{x:Operand}:
  (aK C0.P nm ev ⟨dst,.load 22 x,type,pos,after,guard⟩).run hp=JR (Gk false 1 hp (ev x)):=by rw[M1 XF,M4 TS TT]
theorem TW(x ix:AV):eU C0.P 23 x ix=(asNat ix).bind fun i=>nt false 1 i x:=by rw[JV XG XH,TS,TT]
def I1(ls:List (List AV))(k:Nat)(s:St):Prop:=
 ∃ (i:Nat) (j1 j4 j5 j6 j7 j8 LR LS LU LV LW LX LY LZ L0 L1 L2 L3 L4 TX TY Pf L5 L6 L7 L8 L9 Ma Mb Mc:AV),k=ls.length-i∧i≤ls.length∧s=⟨40,[.sl (ls.map .sl),j1,.lit cK,int ((ls.take i).flatten.length:Nat),j4,j5,j6,j7,j8,.sl (ls.map .sl),int ls.length,int i,LR,LS,LU,LV,LW,LX,LY,LZ,L0,L1,L2,L3,L4,TX,TY,Pf,L5,L6,L7,L8,L9,Ma,Mb,Mc],[]⟩
def P1(ls:List (List AV))(o:Out):Prop:=
 ∃ (Pg j1 j4 j5 j6 j7 j8 LR LS LU LV LW LX LY LZ L0 L1 L2 L3 L4 TX TY Pf L5 L6 L7 L8 L9 Ma Mb Mc:AV),o=.exit 0 ⟨40,[.sl (ls.map .sl),j1,.lit cK,int (ls.flatten.length:Nat),j4,j5,j6,j7,j8,.sl (ls.map .sl),int ls.length,Pg,LR,LS,LU,LV,LW,LX,LY,LZ,L0,L1,L2,L3,L4,TX,TY,Pf,L5,L6,L7,L8,L9,Ma,Mb,Mc],[]⟩
theorem G7{α:Type}(ls:List (List α))(i:Nat):(ls.take i).flatten.length≤ls.flatten.length:=by
 have h:ls.flatten.length=(ls.take i).flatten.length+(ls.drop i).flatten.length:=by
  rw[←List.length_append,←List.flatten_append,List.take_append_drop]
 omega
theorem AB{α:Type}(ls:List (List α))(i:Nat)(h:i<ls.length):(ls.take (i+1)).flatten=(ls.take i).flatten++ls[i]:=by
 rw[List.take_succ_eq_append_getElem h,List.flatten_append]; simp only[List.flatten_cons,List.flatten_nil,List.append_nil]
noncomputable def cur(ls:List (List AV))(i:Nat):AV:=if ls.flatten.length=0 then .lit cK else .bq (R 3).size 0 ls.flatten.length 0 (ls.take i).flatten.length none
noncomputable def sJ(ls:List (List AV))(i:Nat):ag:=if ls.flatten.length=0 then [] else [some (.arr true true false ((ls.take i).flatten++List.replicate (ls.flatten.length-(ls.take i).flatten.length) wo))]
theorem Md(ls:List (List AV))(h1:ls.flatten.length*(R 3).bytes≤2^44)(h2:ls.flatten.length≤2^44):kx C0 61 [.lit (.slice none 0 0),int ls.flatten.length] []=some (.val (cur ls 0),sJ ls 0):=by
 unfold cur sJ
 by_cases h:ls.flatten.length=0
 ·rw[if_pos h,if_pos h,h]; exact Iy
 ·rw[if_neg h,if_neg h]
  simpa using LQ _ (by omega) h1 h2
theorem Iz(ls:List (List AV))(i:Nat):gK 0 (cur ls i) (sJ ls i)=sJ ls i:=by
 unfold cur sJ gK
 by_cases h:ls.flatten.length=0
 ·rw[if_pos h,if_pos h]; simp
 ·rw[if_neg h,if_neg h]; simp[below]
theorem FN(ls:List (List AV))(i:Nat):forget (sJ ls i).length (cur ls (i+1))=cur ls (i+1):=by
 apply Hu
 unfold cur sJ
 by_cases h:ls.flatten.length=0
 ·rw[if_pos h,if_pos h]; rfl
 ·rw[if_neg h,if_neg h]; simp[below]
theorem IA(ls:List (List AV))(i:Nat)(f:Nat)(fr:List AV):gJ (sJ ls i).length ⟨f,fr,sJ ls (i+1)⟩=⟨f,fr.map (forget (sJ ls i).length),sJ ls (i+1)⟩:=by
 have hl:(sJ ls i).length=(sJ ls (i+1)).length:=by
  unfold sJ
  by_cases h:ls.flatten.length=0
  ·rw[if_pos h,if_pos h]
  ·rw[if_neg h,if_neg h]; rfl
 have ht:(sJ ls (i+1)).take (sJ ls i).length=sJ ls (i+1):=by rw[hl]; exact List.take_length
 rw[Ci]
 ·simp only[ht]
 ·simp only[ht]
  unfold sJ
  by_cases h:ls.flatten.length=0
  ·rw[if_pos h]; rfl
  ·rw[if_neg h]; rfl
theorem BH(a ys:List AV)(k:Nat)(z:AV)(h:ys.length≤k):bw (a++List.replicate k z) a.length ys=a++ys++List.replicate (k-ys.length) z:=by
 induction ys generalizing a k with
 |nil=>simp[bw]
 |cons y ys ih=>
  obtain⟨k,rfl⟩:∃ m,k=m+1:=⟨k-1,by simp at h; omega⟩
  have:=ih (a++[y]) k (by simp at h; omega)
  simp only[bw,List.replicate_succ]
  simp only[List.length_append,List.length_cons,List.length_nil]at this
  rw[List.set_append_right _ _ (Nat.le_refl _),Nat.sub_self,List.set_cons_zero]
  simpa[List.append_assoc] using this
theorem On(ls:List (List AV))(i:Nat)(hi:i<ls.length)(bc:ls[i].all (aG (R 3).isAgg (R 3).size)=true):
  ∃ wr,(∀ nm,(fH C0.P nm 22 22 (cur ls i) (.sl ls[i])).run (sJ ls i)=some ⟨cur ls (i+1),wr⟩)∧ak (sJ ls i) wr=sJ ls (i+1):=by
 have hr:0<(R 3).size:=by rw[UJ]; decide
 have hf:=AB ls i hi
 have hle:=G7 ls (i+1)
 have hlen:(ls.take (i+1)).flatten.length=(ls.take i).flatten.length+ls[i].length:=by rw[hf,List.length_append]
 by_cases h:ls.flatten.length=0
 ·have he:ls[i]=[]:=List.length_eq_zero_iff.1 (by omega)
  refine⟨[],fun nm=>?_,?_⟩
  ·unfold cur sJ
   rw[if_pos h,if_pos h,if_pos h,he]
   simp[fH,Iw,wq,Ix,fR,RM.run_bind,RM.run_pure,XD,hr]
  ·unfold sJ; rw[if_pos h,if_pos h]; rfl
 ·by_cases he:ls[i]=[]
  ·have wI:ls[i].length=0:=by rw[he]; rfl
   rw[wI]at hlen
   have iH:(ls.take (i+1)).flatten=(ls.take i).flatten:=by rw[hf,he,List.append_nil]
   refine⟨[],fun nm=>?_,?_⟩
   ·unfold cur sJ
    rw[if_neg h,if_neg h,if_neg h,he,iH]
    simp[fH,Iw,wq,Ix,fR,RM.run_bind,RM.run_pure,XD,hr]
   ·unfold sJ; rw[if_neg h,if_neg h,iH]; rfl
  ·have dN:ls[i].isEmpty=false:=by cases hq:ls[i]<;>simp_all
   have cC:((ls.take i).flatten++List.replicate (ls.flatten.length-(ls.take i).flatten.length) wo).length=ls.flatten.length:=by
    rw[List.length_append,List.length_replicate]; omega
   refine⟨[(0,.arr true true false ((ls.take (i+1)).flatten++List.replicate (ls.flatten.length-(ls.take (i+1)).flatten.length) wo))],fun nm=>?_,?_⟩
   ·unfold cur sJ
    rw[if_neg h,if_neg h,if_neg h]
    have ho:=RM.xJ (hp:=[some (.arr true true false ((ls.take i).flatten++List.replicate (ls.flatten.length-(ls.take i).flatten.length) wo))]) (n:=0) rfl
    rw[cC]at ho
    have Dk:=BH (ls.take i).flatten ls[i] (ls.flatten.length-(ls.take i).flatten.length) wo (by omega)
    simp only[fH,Iw,wq,Ix,fR,RM.run_bind,RM.run_pure,Option.bind_some,XD,hr,bc,decide_true,Bool.and_self,dN,ho]
    rw[if_neg (by rintro (h1|h1|h1); (exact absurd h1 (by decide)); (rw[cC]at h1; omega); (exact h1 rfl)),if_pos (by simp only[Option.getD_none]; omega),if_pos (by rw[cC]; omega)]
    simp only[RM.run_pure,Nat.zero_add,Dk,hlen,←hf]
    rw[Nat.sub_sub]
   ·unfold sJ; rw[if_neg h,if_neg h]; rfl
def I2(ls:List (List AV))(k:Nat)(s:St):Prop:=
 ∃ (i:Nat) (j1 j4 j5 j7 j8 j9 TZ Pg LR LS LU LV LW LX LY LZ L0 L1 L2 L3 L4 L5 L6 L7 L8 L9 Ma Mb Mc:AV),k=ls.length-i∧i≤ls.length∧s=⟨40,[.sl (ls.map .sl),j1,.lit cK,int (ls.flatten.length:Nat),j4,j5,cur ls i,j7,j8,j9,TZ,Pg,LR,LS,LU,LV,LW,LX,LY,LZ,L0,L1,L2,L3,L4,.sl (ls.map .sl),int ls.length,int i,L5,L6,L7,L8,L9,Ma,Mb,Mc],sJ ls i⟩
def P2(ls:List (List AV))(o:Out):Prop:=
 ∃ (Pf j1 j4 j5 j7 j8 j9 TZ Pg LR LS LU LV LW LX LY LZ L0 L1 L2 L3 L4 L5 L6 L7 L8 L9 Ma Mb Mc:AV),o=.exit 2 ⟨40,[.sl (ls.map .sl),j1,.lit cK,int (ls.flatten.length:Nat),j4,j5,cur ls ls.length,j7,j8,j9,TZ,Pg,LR,LS,LU,LV,LW,LX,LY,LZ,L0,L1,L2,L3,L4,.sl (ls.map .sl),int ls.length,Pf,L5,L6,L7,L8,L9,Ma,Mb,Mc],sJ ls ls.length⟩
theorem FF(ls:List (List AV))(hn:ls.length≤2^44)(bc:∀ l∈ls,l.all (aG (R 3).isAgg (R 3).size)=true)(SY:ls.flatten.length*(R 3).bytes≤2^44)(hT:ls.flatten.length≤2^44):∃ res ib,kx C0 40 [.sl (ls.map .sl)] []=some (.val res,ib)∧(aX 1000 res).run ib=some (.sl ls.flatten):=by
 have key:kx C0 40 [.sl (ls.map .sl)] []=some (.val (cur ls ls.length),sJ ls ls.length):=by
  rw[AN (fn:=Try.f40) Th rfl]
  have zj:∀ f d,C0.acc f d=false:=fun _ _=>rfl
  have hr:0<(R 3).size:=by rw[UJ]; decide
  simp (decide:=true) only [Try.f40,DU,zj,EG TR,List.length_map,gW,je,pB,eW,List.map_cons,List.map_nil,dZ,kf,n5,lD,JP,n4,k7,ay,nP,gT,gF,bG,eY,kR,dt,List.getElem?_toArray,List.replicate_succ,List.replicate_zero,Nat.reduceSub,Option.bind_some,List.length_nil,List.length_cons,List.nil_append,List.cons_append,Nat.zero_add,MD,ME,MF,MG,lB,Option.bind_assoc,A2]
  refine zP (I1 ls) (P1 ls) ls.length ?_ ?_ ?_
  ·exact⟨0,_,_,_,_,_,_,_,_,_,_,_,_,_,_,_,_,_,_,_,_,_,_,_,_,_,_,_,_,_,_,rfl,Nat.zero_le _,rfl⟩
  ·rintro k s ⟨i,j1,j4,j5,j6,j7,j8,LR,LS,LU,LV,LW,LX,LY,LZ,L0,L1,L2,L3,L4,TX,TY,Pf,L5,L6,L7,L8,L9,Ma,Mb,Mc,hk,hi,rfl⟩
   have Me:IntKind.i64.wrap ((i:Int)+1)=((i+1:Nat):Int):=by
    rw[IntWalk.i64_in _ (by omega)]; omega
   by_cases bQ:i<ls.length
   ·have np:(ls.map AV.sl)[i]?=some (.sl ls[i]):=by simp[bQ]
    have bM:aG false 1 (.sl ls[i])=true:=by simp[aG,ba]
    have hp0:eM false 1 (.sl ls[i]) 0=some (.sl ls[i]):=by simp[eM,ba]
    have xM:((i:Int)<(ls.length:Int)):=by omega
    have hf:=AB ls i bQ
    have hle:=G7 ls (i+1)
    have hlen:(ls.take (i+1)).flatten.length=(ls.take i).flatten.length+ls[i].length:=by rw[hf,List.length_append]
    have kL:IntKind.i64.wrap (((ls.take i).flatten.length:Int)+(ls[i].length:Int))=(((ls.take (i+1)).flatten.length:Nat):Int):=by
     rw[IntWalk.i64_in _ (by omega)]; omega
    have HR:¬(((ls.take (i+1)).flatten.length:Int)<0):=by omega
    left
    refine⟨_,by simp (decide:=true) only [np,bM,xM,Me,kL,HR,TU,TW,EG Ix,bol,gW,je,pB,eW,List.map_cons,List.map_nil,dZ,kf,n5,Gf,pD,tg,lD,pE,n4,k7,xF,ay,nP,gT,gF,bG,eY,EF,A1,kR,qm,AZ,dt,List.getElem?_toArray,Option.bind_some,Option.map_some,decide_true,decide_false,List.length_nil,ba,JR,eM,if_true,MD,ME,MF,MG,lB,k6,vE,th,rQ,nt,Gk,qh,A2]; rfl,ls.length-(i+1),by omega,?_⟩
    rw[Ci (by simp)]
    exact⟨i+1,_,_,_,_,_,_,_,_,_,_,_,_,_,_,_,_,_,_,_,_,_,_,_,_,_,_,_,_,_,_,rfl,by omega,rfl⟩
   ·have xM:¬((i:Int)<(ls.length:Int)):=by omega
    have QF:i=ls.length:=by omega
    right
    refine⟨_,by simp (decide:=true) only [xM,bol,gW,je,pB,eW,List.map_cons,List.map_nil,dZ,kf,pD,xF,ay,gF,bG,eY,A1,kR,qm,dt,ti,List.getElem?_toArray,Option.bind_some,Option.map_some,decide_false,List.length_nil,MD,ME,MF,MG,k6,uq]; rfl,by simp,?_⟩
    have:ls.take i=ls:=by rw[QF]; exact List.take_length
    rw[this]
    exact⟨_,_,_,_,_,_,_,_,_,_,_,_,_,_,_,_,_,_,_,_,_,_,_,_,_,_,_,_,_,_,_,rfl⟩
  ·rintro o ⟨Pg,j1,j4,j5,j6,j7,j8,LR,LS,LU,LV,LW,LX,LY,LZ,L0,L1,L2,L3,L4,TX,TY,Pf,L5,L6,L7,L8,L9,Ma,Mb,Mc,rfl⟩
   simp (decide:=true) only [gW,je,pB,eW,List.map_cons,List.map_nil,dZ,n5,n4,ay,nP,gT,gF,bG,eY,kR,dt,List.getElem?_toArray,Option.bind_some,List.length_nil,nj,EE,MD,ME,MF,MG,zQ,Option.bind_assoc]
   have XI:C0.kind 61=.imp:=rfl
   have T2:∀ a t,au (Op.call ⟨.value (.func 61),a,t⟩)=false:=fun _ _=>rfl
   simp only[nV,ri,T2,XI]
   rw[Md ls SY hT]
   simp only[Option.bind_some,F5,List.length_nil,Iz]
   simp (decide:=true) only [EG TR,List.length_map,gW,je,pB,eW,List.map_cons,List.map_nil,dZ,kf,n5,lD,pE,n4,k7,ay,nP,gT,gF,bG,eY,kR,dt,List.getElem?_toArray,Option.bind_some,MD,ME,MF,MG,lB,Option.bind_assoc,A2]
   refine zP (I2 ls) (P2 ls) ls.length ?_ ?_ ?_
   ·exact⟨0,_,_,_,_,_,_,_,_,_,_,_,_,_,_,_,_,_,_,_,_,_,_,_,_,_,_,_,_,_,rfl,Nat.zero_le _,rfl⟩
   ·rintro k s ⟨i,j1,j4,j5,j7,j8,j9,TZ,Pg,LR,LS,LU,LV,LW,LX,LY,LZ,L0,L1,L2,L3,L4,L5,L6,L7,L8,L9,Ma,Mb,Mc,hk,hi,rfl⟩
    have Me:IntKind.i64.wrap ((i:Int)+1)=((i+1:Nat):Int):=by
     rw[IntWalk.i64_in _ (by omega)]; omega
    by_cases bQ:i<ls.length
    ·have np:(ls.map AV.sl)[i]?=some (.sl ls[i]):=by simp[bQ]
     have bM:aG false 1 (.sl ls[i])=true:=by simp[aG,ba]
     have hp0:eM false 1 (.sl ls[i]) 0=some (.sl ls[i]):=by simp[eM,ba]
     have xM:((i:Int)<(ls.length:Int)):=by omega
     obtain⟨wr,Vc,D5⟩:=On ls i bQ (bc _ (List.getElem_mem bQ))
     left
     refine⟨_,by simp (decide:=true) only [np,bM,xM,Me,LM,Vc,D5,TU,TW,bol,gW,je,pB,eW,List.map_cons,List.map_nil,dZ,kf,n5,Gf,pD,tg,lD,pE,n4,k7,xF,ay,nP,gT,gF,bG,eY,EF,kR,qm,AZ,dt,List.getElem?_toArray,Option.bind_some,Option.map_some,decide_true,ba,JR,eM,if_true,MD,ME,MF,MG,lB,k6,vE,th,rQ,nt,Gk,qh]; rfl,ls.length-(i+1),by omega,?_⟩
     rw[IA]
     simp only[List.map_cons,List.map_nil,FN]
     exact⟨i+1,_,_,_,_,_,_,_,_,_,_,_,_,_,_,_,_,_,_,_,_,_,_,_,_,_,_,_,_,_,rfl,by omega,rfl⟩
    ·have xM:¬((i:Int)<(ls.length:Int)):=by omega
     have QF:i=ls.length:=by omega
     right
     refine⟨_,by simp (decide:=true) only [xM,bol,gW,je,pB,eW,List.map_cons,List.map_nil,dZ,kf,pD,xF,ay,gF,bG,eY,A1,kR,qm,dt,ti,List.getElem?_toArray,Option.bind_some,Option.map_some,decide_false,MD,ME,MF,MG,k6,uq]; rfl,by simp,?_⟩
     subst QF
     exact⟨_,_,_,_,_,_,_,_,_,_,_,_,_,_,_,_,_,_,_,_,_,_,_,_,_,_,_,_,_,_,rfl⟩
   ·rintro o ⟨Pf,j1,j4,j5,j7,j8,j9,TZ,Pg,LR,LS,LU,LV,LW,LX,LY,LZ,L0,L1,L2,L3,L4,L5,L6,L7,L8,L9,Ma,Mb,Mc,rfl⟩
    simp (decide:=true) only [gW,je,pB,eW,List.map_cons,List.map_nil,dZ,kf,n5,pE,n4,k7,ay,gF,bG,eY,kR,dt,xm,Ch,Gh,Gi,Gg,List.getElem?_toArray,Option.bind_some,Option.map_some,MD,ME,MF,MG,zQ]
 refine⟨_,_,key,?_⟩
 unfold cur sJ
 by_cases h:ls.flatten.length=0
 ·rw[if_pos h,if_pos h,List.length_eq_zero_iff.1 h]; rfl
 ·rw[if_neg h,if_neg h]
  simp only[List.take_length,Nat.sub_self,List.replicate_zero,List.append_nil]
  exact FM (RM.xJ rfl)
end Go.Proofs.Ytedjbjphpnkpoaa.qe
end
section
/- The context of this seat, contracts of library functions, the greatest common divisor. -/
set_option maxRecDepth 100000
set_option maxHeartbeats 0
namespace Go.Proofs.Ytedjbjphpnkpoaa
open Go.PI
def DJ:bJ:=⟨.bool,1,8,none,false⟩
noncomputable def C:Ctx where
 P:=Try.prog
 kind:=fun f=>match Go.PI.cm [(24,()),(25,()),(26,()),(30,()),(37,()),(45,()),(47,()),(49,()),(56,()),(63,()),(64,()),(65,()),(66,()),(67,()),(68,()),(69,()),(70,()),(73,()),(74,()),(75,()),(77,()),(84,()),(85,()),(87,()),(89,()),(90,()),(91,()),(92,()),(93,()),(94,()),(97,()),(98,()),(111,()),(112,()),(113,()),(119,()),(120,()),(123,())] f with|some _=>.imp|none=>.pure
 ku:=fun g=>Go.PI.cm [(40,mC DJ)] g
 acc:=fun _ _=>true
 qQ:=fun f d=>(Go.PI.GH [(6,38,[(0,1),(2,1)])] f d).getD []
theorem Lw : ∀ (f : FuncId) (fn : Func), Try.prog.funcs[f]? = some fn → fn.body.isSome = true → (fn.name == "runtime.NumGoroutine") = false := by
 have h : (Try.prog.funcs.toList.all fun fn => !(fn.name == "runtime.NumGoroutine") || !fn.body.isSome) = true := by kernel_rfl
 intro f fn hf hb
 have hm:fn∈Try.prog.funcs.toList:=by
  have:=Array.mem_of_getElem? hf
  exact Array.mem_toList_iff.2 this
 have:=List.all_eq_true.1 h fn hm
 rw[hb]at this
 simpa using this
theorem N4:qe.C0.Ok where
 name:=Lw
 ku:=fun g h al r hg=>by simp[qe.C0]at hg
 ra:=fun g h al hp e h1=>by cases h1
 EN:=fun g h hg=>by simp[qe.C0]at hg
 iX:=fun g h al r ib hg=>by simp[qe.C0]at hg
 A6:=fun g h hg=>by simp[qe.C0]at hg
theorem Lx{g:FuncId}{h:List AV→Option AV}(hg:C.ku g=some h):g=40∧h=mC DJ:=by
 have:=gC (show Go.PI.cm [(40,mC DJ)] g=some h from hg)
 simp only[List.mem_singleton,Prod.mk.injEq]at this
 exact this
theorem Cok:C.Ok where
 name:=Lw
 ku:=by
  intro g h al r hg hr Ec w vs hI ha
  obtain⟨rfl,rfl⟩:=Lx hg
  exact Ik (r:=DJ) N4 (fun ls h0 h1 h2 h3=>qe.FF ls h0 (by rw[qe.ag3,qe.UJ]; exact h1) (by rw[qe.by3]; exact h2) h3) hr Ec w vs hI ha
 EN:=by
  intro g h hg
  obtain⟨rfl,rfl⟩:=Lx hg
  exact⟨_,qe.Th,rfl⟩
 ra:=fun g h al hp e h1=>by cases h1
 iX:=fun g h al r ib hg=>by cases hg
 A6:=fun g h hg=>by cases hg
theorem ok3(x:Int)(a:AV)(h:IQ x a):aG DJ.isAgg DJ.size a=true:=(yN (eI h)).1
def _root_.Go.aa.hG(s:List (List Int)):Option (List Int):=tC 8 s
theorem Qp:p7 C T 40 ⟨[23],[22],fun x=>Go.aa.hG x⟩:=
 FG (C:=C) (T:=T) (g:=40) (t:=23) (u:=22) (I:=mC DJ) (F:=Go.aa.hG) rfl rfl fun x a y h hy=>by
  obtain⟨l,h1,h2⟩:=FH (r:=DJ) (rpe:=IQ) (x:=x) (y:=y) ok3 h hy
  exact⟨l,h1,.inl ⟨l,rfl,h2⟩⟩
def _root_.Go.aa.jO:Option Bool:=some true
def kh:List (Nat×vY T):=[]
theorem sk:∀ (g:FuncId) (σ:vY T),cm kh g=some σ→GY C T g σ:=fun g σ h=>by simp[kh,cm]at h
def tF:FuncId→Nat→Bool:=fun _ _=>false
def SQ:FuncId→Tmp→List Tw:=fun _ _=>[]
def _root_.Go.aa.Fa:Nat→Int→Int→Option Int
 |0,_,_=>none
 |n+1,a,b=>bif b==0 then some a else bif decide (b=0) then none else (Go.aa.Fa n b (a.tmod b)).bind fun i=>some i
noncomputable def gS(n:Nat):og:=GR C T Br (fun _ _=>none) (fun _ _=>false) [(82,⟨[3,3],[3],fun x=>Go.aa.Fa n x.1 x.2⟩)] 1 kh tF SQ
theorem Ly:∀ n,p7 C T 82 ⟨[3,3],[3],fun x=>Go.aa.Fa n x.1 x.2⟩
 |0=>⟨rfl,fun x al y _ h=>by cases h⟩
 |n+1=>by
  have h0:(GR C T Br (fun _ _=>none) (fun _ _=>false) [(82,⟨[3,3],[3],fun x=>Go.aa.Fa n x.1 x.2⟩)] 0 kh tF SQ).Ok:=Db Yy K1 Yz sk
  have h1:(gS n).Ok:=tL h0 rfl (Ly n)
  exact DK (S:=gS n) (k:=400) (σ:=⟨[3,3],[3],fun x=>Go.aa.Fa (n+1) x.1 x.2⟩) h1 rfl rfl fun x=>by kernel_rfl
def _root_.Go.aa.jV(a b:Int):Option Int:=Go.aa.Fa 200 a b
theorem Qq:p7 C T 82 ⟨[3,3],[3],fun x=>Go.aa.jV x.1 x.2⟩:=Ly 200
end Go.Proofs.Ytedjbjphpnkpoaa
end
section
/- Models of the functions of this seat, and that they hold (printed by chain.py). -/
set_option maxRecDepth 100000
set_option maxHeartbeats 0
namespace Go.Proofs.Ytedjbjphpnkpoaa
open Go.PI
end Go.Proofs.Ytedjbjphpnkpoaa
open Go Go.PI Go.Proofs Go.Proofs.Ytedjbjphpnkpoaa
noncomputable def Go.aa.nF(n:Int)(low:Int)(high:Int):Option Bool:=
 bif decide (low≤n) then
 some (decide (n≤high))
 else
 some false
noncomputable def Go.aa.jW(l:List Int)(KX:Int):Option Bool:=
 (aM (ω:=Bool ⊕ Bool×Int) (fun ((b1,i2):Bool×Int)=>
 bif decide (i2<(↑l.length:Int)) then
 bif decide (0≤i2) then
 (l[i2.toNat]?).bind fun i3=>
 (aa.nF i3 0 (IntKind.i64.wrap (KX-1))).bind fun b4=>
 bif !b4 then
 some (Sum.inr (Sum.inl false))
 else
 bif decide (0<i2) then
 bif decide (0≤IntKind.i64.wrap (i2-1)) then
 (l[(IntKind.i64.wrap (i2-1)).toNat]?).bind fun i5=>
 bif decide (i3≤i5) then
 some (Sum.inr (Sum.inl false))
 else
 some (Sum.inl (b1,IntKind.i64.wrap (i2+1)))
 else
 none
 else
 some (Sum.inl (b1,IntKind.i64.wrap (i2+1)))
 else
 none
 else
 some (Sum.inr (Sum.inr (b1,i2)))) (false,0)).bind fun w6=>
 Sum.elim (fun b7=>
 some b7) (fun (b8,i9)=>
 (aa.nF (↑l.length:Int) 1 6).bind fun Rk=>
 some Rk) w6
noncomputable def Go.aa.gw(n:bD):Option Bool:=
 bif decide (8<(↑n.aC.length:Int)) then
 some false
 else
 bif decide (8<(↑n.ae.length:Int)) then
 some false
 else
 bif !(↑n.aH.length:Int)==(↑n.ae.length:Int) then
 some false
 else
 (aa.hG [n.aC,n.aH]).bind fun l1=>
 (aM (ω:=Bool ⊕ Bool×Int) (fun ((b2,i3):Bool×Int)=>
 bif decide (i3<(↑l1.length:Int)) then
 bif decide (0≤i3) then
 (l1[i3.toNat]?).bind fun i4=>
 (aa.nF i4 0 1000).bind fun b5=>
 bif !b5 then
 some (Sum.inr (Sum.inl false))
 else
 some (Sum.inl (b2,IntKind.i64.wrap (i3+1)))
 else
 none
 else
 some (Sum.inr (Sum.inr (b2,i3)))) (false,0)).bind fun w6=>
 Sum.elim (fun b7=>
 some b7) (fun (b8,i9)=>
 (aM (ω:=Bool ⊕ Bool×Int) (fun ((Rk,i11):Bool×Int)=>
 bif decide (i11<(↑n.ae.length:Int)) then
 bif decide (0≤i11) then
 (n.ae[i11.toNat]?).bind fun VX=>
 (aa.jW VX (↑n.aC.length:Int)).bind fun OV=>
 bif !OV then
 some (Sum.inr (Sum.inl false))
 else
 some (Sum.inl (Rk,IntKind.i64.wrap (i11+1)))
 else
 none
 else
 some (Sum.inr (Sum.inr (Rk,i11)))) (b8,0)).bind fun Z9=>
 Sum.elim (fun Uw=>
 some Uw) (fun (VY,i17)=>
 some true) Z9) w6
noncomputable def Go.aa.oa(s:List Bool)(v:Bool):Option Int:=
 (aM (ω:=Int ⊕ Int×Int) (fun ((i1,i2):Int×Int)=>
 bif decide (i2<(↑s.length:Int)) then
 bif decide (0≤i2) then
 (s[i2.toNat]?).bind fun b3=>
 bif v==b3 then
 some (Sum.inr (Sum.inl i2))
 else
 some (Sum.inl (i1,IntKind.i64.wrap (i2+1)))
 else
 none
 else
 some (Sum.inr (Sum.inr (i1,i2)))) (0,0)).bind fun w4=>
 Sum.elim (fun i5=>
 some i5) (fun (i6,i7)=>
 some (-1)) w4
noncomputable def Go.aa.fo(s:List Bool)(v:Bool):Option Bool:=
 (aa.oa s v).bind fun i1=>
 some (decide (0≤i1))
noncomputable def Go.aa.bO(f:ai):Option Bool:=
 bif decide ((if f.c7<IntKind.i64.wrap (0-f.c7) then IntKind.i64.wrap (0-f.c7) else f.c7)≤1000000000) then
 bif decide (1≤f.Den) then
 some (decide (f.Den≤1000000000))
 else
 some false
 else
 some false
noncomputable def Go.aa.cR(f:ai):Option ai:=
 (aa.jV (if f.c7<IntKind.i64.wrap (0-f.c7) then IntKind.i64.wrap (0-f.c7) else f.c7) (if f.Den<IntKind.i64.wrap (0-f.Den) then IntKind.i64.wrap (0-f.Den) else f.Den)).bind fun i1=>
 bif decide (f.Den<0) then
 bif decide (IntKind.i64.wrap (0-i1)=0) then
 none
 else
 bif decide (IntKind.i64.wrap (0-i1)=0) then
 none
 else
 some (ai.mk (IntKind.i64.wrap (f.c7.tdiv (IntKind.i64.wrap (0-i1)))) (IntKind.i64.wrap (f.Den.tdiv (IntKind.i64.wrap (0-i1)))))
 else
 bif decide (i1=0) then
 none
 else
 bif decide (i1=0) then
 none
 else
 some (ai.mk (IntKind.i64.wrap (f.c7.tdiv i1)) (IntKind.i64.wrap (f.Den.tdiv i1)))
noncomputable def Go.aa.cM(a:ai):Option Bool:=
 bif decide (-1000000000≤a.c7) then
 (aa.bO a).bind fun b1=>
 bif b1 then
 (aa.cR a).bind fun q2=>
 some (q2.c7==a.c7&&q2.Den==a.Den)
 else
 some false
 else
 some false
noncomputable def Go.aa.qz(x:Int):Option Bool:=
 some (!x==x)
noncomputable def Go.aa.pP(x:Int)(y:Int):Option Int:=
 (aa.qz x).bind fun b1=>
 (aa.qz y).bind fun b2=>
 bif b1 then
 bif b2 then
 some 0
 else
 some (-1)
 else
 bif b2 then
 some 1
 else
 bif decide (x<y) then
 some (-1)
 else
 bif decide (y<x) then
 some 1
 else
 some 0
noncomputable def Go.aa.qy(a:ai)(b:ai):Option (Int×Int):=
 (aa.cM a).bind fun b1=>
 bif !b1 then
 some (0,1)
 else
 (aa.cM b).bind fun b2=>
 bif !b2 then
 some (0,1)
 else
 (aa.pP (IntKind.i64.wrap (a.c7*b.Den)) (IntKind.i64.wrap (b.c7*a.Den))).bind fun i3=>
 some (i3,0)
noncomputable def Go.aa.eQ(a:ai)(b:ai):Option Bool:=
 (aa.qy a b).bind fun (i1,i2)=>
 some (decide (i1<0))
noncomputable def Go.aa.n9(l:List Int)(KX:Int):Option Bool:=
 (aM (ω:=Bool ⊕ Bool×Int) (fun ((b1,i2):Bool×Int)=>
 bif decide (i2<(↑l.length:Int)) then
 bif decide (0≤i2) then
 (l[i2.toNat]?).bind fun i3=>
 bif decide (i3<0) then
 some (Sum.inr (Sum.inl false))
 else
 bif decide (0≤i2) then
 (l[i2.toNat]?).bind fun i4=>
 bif decide (KX≤i4) then
 some (Sum.inr (Sum.inl false))
 else
 bif decide (0<i2) then
 bif decide (0≤i2) then
 (l[i2.toNat]?).bind fun i5=>
 bif decide (0≤IntKind.i64.wrap (i2-1)) then
 (l[(IntKind.i64.wrap (i2-1)).toNat]?).bind fun i6=>
 bif decide (i5≤i6) then
 some (Sum.inr (Sum.inl false))
 else
 some (Sum.inl (b1,IntKind.i64.wrap (i2+1)))
 else
 none
 else
 none
 else
 some (Sum.inl (b1,IntKind.i64.wrap (i2+1)))
 else
 none
 else
 none
 else
 some (Sum.inr (Sum.inr (b1,i2)))) (false,0)).bind fun w7=>
 Sum.elim (fun b8=>
 some b8) (fun (b9,i10)=>
 bif decide (1≤(↑l.length:Int)) then
 some (decide ((↑l.length:Int)≤6))
 else
 some false) w7
noncomputable def Go.aa.cY(n:bD):Option Bool:=
 bif decide (8<(↑n.aC.length:Int)) then
 some false
 else
 bif decide (8<(↑n.ae.length:Int)) then
 some false
 else
 bif !(↑n.aH.length:Int)==(↑n.ae.length:Int) then
 some false
 else
 (aM (ω:=Bool ⊕ Bool×Int) (fun ((b1,i2):Bool×Int)=>
 bif decide (i2<(↑n.aC.length:Int)) then
 bif decide (0≤i2) then
 (n.aC[i2.toNat]?).bind fun i3=>
 bif decide (i3<0) then
 some (Sum.inr (Sum.inl false))
 else
 bif decide (0≤i2) then
 (n.aC[i2.toNat]?).bind fun i4=>
 bif decide (1000<i4) then
 some (Sum.inr (Sum.inl false))
 else
 some (Sum.inl (b1,IntKind.i64.wrap (i2+1)))
 else
 none
 else
 none
 else
 some (Sum.inr (Sum.inr (b1,i2)))) (false,0)).bind fun w5=>
 Sum.elim (fun b6=>
 some b6) (fun (b7,i8)=>
 (aM (ω:=Bool ⊕ Bool×Int) (fun ((b9,i10):Bool×Int)=>
 bif decide (i10<(↑n.ae.length:Int)) then
 bif decide (0≤i10) then
 (n.ae[i10.toNat]?).bind fun BM=>
 (aa.n9 BM (↑n.aC.length:Int)).bind fun D9=>
 bif !D9 then
 some (Sum.inr (Sum.inl false))
 else
 bif decide (0≤i10) then
 (n.aH[i10.toNat]?).bind fun i13=>
 bif decide (i13<0) then
 some (Sum.inr (Sum.inl false))
 else
 bif decide (0≤i10) then
 (n.aH[i10.toNat]?).bind fun i14=>
 bif decide (1000<i14) then
 some (Sum.inr (Sum.inl false))
 else
 some (Sum.inl (b9,IntKind.i64.wrap (i10+1)))
 else
 none
 else
 none
 else
 none
 else
 some (Sum.inr (Sum.inr (b9,i10)))) (b7,0)).bind fun w15=>
 Sum.elim (fun VY=>
 some VY) (fun (b17,i18)=>
 some true) w15) w5
noncomputable def Go.aa.pV(l:List Int)(link:Int):Option Bool:=
 (aM (ω:=Bool ⊕ Bool×Int) (fun ((b1,i2):Bool×Int)=>
 bif decide (i2<(↑l.length:Int)) then
 bif decide (0≤i2) then
 (l[i2.toNat]?).bind fun i3=>
 bif i3==link then
 some (Sum.inr (Sum.inl true))
 else
 some (Sum.inl (b1,IntKind.i64.wrap (i2+1)))
 else
 none
 else
 some (Sum.inr (Sum.inr (b1,i2)))) (false,0)).bind fun w4=>
 Sum.elim (fun b5=>
 some b5) (fun (b6,i7)=>
 some false) w4
noncomputable def Go.aa.oq(num:Int)(mU:Int):Option Bool:=
 bif decide (-1000000000≤num) then
 bif decide (num≤1000000000) then
 bif decide (1≤mU) then
 some (decide (mU≤1000000000))
 else
 some false
 else
 some false
 else
 some false
noncomputable def Go.aa.qG(n:Int):Option Int:=
 some (if n<IntKind.i64.wrap (0-n) then IntKind.i64.wrap (0-n) else n)
noncomputable def Go.aa.j0(a:Int)(b:Int):Option Int:=
 (aM (ω:=Int×Int) (fun ((i1,i2):Int×Int)=>
 bif !i2==0 then
 bif decide (i2=0) then
 none
 else
 some (Sum.inl (i2,i1.tmod i2))
 else
 some (Sum.inr (i1,i2))) (a,b)).bind fun (i3,i4)=>
 some i3
noncomputable def Go.aa.dA(a:ai):Option Bool:=
 (aa.oq a.c7 a.Den).bind fun b1=>
 bif b1 then
 (aa.qG a.c7).bind fun i2=>
 (aa.j0 i2 a.Den).bind fun i3=>
 some (i3==1)
 else
 some false
noncomputable def Go.aa.ka(num:Int)(mU:Int):Option (ai×Int):=
 bif decide (mU<0) then
 (aa.qG (IntKind.i64.wrap (0-num))).bind fun i1=>
 (aa.j0 i1 (IntKind.i64.wrap (0-mU))).bind fun i2=>
 bif decide (i2=0) then
 none
 else
 bif decide (i2=0) then
 none
 else
 (aa.oq (IntKind.i64.wrap ((IntKind.i64.wrap (0-num)).tdiv i2)) (IntKind.i64.wrap ((IntKind.i64.wrap (0-mU)).tdiv i2))).bind fun b3=>
 bif !b3 then
 some (ai.mk 0 0,3)
 else
 bif decide (i2=0) then
 none
 else
 bif decide (i2=0) then
 none
 else
 some (ai.mk (IntKind.i64.wrap ((IntKind.i64.wrap (0-num)).tdiv i2)) (IntKind.i64.wrap ((IntKind.i64.wrap (0-mU)).tdiv i2)),0)
 else
 (aa.qG num).bind fun i4=>
 (aa.j0 i4 mU).bind fun i5=>
 bif decide (i5=0) then
 none
 else
 bif decide (i5=0) then
 none
 else
 (aa.oq (IntKind.i64.wrap (num.tdiv i5)) (IntKind.i64.wrap (mU.tdiv i5))).bind fun b6=>
 bif !b6 then
 some (ai.mk 0 0,3)
 else
 bif decide (i5=0) then
 none
 else
 bif decide (i5=0) then
 none
 else
 some (ai.mk (IntKind.i64.wrap (num.tdiv i5)) (IntKind.i64.wrap (mU.tdiv i5)),0)
noncomputable def Go.aa.Ad(a:ai)(b:ai):Option (ai×Int):=
 (aa.dA a).bind fun b1=>
 bif !b1 then
 some (ai.mk 0 0,1)
 else
 (aa.dA b).bind fun b2=>
 bif !b2 then
 some (ai.mk 0 0,1)
 else
 (aa.ka (IntKind.i64.wrap (IntKind.i64.wrap (a.c7*b.Den)-IntKind.i64.wrap (b.c7*a.Den))) (IntKind.i64.wrap (a.Den*b.Den))).bind fun (q3,i4)=>
 some (q3,i4)
noncomputable def Go.aa.Ae(a:ai)(b:ai):Option (ai×Int):=
 (aa.dA a).bind fun b1=>
 bif !b1 then
 some (ai.mk 0 0,1)
 else
 (aa.dA b).bind fun b2=>
 bif !b2 then
 some (ai.mk 0 0,1)
 else
 bif b.c7==0 then
 some (ai.mk 0 0,14)
 else
 (aa.ka (IntKind.i64.wrap (a.c7*b.Den)) (IntKind.i64.wrap (a.Den*b.c7))).bind fun (q3,i4)=>
 some (q3,i4)
noncomputable def Go.aa.v5(n:bD)(fixed:List Bool)(x:List ai)(link:Int):Option (ai×Int):=
 bif decide (0≤link) then
 (n.aC[link.toNat]?).bind fun i1=>
 (aM (ω:=Int×Int×Int×Int) (fun ((i2,i3,i4,i5):Int×Int×Int×Int)=>
 bif decide (i3<(↑n.ae.length:Int)) then
 bif decide (0≤i3) then
 (n.ae[i3.toNat]?).bind fun l6=>
 (aa.pV l6 link).bind fun b7=>
 bif b7 then
 bif decide (0≤i3) then
 (fixed[i3.toNat]?).bind fun b8=>
 bif b8 then
 bif decide (0≤i3) then
 (x[i3.toNat]?).bind fun q9=>
 (aa.Ad (ai.mk i4 i5) q9).bind fun (CS,i11)=>
 bif b7 then
 bif decide (0≤i3) then
 (fixed[i3.toNat]?).bind fun D9=>
 bif !D9 then
 some (Sum.inl (IntKind.i64.wrap (i2+1),IntKind.i64.wrap (i3+1),CS.c7,CS.Den))
 else
 some (Sum.inl (i2,IntKind.i64.wrap (i3+1),CS.c7,CS.Den))
 else
 none
 else
 some (Sum.inl (i2,IntKind.i64.wrap (i3+1),CS.c7,CS.Den))
 else
 none
 else
 bif b7 then
 bif decide (0≤i3) then
 (fixed[i3.toNat]?).bind fun OV=>
 bif !OV then
 some (Sum.inl (IntKind.i64.wrap (i2+1),IntKind.i64.wrap (i3+1),i4,i5))
 else
 some (Sum.inl (i2,IntKind.i64.wrap (i3+1),i4,i5))
 else
 none
 else
 some (Sum.inl (i2,IntKind.i64.wrap (i3+1),i4,i5))
 else
 none
 else
 bif b7 then
 bif decide (0≤i3) then
 (fixed[i3.toNat]?).bind fun VZ=>
 bif !VZ then
 some (Sum.inl (IntKind.i64.wrap (i2+1),IntKind.i64.wrap (i3+1),i4,i5))
 else
 some (Sum.inl (i2,IntKind.i64.wrap (i3+1),i4,i5))
 else
 none
 else
 some (Sum.inl (i2,IntKind.i64.wrap (i3+1),i4,i5))
 else
 none
 else
 some (Sum.inr (i2,i3,i4,i5))) (0,0,i1,1)).bind fun (i15,i16,i17,i18)=>
 bif i15==0 then
 some (ai.mk i17 i18,0)
 else
 (aa.Ae (ai.mk i17 i18) (ai.mk i15 1)).bind fun (V0,i20)=>
 some (V0,i15)
 else
 none
noncomputable def Go.aa.iM(a:ai)(b:ai):Option (Int×Int):=
 (aa.dA a).bind fun b1=>
 bif !b1 then
 some (0,1)
 else
 (aa.dA b).bind fun b2=>
 bif !b2 then
 some (0,1)
 else
 bif decide (IntKind.i64.wrap (a.c7*b.Den)<IntKind.i64.wrap (b.c7*a.Den)) then
 some (-1,0)
 else
 bif decide (IntKind.i64.wrap (b.c7*a.Den)<IntKind.i64.wrap (a.c7*b.Den)) then
 some (1,0)
 else
 some (0,0)
noncomputable def Go.aa.v7(n:bD):Option ((List ai)×Int):=
 (aa.cY n).bind fun b1=>
 bif !b1 then
 some ([],1)
 else
 bif decide ((↑n.ae.length:Int).toNat*16≤2^47)&&decide ((↑n.ae.length:Int).toNat<2^62) then
 bif decide ((↑n.ae.length:Int).toNat*1≤2^47)&&decide ((↑n.ae.length:Int).toNat<2^62) then
 (aM (ω:=Int×List ai×List Bool) (fun ((i2,l3,l4):Int×List ai×List Bool)=>
 bif decide (0<i2) then
 (aM (ω:=Int×Int×Int×Int) (fun ((i5,i6,i7,i8):Int×Int×Int×Int)=>
 bif decide (i6<(↑n.aC.length:Int)) then
 (aa.v5 n l4 l3 i6).bind fun (q9,i10)=>
 (aa.iM q9 (ai.mk i7 i8)).bind fun (i11,i12)=>
 bif decide (0<i10) then
 bif decide (i11<0) then
 some (Sum.inl (i6,IntKind.i64.wrap (i6+1),q9.c7,q9.Den))
 else
 some (Sum.inl (i5,IntKind.i64.wrap (i6+1),i7,i8))
 else
 some (Sum.inl (i5,IntKind.i64.wrap (i6+1),i7,i8))
 else
 some (Sum.inr (i5,i6,i7,i8))) (-1,0,1000000,1)).bind fun (i13,i14,i15,i16)=>
 (aM (ω:=Int×Int×Int×Int×Int) (fun ((i17,i18,i19,i20,i21):Int×Int×Int×Int×Int)=>
 bif decide (i19<(↑n.ae.length:Int)) then
 bif decide (0≤i19) then
 (n.aH[i19.toNat]?).bind fun i22=>
 (aa.iM (ai.mk i22 1) (ai.mk i20 i21)).bind fun (i23,i24)=>
 bif decide (0≤i19) then
 bif decide (i19.toNat<l4.length) then
 (l4[0+i19.toNat]?).bind fun b25=>
 bif !b25 then
 bif decide (0≤i19) then
 (n.aH[i19.toNat]?).bind fun i26=>
 bif decide (0<i26) then
 bif decide (i23<0) then
 some (Sum.inl (i19,-1,IntKind.i64.wrap (i19+1),i22,1))
 else
 some (Sum.inl (i17,i18,IntKind.i64.wrap (i19+1),i20,i21))
 else
 some (Sum.inl (i17,i18,IntKind.i64.wrap (i19+1),i20,i21))
 else
 none
 else
 some (Sum.inl (i17,i18,IntKind.i64.wrap (i19+1),i20,i21))
 else
 none
 else
 none
 else
 none
 else
 some (Sum.inr (i17,i18,i19,i20,i21))) (-1,i13,0,i15,i16)).bind fun (i27,i28,i29,i30,i31)=>
 (aM (ω:=Int×Int×List ai×List Bool) (fun ((i32,i33,o9,ru):Int×Int×List ai×List Bool)=>
 bif decide (i33<(↑n.ae.length:Int)) then
 bif decide (0≤i28) then
 bif decide (0≤i33) then
 (n.ae[i33.toNat]?).bind fun l36=>
 (aa.pV l36 i28).bind fun b37=>
 bif decide (0≤i33) then
 bif decide (i33.toNat<ru.length) then
 (ru[0+i33.toNat]?).bind fun NB=>
 bif !NB then
 bif b37 then
 bif decide (0≤i33) then
 bif decide (i33.toNat<ru.length) then
 (ru[0+i33.toNat]?).bind fun Yk=>
 bif decide (0≤i33) then
 bif decide (i33.toNat<o9.length) then
 (o9[0+i33.toNat]?).bind fun q40=>
 bif decide ((o9.set (0+i33.toNat) (ai.mk i30 i31)).length=l3.length) then
 bif decide ((ru.set (0+i33.toNat) true).length=l4.length) then
 some (Sum.inl (IntKind.i64.wrap (i32-1),IntKind.i64.wrap (i33+1),o9.set (0+i33.toNat) (ai.mk i30 i31),ru.set (0+i33.toNat) true))
 else
 none
 else
 none
 else
 none
 else
 none
 else
 none
 else
 none
 else
 bif decide (i28<0) then
 bif i33==i27 then
 bif decide (0≤i33) then
 bif decide (i33.toNat<ru.length) then
 (ru[0+i33.toNat]?).bind fun Yl=>
 bif decide (0≤i33) then
 bif decide (i33.toNat<o9.length) then
 (o9[0+i33.toNat]?).bind fun q42=>
 bif decide ((o9.set (0+i33.toNat) (ai.mk i30 i31)).length=l3.length) then
 bif decide ((ru.set (0+i33.toNat) true).length=l4.length) then
 some (Sum.inl (IntKind.i64.wrap (i32-1),IntKind.i64.wrap (i33+1),o9.set (0+i33.toNat) (ai.mk i30 i31),ru.set (0+i33.toNat) true))
 else
 none
 else
 none
 else
 none
 else
 none
 else
 none
 else
 none
 else
 bif decide (o9.length=l3.length) then
 bif decide (ru.length=l4.length) then
 some (Sum.inl (i32,IntKind.i64.wrap (i33+1),o9,ru))
 else
 none
 else
 none
 else
 bif decide (o9.length=l3.length) then
 bif decide (ru.length=l4.length) then
 some (Sum.inl (i32,IntKind.i64.wrap (i33+1),o9,ru))
 else
 none
 else
 none
 else
 bif decide (o9.length=l3.length) then
 bif decide (ru.length=l4.length) then
 some (Sum.inl (i32,IntKind.i64.wrap (i33+1),o9,ru))
 else
 none
 else
 none
 else
 none
 else
 none
 else
 none
 else
 bif decide (0≤i33) then
 bif decide (i33.toNat<ru.length) then
 (ru[0+i33.toNat]?).bind fun V1=>
 bif !V1 then
 bif decide (i28<0) then
 bif i33==i27 then
 bif decide (0≤i33) then
 bif decide (i33.toNat<ru.length) then
 (ru[0+i33.toNat]?).bind fun Ym=>
 bif decide (0≤i33) then
 bif decide (i33.toNat<o9.length) then
 (o9[0+i33.toNat]?).bind fun V2=>
 bif decide ((o9.set (0+i33.toNat) (ai.mk i30 i31)).length=l3.length) then
 bif decide ((ru.set (0+i33.toNat) true).length=l4.length) then
 some (Sum.inl (IntKind.i64.wrap (i32-1),IntKind.i64.wrap (i33+1),o9.set (0+i33.toNat) (ai.mk i30 i31),ru.set (0+i33.toNat) true))
 else
 none
 else
 none
 else
 none
 else
 none
 else
 none
 else
 none
 else
 bif decide (o9.length=l3.length) then
 bif decide (ru.length=l4.length) then
 some (Sum.inl (i32,IntKind.i64.wrap (i33+1),o9,ru))
 else
 none
 else
 none
 else
 bif decide (o9.length=l3.length) then
 bif decide (ru.length=l4.length) then
 some (Sum.inl (i32,IntKind.i64.wrap (i33+1),o9,ru))
 else
 none
 else
 none
 else
 bif decide (o9.length=l3.length) then
 bif decide (ru.length=l4.length) then
 some (Sum.inl (i32,IntKind.i64.wrap (i33+1),o9,ru))
 else
 none
 else
 none
 else
 none
 else
 none
 else
 bif decide (o9.length=l3.length) then
 bif decide (ru.length=l4.length) then
 some (Sum.inr (i32,i33,o9,ru))
 else
 none
 else
 none) (i2,0,l3,l4)).bind fun (i46,i47,Ql,Rl)=>
 bif decide (Ql.length=(List.replicate (↑n.ae.length:Int).toNat (ai.mk 0 0)).length) then
 bif decide (Rl.length=(List.replicate (↑n.ae.length:Int).toNat false).length) then
 some (Sum.inl (i46,Ql,Rl))
 else
 none
 else
 none
 else
 bif decide (l3.length=(List.replicate (↑n.ae.length:Int).toNat (ai.mk 0 0)).length) then
 bif decide (l4.length=(List.replicate (↑n.ae.length:Int).toNat false).length) then
 some (Sum.inr (i2,l3,l4))
 else
 none
 else
 none) ((↑n.ae.length:Int),List.replicate (↑n.ae.length:Int).toNat (ai.mk 0 0),List.replicate (↑n.ae.length:Int).toNat false)).bind fun (i50,NO,l52)=>
 some (NO,0)
 else
 none
 else
 none
noncomputable def Go.aa.dy(n:Int):Option ai:=
 some (ai.mk n 1)
noncomputable def Go.aa.mM(s:List Int)(v:Int):Option Int:=
 (aM (ω:=Int ⊕ Int×Int) (fun ((i1,i2):Int×Int)=>
 bif decide (i2<(↑s.length:Int)) then
 bif decide (0≤i2) then
 (s[i2.toNat]?).bind fun i3=>
 bif v==i3 then
 some (Sum.inr (Sum.inl i2))
 else
 some (Sum.inl (i1,IntKind.i64.wrap (i2+1)))
 else
 none
 else
 some (Sum.inr (Sum.inr (i1,i2)))) (0,0)).bind fun w4=>
 Sum.elim (fun i5=>
 some i5) (fun (i6,i7)=>
 some (-1)) w4
noncomputable def Go.aa.bC(s:List Int)(v:Int):Option Bool:=
 (aa.mM s v).bind fun i1=>
 some (decide (0≤i1))
noncomputable def Go.aa.bg(f:ai):Option (ai×Int):=
 (aa.cR f).bind fun q1=>
 (aa.bO q1).bind fun b2=>
 bif !b2 then
 some (ai.mk 0 0,3)
 else
 some (q1,0)
noncomputable def Go.aa.qw(a:ai)(b:ai):Option (ai×Int):=
 (aa.cM a).bind fun b1=>
 bif !b1 then
 some (ai.mk 0 0,1)
 else
 (aa.cM b).bind fun b2=>
 bif !b2 then
 some (ai.mk 0 0,1)
 else
 bif IntKind.i64.wrap (a.Den*b.Den)==0 then
 some (ai.mk 0 0,14)
 else
 (aa.bg (ai.mk (IntKind.i64.wrap (IntKind.i64.wrap (a.c7*b.Den)+IntKind.i64.wrap (b.c7*a.Den))) (IntKind.i64.wrap (a.Den*b.Den)))).bind fun (q3,i4)=>
 some (q3,i4)
noncomputable def Go.aa.fN(s:cb)(l:Int):Option (ai×Bool):=
 (aa.dy 0).bind fun q1=>
 (aM (ω:=Int×Int×Bool×Int×Int ⊕ Int×Int×Int) (fun ((i2,i3,i4):Int×Int×Int)=>
 bif decide (i2<(↑s.Net.ae.length:Int)) then
 bif decide (0≤i2) then
 (s.Net.ae[i2.toNat]?).bind fun l5=>
 (aa.bC l5 l).bind fun b6=>
 bif b6 then
 bif decide (0≤i2) then
 (s.CR[i2.toNat]?).bind fun q7=>
 (aa.qw (ai.mk i3 i4) q7).bind fun (q8,i9)=>
 bif !i9==0 then
 some (Sum.inr (Sum.inl (i3,i4,false,i3,i4)))
 else
 some (Sum.inl (IntKind.i64.wrap (i2+1),q8.c7,q8.Den))
 else
 none
 else
 some (Sum.inl (IntKind.i64.wrap (i2+1),i3,i4))
 else
 none
 else
 some (Sum.inr (Sum.inr (i2,i3,i4)))) (0,q1.c7,q1.Den)).bind fun SK=>
 Sum.elim (fun (i11,i12,OV,i14,i15)=>
 some (ai.mk i14 i15,OV)) (fun (i16,i17,i18)=>
 bif decide (0≤l) then
 (s.Net.aC[l.toNat]?).bind fun i19=>
 (aa.dy i19).bind fun V3=>
 (aa.eQ V3 (ai.mk i17 i18)).bind fun SL=>
 some (ai.mk i17 i18,!SL)
 else
 none) SK
noncomputable def Go.aa.fb(n:bD)(x:List ai):Option Bool:=
 (aa.gw n).bind fun b1=>
 bif !b1 then
 some false
 else
 bif !(↑x.length:Int)==(↑n.ae.length:Int) then
 some false
 else
 (aM (ω:=Bool ⊕ Bool×Int) (fun ((b2,i3):Bool×Int)=>
 bif decide (i3<(↑x.length:Int)) then
 bif decide (0≤i3) then
 (x[i3.toNat]?).bind fun q4=>
 (aa.cM q4).bind fun b5=>
 bif !b5 then
 some (Sum.inr (Sum.inl false))
 else
 bif decide (q4.c7<0) then
 some (Sum.inr (Sum.inl false))
 else
 bif decide (0≤i3) then
 (n.aH[i3.toNat]?).bind fun i6=>
 bif decide (0<i6) then
 bif decide (0≤i3) then
 (n.aH[i3.toNat]?).bind fun i7=>
 (aa.dy i7).bind fun q8=>
 (aa.eQ q8 q4).bind fun b9=>
 bif b9 then
 some (Sum.inr (Sum.inl false))
 else
 some (Sum.inl (b2,IntKind.i64.wrap (i3+1)))
 else
 none
 else
 some (Sum.inl (b2,IntKind.i64.wrap (i3+1)))
 else
 none
 else
 none
 else
 some (Sum.inr (Sum.inr (b2,i3)))) (false,0)).bind fun SK=>
 Sum.elim (fun SM=>
 some SM) (fun (D9,i13)=>
 bif decide ((↑x.length:Int).toNat*1≤2^47)&&decide ((↑x.length:Int).toNat<2^62) then
 (aM (ω:=Int×List Bool) (fun ((i14,wG):Int×List Bool)=>
 bif decide (i14<(↑n.aH.length:Int)) then
 bif decide (0≤i14) then
 (n.aH[i14.toNat]?).bind fun i16=>
 bif decide (0<i16) then
 bif decide (0≤i14) then
 (x[i14.toNat]?).bind fun H2=>
 (aa.dy i16).bind fun OW=>
 bif decide (0≤i14) then
 bif decide (i14.toNat<wG.length) then
 (wG[0+i14.toNat]?).bind fun b19=>
 bif decide ((wG.set (0+i14.toNat) (H2.c7==OW.c7&&H2.Den==OW.Den)).length=(List.replicate (↑x.length:Int).toNat false).length) then
 some (Sum.inl (IntKind.i64.wrap (i14+1),wG.set (0+i14.toNat) (H2.c7==OW.c7&&H2.Den==OW.Den)))
 else
 none
 else
 none
 else
 none
 else
 none
 else
 bif decide (0≤i14) then
 bif decide (i14.toNat<wG.length) then
 (wG[0+i14.toNat]?).bind fun Yn=>
 bif decide ((wG.set (0+i14.toNat) false).length=(List.replicate (↑x.length:Int).toNat false).length) then
 some (Sum.inl (IntKind.i64.wrap (i14+1),wG.set (0+i14.toNat) false))
 else
 none
 else
 none
 else
 none
 else
 none
 else
 bif decide (wG.length=(List.replicate (↑x.length:Int).toNat false).length) then
 some (Sum.inr (i14,wG))
 else
 none) (0,List.replicate (↑x.length:Int).toNat false)).bind fun (i21,GP)=>
 (aM (ω:=Bool×List Bool ⊕ Bool×Int×List Bool) (fun ((Ux,i24,Ea):Bool×Int×List Bool)=>
 bif decide (i24<(↑n.aC.length:Int)) then
 (aa.fN (cb.mk n [] x) i24:Option (ai×Bool)).bind fun (Uy,Uz)=>
 bif !Uz then
 bif decide (Ea.length=GP.length) then
 some (Sum.inr (Sum.inl (false,Ea)))
 else
 none
 else
 (aM (ω:=Int×List Bool) (fun ((i28,BN):Int×List Bool)=>
 bif decide (i28<(↑n.ae.length:Int)) then
 bif decide (0≤i28) then
 (n.ae[i28.toNat]?).bind fun l30=>
 (aa.bC l30 i24).bind fun b31=>
 bif b31 then
 (aM (ω:=Int×Bool) (fun ((i32,NA):Int×Bool)=>
 bif decide (i32<(↑n.ae.length:Int)) then
 bif decide (0≤i32) then
 (n.ae[i32.toNat]?).bind fun o9=>
 (aa.bC o9 i24).bind fun SD=>
 bif SD then
 bif NA then
 bif decide (0≤i28) then
 (x[i28.toNat]?).bind fun VL=>
 bif decide (0≤i32) then
 (x[i32.toNat]?).bind fun VM=>
 (aa.eQ VL VM).bind fun NB=>
 some (Sum.inl (IntKind.i64.wrap (i32+1),!NB))
 else
 none
 else
 none
 else
 some (Sum.inl (IntKind.i64.wrap (i32+1),false))
 else
 some (Sum.inl (IntKind.i64.wrap (i32+1),NA))
 else
 none
 else
 some (Sum.inr (i32,NA))) (0,true)).bind fun (i39,V4)=>
 bif decide (0≤i28) then
 bif decide (i28.toNat<BN.length) then
 (BN[0+i28.toNat]?).bind fun Yl=>
 bif Yl then
 bif decide (0≤i28) then
 bif decide (i28.toNat<BN.length) then
 (BN[0+i28.toNat]?).bind fun b42=>
 bif decide ((BN.set (0+i28.toNat) true).length=Ea.length) then
 some (Sum.inl (IntKind.i64.wrap (i28+1),BN.set (0+i28.toNat) true))
 else
 none
 else
 none
 else
 none
 else
 bif V4 then
 bif decide (0≤i24) then
 (n.aC[i24.toNat]?).bind fun i43=>
 (aa.dy i43).bind fun UA=>
 bif decide (0≤i28) then
 bif decide (i28.toNat<BN.length) then
 (BN[0+i28.toNat]?).bind fun b45=>
 bif decide ((BN.set (0+i28.toNat) (Uy.c7==UA.c7&&Uy.Den==UA.Den)).length=Ea.length) then
 some (Sum.inl (IntKind.i64.wrap (i28+1),BN.set (0+i28.toNat) (Uy.c7==UA.c7&&Uy.Den==UA.Den)))
 else
 none
 else
 none
 else
 none
 else
 none
 else
 bif decide (0≤i28) then
 bif decide (i28.toNat<BN.length) then
 (BN[0+i28.toNat]?).bind fun Rm=>
 bif decide ((BN.set (0+i28.toNat) false).length=Ea.length) then
 some (Sum.inl (IntKind.i64.wrap (i28+1),BN.set (0+i28.toNat) false))
 else
 none
 else
 none
 else
 none
 else
 none
 else
 none
 else
 bif decide (BN.length=Ea.length) then
 some (Sum.inl (IntKind.i64.wrap (i28+1),BN))
 else
 none
 else
 none
 else
 bif decide (BN.length=Ea.length) then
 some (Sum.inr (i28,BN))
 else
 none) (0,Ea)).bind fun (i47,Ql)=>
 bif decide (Ql.length=GP.length) then
 some (Sum.inl (Ux,IntKind.i64.wrap (i24+1),Ql))
 else
 none
 else
 bif decide (Ea.length=GP.length) then
 some (Sum.inr (Sum.inr (Ux,i24,Ea)))
 else
 none) (D9,0,GP)).bind fun w49=>
 Sum.elim (fun (b50,NO)=>
 some b50) (fun (Yo,i53,Mx)=>
 (aa.fo Mx false).bind fun V5=>
 some !V5) w49
 else
 none) SK
noncomputable def Go.aa.Af(a:ai)(b:ai):Option (ai×Int):=
 (aa.dA a).bind fun b1=>
 bif !b1 then
 some (ai.mk 0 0,1)
 else
 (aa.dA b).bind fun b2=>
 bif !b2 then
 some (ai.mk 0 0,1)
 else
 (aa.ka (IntKind.i64.wrap (IntKind.i64.wrap (a.c7*b.Den)+IntKind.i64.wrap (b.c7*a.Den))) (IntKind.i64.wrap (a.Den*b.Den))).bind fun (q3,i4)=>
 some (q3,i4)
noncomputable def Go.aa.ot(n:bD)(x:List ai)(link:Int):Option (ai×Bool):=
 (aM (ω:=Bool×Int×Int×Int×Int ⊕ Bool×Int×Int×Int) (fun ((b1,i2,i3,i4):Bool×Int×Int×Int)=>
 bif decide (i2<(↑n.ae.length:Int)) then
 bif decide (0≤i2) then
 (n.ae[i2.toNat]?).bind fun l5=>
 (aa.pV l5 link).bind fun b6=>
 bif b6 then
 bif decide (0≤i2) then
 (x[i2.toNat]?).bind fun q7=>
 (aa.Af (ai.mk i3 i4) q7).bind fun (q8,i9)=>
 bif !i9==0 then
 some (Sum.inr (Sum.inl (false,i3,i4,i3,i4)))
 else
 some (Sum.inl (b1,IntKind.i64.wrap (i2+1),q8.c7,q8.Den))
 else
 none
 else
 some (Sum.inl (b1,IntKind.i64.wrap (i2+1),i3,i4))
 else
 none
 else
 some (Sum.inr (Sum.inr (b1,i2,i3,i4)))) (false,0,0,1)).bind fun SK=>
 Sum.elim (fun (SM,i12,i13,i14,i15)=>
 some (ai.mk i14 i15,SM)) (fun (VY,i17,i18,i19)=>
 some (ai.mk i18 i19,true)) SK
noncomputable def Go.aa.ou(n:bD)(x:List ai)(Ft:Int)(link:Int):Option Bool:=
 (aa.ot n x link).bind fun (q1,b2)=>
 (aM (ω:=Bool ⊕ Bool×Int) (fun ((b3,i4):Bool×Int)=>
 bif decide (i4<(↑n.ae.length:Int)) then
 bif decide (0≤i4) then
 (n.ae[i4.toNat]?).bind fun l5=>
 (aa.pV l5 link).bind fun b6=>
 bif decide (0≤i4) then
 (x[i4.toNat]?).bind fun q7=>
 bif decide (0≤Ft) then
 (x[Ft.toNat]?).bind fun q8=>
 (aa.iM q7 q8).bind fun (i9,i10)=>
 bif b6 then
 bif decide (0<i9) then
 some (Sum.inr (Sum.inl false))
 else
 some (Sum.inl (b3,IntKind.i64.wrap (i4+1)))
 else
 some (Sum.inl (b3,IntKind.i64.wrap (i4+1)))
 else
 none
 else
 none
 else
 none
 else
 some (Sum.inr (Sum.inr (b3,i4)))) (false,0)).bind fun V6=>
 Sum.elim (fun D9=>
 some D9) (fun (OV,i14)=>
 bif q1.Den==1 then
 bif decide (0≤link) then
 (n.aC[link.toNat]?).bind fun i15=>
 some (q1.c7==i15)
 else
 none
 else
 some false) V6
noncomputable def Go.aa.v8(n:bD)(x:List ai):Option Bool:=
 (aa.cY n).bind fun b1=>
 bif !b1 then
 some false
 else
 bif !(↑x.length:Int)==(↑n.ae.length:Int) then
 some false
 else
 (aM (ω:=Bool ⊕ Bool×Int) (fun ((b2,i3):Bool×Int)=>
 bif decide (i3<(↑x.length:Int)) then
 bif decide (0≤i3) then
 (x[i3.toNat]?).bind fun q4=>
 (aa.dA q4).bind fun b5=>
 bif !b5 then
 some (Sum.inr (Sum.inl false))
 else
 bif decide (0≤i3) then
 (x[i3.toNat]?).bind fun q6=>
 bif decide (q6.c7<0) then
 some (Sum.inr (Sum.inl false))
 else
 bif decide (0≤i3) then
 (n.aH[i3.toNat]?).bind fun i7=>
 bif decide (0<i7) then
 bif decide (0≤i3) then
 (x[i3.toNat]?).bind fun q8=>
 bif decide (0≤i3) then
 (n.aH[i3.toNat]?).bind fun i9=>
 bif decide (0≤i3) then
 (x[i3.toNat]?).bind fun CS=>
 bif decide (IntKind.i64.wrap (i9*CS.Den)<q8.c7) then
 some (Sum.inr (Sum.inl false))
 else
 some (Sum.inl (b2,IntKind.i64.wrap (i3+1)))
 else
 none
 else
 none
 else
 none
 else
 some (Sum.inl (b2,IntKind.i64.wrap (i3+1)))
 else
 none
 else
 none
 else
 none
 else
 some (Sum.inr (Sum.inr (b2,i3)))) (false,0)).bind fun V6=>
 Sum.elim (fun D9=>
 some D9) (fun (OV,i14)=>
 (aM (ω:=Bool ⊕ Bool×Int) (fun ((Uw,i16):Bool×Int)=>
 bif decide (i16<(↑n.aC.length:Int)) then
 (aa.ot n x i16).bind fun (H2,V7)=>
 bif !V7 then
 some (Sum.inr (Sum.inl false))
 else
 bif decide (0≤i16) then
 (n.aC[i16.toNat]?).bind fun i19=>
 bif decide (IntKind.i64.wrap (i19*H2.Den)<H2.c7) then
 some (Sum.inr (Sum.inl false))
 else
 some (Sum.inl (Uw,IntKind.i64.wrap (i16+1)))
 else
 none
 else
 some (Sum.inr (Sum.inr (Uw,i16)))) (OV,0)).bind fun w20=>
 Sum.elim (fun SL=>
 some SL) (fun (V8,i23)=>
 (aM (ω:=Bool ⊕ Bool×Int) (fun ((UB,i25):Bool×Int)=>
 bif decide (i25<(↑x.length:Int)) then
 bif decide (0≤i25) then
 (n.aH[i25.toNat]?).bind fun i26=>
 bif decide (0<i26) then
 bif decide (0≤i25) then
 (x[i25.toNat]?).bind fun q27=>
 bif q27.Den==1 then
 bif decide (0≤i25) then
 (x[i25.toNat]?).bind fun SN=>
 bif decide (0≤i25) then
 (n.aH[i25.toNat]?).bind fun i29=>
 (aM (ω:=Bool×Int) (fun ((V9,i31):Bool×Int)=>
 bif decide (0≤i25) then
 (n.ae[i25.toNat]?).bind fun l32=>
 bif decide (i31<(↑l32.length:Int)) then
 bif !V9 then
 bif decide (0≤i25) then
 (n.ae[i25.toNat]?).bind fun l33=>
 bif decide (0≤i31) then
 (l33[i31.toNat]?).bind fun i34=>
 (aa.ou n x i25 i34).bind fun SD=>
 some (Sum.inl (SD,IntKind.i64.wrap (i31+1)))
 else
 none
 else
 none
 else
 some (Sum.inr (V9,i31))
 else
 some (Sum.inr (V9,i31))
 else
 none) (SN.c7==i29,0)).bind fun (Wa,i37)=>
 bif !Wa then
 some (Sum.inr (Sum.inl false))
 else
 some (Sum.inl (UB,IntKind.i64.wrap (i25+1)))
 else
 none
 else
 none
 else
 (aM (ω:=Bool×Int) (fun ((NB,i39):Bool×Int)=>
 bif decide (0≤i25) then
 (n.ae[i25.toNat]?).bind fun l40=>
 bif decide (i39<(↑l40.length:Int)) then
 bif !NB then
 bif decide (0≤i25) then
 (n.ae[i25.toNat]?).bind fun l41=>
 bif decide (0≤i39) then
 (l41[i39.toNat]?).bind fun i42=>
 (aa.ou n x i25 i42).bind fun V1=>
 some (Sum.inl (V1,IntKind.i64.wrap (i39+1)))
 else
 none
 else
 none
 else
 some (Sum.inr (NB,i39))
 else
 some (Sum.inr (NB,i39))
 else
 none) (false,0)).bind fun (Ym,i45)=>
 bif !Ym then
 some (Sum.inr (Sum.inl false))
 else
 some (Sum.inl (UB,IntKind.i64.wrap (i25+1)))
 else
 none
 else
 (aM (ω:=Bool×Int) (fun ((Rm,i47):Bool×Int)=>
 bif decide (0≤i25) then
 (n.ae[i25.toNat]?).bind fun Ql=>
 bif decide (i47<(↑Ql.length:Int)) then
 bif !Rm then
 bif decide (0≤i25) then
 (n.ae[i25.toNat]?).bind fun Rl=>
 bif decide (0≤i47) then
 (Rl[i47.toNat]?).bind fun i50=>
 (aa.ou n x i25 i50).bind fun b51=>
 some (Sum.inl (b51,IntKind.i64.wrap (i47+1)))
 else
 none
 else
 none
 else
 some (Sum.inr (Rm,i47))
 else
 some (Sum.inr (Rm,i47))
 else
 none) (false,0)).bind fun (Yo,i53)=>
 bif !Yo then
 some (Sum.inr (Sum.inl false))
 else
 some (Sum.inl (UB,IntKind.i64.wrap (i25+1)))
 else
 none
 else
 some (Sum.inr (Sum.inr (UB,i25)))) (V8,0)).bind fun w54=>
 Sum.elim (fun V5=>
 some V5) (fun (b56,i57)=>
 some true) w54) w20) V6
noncomputable def Go.aa.iJ(n:bD):Option Bool:=
 (aM (ω:=Bool ⊕ Bool×Int) (fun ((b1,i2):Bool×Int)=>
 bif decide (i2<(↑n.ae.length:Int)) then
 bif decide (i2<50) then
 bif decide (0≤i2) then
 (n.ae[i2.toNat]?).bind fun l3=>
 bif decide (50<(↑l3.length:Int)) then
 some (Sum.inr (Sum.inl false))
 else
 some (Sum.inl (b1,IntKind.i64.wrap (i2+1)))
 else
 none
 else
 some (Sum.inr (Sum.inr (b1,i2)))
 else
 some (Sum.inr (Sum.inr (b1,i2)))) (false,0)).bind fun w4=>
 Sum.elim (fun b5=>
 some b5) (fun (b6,i7)=>
 bif decide ((↑n.aC.length:Int)≤50) then
 bif decide ((↑n.ae.length:Int)≤50) then
 some (decide ((↑n.aH.length:Int)≤50))
 else
 some false
 else
 some false) w4
noncomputable def Go.aa.iq(a:List ai)(b:List ai):Option Bool:=
 bif !(↑a.length:Int)==(↑b.length:Int) then
 some false
 else
 (aM (ω:=Bool ⊕ Bool×Int) (fun ((b1,i2):Bool×Int)=>
 bif decide (i2<(↑a.length:Int)) then
 bif decide (0≤i2) then
 (a[i2.toNat]?).bind fun q3=>
 bif decide (0≤i2) then
 (b[i2.toNat]?).bind fun q4=>
 bif !(q3.c7==q4.c7&&q3.Den==q4.Den) then
 some (Sum.inr (Sum.inl false))
 else
 some (Sum.inl (b1,IntKind.i64.wrap (i2+1)))
 else
 none
 else
 none
 else
 some (Sum.inr (Sum.inr (b1,i2)))) (false,0)).bind fun w5=>
 Sum.elim (fun b6=>
 some b6) (fun (b7,i8)=>
 some true) w5
noncomputable def Go.aa.nE(a:ai)(b:ai):Option (ai×Int):=
 (aa.cM a).bind fun b1=>
 bif !b1 then
 some (ai.mk 0 0,1)
 else
 (aa.cM b).bind fun b2=>
 bif !b2 then
 some (ai.mk 0 0,1)
 else
 bif IntKind.i64.wrap (a.Den*b.Den)==0 then
 some (ai.mk 0 0,14)
 else
 (aa.bg (ai.mk (IntKind.i64.wrap (IntKind.i64.wrap (a.c7*b.Den)-IntKind.i64.wrap (b.c7*a.Den))) (IntKind.i64.wrap (a.Den*b.Den)))).bind fun (q3,i4)=>
 some (q3,i4)
noncomputable def Go.aa.qx(a:ai)(b:ai):Option (ai×Int):=
 (aa.cM a).bind fun b1=>
 bif !b1 then
 some (ai.mk 0 0,1)
 else
 (aa.cM b).bind fun b2=>
 bif !b2 then
 some (ai.mk 0 0,1)
 else
 bif IntKind.i64.wrap (a.Den*b.c7)==0 then
 some (ai.mk 0 0,14)
 else
 (aa.bg (ai.mk (IntKind.i64.wrap (a.c7*b.Den)) (IntKind.i64.wrap (a.Den*b.c7)))).bind fun (q3,i4)=>
 some (q3,i4)
noncomputable def Go.aa.cf(l:Int)(s:cb):Option (ai×Bool):=
 bif decide (0≤l) then
 (s.Net.aC[l.toNat]?).bind fun i1=>
 (aa.dy i1).bind fun q2=>
 (aM (ω:=Int×Int×Int×Int) (fun ((i3,i4,i5,i6):Int×Int×Int×Int)=>
 bif decide (i3<(↑s.Net.ae.length:Int)) then
 bif decide (0≤i3) then
 (s.Net.ae[i3.toNat]?).bind fun l7=>
 (aa.bC l7 l).bind fun b8=>
 bif b8 then
 bif decide (0≤i3) then
 (s.CQ[i3.toNat]?).bind fun b9=>
 bif !b9 then
 some (Sum.inl (IntKind.i64.wrap (i3+1),IntKind.i64.wrap (i4+1),i5,i6))
 else
 bif decide (0≤i3) then
 (s.CR[i3.toNat]?).bind fun CS=>
 (aa.nE (ai.mk i5 i6) CS).bind fun (Ms,i12)=>
 some (Sum.inl (IntKind.i64.wrap (i3+1),i4,Ms.c7,Ms.Den))
 else
 none
 else
 none
 else
 some (Sum.inl (IntKind.i64.wrap (i3+1),i4,i5,i6))
 else
 none
 else
 some (Sum.inr (i3,i4,i5,i6))) (0,0,q2.c7,q2.Den)).bind fun (i13,i14,i15,i16)=>
 bif i14==0 then
 some (ai.mk i15 i16,false)
 else
 (aa.dy i14).bind fun H2=>
 (aa.qx (ai.mk i15 i16) H2).bind fun (OW,i19)=>
 some (OW,true)
 else
 none
noncomputable def Go.aa.fM(l:Int)(s:cb)(Ft:Int):Option Bool:=
 bif decide (0≤Ft) then
 (s.Net.ae[Ft.toNat]?).bind fun l1=>
 (aa.bC l1 l).bind fun b2=>
 some b2
 else
 none
noncomputable def Go.aa.cz(l:Int)(s:cb):Option (ai×Bool):=
 bif decide (0≤l) then
 (s.Net.aH[l.toNat]?).bind fun i1=>
 (aa.dy i1).bind fun q2=>
 bif decide (0≤l) then
 (s.Net.aH[l.toNat]?).bind fun i3=>
 bif decide (0<i3) then
 bif decide (0≤l) then
 (s.CQ[l.toNat]?).bind fun b4=>
 some (q2,!b4)
 else
 none
 else
 some (q2,false)
 else
 none
 else
 none
noncomputable def Go.aa.lT(l:Int)(s:cb)(Ft:Int):Option Bool:=
 some (l==Ft)
noncomputable def Go.aa.cw(n:bD):Option ((List ai)×Int):=
 (aa.gw n).bind fun b1=>
 bif !b1 then
 some ([],1)
 else
 bif decide ((↑n.ae.length:Int).toNat*1≤2^47)&&decide ((↑n.ae.length:Int).toNat<2^62) then
 bif decide ((↑n.ae.length:Int).toNat*16≤2^47)&&decide ((↑n.ae.length:Int).toNat<2^62) then
 (aM (ω:=Int×List dU) (fun ((i2,l3):Int×List dU)=>
 bif decide (i2<(↑n.aC.length:Int)) then
 bif decide ((l3.length+1)*16≤2^44)&&decide (l3.length+1≤2^44) then
 some (Sum.inl (IntKind.i64.wrap (i2+1),l3++[dU.mk true i2]))
 else
 none
 else
 some (Sum.inr (i2,l3))) (0,[])).bind fun (i4,l5)=>
 (aM (ω:=Int×List dU) (fun ((i6,l7):Int×List dU)=>
 bif decide (i6<(↑n.aH.length:Int)) then
 bif decide ((l7.length+1)*16≤2^44)&&decide (l7.length+1≤2^44) then
 some (Sum.inl (IntKind.i64.wrap (i6+1),l7++[dU.mk false i6]))
 else
 none
 else
 some (Sum.inr (i6,l7))) (0,l5)).bind fun (i8,l9)=>
 (aM (ω:=List ai×List Bool) (fun ((KY,BM):List ai×List Bool)=>
 (aa.fo BM false).bind fun D9=>
 bif D9 then
 (aM (ω:=Int×List ai×List dU) (fun ((i13,GQ,wG):Int×List ai×List dU)=>
 bif decide (i13<(↑l9.length:Int)) then
 bif decide (0≤i13) then
 bif decide (i13.toNat<l9.length) then
 (l9[0+i13.toNat]?).bind fun SO=>
 bif SO.A then
 (aa.cf SO.N (cb.mk n BM KY)).bind fun (H2,V7)=>
 bif V7 then
 bif decide ((GQ.length+1)*16≤2^44)&&decide (GQ.length+1≤2^44) then
 bif decide ((wG.length+1)*16≤2^44)&&decide (wG.length+1≤2^44) then
 some (Sum.inl (IntKind.i64.wrap (i13+1),GQ++[H2],wG++[dU.mk true SO.N]))
 else
 none
 else
 none
 else
 some (Sum.inl (IntKind.i64.wrap (i13+1),GQ,wG))
 else
 (aa.cz SO.N (cb.mk n BM KY)).bind fun (V0,Yn)=>
 bif Yn then
 bif decide ((GQ.length+1)*16≤2^44)&&decide (GQ.length+1≤2^44) then
 bif decide ((wG.length+1)*16≤2^44)&&decide (wG.length+1≤2^44) then
 some (Sum.inl (IntKind.i64.wrap (i13+1),GQ++[V0],wG++[dU.mk false SO.N]))
 else
 none
 else
 none
 else
 some (Sum.inl (IntKind.i64.wrap (i13+1),GQ,wG))
 else
 none
 else
 none
 else
 some (Sum.inr (i13,GQ,wG))) (0,[],[])).bind fun (i21,GP,C9)=>
 bif decide (0<GP.length) then
 (GP[0]?).bind fun SP=>
 (aM (ω:=Int×Int×Int) (fun ((i25,i26,i27):Int×Int×Int)=>
 bif decide (i25<(↑GP.length:Int)) then
 bif decide (0≤i25) then
 bif decide (i25.toNat<GP.length) then
 (GP[0+i25.toNat]?).bind fun SN=>
 (aa.eQ SN (ai.mk i26 i27)).bind fun b29=>
 bif b29 then
 some (Sum.inl (IntKind.i64.wrap (i25+1),SN.c7,SN.Den))
 else
 some (Sum.inl (IntKind.i64.wrap (i25+1),i26,i27))
 else
 none
 else
 none
 else
 some (Sum.inr (i25,i26,i27))) (0,SP.c7,SP.Den)).bind fun (i30,i31,i32)=>
 (aM (ω:=Int×List Int) (fun ((i33,o9):Int×List Int)=>
 bif decide (i33<(↑C9.length:Int)) then
 bif decide (0≤i33) then
 bif decide (i33.toNat<C9.length) then
 (C9[0+i33.toNat]?).bind fun Wb=>
 bif Wb.A then
 (aM (ω:=Int×List Int) (fun ((i36,Qm):Int×List Int)=>
 bif decide (i36<(↑n.ae.length:Int)) then
 bif decide (0≤i33) then
 bif decide (i33.toNat<GP.length) then
 (GP[0+i33.toNat]?).bind fun Yp=>
 bif Yp.c7==i31&&Yp.Den==i32 then
 bif decide (0≤i36) then
 bif decide (i36.toNat<BM.length) then
 (BM[0+i36.toNat]?).bind fun Yk=>
 bif !Yk then
 (aa.fM Wb.N (cb.mk n BM KY) i36).bind fun V4=>
 bif V4 then
 bif decide ((Qm.length+1)*8≤2^44)&&decide (Qm.length+1≤2^44) then
 some (Sum.inl (IntKind.i64.wrap (i36+1),Qm++[i36]))
 else
 none
 else
 some (Sum.inl (IntKind.i64.wrap (i36+1),Qm))
 else
 some (Sum.inl (IntKind.i64.wrap (i36+1),Qm))
 else
 none
 else
 none
 else
 some (Sum.inl (IntKind.i64.wrap (i36+1),Qm))
 else
 none
 else
 none
 else
 some (Sum.inr (i36,Qm))) (0,o9)).bind fun (i41,l42)=>
 some (Sum.inl (IntKind.i64.wrap (i33+1),l42))
 else
 (aM (ω:=Int×List Int) (fun ((i43,NP):Int×List Int)=>
 bif decide (i43<(↑n.ae.length:Int)) then
 bif decide (0≤i33) then
 bif decide (i33.toNat<GP.length) then
 (GP[0+i33.toNat]?).bind fun V2=>
 bif V2.c7==i31&&V2.Den==i32 then
 bif decide (0≤i43) then
 bif decide (i43.toNat<BM.length) then
 (BM[0+i43.toNat]?).bind fun Rm=>
 bif !Rm then
 (aa.lT Wb.N (cb.mk n BM KY) i43).bind fun b47=>
 bif b47 then
 bif decide ((NP.length+1)*8≤2^44)&&decide (NP.length+1≤2^44) then
 some (Sum.inl (IntKind.i64.wrap (i43+1),NP++[i43]))
 else
 none
 else
 some (Sum.inl (IntKind.i64.wrap (i43+1),NP))
 else
 some (Sum.inl (IntKind.i64.wrap (i43+1),NP))
 else
 none
 else
 none
 else
 some (Sum.inl (IntKind.i64.wrap (i43+1),NP))
 else
 none
 else
 none
 else
 some (Sum.inr (i43,NP))) (0,o9)).bind fun (i48,Rl)=>
 some (Sum.inl (IntKind.i64.wrap (i33+1),Rl))
 else
 none
 else
 none
 else
 some (Sum.inr (i33,o9))) (0,[])).bind fun (i50,NO)=>
 (aM (ω:=Int×List ai×List Bool) (fun ((i52,Qn,Mx):Int×List ai×List Bool)=>
 bif decide (i52<(↑NO.length:Int)) then
 bif decide (0≤i52) then
 bif decide (i52.toNat<NO.length) then
 (NO[0+i52.toNat]?).bind fun i55=>
 bif decide (0≤i55) then
 bif decide (i55.toNat<Mx.length) then
 (Mx[0+i55.toNat]?).bind fun b56=>
 bif decide (0≤i55) then
 bif decide (i55.toNat<Qn.length) then
 (Qn[0+i55.toNat]?).bind fun q57=>
 bif decide ((Qn.set (0+i55.toNat) (ai.mk i31 i32)).length=KY.length) then
 bif decide ((Mx.set (0+i55.toNat) true).length=BM.length) then
 some (Sum.inl (IntKind.i64.wrap (i52+1),Qn.set (0+i55.toNat) (ai.mk i31 i32),Mx.set (0+i55.toNat) true))
 else
 none
 else
 none
 else
 none
 else
 none
 else
 none
 else
 none
 else
 none
 else
 none
 else
 bif decide (Qn.length=KY.length) then
 bif decide (Mx.length=BM.length) then
 some (Sum.inr (i52,Qn,Mx))
 else
 none
 else
 none) (0,KY,BM)).bind fun (i58,Yq,Yr)=>
 bif decide (Yq.length=(List.replicate (↑n.ae.length:Int).toNat (ai.mk 0 0)).length) then
 bif decide (Yr.length=(List.replicate (↑n.ae.length:Int).toNat false).length) then
 some (Sum.inl (Yq,Yr))
 else
 none
 else
 none
 else
 none
 else
 bif decide (KY.length=(List.replicate (↑n.ae.length:Int).toNat (ai.mk 0 0)).length) then
 bif decide (BM.length=(List.replicate (↑n.ae.length:Int).toNat false).length) then
 some (Sum.inr (KY,BM))
 else
 none
 else
 none) (List.replicate (↑n.ae.length:Int).toNat (ai.mk 0 0),List.replicate (↑n.ae.length:Int).toNat false)).bind fun (l61,l62)=>
 some (l61,0)
 else
 none
 else
 none
noncomputable def Go.aa.Da(n:Int):Option ai:=
 some (ai.mk n 1)
noncomputable def Go.aa.KZ(n:bD)(want:List ai):Option Bool:=
 (aa.cw n).bind fun (l1,i2)=>
 (aa.fb n want).bind fun b3=>
 bif i2==0 then
 bif b3 then
 (aa.iq l1 want).bind fun b4=>
 some b4
 else
 some false
 else
 some false
noncomputable def Go.aa.pW(n:bD)(parts:List Int)(mU:Int):Option ((List Int)):=
 bif decide ((↑n.aC.length:Int).toNat*8≤2^47)&&decide ((↑n.aC.length:Int).toNat<2^62) then
 (aM (ω:=Int×List Int) (fun ((i1,l2):Int×List Int)=>
 bif decide (i1<(↑n.aC.length:Int)) then
 bif decide (0≤i1) then
 (n.aC[i1.toNat]?).bind fun i3=>
 bif decide (0≤i1) then
 bif decide (i1.toNat<l2.length) then
 (l2[0+i1.toNat]?).bind fun i4=>
 bif decide ((l2.set (0+i1.toNat) (IntKind.i64.wrap (i3*mU))).length=(List.replicate (↑n.aC.length:Int).toNat (0:Int)).length) then
 some (Sum.inl (IntKind.i64.wrap (i1+1),l2.set (0+i1.toNat) (IntKind.i64.wrap (i3*mU))))
 else
 none
 else
 none
 else
 none
 else
 none
 else
 bif decide (l2.length=(List.replicate (↑n.aC.length:Int).toNat (0:Int)).length) then
 some (Sum.inr (i1,l2))
 else
 none) (0,List.replicate (↑n.aC.length:Int).toNat (0:Int))).bind fun (i5,l6)=>
 bif decide ((↑n.ae.length:Int).toNat*8≤2^47)&&decide ((↑n.ae.length:Int).toNat<2^62) then
 (aM (ω:=Int×List Int×List Int) (fun ((i7,l8,l9):Int×List Int×List Int)=>
 bif decide (i7<(↑n.ae.length:Int)) then
 bif decide (i7<(↑parts.length:Int)) then
 bif decide (0≤i7) then
 (n.aH[i7.toNat]?).bind fun i10=>
 bif decide (0<i10) then
 bif decide (0≤i7) then
 (n.aH[i7.toNat]?).bind fun i11=>
 (aM (ω:=Int×Int) (fun ((i12,i13):Int×Int)=>
 bif decide (0≤i7) then
 (n.ae[i7.toNat]?).bind fun GQ=>
 bif decide (i13<(↑GQ.length:Int)) then
 bif decide (0≤i7) then
 (n.ae[i7.toNat]?).bind fun wG=>
 bif decide (0≤i13) then
 (wG[i13.toNat]?).bind fun i16=>
 bif decide (0≤i16) then
 bif decide (i16.toNat<l8.length) then
 (l8[0+i16.toNat]?).bind fun i17=>
 some (Sum.inl (if i17<i12 then i17 else i12,IntKind.i64.wrap (i13+1)))
 else
 none
 else
 none
 else
 none
 else
 none
 else
 some (Sum.inr (i12,i13))
 else
 none) (IntKind.i64.wrap (i11*mU),0)).bind fun (i18,i19)=>
 bif decide (0≤i7) then
 (parts[i7.toNat]?).bind fun i20=>
 bif decide (IntKind.i64.wrap (i18+1)=0) then
 none
 else
 bif decide (0≤i7) then
 bif decide (i7.toNat<l9.length) then
 (l9[0+i7.toNat]?).bind fun i21=>
 (aM (ω:=Int×List Int) (fun ((i22,C9):Int×List Int)=>
 bif decide (0≤i7) then
 (n.ae[i7.toNat]?).bind fun l24=>
 bif decide (i22<(↑l24.length:Int)) then
 bif decide (0≤i7) then
 (n.ae[i7.toNat]?).bind fun Ea=>
 bif decide (0≤i22) then
 (Ea[i22.toNat]?).bind fun i26=>
 bif decide (0≤i26) then
 bif decide (i26.toNat<C9.length) then
 (C9[0+i26.toNat]?).bind fun i27=>
 bif decide (0≤i7) then
 bif decide (i7.toNat<(l9.set (0+i7.toNat) ((IntKind.i64.wrap i20).tmod (IntKind.i64.wrap (i18+1)))).length) then
 ((l9.set (0+i7.toNat) ((IntKind.i64.wrap i20).tmod (IntKind.i64.wrap (i18+1))))[0+i7.toNat]?).bind fun i28=>
 bif decide (0≤i26) then
 bif decide (i26.toNat<C9.length) then
 (C9[0+i26.toNat]?).bind fun i29=>
 bif decide ((C9.set (0+i26.toNat) (IntKind.i64.wrap (i27-i28))).length=l8.length) then
 some (Sum.inl (IntKind.i64.wrap (i22+1),C9.set (0+i26.toNat) (IntKind.i64.wrap (i27-i28))))
 else
 none
 else
 none
 else
 none
 else
 none
 else
 none
 else
 none
 else
 none
 else
 none
 else
 none
 else
 bif decide (C9.length=l8.length) then
 some (Sum.inr (i22,C9))
 else
 none
 else
 none) (0,l8)).bind fun (i30,Ys)=>
 bif decide (Ys.length=l6.length) then
 bif decide ((l9.set (0+i7.toNat) ((IntKind.i64.wrap i20).tmod (IntKind.i64.wrap (i18+1)))).length=(List.replicate (↑n.ae.length:Int).toNat (0:Int)).length) then
 some (Sum.inl (IntKind.i64.wrap (i7+1),Ys,l9.set (0+i7.toNat) ((IntKind.i64.wrap i20).tmod (IntKind.i64.wrap (i18+1)))))
 else
 none
 else
 none
 else
 none
 else
 none
 else
 none
 else
 none
 else
 (aM (ω:=Int×Int) (fun ((i32,i33):Int×Int)=>
 bif decide (0≤i7) then
 (n.ae[i7.toNat]?).bind fun o9=>
 bif decide (i33<(↑o9.length:Int)) then
 bif decide (0≤i7) then
 (n.ae[i7.toNat]?).bind fun ru=>
 bif decide (0≤i33) then
 (ru[i33.toNat]?).bind fun i36=>
 bif decide (0≤i36) then
 bif decide (i36.toNat<l8.length) then
 (l8[0+i36.toNat]?).bind fun i37=>
 some (Sum.inl (if i37<i32 then i37 else i32,IntKind.i64.wrap (i33+1)))
 else
 none
 else
 none
 else
 none
 else
 none
 else
 some (Sum.inr (i32,i33))
 else
 none) (IntKind.i64.wrap (1000*mU),0)).bind fun (i38,i39)=>
 bif decide (0≤i7) then
 (parts[i7.toNat]?).bind fun i40=>
 bif decide (IntKind.i64.wrap (i38+1)=0) then
 none
 else
 bif decide (0≤i7) then
 bif decide (i7.toNat<l9.length) then
 (l9[0+i7.toNat]?).bind fun i41=>
 (aM (ω:=Int×List Int) (fun ((i42,OX):Int×List Int)=>
 bif decide (0≤i7) then
 (n.ae[i7.toNat]?).bind fun NP=>
 bif decide (i42<(↑NP.length:Int)) then
 bif decide (0≤i7) then
 (n.ae[i7.toNat]?).bind fun l45=>
 bif decide (0≤i42) then
 (l45[i42.toNat]?).bind fun i46=>
 bif decide (0≤i46) then
 bif decide (i46.toNat<OX.length) then
 (OX[0+i46.toNat]?).bind fun i47=>
 bif decide (0≤i7) then
 bif decide (i7.toNat<(l9.set (0+i7.toNat) ((IntKind.i64.wrap i40).tmod (IntKind.i64.wrap (i38+1)))).length) then
 ((l9.set (0+i7.toNat) ((IntKind.i64.wrap i40).tmod (IntKind.i64.wrap (i38+1))))[0+i7.toNat]?).bind fun i48=>
 bif decide (0≤i46) then
 bif decide (i46.toNat<OX.length) then
 (OX[0+i46.toNat]?).bind fun i49=>
 bif decide ((OX.set (0+i46.toNat) (IntKind.i64.wrap (i47-i48))).length=l8.length) then
 some (Sum.inl (IntKind.i64.wrap (i42+1),OX.set (0+i46.toNat) (IntKind.i64.wrap (i47-i48))))
 else
 none
 else
 none
 else
 none
 else
 none
 else
 none
 else
 none
 else
 none
 else
 none
 else
 none
 else
 bif decide (OX.length=l8.length) then
 some (Sum.inr (i42,OX))
 else
 none
 else
 none) (0,l8)).bind fun (i50,NO)=>
 bif decide (NO.length=l6.length) then
 bif decide ((l9.set (0+i7.toNat) ((IntKind.i64.wrap i40).tmod (IntKind.i64.wrap (i38+1)))).length=(List.replicate (↑n.ae.length:Int).toNat (0:Int)).length) then
 some (Sum.inl (IntKind.i64.wrap (i7+1),NO,l9.set (0+i7.toNat) ((IntKind.i64.wrap i40).tmod (IntKind.i64.wrap (i38+1)))))
 else
 none
 else
 none
 else
 none
 else
 none
 else
 none
 else
 none
 else
 bif decide (l8.length=l6.length) then
 bif decide (l9.length=(List.replicate (↑n.ae.length:Int).toNat (0:Int)).length) then
 some (Sum.inr (i7,l8,l9))
 else
 none
 else
 none
 else
 bif decide (l8.length=l6.length) then
 bif decide (l9.length=(List.replicate (↑n.ae.length:Int).toNat (0:Int)).length) then
 some (Sum.inr (i7,l8,l9))
 else
 none
 else
 none) (0,l6,List.replicate (↑n.ae.length:Int).toNat (0:Int))).bind fun (i52,Qn,Mx)=>
 some Mx
 else
 none
 else
 none
noncomputable def Go.aa.lU(r:ai)(num:Int)(mU:Int):Option Int:=
 some (IntKind.i64.wrap (IntKind.i64.wrap (r.c7*mU)-IntKind.i64.wrap (num*r.Den)))
noncomputable def Go.aa.su(n:bD)(parts:List Int)(mU:Int):Option Bool:=
 (aa.jO).bind fun b1=>
 (aa.iJ n).bind fun b2=>
 bif b2 then
 (aa.cY n).bind fun b3=>
 bif !b3 then
 some b1
 else
 (aa.pW n parts (IntKind.i64.wrap (1+(IntKind.i64.wrap mU).tmod 60))).bind fun l4=>
 (aa.cw n).bind fun (l5,i6)=>
 bif !i6==0 then
 some false
 else
 bif !(↑l5.length:Int)==(↑l4.length:Int) then
 some false
 else
 (aM (ω:=Bool×Int) (fun ((b7,i8):Bool×Int)=>
 bif decide (i8<(↑l5.length:Int)) then
 bif decide (0≤i8) then
 (l5[i8.toNat]?).bind fun q9=>
 bif decide (0≤i8) then
 (l4[i8.toNat]?).bind fun i10=>
 (aa.lU q9 i10 (IntKind.i64.wrap (1+(IntKind.i64.wrap mU).tmod 60))).bind fun i11=>
 bif decide (0≤i11) then
 some (Sum.inl (b7,IntKind.i64.wrap (i8+1)))
 else
 (aM (ω:=Bool×Int) (fun ((D9,i13):Bool×Int)=>
 bif decide (i13<(↑l5.length:Int)) then
 bif decide (0≤i13) then
 (l5[i13.toNat]?).bind fun q14=>
 bif decide (0≤i8) then
 (l5[i8.toNat]?).bind fun q15=>
 (aa.iM q14 q15).bind fun (i16,i17)=>
 bif D9 then
 some (Sum.inl (true,IntKind.i64.wrap (i13+1)))
 else
 bif decide (i16≤0) then
 bif decide (0≤i13) then
 (l5[i13.toNat]?).bind fun OW=>
 bif decide (0≤i13) then
 (l4[i13.toNat]?).bind fun i19=>
 (aa.lU OW i19 (IntKind.i64.wrap (1+(IntKind.i64.wrap mU).tmod 60))).bind fun i20=>
 some (Sum.inl (decide (0<i20),IntKind.i64.wrap (i13+1)))
 else
 none
 else
 none
 else
 some (Sum.inl (false,IntKind.i64.wrap (i13+1)))
 else
 none
 else
 none
 else
 some (Sum.inr (D9,i13))) (false,0)).bind fun (SL,i22)=>
 bif b7 then
 some (Sum.inl (SL,IntKind.i64.wrap (i8+1)))
 else
 some (Sum.inl (false,IntKind.i64.wrap (i8+1)))
 else
 none
 else
 none
 else
 some (Sum.inr (b7,i8))) (b1,0)).bind fun (Ux,i24)=>
 some Ux
 else
 some b1
noncomputable def Go.aa.tK(n:bD)(times:Int):Option Bool:=
 (aa.jO).bind fun b1=>
 (aa.iJ n).bind fun b2=>
 bif b2 then
 (aa.cY n).bind fun b3=>
 bif !b3 then
 some b1
 else
 bif decide (times<1) then
 some b1
 else
 bif decide (1000<times) then
 some b1
 else
 (aM (ω:=Int×List (List Int)×List Int×List Int) (fun ((i4,l5,l6,l7):Int×List (List Int)×List Int×List Int)=>
 bif decide (i4<(↑n.aC.length:Int)) then
 bif decide (0≤i4) then
 (n.aC[i4.toNat]?).bind fun i8=>
 bif decide ((l6.length+1)*8≤2^44)&&decide (l6.length+1≤2^44) then
 some (Sum.inl (IntKind.i64.wrap (i4+1),l5,l6++[IntKind.i64.wrap (i8*times)],l7))
 else
 none
 else
 none
 else
 some (Sum.inr (i4,l5,l6,l7))) (0,n.ae,[],[])).bind fun (i9,KY,BM,VX)=>
 (aM (ω:=Int×List (List Int)×List Int×List Int) (fun ((i13,GQ,wG,UC):Int×List (List Int)×List Int×List Int)=>
 bif decide (i13<(↑n.aH.length:Int)) then
 bif decide (0≤i13) then
 (n.aH[i13.toNat]?).bind fun i17=>
 bif decide ((UC.length+1)*8≤2^44)&&decide (UC.length+1≤2^44) then
 some (Sum.inl (IntKind.i64.wrap (i13+1),GQ,wG,UC++[IntKind.i64.wrap (i17*times)]))
 else
 none
 else
 none
 else
 some (Sum.inr (i13,GQ,wG,UC))) (0,KY,BM,VX)).bind fun (i18,Yt,Yu,Yv)=>
 (aa.cY (bD.mk Yu Yt Yv)).bind fun V8=>
 bif !V8 then
 some b1
 else
 (aa.cw n).bind fun (C9,i24)=>
 (aa.cw (bD.mk Yu Yt Yv)).bind fun (Ea,i26)=>
 bif !i24==0 then
 some false
 else
 bif !i26==0 then
 some false
 else
 bif !(↑C9.length:Int)==(↑Ea.length:Int) then
 some false
 else
 (aM (ω:=Bool×Int) (fun ((Uz,i28):Bool×Int)=>
 bif decide (i28<(↑C9.length:Int)) then
 bif Uz then
 bif decide (0≤i28) then
 (Ea[i28.toNat]?).bind fun q29=>
 bif decide (0≤i28) then
 (C9[i28.toNat]?).bind fun q30=>
 bif decide (0≤i28) then
 (C9[i28.toNat]?).bind fun q31=>
 bif decide (0≤i28) then
 (Ea[i28.toNat]?).bind fun q32=>
 some (Sum.inl (IntKind.i64.wrap (q29.c7*q30.Den)==IntKind.i64.wrap (IntKind.i64.wrap (times*q31.c7)*q32.Den),IntKind.i64.wrap (i28+1)))
 else
 none
 else
 none
 else
 none
 else
 none
 else
 some (Sum.inl (false,IntKind.i64.wrap (i28+1)))
 else
 some (Sum.inr (Uz,i28))) (b1,0)).bind fun (NA,i34)=>
 some NA
 else
 some b1
noncomputable def Go.aa.uZ(n:bD)(oU:Int)(more:Int):Option Bool:=
 (aa.jO).bind fun b1=>
 (aa.iJ n).bind fun b2=>
 bif b2 then
 (aa.cY n).bind fun b3=>
 bif !b3 then
 some b1
 else
 bif (↑n.ae.length:Int)==0 then
 some b1
 else
 bif decide (oU<0) then
 some b1
 else
 bif decide (more<0) then
 some b1
 else
 bif decide (1000<more) then
 some b1
 else
 bif decide ((↑n.aC.length:Int)=0) then
 none
 else
 bif decide (0≤(↑n.aC.length:Int).toNat)&&decide ((↑n.aC.length:Int).toNat*8≤2^47)&&decide ((↑n.aC.length:Int).toNat<2^62) then
 bif decide (0+n.aC.length≤(↑n.aC.length:Int).toNat)&&decide (0+n.aC.length≤(List.replicate (↑n.aC.length:Int).toNat (0:Int)).length) then
 bif decide (0≤oU.tmod (↑n.aC.length:Int)) then
 bif decide ((oU.tmod (↑n.aC.length:Int)).toNat<0+n.aC.length) then
 ((n.aC++List.drop (0+n.aC.length) (List.replicate (↑n.aC.length:Int).toNat (0:Int)))[0+(oU.tmod (↑n.aC.length:Int)).toNat]?).bind fun i4=>
 bif decide (0≤oU.tmod (↑n.aC.length:Int)) then
 bif decide ((oU.tmod (↑n.aC.length:Int)).toNat<0+n.aC.length) then
 ((n.aC++List.drop (0+n.aC.length) (List.replicate (↑n.aC.length:Int).toNat (0:Int)))[0+(oU.tmod (↑n.aC.length:Int)).toNat]?).bind fun i5=>
 (aa.cw n).bind fun (l6,i7)=>
 bif decide (0+(0+n.aC.length)≤((n.aC++List.drop (0+n.aC.length) (List.replicate (↑n.aC.length:Int).toNat (0:Int))).set (0+(oU.tmod (↑n.aC.length:Int)).toNat) (if IntKind.i64.wrap (i4+more)<1000 then IntKind.i64.wrap (i4+more) else 1000)).length) then
 (aa.cw (bD.mk (List.take (0+n.aC.length) (List.drop 0 ((n.aC++List.drop (0+n.aC.length) (List.replicate (↑n.aC.length:Int).toNat (0:Int))).set (0+(oU.tmod (↑n.aC.length:Int)).toNat) (if IntKind.i64.wrap (i4+more)<1000 then IntKind.i64.wrap (i4+more) else 1000)))) n.ae n.aH)).bind fun (l8,i9)=>
 bif !i7==0 then
 some false
 else
 bif !i9==0 then
 some false
 else
 bif !(↑l6.length:Int)==(↑n.ae.length:Int) then
 some false
 else
 bif !(↑l8.length:Int)==(↑l6.length:Int) then
 some false
 else
 (l6[0]?).bind fun CS=>
 (l8[0]?).bind fun Ms=>
 (aM (ω:=Int×Int×Int×Int×Int) (fun ((i12,i13,i14,i15,i16):Int×Int×Int×Int×Int)=>
 bif decide (i12<(↑l6.length:Int)) then
 bif decide (0≤i12) then
 (l6[i12.toNat]?).bind fun H2=>
 (aa.iM H2 (ai.mk i15 i16)).bind fun (i18,i19)=>
 bif decide (0≤i12) then
 (l8[i12.toNat]?).bind fun V3=>
 (aa.iM V3 (ai.mk i13 i14)).bind fun (i21,i22)=>
 bif decide (i18<0) then
 bif decide (0≤i12) then
 (l6[i12.toNat]?).bind fun UD=>
 bif decide (i21<0) then
 bif decide (0≤i12) then
 (l8[i12.toNat]?).bind fun SP=>
 some (Sum.inl (IntKind.i64.wrap (i12+1),SP.c7,SP.Den,UD.c7,UD.Den))
 else
 none
 else
 some (Sum.inl (IntKind.i64.wrap (i12+1),i13,i14,UD.c7,UD.Den))
 else
 none
 else
 bif decide (i21<0) then
 bif decide (0≤i12) then
 (l8[i12.toNat]?).bind fun Yw=>
 some (Sum.inl (IntKind.i64.wrap (i12+1),Yw.c7,Yw.Den,i15,i16))
 else
 none
 else
 some (Sum.inl (IntKind.i64.wrap (i12+1),i13,i14,i15,i16))
 else
 none
 else
 none
 else
 some (Sum.inr (i12,i13,i14,i15,i16))) (0,Ms.c7,Ms.Den,CS.c7,CS.Den)).bind fun (i26,i27,i28,i29,i30)=>
 (aa.iM (ai.mk i29 i30) (ai.mk i27 i28)).bind fun (i31,i32)=>
 (aa.ot n l6 (oU.tmod (↑n.aC.length:Int))).bind fun (Yx,b34)=>
 bif b34 then
 bif decide (0≤oU.tmod (↑n.aC.length:Int)) then
 (n.aC[(oU.tmod (↑n.aC.length:Int)).toNat]?).bind fun i35=>
 bif b1 then
 bif i32==0 then
 bif decide (i31≤0) then
 bif !decide (Yx.c7<IntKind.i64.wrap (i35*Yx.Den)) then
 some true
 else
 (aa.iq l6 l8).bind fun Wa=>
 some Wa
 else
 some false
 else
 some false
 else
 some false
 else
 none
 else
 bif b1 then
 bif i32==0 then
 bif decide (i31≤0) then
 some true
 else
 some false
 else
 some false
 else
 some false
 else
 none
 else
 none
 else
 none
 else
 none
 else
 none
 else
 none
 else
 none
 else
 some b1
noncomputable def Go.aa.kD(n:bD)(x:List ai):Option Bool:=
 (aa.jO).bind fun b1=>
 (aa.iJ n).bind fun b2=>
 bif !b2 then
 some b1
 else
 bif decide (50<(↑x.length:Int)) then
 some b1
 else
 (aa.cw n).bind fun (l3,i4)=>
 (aa.v7 n).bind fun (l5,i6)=>
 bif b1 then
 (aa.iq l3 l5).bind fun b7=>
 bif b7 then
 bif i4==i6 then
 (aa.fb n x).bind fun b8=>
 (aa.v8 n x).bind fun b9=>
 bif b8==b9 then
 (aa.gw n).bind fun Rk=>
 (aa.cY n).bind fun SM=>
 some (Rk==SM)
 else
 some false
 else
 some false
 else
 some false
 else
 some false
noncomputable def Go.aa.ej(n:bD)(x:List ai):Option Bool:=
 (aa.jO).bind fun b1=>
 (aa.iJ n).bind fun b2=>
 bif b2 then
 (aa.cY n).bind fun b3=>
 bif !b3 then
 some b1
 else
 bif decide (50<(↑x.length:Int)) then
 some b1
 else
 (aa.cw n).bind fun (l4,i5)=>
 (aa.fb n l4).bind fun b6=>
 (aa.fb n x).bind fun b7=>
 (aM (ω:=Bool×Int) (fun ((b8,i9):Bool×Int)=>
 bif decide (i9<(↑l4.length:Int)) then
 bif b8 then
 bif decide (0≤i9) then
 (l4[i9.toNat]?).bind fun CS=>
 bif decide (1≤CS.Den) then
 bif decide (0≤i9) then
 (l4[i9.toNat]?).bind fun Ms=>
 some (Sum.inl (decide (Ms.Den≤18),IntKind.i64.wrap (i9+1)))
 else
 none
 else
 some (Sum.inl (false,IntKind.i64.wrap (i9+1)))
 else
 none
 else
 some (Sum.inl (false,IntKind.i64.wrap (i9+1)))
 else
 some (Sum.inr (b8,i9))) (b1,0)).bind fun (D9,i13)=>
 bif D9 then
 bif i5==0 then
 bif b6 then
 (aa.iq x l4).bind fun VZ=>
 some (b7==VZ)
 else
 some false
 else
 some false
 else
 some false
 else
 some b1
namespace Go.Proofs.Ytedjbjphpnkpoaa
noncomputable def hints:List (Nat×Nat×Hint):=[(43,2,⟨[(4,.val 4),(5,.val 3)],[6,7,8,9,12,13,14,15,16,17,18,19,20,21,22,23,24,25,26,27,28,29,30,31,32,33,34,35,36,37,38,39,40,10,11],[],[⟨none,[(4,.val 4)],[],[],[]⟩,⟨some 0,[(4,.val 4),(5,.val 3)],[],[],[]⟩]⟩),(18,1004,⟨[(2,.val 4),(3,.val 3)],[25,26,27,28,29,32,33,34,35,36,37,38,39,40,41,42,43,44,45,30,31],[],[⟨none,[(2,.val 4)],[],[],[]⟩,⟨some 0,[(2,.val 4),(3,.val 3)],[],[],[]⟩]⟩),(18,1009,⟨[(2,.val 4),(4,.val 3)],[46,47,48,49,50,53,54,55,56,57,58,59,60,61,5,62,63,64,65,66,67,68,69,70,71,72,73,74,75,76,77,78,79,51,52],[],[⟨none,[(2,.val 4)],[],[],[]⟩,⟨some 2,[(2,.val 4),(4,.val 3)],[],[],[]⟩]⟩),(32,2,⟨[(4,.val 4),(5,.val 3)],[6,7,8,9,12,13,14,15,16,17,10,11],[],[⟨none,[(4,.val 4)],[],[],[]⟩,⟨some 0,[(4,.val 4),(5,.val 3)],[],[],[]⟩]⟩),(59,1,⟨[(0,.val 3),(1,.val 3)],[6,7,8,9,10,5,11,12],[],[⟨some 0,[(0,.val 3),(1,.val 3)],[],[],[]⟩]⟩),(31,3004,⟨[(11,.val 3),(12,.val 3)],[20,21,22,23,24,27,28,29,30,31,32,33,13,34,35,36,37,38,39,40,42,43,44,45,46,47,41,48,49,50,51,52,53,54,55,56,57,58,59,25,26],[(2,.agg [.val 2,.val 2])],[⟨some 0,[(11,.val 3),(12,.val 3)],[],[],[]⟩]⟩),(13,5012,⟨[(9,.val 3),(11,.val 3)],[40,41,42,43,44,48,49,50,51,52,47,53,54,12,13,56,57,58,55,59,60,14,15,61,62,63,64,65,66,67,68,45,46],[(4,.agg [.val 2,.val 2])],[⟨some 2,[(9,.val 3),(11,.val 3)],[],[],[]⟩]⟩),(13,5020,⟨[(10,.val 3),(9,.val 3),(16,.val 3)],[69,70,71,72,73,76,77,78,79,80,81,17,83,84,85,82,86,87,18,19,88,89,90,91,92,93,94,95,96,97,98,99,100,101,102,103,104,105,106,74,75],[(4,.agg [.val 2,.val 2])],[⟨some 4,[(10,.val 3),(9,.val 3),(16,.val 3)],[],[],[]⟩]⟩),(13,5029,⟨[(7,.val 3),(20,.val 3)],[107,108,109,110,111,114,115,116,117,118,119,120,121,122,123,124,21,125,126,127,128,129,130,131,132,133,134,135,136,137,138,139,140,141,142,143,144,145,146,147,148,149,150,112,113],[(2,.fix 35),(3,.fix 4)],[⟨some 6,[(7,.val 3),(20,.val 3)],[],[],[]⟩]⟩),(13,4007,⟨[(7,.val 3)],[37,38,39,8,9,10,11,40,41,42,43,44,48,49,50,51,52,47,53,54,12,13,56,57,58,55,59,60,14,15,61,62,63,64,65,66,67,68,45,46,16,69,70,71,72,73,76,77,78,79,80,81,17,83,84,85,82,86,87,18,19,88,89,90,91,92,93,94,95,96,97,98,99,100,101,102,103,104,105,106,74,75,20,107,108,109,110,111,114,115,116,117,118,119,120,121,122,123,124,21,125,126,127,128,129,130,131,132,133,134,135,136,137,138,139,140,141,142,143,144,145,146,147,148,149,150,112,113],[(2,.fix 35),(3,.fix 4)],[⟨some 0,[(7,.val 3)],[],[],[]⟩]⟩),(56,7001,⟨[(12,.val 3)],[13,14,15,16,4,5,17,18,19,20,21,22,23,24,25,26],[(3,.one (.val 2)),(2,.agg [.val 2,.val 2])],[⟨some 0,[(12,.val 3)],[],[(6,.ready)],[]⟩]⟩),(15,2004,⟨[(4,.val 4),(30,.val 3)],[31,32,33,34,6,5,35,36,37,38,39,40,41,42,43,44,45,46,47,48,49,50,51,52,53,54,55,56,57,58,59,60,61],[],[⟨none,[(4,.val 4)],[.hJ],[],[]⟩,⟨some 0,[(4,.val 4),(30,.val 3)],[],[],[]⟩]⟩),(15,6012,⟨[(72,.val 3)],[73,74,75,76,9,10,77,78,79,80,81,82,83,84,85,86,87,88,89,90,91],[(4,.fix 4)],[⟨some 2,[(72,.val 3)],[],[],[]⟩]⟩),(56,16001,⟨[(12,.val 3)],[13,14,15,16,4,5,17,18,19,20,21,22,23,24,25,26],[(12,.one (.val 4))],[⟨some 0,[(12,.val 3)],[],[(15,.ready),(10,.busy)],[]⟩]⟩),(56,11001,⟨[(12,.val 3)],[13,14,15,16,4,5,17,18,19,20,21,22,23,24,25,26],[(4,.fix 4)],[⟨some 0,[(12,.val 3)],[],[(10,.ready)],[]⟩]⟩),(15,6017,⟨[(4,.val 4),(95,.val 3)],[96,97,11,99,100,101,98,102,103,12,13,104,105,106,107,108,147],[(4,.fix 4)],[⟨none,[(4,.val 4)],[.hJ,.hJ],[],[]⟩,⟨some 4,[(4,.val 4),(95,.val 3)],[],[],[]⟩]⟩),(22,3003,⟨[(7,.val 4),(9,.val 3)],[14,15,16,17,18,21,22,23,24,25,26,27,10,28,30,31,32,33,34,35,29,36,37,11,12,38,39,40,41,19,20],[(2,.agg [.val 2,.val 2])],[⟨none,[(7,.val 4)],[.hJ],[],[(1,.agg [.val 2,.val 2])]⟩,⟨some 0,[(7,.val 4),(9,.val 3)],[],[],[]⟩]⟩),(39,2003,⟨[(8,.val 4),(11,.val 3)],[22,23,24,25,26,29,30,31,32,33,34,35,12,37,38,39,40,41,42,43,44,45,36,46,47,13,14,48,49,50,51,52,27,28],[],[⟨none,[(8,.val 4)],[],[],[]⟩,⟨some 0,[(8,.val 4),(11,.val 3)],[],[],[]⟩]⟩),(16,1005,⟨[(4,.val 4),(6,.val 3)],[26,27,28,29,32,33,34,35,36,7,37,38,39,40,41,42,43,44,45,46,47,48,49,50,51,52,53,54,55,56,57,58,59,60,61,62,63,64,65,66,67,68,69,70,71,72,73,30,31],[],[⟨none,[(4,.val 4)],[],[],[]⟩,⟨some 0,[(4,.val 4),(6,.val 3)],[],[],[]⟩]⟩),(16,1011,⟨[(4,.val 4),(8,.val 3)],[74,75,76,77,78,82,83,84,85,81,86,87,9,10,88,89,90,91,92,93,94,95,96,97,98,99,100,101,102,79,80],[],[⟨none,[(4,.val 4)],[.hJ],[],[]⟩,⟨some 2,[(4,.val 4),(8,.val 3)],[],[],[]⟩]⟩),(16,1021,⟨[(12,.val 4),(13,.val 3)],[136,137,138,139,140,141,142,143,144,145,146,147,150,151,152,153,154,155,156,157,158,159,160,161,148,149],[],[⟨some 6,[(12,.val 4),(13,.val 3)],[],[],[]⟩]⟩),(16,1017,⟨[(4,.val 4),(11,.val 3)],[103,104,105,106,109,110,111,112,113,114,115,116,117,118,119,120,121,122,123,124,125,126,127,128,129,130,131,132,133,134,135,12,13,136,137,138,139,140,141,142,143,144,145,146,147,150,151,152,153,154,155,156,157,158,159,160,161,148,149,162,163,107,108],[],[⟨none,[(4,.val 4)],[],[],[]⟩,⟨some 4,[(4,.val 4),(11,.val 3)],[],[],[]⟩]⟩),(11,1002,⟨[(2,.val 4),(3,.val 3)],[4,5,6,7,8,9,10,11,12,15,16,17,18,19,20,21,13,14],[],[⟨none,[(2,.val 4)],[],[],[]⟩,⟨some 0,[(2,.val 4),(3,.val 3)],[],[],[]⟩]⟩),(14,4,⟨[(4,.val 4),(5,.val 3)],[11,12,13,14,17,18,19,20,21,22,23,24,25,15,16],[],[⟨none,[(4,.val 4)],[],[],[]⟩,⟨some 0,[(4,.val 4),(5,.val 3)],[],[],[]⟩]⟩),(86,2,⟨[(4,.val 3),(8,.val 3)],[9,10,5,11,12,13,14,15,16,17,18],[],[⟨none,[(4,.val 3)],[],[],[]⟩,⟨some 0,[(4,.val 3),(8,.val 3)],[],[],[]⟩]⟩),(42,2,⟨[(4,.val 4),(9,.val 3)],[10,11,12,13,5,6,14,15,16,17,18,19,20,21,22,23,24,25,26,27,28,29,30,31,32],[],[⟨none,[(4,.val 4)],[],[],[]⟩,⟨some 0,[(4,.val 4),(9,.val 3)],[],[],[]⟩]⟩),(17,2004,⟨[(2,.val 4),(33,.val 3)],[34,35,36,4,37,38,39,40],[],[⟨none,[(2,.val 4)],[],[],[]⟩,⟨some 0,[(2,.val 4),(33,.val 3)],[],[],[]⟩]⟩),(17,2010,⟨[(2,.val 4),(44,.val 3)],[45,46,47,6,48,49,50,51,52,53,54],[],[⟨none,[(2,.val 4)],[],[],[]⟩,⟨some 2,[(2,.val 4),(44,.val 3)],[],[],[]⟩]⟩),(48,2,⟨[(4,.val 3),(8,.val 3)],[9,10,5,11,12,13,14,15,16,17,18],[],[⟨none,[(4,.val 3)],[],[],[]⟩,⟨some 0,[(4,.val 3),(8,.val 3)],[],[],[]⟩]⟩),(12,6006,⟨[(5,.own 1 5),(25,.val 3)],[26,27,6,28,29,30,31,32,33],[(5,.list 82)],[⟨some 0,[(5,.own 1 5),(25,.val 3)],[],[],[]⟩]⟩),(12,6011,⟨[(5,.own 1 5),(37,.val 3)],[38,39,7,40,41,42,43,44,45],[(5,.list 82)],[⟨some 2,[(5,.own 1 5),(37,.val 3)],[],[],[]⟩]⟩),(30,8003,⟨[(4,.own 2 6),(5,.own 1 7),(19,.val 3)],[20,21,22,7,24,25,26,23,27,28,8,9,29,30,31,32,33,34,35,36,37,38],[(6,.list 35),(7,.list 82)],[⟨some 0,[(4,.own 2 6),(5,.own 1 7),(19,.val 3)],[],[],[]⟩]⟩),(49,10003,⟨[(13,.val 3)],[14,15,16,7,17,18,19,20,21,22],[(9,.agg [.val 2,.val 2])],[⟨some 0,[(13,.val 3)],[],[],[]⟩]⟩),(30,10015,⟨[(11,.own 1 9),(54,.val 3)],[55,56,14,57,58,59,60,61,62,63,64,65,66,67,68,69,70,71,72,73,74,75,76,77,78,79,80,81,82,83],[(9,.list 3)],[⟨some 4,[(11,.own 1 9),(54,.val 3)],[],[],[]⟩]⟩),(30,10012,⟨[(11,.own 1 9),(43,.val 3)],[44,45,46,47,12,13,48,49,50,51,52,53,54,55,56,14,57,58,59,60,61,62,63,64,65,66,67,68,69,70,71,72,73,74,75,76,77,78,79,80,81,82,83,84],[(9,.list 3)],[⟨some 2,[(11,.own 1 9),(43,.val 3)],[],[],[]⟩]⟩),(30,10022,⟨[(87,.val 3)],[88,89,90,16,91,92,93,94,95,96,97,98,99,100,101,102,103,104],[(3,.fix 35),(2,.fix 4)],[⟨some 6,[(87,.val 3)],[],[],[]⟩]⟩),(12,6015,⟨[],[46,47,48,49,50,51,52,53],[(3,.fix 35),(2,.fix 4)],[⟨some 4,[],[],[],[]⟩]⟩),(19,3003,⟨[(8,.val 3)],[18,19,20,21,22,25,26,27,28,29,30,31,32,33,34,23,24],[(2,.fix 3)],[⟨some 0,[(8,.val 3)],[],[],[]⟩]⟩),(19,4014,⟨[(11,.val 3),(12,.val 3)],[67,68,69,70,71,72,73,74,77,78,79,80,81,82,83,84,85,86,87,88,89,75,76],[],[⟨some 4,[(11,.val 3),(12,.val 3)],[],[],[]⟩]⟩),(19,4019,⟨[(13,.val 3)],[101,102,103,104,105,106,107,108,111,112,113,114,115,116,117,118,119,120,121,122,123,124,125,126,127,109,110],[(2,.fix 3)],[⟨some 6,[(13,.val 3)],[],[],[]⟩]⟩),(19,4008,⟨[(10,.val 3)],[39,40,41,42,43,44,45,46,47,48,49,52,53,11,54,55,56,57,58,59,60,61,62,63,64,65,66,12,67,68,69,70,71,72,73,74,77,78,79,80,81,82,83,84,85,86,87,88,89,75,76,90,91,92,93,94,95,96,97,98,99,100,13,101,102,103,104,105,106,107,108,111,112,113,114,115,116,117,118,119,120,121,122,123,124,125,126,127,109,110,50,51],[(2,.fix 3),(3,.fix 3)],[⟨some 2,[(10,.val 3)],[],[],[]⟩]⟩),(5,1017,⟨[(15,.val 4),(16,.val 3)],[69,70,71,72,76,77,78,79,80,81,82,83,84,75,85,86,17,18,87,88,89,90,91,92,93,94,95,96,97,98,99,100,101,102,103,104,73,74],[],[⟨some 2,[(15,.val 4),(16,.val 3)],[],[],[]⟩]⟩),(5,1012,⟨[(7,.val 4),(14,.val 3)],[52,53,54,55,58,59,60,61,62,63,64,65,66,67,68,15,16,69,70,71,72,76,77,78,79,80,81,82,83,84,75,85,86,17,18,87,88,89,90,91,92,93,94,95,96,97,98,99,100,101,102,103,104,73,74,105,106,107,108,56,57],[],[⟨some 0,[(7,.val 4),(14,.val 3)],[],[],[]⟩]⟩),(7,6016,⟨[(18,.val 3)],[123,124,125,126,130,131,132,133,134,135,129,136,137,19,20,139,140,141,142,143,144,138,145,146,21,22,147,148,149,150,151,152,153,154,155,156,157,158,127,128],[(5,.agg [.val 2,.val 2]),(4,.agg [.val 2,.val 2])],[⟨some 0,[(18,.val 3)],[],[],[]⟩]⟩),(8,2008,⟨[(7,.val 3)],[31,32,35,36,37,38,39,40,41,42,43,44,33,34],[(1,.agg [.val 22,.val 23,.val 22])],[⟨some 0,[(7,.val 3)],[],[],[]⟩]⟩),(8,3016,⟨[(9,.own 1 2),(10,.val 3)],[60,61,64,65,66,67,68,69,70,71,72,73,74,75,76,77,78,79,62,63],[(2,.list 3)],[⟨some 4,[(9,.own 1 2),(10,.val 3)],[],[],[]⟩]⟩),(8,2012,⟨[(8,.val 3)],[49,50,9,53,54,55,56,57,58,59,10,60,61,64,65,66,67,68,69,70,71,72,73,74,75,76,77,78,79,62,63,80,81,82,83,84,85,86,87,88,89,90,91,92,93,94,95,51,52],[],[⟨some 2,[(8,.val 3)],[],[],[]⟩]⟩),(8,2026,⟨[(3,.val 4),(15,.val 3)],[127,128,129,130,133,134,135,136,137,138,139,140,141,142,143,144,145,146,147,148,131,132],[],[⟨some 6,[(3,.val 4),(15,.val 3)],[],[],[]⟩]⟩),(4,1010,⟨[(5,.val 4),(12,.val 3)],[40,41,42,43,46,47,48,49,50,51,52,53,54,55,56,57,58,59,60,61,62,44,45],[],[⟨some 0,[(5,.val 4),(12,.val 3)],[],[],[]⟩]⟩),(6,4008,⟨[(9,.val 3)],[39,40,41,42,43,46,47,48,49,50,51,52,53,54,55,56,57,44,45],[(3,.agg [.own 1 1,.val 23,.own 1 2]),(1,.list 3),(2,.list 3)],[⟨some 0,[(9,.val 3)],[],[],[]⟩]⟩),(6,4012,⟨[(10,.val 3)],[58,59,60,61,62,65,66,67,68,69,70,71,72,73,74,75,76,63,64],[(3,.agg [.own 1 1,.val 23,.own 1 2]),(1,.list 3),(2,.list 3)],[⟨some 2,[(10,.val 3)],[],[],[]⟩]⟩),(6,4023,⟨[(5,.val 4),(16,.val 3)],[105,106,107,108,111,112,113,114,115,116,117,118,119,120,121,122,123,124,125,126,127,128,129,130,131,132,133,134,135,136,137,138,109,110],[],[⟨some 4,[(5,.val 4),(16,.val 3)],[],[],[]⟩]⟩)]
noncomputable def Qo:List (Nat×Nat×Hint):=[(56,7001,⟨[(12,.val 3)],[13,14,15,16,4,5,17,18,19,20,21,22,23,24,25,26],[(3,.agg [.val 2,.val 2])],[⟨none,[],[],[(6,.jump none)],[(2,.one (.val 4)),(1,.agg [.val 2,.val 2])]⟩,⟨some 0,[(12,.val 3)],[],[(6,.ready)],[]⟩]⟩)]
def uS:FuncId→Nat→Bool:=fun f _=>Nat.beq f 10
noncomputable def Qc:List (Nat×uR T):=[(41,⟨[3,3,3],[4],fun x=>Go.aa.nF x.1 x.2.1 x.2.2⟩),
 (42,⟨[22,3],[4],fun x=>Go.aa.jW x.1 x.2⟩),
 (40,⟨[23],[22],fun x=>Go.aa.hG x⟩),
 (17,⟨[25],[4],fun x=>Go.aa.gw x⟩),
 (48,⟨[53,4],[3],fun x=>Go.aa.oa x.1 x.2⟩),
 (29,⟨[53,4],[4],fun x=>Go.aa.fo x.1 x.2⟩),
 (52,⟨[87],[4],fun x=>Go.aa.bO x⟩),
 (82,⟨[3,3],[3],fun x=>Go.aa.jV x.1 x.2⟩),
 (53,⟨[87],[87],fun x=>Go.aa.cR x⟩),
 (33,⟨[35],[4],fun x=>Go.aa.cM x⟩),
 (95,⟨[3],[4],fun x=>Go.aa.qz x⟩),
 (83,⟨[3,3],[3],fun x=>Go.aa.pP x.1 x.2⟩),
 (54,⟨[35,35],[3,29],fun x=>Go.aa.qy x.1 x.2⟩),
 (34,⟨[35,35],[4],fun x=>Go.aa.eQ x.1 x.2⟩),
 (43,⟨[22,3],[4],fun x=>Go.aa.n9 x.1 x.2⟩),
 (18,⟨[25],[4],fun x=>Go.aa.cY x⟩),
 (32,⟨[22,3],[4],fun x=>Go.aa.pV x.1 x.2⟩),
 (58,⟨[3,3],[4],fun x=>Go.aa.oq x.1 x.2⟩),
 (60,⟨[3],[3],fun x=>Go.aa.qG x⟩),
 (59,⟨[3,3],[3],fun x=>Go.aa.j0 x.1 x.2⟩),
 (38,⟨[35],[4],fun x=>Go.aa.dA x⟩),
 (62,⟨[3,3],[35,29],fun x=>Go.aa.ka x.1 x.2⟩),
 (50,⟨[35,35],[35,29],fun x=>Go.aa.Ad x.1 x.2⟩),
 (51,⟨[35,35],[35,29],fun x=>Go.aa.Ae x.1 x.2⟩),
 (31,⟨[25,53,26,3],[35,3],fun x=>Go.aa.v5 x.1 x.2.1 x.2.2.1 x.2.2.2⟩),
 (21,⟨[35,35],[3,29],fun x=>Go.aa.iM x.1 x.2⟩),
 (13,⟨[25],[26,29],fun x=>Go.aa.v7 x⟩),
 (35,⟨[3],[35],fun x=>Go.aa.dy x⟩),
 (86,⟨[22,3],[3],fun x=>Go.aa.mM x.1 x.2⟩),
 (57,⟨[22,3],[4],fun x=>Go.aa.bC x.1 x.2⟩),
 (96,⟨[87],[35,29],fun x=>Go.aa.bg x⟩),
 (55,⟨[35,35],[35,29],fun x=>Go.aa.qw x.1 x.2⟩),
 (36,⟨[52,57],[35,4],fun x=>Go.aa.fN x.1 x.2⟩),
 (15,⟨[25,26],[4],fun x=>Go.aa.fb x.1 x.2⟩),
 (44,⟨[35,35],[35,29],fun x=>Go.aa.Af x.1 x.2⟩),
 (22,⟨[25,26,3],[35,4],fun x=>Go.aa.ot x.1 x.2.1 x.2.2⟩),
 (39,⟨[25,26,3,3],[4],fun x=>Go.aa.ou x.1 x.2.1 x.2.2.1 x.2.2.2⟩),
 (16,⟨[25,26],[4],fun x=>Go.aa.v8 x.1 x.2⟩),
 (11,⟨[25],[4],fun x=>Go.aa.iJ x⟩),
 (14,⟨[26,26],[4],fun x=>Go.aa.iq x.1 x.2⟩),
 (117,⟨[35,35],[35,29],fun x=>Go.aa.nE x.1 x.2⟩),
 (118,⟨[35,35],[35,29],fun x=>Go.aa.qx x.1 x.2⟩),
 (115,⟨[57,52],[35,4],fun x=>Go.aa.cf x.1 x.2⟩),
 (116,⟨[57,52,3],[4],fun x=>Go.aa.fM x.1 x.2.1 x.2.2⟩),
 (121,⟨[58,52],[35,4],fun x=>Go.aa.cz x.1 x.2⟩),
 (122,⟨[58,52,3],[4],fun x=>Go.aa.lT x.1 x.2.1 x.2.2⟩),
 (12,⟨[25],[26,29],fun x=>Go.aa.cw x⟩),
 (28,⟨[3],[35],fun x=>Go.aa.Da x⟩),
 (27,⟨[25,26],[4],fun x=>Go.aa.KZ x.1 x.2⟩),
 (19,⟨[25,36,3],[22],fun x=>Go.aa.pW x.1 x.2.1 x.2.2⟩),
 (20,⟨[35,3,3],[3],fun x=>Go.aa.lU x.1 x.2.1 x.2.2⟩),
 (10,⟨[],[4],fun x=>Go.aa.jO ⟩),
 (5,⟨[25,36,5],[4],fun x=>Go.aa.su x.1 x.2.1 x.2.2⟩),
 (6,⟨[25,3],[4],fun x=>Go.aa.tK x.1 x.2⟩),
 (7,⟨[25,3,3],[4],fun x=>Go.aa.uZ x.1 x.2.1 x.2.2⟩),
 (3,⟨[25,26],[4],fun x=>Go.aa.kD x.1 x.2⟩),
 (4,⟨[25,26],[4],fun x=>Go.aa.ej x.1 x.2⟩)]
noncomputable abbrev S(n:Nat):og:=GR C T Br (Go.PI.GH hints) uS Qc n kh tF SQ
theorem K0{h h':FuncId→Nat→Option Hint}{r:FuncId→Nat→Bool}{L:List (Nat×uR T)}{n:Nat}(k:(GR C T Br h r L n kh tF SQ).Ok):(GR C T Br h' r L n kh tF SQ).Ok:=⟨k.T,k.Q,k.Z,k.sum,k.own⟩
theorem s0:(S 0).Ok:=Db Yy K1 Yz sk
end Go.Proofs.Ytedjbjphpnkpoaa
end
