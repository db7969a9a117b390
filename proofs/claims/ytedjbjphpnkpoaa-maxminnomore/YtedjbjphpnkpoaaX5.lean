/- Part 5 of the proof: texts of this session laid one behind the other. -/
import Derived.Test.YtedjbjphpnkpoaaProg
import Derived.KernelRfl
import Derived.Test.YtedjbjphpnkpoaaX4
set_option linter.unusedVariables false
set_option linter.unusedSimpArgs false
section
/- The types of this seat: what must hold of them (printed by gen_tys.py out of the dump). -/
set_option maxRecDepth 100000
namespace Go.Proofs.Ytedjbjphpnkpoaa
open Go.PI
theorem IJ{H:ah den}{v:V}{vs:List V}{l:List AV}:RL T H (v::vs) l↔∃ c cs,l=c::cs∧R T H v c∧RL T H vs cs:=DT (T:=T)
theorem UN{H:ah den}{l:List AV}:RL T H [] l↔l=[]:=FN (T:=T)
theorem TA(x:bN)(a:AV)(H:ah den)(h:Iq x a):R T H (N5 x) a:=by
 obtain⟨a0,a1,a2,h0,h1,h2,rfl⟩:=h
 unfold N5
 simp only[R]
 refine⟨_,rfl,?_⟩
 simp only[RL,R,and_true,true_and]
 exact⟨h0,h1,h2⟩
theorem TB(v:V)(x:bN)(a:AV)(H:ah den)(h:N6 v=some x)(hr:R T H v a):Iq x a:=by
 unfold N6 at h
 split at h
 ·simp only[Option.bind_eq_some_iff,Option.some.injEq]at h
  obtain⟨b0,g0,b1,g1,b2,g2,rfl⟩:=h
  simp only[R]at hr
  obtain⟨_,rfl,hl⟩:=hr
  obtain⟨c0,_,rfl,r0,hl⟩:=IJ.1 hl
  obtain⟨c1,_,rfl,r1,hl⟩:=IJ.1 hl
  obtain⟨c2,_,rfl,r2,hl⟩:=IJ.1 hl
  cases UN.1 hl
  have e0:=gf (T:=T) (e:=3) (fun _ _ _ h hr=>eQ (T:=T) h hr) g0 r0
  have e1:=gf (T:=T) (e:=22) (fun _ _ _ h hr=>gf (T:=T) (e:=3) (fun _ _ _ h hr=>eQ (T:=T) h hr) h hr) g1 r1
  have e2:=gf (T:=T) (e:=3) (fun _ _ _ h hr=>eQ (T:=T) h hr) g2 r2
  exact⟨_,_,_,e0,e1,e2,rfl⟩
 ·simp at h
theorem TC(x:bN)(a:AV)(h:Iq x a):aG true 3 a=true∧closed a=true:=by
 obtain⟨a0,a1,a2,h0,h1,h2,rfl⟩:=h
 have k0:=eG h0
 have k1:=eG h1
 have k2:=eG h2
 exact⟨by simp[aG,tQ,qL,tR,k0.2.2,k1.2.2,k2.2.2],by simp[closed,aZ,k0.2.1,k1.2.1,k2.2.1]⟩
theorem TD(x:aj)(a:AV)(H:ah den)(h:DV x a):R T H (N7 x) a:=by
 unfold DV at h; subst h
 unfold N7
 simp only[R]
 refine⟨_,rfl,?_⟩
 simp only[RL,R,and_true,true_and]
theorem Oc(v:V)(x:aj)(a:AV)(H:ah den)(h:Lz v=some x)(hr:R T H v a):DV x a:=by
 unfold Lz at h
 split at h
 ·simp only[Option.bind_eq_some_iff,Option.some.injEq]at h
  obtain⟨b0,g0,b1,g1,rfl⟩:=h
  simp only[R]at hr
  obtain⟨_,rfl,hl⟩:=hr
  obtain⟨c0,_,rfl,r0,hl⟩:=IJ.1 hl
  obtain⟨c1,_,rfl,r1,hl⟩:=IJ.1 hl
  cases UN.1 hl
  cases eQ (T:=T) g0 r0
  cases eQ (T:=T) g1 r1
  exact rfl
 ·simp at h
theorem TE(x:aj)(a:AV)(h:DV x a):aG true 2 a=true∧closed a=true:=by
 unfold DV at h; subst h
 exact⟨by simp[aG,tQ,qL,tR],by simp[closed,aZ]⟩
theorem QM(x:cb)(a:AV)(H:ah den)(h:Ir x a):R T H (LA x) a:=by
 obtain⟨a0,a1,a2,a3,a4,h0,h1,h2,h3,h4,rfl⟩:=h
 unfold LA
 simp only[R]
 refine⟨_,rfl,?_⟩
 simp only[RL,R,and_true,true_and]
 exact⟨h0,h1,h2,h3,h4⟩
theorem QN(v:V)(x:cb)(a:AV)(H:ah den)(h:LB v=some x)(hr:R T H v a):Ir x a:=by
 unfold LB at h
 split at h
 ·simp only[Option.bind_eq_some_iff,Option.some.injEq]at h
  obtain⟨b0,g0,b1,g1,b2,g2,b3,g3,b4,g4,rfl⟩:=h
  simp only[R]at hr
  obtain⟨_,rfl,hl⟩:=hr
  obtain⟨c0,_,rfl,r0,hl⟩:=IJ.1 hl
  obtain⟨c1,_,rfl,r1,hl⟩:=IJ.1 hl
  obtain⟨c2,_,rfl,r2,hl⟩:=IJ.1 hl
  obtain⟨c3,_,rfl,r3,hl⟩:=IJ.1 hl
  obtain⟨c4,_,rfl,r4,hl⟩:=IJ.1 hl
  cases UN.1 hl
  have e0:=gf (T:=T) (e:=3) (fun _ _ _ h hr=>eQ (T:=T) h hr) g0 r0
  have e1:=gf (T:=T) (e:=22) (fun _ _ _ h hr=>gf (T:=T) (e:=3) (fun _ _ _ h hr=>eQ (T:=T) h hr) h hr) g1 r1
  have e2:=gf (T:=T) (e:=3) (fun _ _ _ h hr=>eQ (T:=T) h hr) g2 r2
  have e3:=gf (T:=T) (e:=4) (fun _ _ _ h hr=>Lx (T:=T) h hr) g3 r3
  have e4:=gf (T:=T) (e:=35) (fun _ _ _ h hr=>Oc _ _ _ H h hr) g4 r4
  exact⟨_,_,_,_,_,e0,e1,e2,e3,e4,rfl⟩
 ·simp at h
theorem TF(x:cb)(a:AV)(h:Ir x a):aG true 5 a=true∧closed a=true:=by
 obtain⟨a0,a1,a2,a3,a4,h0,h1,h2,h3,h4,rfl⟩:=h
 have k0:=eG h0
 have k1:=eG h1
 have k2:=eG h2
 have k3:=eG h3
 have k4:=eG h4
 exact⟨by simp[aG,tQ,qL,tR,k0.2.2,k1.2.2,k2.2.2,k3.2.2,k4.2.2],by simp[closed,aZ,k0.2.1,k1.2.1,k2.2.1,k3.2.1,k4.2.1]⟩
theorem TG(x:dV)(a:AV)(H:ah den)(h:DW x a):R T H (N9 x) a:=by
 unfold DW at h; subst h
 obtain⟨b,n⟩:=x
 cases b<;>simp[N9,R]
theorem QO(v:V)(x:dV)(a:AV)(H:ah den)(h:LC v=some x)(hr:R T H v a):DW x a:=by
 unfold LC at h
 split at h
 ·rename_i t w
  simp only[Option.bind_eq_some_iff]at h
  obtain⟨n,g,h⟩:=h
  simp only[R]at hr
  obtain⟨a',rfl,hr⟩:=hr
  have e:=eQ (T:=T) g hr
  subst e
  cases h1:Nat.beq t 57 with
  |true=>
   rw[h1]at h
   obtain rfl:=Nat.eq_of_beq_eq_true h1
   cases h
   rfl
  |false=>
   rw[h1]at h
   cases h2:Nat.beq t 58 with
   |true=>
    rw[h2]at h
    obtain rfl:=Nat.eq_of_beq_eq_true h2
    cases h
    rfl
   |false=>rw[h2]at h; cases h
 ·simp at h
theorem TH(x:dV)(a:AV)(h:DW x a):aG false 1 a=true∧closed a=true:=by
 unfold DW at h; subst h
 exact⟨rfl,rfl⟩
theorem TI(x:aj)(a:AV)(H:ah den)(h:FO x a):R T H (Oa x) a:=by
 unfold FO at h; subst h
 unfold Oa
 simp only[R]
 refine⟨_,rfl,?_⟩
 simp only[RL,R,and_true,true_and]
theorem TJ(v:V)(x:aj)(a:AV)(H:ah den)(h:Ob v=some x)(hr:R T H v a):FO x a:=by
 unfold Ob at h
 split at h
 ·simp only[Option.bind_eq_some_iff,Option.some.injEq]at h
  obtain⟨b0,g0,b1,g1,rfl⟩:=h
  simp only[R]at hr
  obtain⟨_,rfl,hl⟩:=hr
  obtain⟨c0,_,rfl,r0,hl⟩:=IJ.1 hl
  obtain⟨c1,_,rfl,r1,hl⟩:=IJ.1 hl
  cases UN.1 hl
  cases eQ (T:=T) g0 r0
  cases eQ (T:=T) g1 r1
  exact rfl
 ·simp at h
theorem TK(x:aj)(a:AV)(h:FO x a):aG true 2 a=true∧closed a=true:=by
 unfold FO at h; subst h
 exact⟨by simp[aG,tQ,qL,tR],by simp[closed,aZ]⟩
theorem Xn(t:Nat)(x:den t)(a:AV)(H:ah den)(h:rp t x a):R T H (up t x) a:=by
 unfold rp at h
 split at h
 ·exact uL (T:=T) h
 ·exact uL (T:=T) h
 ·exact uL (T:=T) h
 ·exact uL (T:=T) h
 ·exact uL (T:=T) h
 ·exact uG (T:=T) (e:=3) h
 ·exact uG (T:=T) (e:=22) h
 ·exact TA _ _ H h
 ·exact TA _ _ H h
 ·exact uG (T:=T) (e:=35) h
 ·exact uL (T:=T) h
 ·exact TD _ _ H h
 ·exact TD _ _ H h
 ·exact uG (T:=T) (e:=73) h
 ·exact uG (T:=T) (e:=4) h
 ·exact QM _ _ H h
 ·exact QM _ _ H h
 ·exact uG (T:=T) (e:=82) h
 ·exact uL (T:=T) h
 ·exact uL (T:=T) h
 ·exact uL (T:=T) h
 ·exact uL (T:=T) h
 ·exact TG _ _ H h
 ·exact TG _ _ H h
 ·exact TI _ _ H h
 ·exact TI _ _ H h
 ·exact uL (T:=T) h
 ·exact uL (T:=T) h
 ·exact uL (T:=T) h
 ·exact uL (T:=T) h
 ·exact uP (T:=T) (fun b hb=>QM _ _ H hb) rfl h
 ·exact h.elim
theorem Xo(t:Nat)(v:V)(x:den t)(a:AV)(H:ah den)(h:dn t v=some x)(hr:R T H v a):rp t x a:=by
 revert x h hr
 refine dn.fun_cases_unfolding (motive:=fun t v r=>∀ (x:den t),r=some x→R T H v a→rp t x a) ?_ ?_ ?_ ?_ ?_ ?_ ?_ ?_ ?_ ?_ ?_ ?_ ?_ ?_ ?_ ?_ ?_ ?_ ?_ ?_ ?_ ?_ ?_ ?_ ?_ ?_ ?_ ?_ ?_ ?_ ?_ ?_ t v
 ·intro v x h hr; exact eQ (T:=T) h hr
 ·intro v x h hr; exact eQ (T:=T) h hr
 ·intro v x h hr; exact Lx (T:=T) h hr
 ·intro v x h hr; exact eQ (T:=T) h hr
 ·intro v x h hr; exact Tk (T:=T) h hr
 ·intro v x h hr; exact gf (T:=T) (e:=3) (fun _ _ _ h hr=>eQ (T:=T) h hr) h hr
 ·intro v x h hr; exact gf (T:=T) (e:=22) (fun _ _ _ h hr=>gf (T:=T) (e:=3) (fun _ _ _ h hr=>eQ (T:=T) h hr) h hr) h hr
 ·intro v x h hr; exact TB _ _ _ H h hr
 ·intro v x h hr; exact TB _ _ _ H h hr
 ·intro v x h hr; exact gf (T:=T) (e:=35) (fun _ _ _ h hr=>Oc _ _ _ H h hr) h hr
 ·intro v x h hr; exact eQ (T:=T) h hr
 ·intro v x h hr; exact Oc _ _ _ H h hr
 ·intro v x h hr; exact Oc _ _ _ H h hr
 ·intro v x h hr; exact gf (T:=T) (e:=73) (fun _ _ _ h hr=>eQ (T:=T) h hr) h hr
 ·intro v x h hr; exact gf (T:=T) (e:=4) (fun _ _ _ h hr=>Lx (T:=T) h hr) h hr
 ·intro v x h hr; exact QN _ _ _ H h hr
 ·intro v x h hr; exact QN _ _ _ H h hr
 ·intro v x h hr; exact gf (T:=T) (e:=82) (fun _ _ _ h hr=>QO _ _ _ H h hr) h hr
 ·intro v x h hr; exact eQ (T:=T) h hr
 ·intro v x h hr; exact eQ (T:=T) h hr
 ·intro v x h hr; exact eQ (T:=T) h hr
 ·intro v x h hr; exact eQ (T:=T) h hr
 ·intro v x h hr; exact QO _ _ _ H h hr
 ·intro v x h hr; exact QO _ _ _ H h hr
 ·intro v x h hr; exact TJ _ _ _ H h hr
 ·intro v x h hr; exact TJ _ _ _ H h hr
 ·intro v x h hr; exact eQ (T:=T) h hr
 ·intro v x h hr; exact eQ (T:=T) h hr
 ·intro v x h hr; exact eQ (T:=T) h hr
 ·intro v x h hr; exact eQ (T:=T) h hr
 ·intro v x h hr; exact QJ (T:=T) (fun _ _ h hr=>QN _ _ _ H h hr) h hr
 ·intros; rename_i h _; cases h
theorem TL(t:Nat)(x:den t)(a:AV)(h:rp t x a):aG (Tx t) (O9 t) a=true∧closed a=true:=by
 unfold rp at h
 split at h
 ·exact yE (eI h)
 ·exact yE (eI h)
 ·exact yE (eB h)
 ·exact yE (eI h)
 ·exact yE (eS h)
 ·exact yE (eG h)
 ·exact yE (eG h)
 ·exact TC _ _ h
 ·exact TC _ _ h
 ·exact yE (eG h)
 ·exact yE (eI h)
 ·exact TE _ _ h
 ·exact TE _ _ h
 ·exact yE (eG h)
 ·exact yE (eG h)
 ·exact TF _ _ h
 ·exact TF _ _ h
 ·exact yE (eG h)
 ·exact yE (eI h)
 ·exact yE (eI h)
 ·exact yE (eI h)
 ·exact yE (eI h)
 ·exact TH _ _ h
 ·exact TH _ _ h
 ·exact TK _ _ h
 ·exact TK _ _ h
 ·exact yE (eI h)
 ·exact yE (eI h)
 ·exact yE (eI h)
 ·exact yE (eI h)
 ·exact yE (eP h)
 ·exact h.elim
theorem TM(t:Nat)(f:(den t→Bool)×(den t→V)×(den t→V))(h:QL t=some f)(x:den t):(bif f.1 x then f.2.1 x else f.2.2 x)=up t x:=by
 unfold QL at h
 split at h
 ·cases h; rfl
 ·cases h; rfl
 ·cases h
theorem YD:T.Ok:=⟨fun t x a H h=>Xn t x a H h,fun t v x a H h hr=>Xo t v x a H h hr,fun t x a h=>(TL t x a h).1,fun t x a h=>(TL t x a h).2,fun t f h x=>TM t f h x⟩
theorem Qk:gM.Ok ⟨Try.prog,Bl,fun _=>false⟩:=gM.Ok.of (by kernel_rfl) (by kernel_rfl) (by kernel_rfl) (by kernel_rfl) (by kernel_rfl)
def ZP(q:Nat×jX):Prop:=∀ z za,Pa q.1=some z→q.2.zero=some za→rp q.1 z za
theorem YE:T.tJ ⟨Try.prog,Bl,fun _=>false⟩:=by
 intro t m z za h1 h2 h3
 have hm:=gA h1
 have all:∀ q,q∈Bl→ZP q:=by
  unfold Bl
  intro q hq
  simp only[List.mem_cons,List.not_mem_nil,or_false]at hq
  rcases hq with rfl|rfl|rfl|rfl|rfl|rfl|rfl|rfl|rfl|rfl|rfl|rfl|rfl|rfl|rfl|rfl|rfl|rfl|rfl|rfl|rfl|rfl|rfl|rfl|rfl|rfl|rfl|rfl|rfl|rfl|rfl|rfl|rfl|rfl|rfl|rfl|rfl|rfl|rfl|rfl|rfl|rfl|rfl|rfl|rfl|rfl|rfl|rfl|rfl|rfl|rfl|rfl|rfl|rfl|rfl|rfl|rfl|rfl|rfl|rfl|rfl|rfl|rfl|rfl|rfl|rfl|rfl|rfl|rfl|rfl|rfl|rfl|rfl|rfl|rfl|rfl|rfl|rfl|rfl|rfl|rfl|rfl|rfl|rfl|rfl|rfl|rfl|rfl|rfl|rfl|rfl|rfl|rfl|rfl|rfl|rfl|rfl|rfl|rfl|rfl|rfl|rfl|rfl|rfl|rfl|rfl|rfl|rfl|rfl|rfl|rfl|rfl|rfl|rfl|rfl|rfl|rfl|rfl|rfl|rfl|rfl|rfl|rfl|rfl|rfl|rfl|rfl|rfl|rfl|rfl|rfl
  ·exact fun _ _ h _=>zn h
  ·exact fun _ _ h1 h2=>zz h1 h2 (rfl)
  ·exact fun _ _ h1 h2=>zz h1 h2 (rfl)
  ·exact fun _ _ h1 h2=>zz h1 h2 (rfl)
  ·exact fun _ _ h1 h2=>zz h1 h2 (rfl)
  ·exact fun _ _ h _=>zn h
  ·exact fun _ _ h _=>zn h
  ·exact fun _ _ h _=>zn h
  ·exact fun _ _ h1 h2=>zz h1 h2 (rfl)
  ·exact fun _ _ h _=>zn h
  ·exact fun _ _ h _=>zn h
  ·exact fun _ _ h _=>zn h
  ·exact fun _ _ h _=>zn h
  ·exact fun _ _ h _=>zn h
  ·exact fun _ _ h _=>zn h
  ·exact fun _ _ h _=>zn h
  ·exact fun _ _ h _=>zn h
  ·exact fun _ _ h _=>zn h
  ·exact fun _ _ h _=>zn h
  ·exact fun _ _ h _=>zn h
  ·exact fun _ _ h _=>zn h
  ·exact fun _ _ h1 h2=>zz h1 h2 (.inr ⟨rfl,rfl⟩)
  ·exact fun _ _ h1 h2=>zz h1 h2 (.inr ⟨rfl,rfl⟩)
  ·exact fun _ _ h1 h2=>zz h1 h2 (⟨_,_,_,.inr ⟨rfl,rfl⟩,.inr ⟨rfl,rfl⟩,.inr ⟨rfl,rfl⟩,rfl⟩)
  ·exact fun _ _ h1 h2=>zz h1 h2 (⟨_,_,_,.inr ⟨rfl,rfl⟩,.inr ⟨rfl,rfl⟩,.inr ⟨rfl,rfl⟩,rfl⟩)
  ·exact fun _ _ h1 h2=>zz h1 h2 (.inr ⟨rfl,rfl⟩)
  ·exact fun _ _ h _=>zn h
  ·exact fun _ _ h _=>zn h
  ·exact fun _ _ h1 h2=>zz h1 h2 (rfl)
  ·exact fun _ _ h _=>zn h
  ·exact fun _ _ h _=>zn h
  ·exact fun _ _ h _=>zn h
  ·exact fun _ _ h1 h2=>zz h1 h2 (rfl)
  ·exact fun _ _ h1 h2=>zz h1 h2 (rfl)
  ·exact fun _ _ h1 h2=>zz h1 h2 (.inr ⟨rfl,rfl⟩)
  ·exact fun _ _ h _=>zn h
  ·exact fun _ _ h _=>zn h
  ·exact fun _ _ h _=>zn h
  ·exact fun _ _ h _=>zn h
  ·exact fun _ _ h _=>zn h
  ·exact fun _ _ h _=>zn h
  ·exact fun _ _ h _=>zn h
  ·exact fun _ _ h _=>zn h
  ·exact fun _ _ h _=>zn h
  ·exact fun _ _ h _=>zn h
  ·exact fun _ _ h _=>zn h
  ·exact fun _ _ h _=>zn h
  ·exact fun _ _ h _=>zn h
  ·exact fun _ _ h _=>zn h
  ·exact fun _ _ h1 h2=>zz h1 h2 (.inr ⟨rfl,rfl⟩)
  ·exact fun _ _ h1 h2=>zz h1 h2 (⟨_,_,_,_,_,.inr ⟨rfl,rfl⟩,.inr ⟨rfl,rfl⟩,.inr ⟨rfl,rfl⟩,.inr ⟨rfl,rfl⟩,.inr ⟨rfl,rfl⟩,rfl⟩)
  ·exact fun _ _ h1 h2=>zz h1 h2 (⟨_,_,_,_,_,.inr ⟨rfl,rfl⟩,.inr ⟨rfl,rfl⟩,.inr ⟨rfl,rfl⟩,.inr ⟨rfl,rfl⟩,.inr ⟨rfl,rfl⟩,rfl⟩)
  ·exact fun _ _ h1 h2=>zz h1 h2 (.inr ⟨rfl,rfl⟩)
  ·exact fun _ _ h1 h2=>zz h1 h2 (rfl)
  ·exact fun _ _ h1 h2=>zz h1 h2 (rfl)
  ·exact fun _ _ h _=>zn h
  ·exact fun _ _ h _=>zn h
  ·exact fun _ _ h _=>zn h
  ·exact fun _ _ h _=>zn h
  ·exact fun _ _ h _=>zn h
  ·exact fun _ _ h _=>zn h
  ·exact fun _ _ h _=>zn h
  ·exact fun _ _ h _=>zn h
  ·exact fun _ _ h _=>zn h
  ·exact fun _ _ h _=>zn h
  ·exact fun _ _ h _=>zn h
  ·exact fun _ _ h _=>zn h
  ·exact fun _ _ h _=>zn h
  ·exact fun _ _ h1 h2=>zz h1 h2 (rfl)
  ·exact fun _ _ h _=>zn h
  ·exact fun _ _ h _=>zn h
  ·exact fun _ _ h _=>zn h
  ·exact fun _ _ h1 h2=>zz h1 h2 (rfl)
  ·exact fun _ _ h _=>zn h
  ·exact fun _ _ h _=>zn h
  ·exact fun _ _ h _=>zn h
  ·exact fun _ _ h _=>zn h
  ·exact fun _ _ h _=>zn h
  ·exact fun _ _ h _=>zn h
  ·exact fun _ _ h _=>zn h
  ·exact fun _ _ h1 h2=>zz h1 h2 (rfl)
  ·exact fun _ _ h1 h2=>zz h1 h2 (rfl)
  ·exact fun _ _ h _=>zn h
  ·exact fun _ _ h _=>zn h
  ·exact fun _ _ h _=>zn h
  ·exact fun _ _ h _=>zn h
  ·exact fun _ _ h _=>zn h
  ·exact fun _ _ h _=>zn h
  ·exact fun _ _ h _=>zn h
  ·exact fun _ _ h _=>zn h
  ·exact fun _ _ h1 h2=>zz h1 h2 (rfl)
  ·exact fun _ _ h _=>zn h
  ·exact fun _ _ h _=>zn h
  ·exact fun _ _ h _=>zn h
  ·exact fun _ _ h _=>zn h
  ·exact fun _ _ h _=>zn h
  ·exact fun _ _ h1 h2=>zz h1 h2 (rfl)
  ·exact fun _ _ h _=>zn h
  ·exact fun _ _ h1 h2=>zz h1 h2 (rfl)
  ·exact fun _ _ h _=>zn h
  ·exact fun _ _ h _=>zn h
  ·exact fun _ _ h _=>zn h
  ·exact fun _ _ h _=>zn h
  ·exact fun _ _ h _=>zn h
  ·exact fun _ _ h _=>zn h
  ·exact fun _ _ h _=>zn h
  ·exact fun _ _ h _=>zn h
  ·exact fun _ _ h1 h2=>zz h1 h2 (rfl)
  ·exact fun _ _ h _=>zn h
  ·exact fun _ _ h _=>zn h
  ·exact fun _ _ h _=>zn h
  ·exact fun _ _ h _=>zn h
  ·exact fun _ _ h _=>zn h
  ·exact fun _ _ h _=>zn h
  ·exact fun _ _ h _=>zn h
  ·exact fun _ _ h _=>zn h
  ·exact fun _ _ h _=>zn h
  ·exact fun _ _ h _=>zn h
  ·exact fun _ _ h _=>zn h
  ·exact fun _ _ h _=>zn h
  ·exact fun _ _ h _=>zn h
  ·exact fun _ _ h _=>zn h
  ·exact fun _ _ h _=>zn h
  ·exact fun _ _ h _=>zn h
  ·exact fun _ _ h _=>zn h
  ·exact fun _ _ h _=>zn h
  ·exact fun _ _ h _=>zn h
  ·exact fun _ _ h _=>zn h
  ·exact fun _ _ h _=>zn h
  ·exact fun _ _ h _=>zn h
  ·exact fun _ _ h _=>zn h
 exact all _ hm z za h3 h2
theorem Xp:Try.prog.underlying 3=some (.int .i64):=by kernel_rfl
def Xq(x:Int):Prop:=IntKind.min .i64≤x∧x≤IntKind.max .i64
theorem sh3{n:Nat}{l:List AV}(h:Shape Try.prog n 3 l):∃ x,Xq x∧∃ a,l=[a]∧Ms x a:=by
 obtain⟨m,rfl,h1⟩:=Ap Xp h
 exact⟨m,h1,_,rfl,rfl⟩
theorem Xr:Try.prog.underlying 22=some (.slice 3):=by kernel_rfl
theorem Xs:(Try.prog.underlying 3).isSome=true:=by kernel_rfl
theorem Xt:(Try.prog.underlying 3).map dQ=some false:=by kernel_rfl
theorem Xu:Try.prog.underlying 3=Try.prog.underlying 3:=by kernel_rfl
def LD(x:List Int):Prop:=x.length≤maxLen∧∀ y,y∈x→Xq y
theorem QP{n:Nat}{l:List AV}(h:Shape Try.prog n 22 l):∃ x,LD x∧∃ a,l=[a]∧DU x a:=by
 obtain⟨d,hd⟩:=Option.isSome_iff_exists.1 Xs
 have oI:dQ d=false:=by have:=Xt; rw[hd]at this; simpa using this
 obtain⟨ys,xs,rfl,h1,h2⟩:=qc (Q:=fun y x=>Xq y∧Ms y x) Xr hd h (by
  rintro k x ⟨cl,h1,h2⟩
  rw[oI]at h1
  simp only[Bool.false_eq_true,if_false]at h1
  replace h2:=il Xu h2
  subst h1
  obtain⟨y,hy,a,ha,r⟩:=sh3 h2
  simp only[List.cons.injEq,and_true]at ha
  subst ha
  exact⟨y,hy,r⟩)
 refine⟨ys,⟨h2,?_⟩,_,rfl,.inl ⟨xs,rfl,h1.mono fun _ _ h=>h.2⟩⟩
 intro y hy
 obtain⟨i,hi⟩:=List.getElem?_of_mem hy
 obtain⟨_,_,h3⟩:=h1.get hi
 exact h3.1
theorem Xv:Try.prog.underlying 23=some (.slice 22):=by kernel_rfl
theorem Xw:(Try.prog.underlying 22).isSome=true:=by kernel_rfl
theorem Xx:(Try.prog.underlying 22).map dQ=some false:=by kernel_rfl
theorem Xy:Try.prog.underlying 22=Try.prog.underlying 22:=by kernel_rfl
def TN(x:List (List Int)):Prop:=x.length≤maxLen∧∀ y,y∈x→LD y
theorem Xz{n:Nat}{l:List AV}(h:Shape Try.prog n 23 l):∃ x,TN x∧∃ a,l=[a]∧N4 x a:=by
 obtain⟨d,hd⟩:=Option.isSome_iff_exists.1 Xw
 have oI:dQ d=false:=by have:=Xx; rw[hd]at this; simpa using this
 obtain⟨ys,xs,rfl,h1,h2⟩:=qc (Q:=fun y x=>LD y∧DU y x) Xv hd h (by
  rintro k x ⟨cl,h1,h2⟩
  rw[oI]at h1
  simp only[Bool.false_eq_true,if_false]at h1
  replace h2:=il Xy h2
  subst h1
  obtain⟨y,hy,a,ha,r⟩:=QP h2
  simp only[List.cons.injEq,and_true]at ha
  subst ha
  exact⟨y,hy,r⟩)
 refine⟨ys,⟨h2,?_⟩,_,rfl,.inl ⟨xs,rfl,h1.mono fun _ _ h=>h.2⟩⟩
 intro y hy
 obtain⟨i,hi⟩:=List.getElem?_of_mem hy
 obtain⟨_,_,h3⟩:=h1.get hi
 exact h3.1
def XA(x:bN):Prop:=LD x.aA∧TN x.af∧LD x.aH
theorem QQ:Try.prog.underlying 22=Try.prog.underlying 22:=by kernel_rfl
theorem QR:Try.prog.underlying 23=Try.prog.underlying 23:=by kernel_rfl
theorem QS:Try.prog.underlying 22=Try.prog.underlying 22:=by kernel_rfl
theorem W1{n:Nat}{l:List AV}(h:Shape Try.prog n 24 l):∃ x,XA x∧Iq x (.agg l):=by
 obtain⟨hl,k,hf⟩:=BB Qk (t:=24) rfl rfl h
 rw[oE Qk (t:=24) rfl]at hl
 have h0:=hf (0,22) (by simp)
 rw[oE Qk (t:=22) rfl]at h0
 replace h0:=il (QQ) h0
 have h1:=hf (1,23) (by simp)
 rw[oE Qk (t:=23) rfl]at h1
 replace h1:=il (QR) h1
 have h2:=hf (2,22) (by simp)
 rw[oE Qk (t:=22) rfl]at h2
 replace h2:=il (QS) h2
 match l,hl with
 |[a0,a1,a2],_=>
  replace h0:Shape Try.prog k 22 [a0]:=h0
  obtain⟨x0,w0,b0,e0,r0⟩:=QP h0
  simp only[List.cons.injEq,and_true]at e0
  subst e0
  have s0:=r0
  replace h1:Shape Try.prog k 23 [a1]:=h1
  obtain⟨x1,w1,b1,e1,r1⟩:=Xz h1
  simp only[List.cons.injEq,and_true]at e1
  subst e1
  have s1:=r1
  replace h2:Shape Try.prog k 22 [a2]:=h2
  obtain⟨x2,w2,b2,e2,r2⟩:=QP h2
  simp only[List.cons.injEq,and_true]at e2
  subst e2
  have s2:=r2
  exact⟨⟨x0,x1,x2⟩,⟨w0,w1,w2⟩,⟨_,_,_,s0,s1,s2,rfl⟩⟩
theorem XB:Try.prog.underlying 73=some (.int .u16):=by kernel_rfl
def QT(x:Int):Prop:=IntKind.min .u16≤x∧x≤IntKind.max .u16
theorem XC{n:Nat}{l:List AV}(h:Shape Try.prog n 73 l):∃ x,QT x∧∃ a,l=[a]∧N8 x a:=by
 obtain⟨m,rfl,h1⟩:=Ap XB h
 exact⟨m,h1,_,rfl,rfl⟩
theorem XD:Try.prog.underlying 36=some (.slice 73):=by kernel_rfl
theorem XE:(Try.prog.underlying 73).isSome=true:=by kernel_rfl
theorem XF:(Try.prog.underlying 73).map dQ=some false:=by kernel_rfl
theorem XG:Try.prog.underlying 73=Try.prog.underlying 73:=by kernel_rfl
def XH(x:List Int):Prop:=x.length≤maxLen∧∀ y,y∈x→QT y
theorem W2{n:Nat}{l:List AV}(h:Shape Try.prog n 36 l):∃ x,XH x∧∃ a,l=[a]∧Tp x a:=by
 obtain⟨d,hd⟩:=Option.isSome_iff_exists.1 XE
 have oI:dQ d=false:=by have:=XF; rw[hd]at this; simpa using this
 obtain⟨ys,xs,rfl,h1,h2⟩:=qc (Q:=fun y x=>QT y∧N8 y x) XD hd h (by
  rintro k x ⟨cl,h1,h2⟩
  rw[oI]at h1
  simp only[Bool.false_eq_true,if_false]at h1
  replace h2:=il XG h2
  subst h1
  obtain⟨y,hy,a,ha,r⟩:=XC h2
  simp only[List.cons.injEq,and_true]at ha
  subst ha
  exact⟨y,hy,r⟩)
 refine⟨ys,⟨h2,?_⟩,_,rfl,.inl ⟨xs,rfl,h1.mono fun _ _ h=>h.2⟩⟩
 intro y hy
 obtain⟨i,hi⟩:=List.getElem?_of_mem hy
 obtain⟨_,_,h3⟩:=h1.get hi
 exact h3.1
end Go.Proofs.Ytedjbjphpnkpoaa
end
section
/- Copies of slices in this seat: what the library's functions come to (printed by gen_lib.py). -/
namespace Go.Proofs.Ytedjbjphpnkpoaa.qb
open Go.PI
noncomputable def C0:Ctx where
 P:=Try.prog
 kind:=fun f=>if f=61 then .imp else .pure
 kp:=fun _=>none
 acc:=fun _ _=>false
instance:jG C0:=⟨rfl,rfl⟩
noncomputable def R(t:Nat):bG:=(fb Try.prog t).getD ⟨.bool,0,0,none,false⟩
theorem Iu:aO C0.P 22=some (R 3):=by kernel_rfl
theorem Iv:bW C0.P 22=true:=by kernel_rfl
theorem XK:(cj (R 3)).isSome=true:=by kernel_rfl
theorem UJ:(R 3).size=1:=by kernel_rfl
theorem ag3:(R 3).isAgg=false:=by kernel_rfl
theorem by3:(R 3).bytes=8:=by kernel_rfl
theorem XL:C0.P.funcs[61]?=some Try.f61:=by kernel_rfl
theorem TO:bW C0.P 23=true:=by kernel_rfl
theorem st3:bW C0.P 3=false:=by kernel_rfl
theorem Xp:C0.P.underlying 3=some (.int .i64):=by kernel_rfl
noncomputable def wg:AV:=(cj (R 3)).getD .undef
theorem zv3:cj (R 3)=some wg:=by kernel_rfl
theorem zo3:aG (R 3).isAgg (R 3).size wg=true:=by kernel_rfl
theorem Iw:kv C0 61 [.lit cK,int 0] []=some (.val (.lit cK),[]):=
 (bh (mi C0 61 [.lit cK,int 0] [])).2 ⟨100,by kernel_rfl⟩
theorem LJ(n:Nat)(hn:0<n)(h1:n*(R 3).bytes≤2^44)(h2:n≤2^44):kv C0 61 [.lit cK,int n] []=some (.val (.bq (R 3).size 0 n 0 0 none),[some (.arr true true false (List.replicate n wg))]):=by
 rw[AF (fn:=Try.f61) XL rfl]
 have zb:∀ f d,C0.acc f d=false:=fun _ _=>rfl
 have hr:0<(R 3).size:=by rw[UJ]; decide
 have hw:IntKind.i64.wrap ((n:Int)-0)=(n:Int):=by rw[IntWalk.i64_in _ (by omega)]; omega
 have TY:IntKind.i64.wrap (0-0)=(0:Int):=by decide
 have QU:¬((n:Int)<0):=by omega
 have dT:(0:Int)<(n:Int):=by omega
 have Hz:Option.map (ay [AV.lit cK]) none=(none:Option AV):=rfl
 simp (decide:=true) only [Try.f61,DX,zb,Od Iv,Oe Iv,LH,Of,Og Iu,Oh Iu hn,LF,LI Iu st3 Xp zv3 hr zo3 hn h1 h2,hw,TY,QU,dT,bol,Option.map_none,gT,jc,pz,eV,List.map_cons,List.map_nil,eb,kc,n4,pB,JI,lB,pC,nZ,kZ,xw,ay,nO,gP,gD,bC,eX,EJ,AQ,kP,JK,qj,Gg,Gh,dt,xb,Ch,Gk,Gl,Gj,List.getElem?_toArray,List.replicate_succ,List.replicate_zero,Nat.reduceSub,Nat.reduceAdd,Option.bind_some,Option.map_some,decide_true,decide_false,EH,List.length_nil,List.length_cons,List.nil_append,List.cons_append,Nat.zero_add,Mx,My,Mz,MA,kY,qe]
theorem Te:C0.P.funcs[40]?=some Try.f40:=by kernel_rfl
theorem XM:fb C0.P 22=some (R 22):=by kernel_rfl
theorem TP:(R 22).isAgg=false:=by kernel_rfl
theorem TQ:(R 22).size=1:=by kernel_rfl
theorem XN:aO C0.P 23=some (R 22):=by kernel_rfl
theorem XO:arrayElem C0.P 23=none:=by kernel_rfl
theorem TR{nm:Nat}{ev:Operand→AV}{dst:Option Tmp}{type:TypeId}{pos:String}{after:Array Edge}{guard:Option (Nat×Bool)}{hp:ag}{x:Operand}:
  (aK C0.P nm ev ⟨dst,.load 22 x,type,pos,after,guard⟩).run hp=JL (Gn false 1 hp (ev x)):=by rw[MW XM,MY TP TQ]
theorem TS(x ix:AV):eT C0.P 23 x ix=(asNat ix).bind fun i=>np false 1 i x:=by rw[JP XN XO,TP,TQ]
def I1(ls:List (List AV))(k:Nat)(s:St):Prop:=
 ∃ (i:Nat) (j1 j4 j5 j6 j7 j8 LK LL LM LN LO LP LQ LR LS LU LV LW LX TT TU Pb LY LZ L0 L1 L2 L3 L4 L5:AV),k=ls.length-i∧i≤ls.length∧s=⟨40,[.sl (ls.map .sl),j1,.lit cK,int ((ls.take i).flatten.length:Nat),j4,j5,j6,j7,j8,.sl (ls.map .sl),int ls.length,int i,LK,LL,LM,LN,LO,LP,LQ,LR,LS,LU,LV,LW,LX,TT,TU,Pb,LY,LZ,L0,L1,L2,L3,L4,L5],[]⟩
def P1(ls:List (List AV))(o:Out):Prop:=
 ∃ (Pc j1 j4 j5 j6 j7 j8 LK LL LM LN LO LP LQ LR LS LU LV LW LX TT TU Pb LY LZ L0 L1 L2 L3 L4 L5:AV),o=.exit 0 ⟨40,[.sl (ls.map .sl),j1,.lit cK,int (ls.flatten.length:Nat),j4,j5,j6,j7,j8,.sl (ls.map .sl),int ls.length,Pc,LK,LL,LM,LN,LO,LP,LQ,LR,LS,LU,LV,LW,LX,TT,TU,Pb,LY,LZ,L0,L1,L2,L3,L4,L5],[]⟩
theorem G5{α:Type}(ls:List (List α))(i:Nat):(ls.take i).flatten.length≤ls.flatten.length:=by
 have h:ls.flatten.length=(ls.take i).flatten.length+(ls.drop i).flatten.length:=by
  rw[←List.length_append,←List.flatten_append,List.take_append_drop]
 omega
theorem Ar{α:Type}(ls:List (List α))(i:Nat)(h:i<ls.length):(ls.take (i+1)).flatten=(ls.take i).flatten++ls[i]:=by
 rw[List.take_succ_eq_append_getElem h,List.flatten_append]; simp only[List.flatten_cons,List.flatten_nil,List.append_nil]
noncomputable def cur(ls:List (List AV))(i:Nat):AV:=if ls.flatten.length=0 then .lit cK else .bq (R 3).size 0 ls.flatten.length 0 (ls.take i).flatten.length none
noncomputable def sC(ls:List (List AV))(i:Nat):ag:=if ls.flatten.length=0 then [] else [some (.arr true true false ((ls.take i).flatten++List.replicate (ls.flatten.length-(ls.take i).flatten.length) wg))]
theorem L6(ls:List (List AV))(h1:ls.flatten.length*(R 3).bytes≤2^44)(h2:ls.flatten.length≤2^44):kv C0 61 [.lit (.slice none 0 0),int ls.flatten.length] []=some (.val (cur ls 0),sC ls 0):=by
 unfold cur sC
 by_cases h:ls.flatten.length=0
 ·rw[if_pos h,if_pos h,h]; exact Iw
 ·rw[if_neg h,if_neg h]
  simpa using LJ _ (by omega) h1 h2
theorem Ix(ls:List (List AV))(i:Nat):gJ 0 (cur ls i) (sC ls i)=sC ls i:=by
 unfold cur sC gJ
 by_cases h:ls.flatten.length=0
 ·rw[if_pos h,if_pos h]; simp
 ·rw[if_neg h,if_neg h]; simp[below]
theorem FQ(ls:List (List AV))(i:Nat):forget (sC ls i).length (cur ls (i+1))=cur ls (i+1):=by
 apply Hr
 unfold cur sC
 by_cases h:ls.flatten.length=0
 ·rw[if_pos h,if_pos h]; rfl
 ·rw[if_neg h,if_neg h]; simp[below]
theorem Iy(ls:List (List AV))(i:Nat)(f:Nat)(fr:List AV):gI (sC ls i).length ⟨f,fr,sC ls (i+1)⟩=⟨f,fr.map (forget (sC ls i).length),sC ls (i+1)⟩:=by
 have hl:(sC ls i).length=(sC ls (i+1)).length:=by
  unfold sC
  by_cases h:ls.flatten.length=0
  ·rw[if_pos h,if_pos h]
  ·rw[if_neg h,if_neg h]; rfl
 have ht:(sC ls (i+1)).take (sC ls i).length=sC ls (i+1):=by rw[hl]; exact List.take_length
 rw[Ci]
 ·simp only[ht]
 ·simp only[ht]
  unfold sC
  by_cases h:ls.flatten.length=0
  ·rw[if_pos h]; rfl
  ·rw[if_neg h]; rfl
theorem BC(a ys:List AV)(k:Nat)(z:AV)(h:ys.length≤k):bw (a++List.replicate k z) a.length ys=a++ys++List.replicate (k-ys.length) z:=by
 induction ys generalizing a k with
 |nil=>simp[bw]
 |cons y ys ih=>
  obtain⟨k,rfl⟩:∃ m,k=m+1:=⟨k-1,by simp at h; omega⟩
  have:=ih (a++[y]) k (by simp at h; omega)
  simp only[bw,List.replicate_succ]
  simp only[List.length_append,List.length_cons,List.length_nil]at this
  rw[List.set_append_right _ _ (Nat.le_refl _),Nat.sub_self,List.set_cons_zero]
  simpa[List.append_assoc] using this
theorem Oi(ls:List (List AV))(i:Nat)(hi:i<ls.length)(bg:ls[i].all (aG (R 3).isAgg (R 3).size)=true):
  ∃ wr,(∀ nm,(fE C0.P nm 22 22 (cur ls i) (.sl ls[i])).run (sC ls i)=some ⟨cur ls (i+1),wr⟩)∧ak (sC ls i) wr=sC ls (i+1):=by
 have hr:0<(R 3).size:=by rw[UJ]; decide
 have hf:=Ar ls i hi
 have hle:=G5 ls (i+1)
 have hlen:(ls.take (i+1)).flatten.length=(ls.take i).flatten.length+ls[i].length:=by rw[hf,List.length_append]
 by_cases h:ls.flatten.length=0
 ·have he:ls[i]=[]:=List.length_eq_zero_iff.1 (by omega)
  refine⟨[],fun nm=>?_,?_⟩
  ·unfold cur sC
   rw[if_pos h,if_pos h,if_pos h,he]
   simp[fE,Iu,wi,Iv,fN,RM.run_bind,RM.run_pure,XK,hr]
  ·unfold sC; rw[if_pos h,if_pos h]; rfl
 ·by_cases he:ls[i]=[]
  ·have wA:ls[i].length=0:=by rw[he]; rfl
   rw[wA]at hlen
   have iC:(ls.take (i+1)).flatten=(ls.take i).flatten:=by rw[hf,he,List.append_nil]
   refine⟨[],fun nm=>?_,?_⟩
   ·unfold cur sC
    rw[if_neg h,if_neg h,if_neg h,he,iC]
    simp[fE,Iu,wi,Iv,fN,RM.run_bind,RM.run_pure,XK,hr]
   ·unfold sC; rw[if_neg h,if_neg h,iC]; rfl
  ·have dN:ls[i].isEmpty=false:=by cases hq:ls[i]<;>simp_all
   have cC:((ls.take i).flatten++List.replicate (ls.flatten.length-(ls.take i).flatten.length) wg).length=ls.flatten.length:=by
    rw[List.length_append,List.length_replicate]; omega
   refine⟨[(0,.arr true true false ((ls.take (i+1)).flatten++List.replicate (ls.flatten.length-(ls.take (i+1)).flatten.length) wg))],fun nm=>?_,?_⟩
   ·unfold cur sC
    rw[if_neg h,if_neg h,if_neg h]
    have ho:=RM.xA (hp:=[some (.arr true true false ((ls.take i).flatten++List.replicate (ls.flatten.length-(ls.take i).flatten.length) wg))]) (n:=0) rfl
    rw[cC]at ho
    have Dm:=BC (ls.take i).flatten ls[i] (ls.flatten.length-(ls.take i).flatten.length) wg (by omega)
    simp only[fE,Iu,wi,Iv,fN,RM.run_bind,RM.run_pure,Option.bind_some,XK,hr,bg,decide_true,Bool.and_self,dN,ho]
    rw[if_neg (by rintro (h1|h1|h1); (exact absurd h1 (by decide)); (rw[cC]at h1; omega); (exact h1 rfl)),if_pos (by simp only[Option.getD_none]; omega),if_pos (by rw[cC]; omega)]
    simp only[RM.run_pure,Nat.zero_add,Dm,hlen,←hf]
    rw[Nat.sub_sub]
   ·unfold sC; rw[if_neg h,if_neg h]; rfl
def I2(ls:List (List AV))(k:Nat)(s:St):Prop:=
 ∃ (i:Nat) (j1 j4 j5 j7 j8 j9 TW Pc LK LL LM LN LO LP LQ LR LS LU LV LW LX LY LZ L0 L1 L2 L3 L4 L5:AV),k=ls.length-i∧i≤ls.length∧s=⟨40,[.sl (ls.map .sl),j1,.lit cK,int (ls.flatten.length:Nat),j4,j5,cur ls i,j7,j8,j9,TW,Pc,LK,LL,LM,LN,LO,LP,LQ,LR,LS,LU,LV,LW,LX,.sl (ls.map .sl),int ls.length,int i,LY,LZ,L0,L1,L2,L3,L4,L5],sC ls i⟩
def P2(ls:List (List AV))(o:Out):Prop:=
 ∃ (Pb j1 j4 j5 j7 j8 j9 TW Pc LK LL LM LN LO LP LQ LR LS LU LV LW LX LY LZ L0 L1 L2 L3 L4 L5:AV),o=.exit 2 ⟨40,[.sl (ls.map .sl),j1,.lit cK,int (ls.flatten.length:Nat),j4,j5,cur ls ls.length,j7,j8,j9,TW,Pc,LK,LL,LM,LN,LO,LP,LQ,LR,LS,LU,LV,LW,LX,.sl (ls.map .sl),int ls.length,Pb,LY,LZ,L0,L1,L2,L3,L4,L5],sC ls ls.length⟩
theorem FI(ls:List (List AV))(hn:ls.length≤2^44)(bg:∀ l∈ls,l.all (aG (R 3).isAgg (R 3).size)=true)(SU:ls.flatten.length*(R 3).bytes≤2^44)(hT:ls.flatten.length≤2^44):∃ res hX,kv C0 40 [.sl (ls.map .sl)] []=some (.val res,hX)∧(aX 1000 res).run hX=some (.sl ls.flatten):=by
 have key:kv C0 40 [.sl (ls.map .sl)] []=some (.val (cur ls ls.length),sC ls ls.length):=by
  rw[AF (fn:=Try.f40) Te rfl]
  have zb:∀ f d,C0.acc f d=false:=fun _ _=>rfl
  have hr:0<(R 3).size:=by rw[UJ]; decide
  simp (decide:=true) only [Try.f40,DX,zb,EL TO,List.length_map,gT,jc,pz,eV,List.map_cons,List.map_nil,eb,kc,n4,lB,JJ,nZ,kZ,ay,nO,gP,gD,bC,eX,kP,dt,List.getElem?_toArray,List.replicate_succ,List.replicate_zero,Nat.reduceSub,Option.bind_some,List.length_nil,List.length_cons,List.nil_append,List.cons_append,Nat.zero_add,Mx,My,Mz,MA,lz,Option.bind_assoc,AR]
  refine zE (I1 ls) (P1 ls) ls.length ?_ ?_ ?_
  ·exact⟨0,_,_,_,_,_,_,_,_,_,_,_,_,_,_,_,_,_,_,_,_,_,_,_,_,_,_,_,_,_,_,rfl,Nat.zero_le _,rfl⟩
  ·rintro k s ⟨i,j1,j4,j5,j6,j7,j8,LK,LL,LM,LN,LO,LP,LQ,LR,LS,LU,LV,LW,LX,TT,TU,Pb,LY,LZ,L0,L1,L2,L3,L4,L5,hk,hi,rfl⟩
   have L7:IntKind.i64.wrap ((i:Int)+1)=((i+1:Nat):Int):=by
    rw[IntWalk.i64_in _ (by omega)]; omega
   by_cases bQ:i<ls.length
   ·have nk:(ls.map AV.sl)[i]?=some (.sl ls[i]):=by simp[bQ]
    have bL:aG false 1 (.sl ls[i])=true:=by simp[aG,ba]
    have hp0:eM false 1 (.sl ls[i]) 0=some (.sl ls[i]):=by simp[eM,ba]
    have xD:((i:Int)<(ls.length:Int)):=by omega
    have hf:=Ar ls i bQ
    have hle:=G5 ls (i+1)
    have hlen:(ls.take (i+1)).flatten.length=(ls.take i).flatten.length+ls[i].length:=by rw[hf,List.length_append]
    have kK:IntKind.i64.wrap (((ls.take i).flatten.length:Int)+(ls[i].length:Int))=(((ls.take (i+1)).flatten.length:Nat):Int):=by
     rw[IntWalk.i64_in _ (by omega)]; omega
    have QU:¬(((ls.take (i+1)).flatten.length:Int)<0):=by omega
    left
    refine⟨_,by simp (decide:=true) only [nk,bL,xD,L7,kK,QU,TR,TS,EL Iv,bol,gT,jc,pz,eV,List.map_cons,List.map_nil,eb,kc,n4,Gi,pB,ta,lB,pC,nZ,kZ,xw,ay,nO,gP,gD,bC,eX,EJ,AQ,kP,qj,AO,dt,List.getElem?_toArray,Option.bind_some,Option.map_some,decide_true,decide_false,List.length_nil,ba,JL,eM,if_true,Mx,My,Mz,MA,lz,kY,vz,tb,rM,np,Gn,qe,AR]; rfl,ls.length-(i+1),by omega,?_⟩
    rw[Ci (by simp)]
    exact⟨i+1,_,_,_,_,_,_,_,_,_,_,_,_,_,_,_,_,_,_,_,_,_,_,_,_,_,_,_,_,_,_,rfl,by omega,rfl⟩
   ·have xD:¬((i:Int)<(ls.length:Int)):=by omega
    have QB:i=ls.length:=by omega
    right
    refine⟨_,by simp (decide:=true) only [xD,bol,gT,jc,pz,eV,List.map_cons,List.map_nil,eb,kc,pB,xw,ay,gD,bC,eX,AQ,kP,qj,dt,tc,List.getElem?_toArray,Option.bind_some,Option.map_some,decide_false,List.length_nil,Mx,My,Mz,MA,kY,uh]; rfl,by simp,?_⟩
    have:ls.take i=ls:=by rw[QB]; exact List.take_length
    rw[this]
    exact⟨_,_,_,_,_,_,_,_,_,_,_,_,_,_,_,_,_,_,_,_,_,_,_,_,_,_,_,_,_,_,_,rfl⟩
  ·rintro o ⟨Pc,j1,j4,j5,j6,j7,j8,LK,LL,LM,LN,LO,LP,LQ,LR,LS,LU,LV,LW,LX,TT,TU,Pb,LY,LZ,L0,L1,L2,L3,L4,L5,rfl⟩
   simp (decide:=true) only [gT,jc,pz,eV,List.map_cons,List.map_nil,eb,n4,nZ,ay,nO,gP,gD,bC,eX,kP,dt,List.getElem?_toArray,Option.bind_some,List.length_nil,ni,EI,Mx,My,Mz,MA,zG,Option.bind_assoc]
   have XP:C0.kind 61=.imp:=rfl
   have TX:∀ a t,au (Op.call ⟨.value (.func 61),a,t⟩)=false:=fun _ _=>rfl
   simp only[nU,rh,TX,XP]
   rw[L6 ls SU hT]
   simp only[Option.bind_some,F8,List.length_nil,Ix]
   simp (decide:=true) only [EL TO,List.length_map,gT,jc,pz,eV,List.map_cons,List.map_nil,eb,kc,n4,lB,pC,nZ,kZ,ay,nO,gP,gD,bC,eX,kP,dt,List.getElem?_toArray,Option.bind_some,Mx,My,Mz,MA,lz,Option.bind_assoc,AR]
   refine zE (I2 ls) (P2 ls) ls.length ?_ ?_ ?_
   ·exact⟨0,_,_,_,_,_,_,_,_,_,_,_,_,_,_,_,_,_,_,_,_,_,_,_,_,_,_,_,_,_,rfl,Nat.zero_le _,rfl⟩
   ·rintro k s ⟨i,j1,j4,j5,j7,j8,j9,TW,Pc,LK,LL,LM,LN,LO,LP,LQ,LR,LS,LU,LV,LW,LX,LY,LZ,L0,L1,L2,L3,L4,L5,hk,hi,rfl⟩
    have L7:IntKind.i64.wrap ((i:Int)+1)=((i+1:Nat):Int):=by
     rw[IntWalk.i64_in _ (by omega)]; omega
    by_cases bQ:i<ls.length
    ·have nk:(ls.map AV.sl)[i]?=some (.sl ls[i]):=by simp[bQ]
     have bL:aG false 1 (.sl ls[i])=true:=by simp[aG,ba]
     have hp0:eM false 1 (.sl ls[i]) 0=some (.sl ls[i]):=by simp[eM,ba]
     have xD:((i:Int)<(ls.length:Int)):=by omega
     obtain⟨wr,Vc,D6⟩:=Oi ls i bQ (bg _ (List.getElem_mem bQ))
     left
     refine⟨_,by simp (decide:=true) only [nk,bL,xD,L7,LF,Vc,D6,TR,TS,bol,gT,jc,pz,eV,List.map_cons,List.map_nil,eb,kc,n4,Gi,pB,ta,lB,pC,nZ,kZ,xw,ay,nO,gP,gD,bC,eX,EJ,kP,qj,AO,dt,List.getElem?_toArray,Option.bind_some,Option.map_some,decide_true,ba,JL,eM,if_true,Mx,My,Mz,MA,lz,kY,vz,tb,rM,np,Gn,qe]; rfl,ls.length-(i+1),by omega,?_⟩
     rw[Iy]
     simp only[List.map_cons,List.map_nil,FQ]
     exact⟨i+1,_,_,_,_,_,_,_,_,_,_,_,_,_,_,_,_,_,_,_,_,_,_,_,_,_,_,_,_,_,rfl,by omega,rfl⟩
    ·have xD:¬((i:Int)<(ls.length:Int)):=by omega
     have QB:i=ls.length:=by omega
     right
     refine⟨_,by simp (decide:=true) only [xD,bol,gT,jc,pz,eV,List.map_cons,List.map_nil,eb,kc,pB,xw,ay,gD,bC,eX,AQ,kP,qj,dt,tc,List.getElem?_toArray,Option.bind_some,Option.map_some,decide_false,Mx,My,Mz,MA,kY,uh]; rfl,by simp,?_⟩
     subst QB
     exact⟨_,_,_,_,_,_,_,_,_,_,_,_,_,_,_,_,_,_,_,_,_,_,_,_,_,_,_,_,_,_,rfl⟩
   ·rintro o ⟨Pb,j1,j4,j5,j7,j8,j9,TW,Pc,LK,LL,LM,LN,LO,LP,LQ,LR,LS,LU,LV,LW,LX,LY,LZ,L0,L1,L2,L3,L4,L5,rfl⟩
    simp (decide:=true) only [gT,jc,pz,eV,List.map_cons,List.map_nil,eb,kc,n4,pC,nZ,kZ,ay,gD,bC,eX,kP,dt,xb,Ch,Gk,Gl,Gj,List.getElem?_toArray,Option.bind_some,Option.map_some,Mx,My,Mz,MA,zG]
 refine⟨_,_,key,?_⟩
 unfold cur sC
 by_cases h:ls.flatten.length=0
 ·rw[if_pos h,if_pos h,List.length_eq_zero_iff.1 h]; rfl
 ·rw[if_neg h,if_neg h]
  simp only[List.take_length,Nat.sub_self,List.replicate_zero,List.append_nil]
  exact FP (RM.xA rfl)
end Go.Proofs.Ytedjbjphpnkpoaa.qb
end
section
/- The context of this seat, contracts of library functions, the greatest common divisor. -/
set_option maxRecDepth 100000
set_option maxHeartbeats 0
namespace Go.Proofs.Ytedjbjphpnkpoaa
open Go.PI
def DL:bG:=⟨.bool,1,8,none,false⟩
noncomputable def C:Ctx where
 P:=Try.prog
 kind:=fun f=>match Go.PI.cm [(24,()),(25,()),(26,()),(30,()),(37,()),(45,()),(47,()),(49,()),(56,()),(63,()),(64,()),(65,()),(66,()),(67,()),(68,()),(69,()),(70,()),(73,()),(74,()),(75,()),(77,()),(84,()),(85,()),(87,()),(89,()),(90,()),(91,()),(92,()),(93,()),(94,()),(97,()),(98,()),(111,()),(112,()),(113,()),(119,()),(120,()),(123,())] f with|some _=>.imp|none=>.pure
 kp:=fun g=>Go.PI.cm [(40,mB DL)] g
 acc:=fun _ _=>true
 qN:=fun f d=>(Go.PI.GH [(6,38,[(0,1),(2,1)])] f d).getD []
theorem Lp : ∀ (f : FuncId) (fn : Func), Try.prog.funcs[f]? = some fn → fn.body.isSome = true → (fn.name == "runtime.NumGoroutine") = false := by
 have h : (Try.prog.funcs.toList.all fun fn => !(fn.name == "runtime.NumGoroutine") || !fn.body.isSome) = true := by kernel_rfl
 intro f fn hf hb
 have hm:fn∈Try.prog.funcs.toList:=by
  have:=Array.mem_of_getElem? hf
  exact Array.mem_toList_iff.2 this
 have:=List.all_eq_true.1 h fn hm
 rw[hb]at this
 simpa using this
theorem NY:qb.C0.Ok where
 name:=Lp
 kp:=fun g h al r hg=>by simp[qb.C0]at hg
 qX:=fun g h al hp e h1=>by cases h1
 ES:=fun g h hg=>by simp[qb.C0]at hg
 iV:=fun g h al r hX hg=>by simp[qb.C0]at hg
 AY:=fun g h hg=>by simp[qb.C0]at hg
theorem Lq{g:FuncId}{h:List AV→Option AV}(hg:C.kp g=some h):g=40∧h=mB DL:=by
 have:=gA (show Go.PI.cm [(40,mB DL)] g=some h from hg)
 simp only[List.mem_singleton,Prod.mk.injEq]at this
 exact this
theorem Cok:C.Ok where
 name:=Lp
 kp:=by
  intro g h al r hg hr Ec w vs hI ha
  obtain⟨rfl,rfl⟩:=Lq hg
  exact Ij (r:=DL) NY (fun ls h0 h1 h2 h3=>qb.FI ls h0 (by rw[qb.ag3,qb.UJ]; exact h1) (by rw[qb.by3]; exact h2) h3) hr Ec w vs hI ha
 ES:=by
  intro g h hg
  obtain⟨rfl,rfl⟩:=Lq hg
  exact⟨_,qb.Te,rfl⟩
 qX:=fun g h al hp e h1=>by cases h1
 iV:=fun g h al r hX hg=>by cases hg
 AY:=fun g h hg=>by cases hg
theorem ok3(x:Int)(a:AV)(h:Ms x a):aG DL.isAgg DL.size a=true:=(yE (eI h)).1
def _root_.Go.aa.gX(s:List (List Int)):Option (List Int):=tu 8 s
theorem Ql:pZ C T 40 ⟨[23],[22],fun x=>Go.aa.gX x⟩:=
 FJ (C:=C) (T:=T) (g:=40) (t:=23) (u:=22) (I:=mB DL) (F:=Go.aa.gX) rfl rfl fun x a y h hy=>by
  obtain⟨l,h1,h2⟩:=FK (r:=DL) (rpe:=Ms) (x:=x) (y:=y) ok3 h hy
  exact⟨l,h1,.inl ⟨l,rfl,h2⟩⟩
def _root_.Go.aa.jM:Option Bool:=some true
def kf:List (Nat×vT T):=[]
theorem sf:∀ (g:FuncId) (σ:vT T),cm kf g=some σ→GW C T g σ:=fun g σ h=>by simp[kf,cm]at h
def tA:FuncId→Nat→Bool:=fun _ _=>false
def SN:FuncId→Tmp→List Tw:=fun _ _=>[]
def _root_.Go.aa.Ff:Nat→Int→Int→Option Int
 |0,_,_=>none
 |n+1,a,b=>bif b==0 then some a else bif decide (b=0) then none else (Go.aa.Ff n b (a.tmod b)).bind fun i=>some i
noncomputable def gS(n:Nat):oa:=GQ C T Bl (fun _ _=>none) (fun _ _=>false) [(82,⟨[3,3],[3],fun x=>Go.aa.Ff n x.1 x.2⟩)] 1 kf tA SN
theorem Lr:∀ n,pZ C T 82 ⟨[3,3],[3],fun x=>Go.aa.Ff n x.1 x.2⟩
 |0=>⟨rfl,fun x al y _ h=>by cases h⟩
 |n+1=>by
  have h0:(GQ C T Bl (fun _ _=>none) (fun _ _=>false) [(82,⟨[3,3],[3],fun x=>Go.aa.Ff n x.1 x.2⟩)] 0 kf tA SN).Ok:=Dd YD Qk YE sf
  have h1:(gS n).Ok:=tG h0 rfl (Lr n)
  exact DM (S:=gS n) (k:=400) (σ:=⟨[3,3],[3],fun x=>Go.aa.Ff (n+1) x.1 x.2⟩) h1 rfl rfl fun x=>by kernel_rfl
def _root_.Go.aa.jU(a b:Int):Option Int:=Go.aa.Ff 200 a b
theorem Qm:pZ C T 82 ⟨[3,3],[3],fun x=>Go.aa.jU x.1 x.2⟩:=Lr 200
end Go.Proofs.Ytedjbjphpnkpoaa
end
section
/- Models of the functions of this seat, and that they hold (printed by chain.py). -/
set_option maxRecDepth 100000
set_option maxHeartbeats 0
namespace Go.Proofs.Ytedjbjphpnkpoaa
open Go.PI
end Go.Proofs.Ytedjbjphpnkpoaa
open Go Go.PI Go.Proofs Go.Proofs.Ytedjbjphpnkpoaa
noncomputable def Go.aa.nF(n:Int)(low:Int)(high:Int):Option Bool:=
 bif decide (low≤n) then
 some (decide (n≤high))
 else
 some false
noncomputable def Go.aa.jV(l:List Int)(KR:Int):Option Bool:=
 (aL (ω:=Bool ⊕ Bool×Int) (fun ((b1,i2):Bool×Int)=>
 bif decide (i2<(↑l.length:Int)) then
 bif decide (0≤i2) then
 (l[i2.toNat]?).bind fun i3=>
 (aa.nF i3 0 (IntKind.i64.wrap (KR-1))).bind fun b4=>
 bif !b4 then
 some (Sum.inr (Sum.inl false))
 else
 bif decide (0<i2) then
 bif decide (0≤IntKind.i64.wrap (i2-1)) then
 (l[(IntKind.i64.wrap (i2-1)).toNat]?).bind fun i5=>
 bif decide (i3≤i5) then
 some (Sum.inr (Sum.inl false))
 else
 some (Sum.inl (b1,IntKind.i64.wrap (i2+1)))
 else
 none
 else
 some (Sum.inl (b1,IntKind.i64.wrap (i2+1)))
 else
 none
 else
 some (Sum.inr (Sum.inr (b1,i2)))) (false,0)).bind fun w6=>
 Sum.elim (fun b7=>
 some b7) (fun (b8,i9)=>
 (aa.nF (↑l.length:Int) 1 6).bind fun Ra=>
 some Ra) w6
noncomputable def Go.aa.gu(n:bN):Option Bool:=
 bif decide (8<(↑n.aA.length:Int)) then
 some false
 else
 bif decide (8<(↑n.af.length:Int)) then
 some false
 else
 bif !(↑n.aH.length:Int)==(↑n.af.length:Int) then
 some false
 else
 (aa.gX [n.aA,n.aH]).bind fun l1=>
 (aL (ω:=Bool ⊕ Bool×Int) (fun ((b2,i3):Bool×Int)=>
 bif decide (i3<(↑l1.length:Int)) then
 bif decide (0≤i3) then
 (l1[i3.toNat]?).bind fun i4=>
 (aa.nF i4 0 1000).bind fun b5=>
 bif !b5 then
 some (Sum.inr (Sum.inl false))
 else
 some (Sum.inl (b2,IntKind.i64.wrap (i3+1)))
 else
 none
 else
 some (Sum.inr (Sum.inr (b2,i3)))) (false,0)).bind fun w6=>
 Sum.elim (fun b7=>
 some b7) (fun (b8,i9)=>
 (aL (ω:=Bool ⊕ Bool×Int) (fun ((Ra,i11):Bool×Int)=>
 bif decide (i11<(↑n.af.length:Int)) then
 bif decide (0≤i11) then
 (n.af[i11.toNat]?).bind fun V1=>
 (aa.jV V1 (↑n.aA.length:Int)).bind fun OQ=>
 bif !OQ then
 some (Sum.inr (Sum.inl false))
 else
 some (Sum.inl (Ra,IntKind.i64.wrap (i11+1)))
 else
 none
 else
 some (Sum.inr (Sum.inr (Ra,i11)))) (b8,0)).bind fun w14=>
 Sum.elim (fun Uw=>
 some Uw) (fun (V2,i17)=>
 some true) w14) w6
noncomputable def Go.aa.n9(s:List Bool)(v:Bool):Option Int:=
 (aL (ω:=Int ⊕ Int×Int) (fun ((i1,i2):Int×Int)=>
 bif decide (i2<(↑s.length:Int)) then
 bif decide (0≤i2) then
 (s[i2.toNat]?).bind fun b3=>
 bif v==b3 then
 some (Sum.inr (Sum.inl i2))
 else
 some (Sum.inl (i1,IntKind.i64.wrap (i2+1)))
 else
 none
 else
 some (Sum.inr (Sum.inr (i1,i2)))) (0,0)).bind fun w4=>
 Sum.elim (fun i5=>
 some i5) (fun (i6,i7)=>
 some (-1)) w4
noncomputable def Go.aa.ff(s:List Bool)(v:Bool):Option Bool:=
 (aa.n9 s v).bind fun i1=>
 some (decide (0≤i1))
noncomputable def Go.aa.bM(f:aj):Option Bool:=
 bif decide ((if f.du<IntKind.i64.wrap (0-f.du) then IntKind.i64.wrap (0-f.du) else f.du)≤1000000000) then
 bif decide (1≤f.Den) then
 some (decide (f.Den≤1000000000))
 else
 some false
 else
 some false
noncomputable def Go.aa.cT(f:aj):Option aj:=
 (aa.jU (if f.du<IntKind.i64.wrap (0-f.du) then IntKind.i64.wrap (0-f.du) else f.du) (if f.Den<IntKind.i64.wrap (0-f.Den) then IntKind.i64.wrap (0-f.Den) else f.Den)).bind fun i1=>
 bif decide (f.Den<0) then
 bif decide (IntKind.i64.wrap (0-i1)=0) then
 none
 else
 bif decide (IntKind.i64.wrap (0-i1)=0) then
 none
 else
 some (aj.mk (IntKind.i64.wrap (f.du.tdiv (IntKind.i64.wrap (0-i1)))) (IntKind.i64.wrap (f.Den.tdiv (IntKind.i64.wrap (0-i1)))))
 else
 bif decide (i1=0) then
 none
 else
 bif decide (i1=0) then
 none
 else
 some (aj.mk (IntKind.i64.wrap (f.du.tdiv i1)) (IntKind.i64.wrap (f.Den.tdiv i1)))
noncomputable def Go.aa.cM(a:aj):Option Bool:=
 bif decide (-1000000000≤a.du) then
 (aa.bM a).bind fun b1=>
 bif b1 then
 (aa.cT a).bind fun q2=>
 some (q2.du==a.du&&q2.Den==a.Den)
 else
 some false
 else
 some false
noncomputable def Go.aa.qv(x:Int):Option Bool:=
 some (!x==x)
noncomputable def Go.aa.pN(x:Int)(y:Int):Option Int:=
 (aa.qv x).bind fun b1=>
 (aa.qv y).bind fun b2=>
 bif b1 then
 bif b2 then
 some 0
 else
 some (-1)
 else
 bif b2 then
 some 1
 else
 bif decide (x<y) then
 some (-1)
 else
 bif decide (y<x) then
 some 1
 else
 some 0
noncomputable def Go.aa.qu(a:aj)(b:aj):Option (Int×Int):=
 (aa.cM a).bind fun b1=>
 bif !b1 then
 some (0,1)
 else
 (aa.cM b).bind fun b2=>
 bif !b2 then
 some (0,1)
 else
 (aa.pN (IntKind.i64.wrap (a.du*b.Den)) (IntKind.i64.wrap (b.du*a.Den))).bind fun i3=>
 some (i3,0)
noncomputable def Go.aa.fT(a:aj)(b:aj):Option Bool:=
 (aa.qu a b).bind fun (i1,i2)=>
 some (decide (i1<0))
noncomputable def Go.aa.n8(l:List Int)(KR:Int):Option Bool:=
 (aL (ω:=Bool ⊕ Bool×Int) (fun ((b1,i2):Bool×Int)=>
 bif decide (i2<(↑l.length:Int)) then
 bif decide (0≤i2) then
 (l[i2.toNat]?).bind fun i3=>
 bif decide (i3<0) then
 some (Sum.inr (Sum.inl false))
 else
 bif decide (0≤i2) then
 (l[i2.toNat]?).bind fun i4=>
 bif decide (KR≤i4) then
 some (Sum.inr (Sum.inl false))
 else
 bif decide (0<i2) then
 bif decide (0≤i2) then
 (l[i2.toNat]?).bind fun i5=>
 bif decide (0≤IntKind.i64.wrap (i2-1)) then
 (l[(IntKind.i64.wrap (i2-1)).toNat]?).bind fun i6=>
 bif decide (i5≤i6) then
 some (Sum.inr (Sum.inl false))
 else
 some (Sum.inl (b1,IntKind.i64.wrap (i2+1)))
 else
 none
 else
 none
 else
 some (Sum.inl (b1,IntKind.i64.wrap (i2+1)))
 else
 none
 else
 none
 else
 some (Sum.inr (Sum.inr (b1,i2)))) (false,0)).bind fun w7=>
 Sum.elim (fun b8=>
 some b8) (fun (b9,i10)=>
 bif decide (1≤(↑l.length:Int)) then
 some (decide ((↑l.length:Int)≤6))
 else
 some false) w7
noncomputable def Go.aa.c6(n:bN):Option Bool:=
 bif decide (8<(↑n.aA.length:Int)) then
 some false
 else
 bif decide (8<(↑n.af.length:Int)) then
 some false
 else
 bif !(↑n.aH.length:Int)==(↑n.af.length:Int) then
 some false
 else
 (aL (ω:=Bool ⊕ Bool×Int) (fun ((b1,i2):Bool×Int)=>
 bif decide (i2<(↑n.aA.length:Int)) then
 bif decide (0≤i2) then
 (n.aA[i2.toNat]?).bind fun i3=>
 bif decide (i3<0) then
 some (Sum.inr (Sum.inl false))
 else
 bif decide (0≤i2) then
 (n.aA[i2.toNat]?).bind fun i4=>
 bif decide (1000<i4) then
 some (Sum.inr (Sum.inl false))
 else
 some (Sum.inl (b1,IntKind.i64.wrap (i2+1)))
 else
 none
 else
 none
 else
 some (Sum.inr (Sum.inr (b1,i2)))) (false,0)).bind fun w5=>
 Sum.elim (fun b6=>
 some b6) (fun (b7,i8)=>
 (aL (ω:=Bool ⊕ Bool×Int) (fun ((b9,i10):Bool×Int)=>
 bif decide (i10<(↑n.af.length:Int)) then
 bif decide (0≤i10) then
 (n.af[i10.toNat]?).bind fun BK=>
 (aa.n8 BK (↑n.aA.length:Int)).bind fun Eb=>
 bif !Eb then
 some (Sum.inr (Sum.inl false))
 else
 bif decide (0≤i10) then
 (n.aH[i10.toNat]?).bind fun i13=>
 bif decide (i13<0) then
 some (Sum.inr (Sum.inl false))
 else
 bif decide (0≤i10) then
 (n.aH[i10.toNat]?).bind fun i14=>
 bif decide (1000<i14) then
 some (Sum.inr (Sum.inl false))
 else
 some (Sum.inl (b9,IntKind.i64.wrap (i10+1)))
 else
 none
 else
 none
 else
 none
 else
 some (Sum.inr (Sum.inr (b9,i10)))) (b7,0)).bind fun w15=>
 Sum.elim (fun V2=>
 some V2) (fun (b17,i18)=>
 some true) w15) w5
noncomputable def Go.aa.pT(l:List Int)(link:Int):Option Bool:=
 (aL (ω:=Bool ⊕ Bool×Int) (fun ((b1,i2):Bool×Int)=>
 bif decide (i2<(↑l.length:Int)) then
 bif decide (0≤i2) then
 (l[i2.toNat]?).bind fun i3=>
 bif i3==link then
 some (Sum.inr (Sum.inl true))
 else
 some (Sum.inl (b1,IntKind.i64.wrap (i2+1)))
 else
 none
 else
 some (Sum.inr (Sum.inr (b1,i2)))) (false,0)).bind fun w4=>
 Sum.elim (fun b5=>
 some b5) (fun (b6,i7)=>
 some false) w4
noncomputable def Go.aa.lK(num:Int)(jf:Int):Option Bool:=
 bif decide (-1000000000≤num) then
 bif decide (num≤1000000000) then
 bif decide (1≤jf) then
 some (decide (jf≤1000000000))
 else
 some false
 else
 some false
 else
 some false
noncomputable def Go.aa.nG(n:Int):Option Int:=
 some (if n<IntKind.i64.wrap (0-n) then IntKind.i64.wrap (0-n) else n)
noncomputable def Go.aa.fj(a:Int)(b:Int):Option Int:=
 (aL (ω:=Int×Int) (fun ((i1,i2):Int×Int)=>
 bif !i2==0 then
 bif decide (i2=0) then
 none
 else
 some (Sum.inl (i2,i1.tmod i2))
 else
 some (Sum.inr (i1,i2))) (a,b)).bind fun (i3,i4)=>
 some i3
noncomputable def Go.aa.cN(a:aj):Option Bool:=
 (aa.lK a.du a.Den).bind fun b1=>
 bif b1 then
 (aa.nG a.du).bind fun i2=>
 (aa.fj i2 a.Den).bind fun i3=>
 some (i3==1)
 else
 some false
noncomputable def Go.aa.jZ(num:Int)(jf:Int):Option (aj×Int):=
 bif decide (jf<0) then
 (aa.nG (IntKind.i64.wrap (0-num))).bind fun i1=>
 (aa.fj i1 (IntKind.i64.wrap (0-jf))).bind fun i2=>
 bif decide (i2=0) then
 none
 else
 bif decide (i2=0) then
 none
 else
 (aa.lK (IntKind.i64.wrap ((IntKind.i64.wrap (0-num)).tdiv i2)) (IntKind.i64.wrap ((IntKind.i64.wrap (0-jf)).tdiv i2))).bind fun b3=>
 bif !b3 then
 some (aj.mk 0 0,3)
 else
 bif decide (i2=0) then
 none
 else
 bif decide (i2=0) then
 none
 else
 some (aj.mk (IntKind.i64.wrap ((IntKind.i64.wrap (0-num)).tdiv i2)) (IntKind.i64.wrap ((IntKind.i64.wrap (0-jf)).tdiv i2)),0)
 else
 (aa.nG num).bind fun i4=>
 (aa.fj i4 jf).bind fun i5=>
 bif decide (i5=0) then
 none
 else
 bif decide (i5=0) then
 none
 else
 (aa.lK (IntKind.i64.wrap (num.tdiv i5)) (IntKind.i64.wrap (jf.tdiv i5))).bind fun b6=>
 bif !b6 then
 some (aj.mk 0 0,3)
 else
 bif decide (i5=0) then
 none
 else
 bif decide (i5=0) then
 none
 else
 some (aj.mk (IntKind.i64.wrap (num.tdiv i5)) (IntKind.i64.wrap (jf.tdiv i5)),0)
noncomputable def Go.aa.z3(a:aj)(b:aj):Option (aj×Int):=
 (aa.cN a).bind fun b1=>
 bif !b1 then
 some (aj.mk 0 0,1)
 else
 (aa.cN b).bind fun b2=>
 bif !b2 then
 some (aj.mk 0 0,1)
 else
 (aa.jZ (IntKind.i64.wrap (IntKind.i64.wrap (a.du*b.Den)-IntKind.i64.wrap (b.du*a.Den))) (IntKind.i64.wrap (a.Den*b.Den))).bind fun (q3,i4)=>
 some (q3,i4)
noncomputable def Go.aa.z4(a:aj)(b:aj):Option (aj×Int):=
 (aa.cN a).bind fun b1=>
 bif !b1 then
 some (aj.mk 0 0,1)
 else
 (aa.cN b).bind fun b2=>
 bif !b2 then
 some (aj.mk 0 0,1)
 else
 bif b.du==0 then
 some (aj.mk 0 0,14)
 else
 (aa.jZ (IntKind.i64.wrap (a.du*b.Den)) (IntKind.i64.wrap (a.Den*b.du))).bind fun (q3,i4)=>
 some (q3,i4)
noncomputable def Go.aa.vV(n:bN)(fixed:List Bool)(x:List aj)(link:Int):Option (aj×Int):=
 bif decide (0≤link) then
 (n.aA[link.toNat]?).bind fun i1=>
 (aL (ω:=Int×Int×Int×Int) (fun ((i2,i3,i4,i5):Int×Int×Int×Int)=>
 bif decide (i3<(↑n.af.length:Int)) then
 bif decide (0≤i3) then
 (n.af[i3.toNat]?).bind fun l6=>
 (aa.pT l6 link).bind fun b7=>
 bif b7 then
 bif decide (0≤i3) then
 (fixed[i3.toNat]?).bind fun b8=>
 bif b8 then
 bif decide (0≤i3) then
 (x[i3.toNat]?).bind fun q9=>
 (aa.z3 (aj.mk i4 i5) q9).bind fun (CS,i11)=>
 bif b7 then
 bif decide (0≤i3) then
 (fixed[i3.toNat]?).bind fun Eb=>
 bif !Eb then
 some (Sum.inl (IntKind.i64.wrap (i2+1),IntKind.i64.wrap (i3+1),CS.du,CS.Den))
 else
 some (Sum.inl (i2,IntKind.i64.wrap (i3+1),CS.du,CS.Den))
 else
 none
 else
 some (Sum.inl (i2,IntKind.i64.wrap (i3+1),CS.du,CS.Den))
 else
 none
 else
 bif b7 then
 bif decide (0≤i3) then
 (fixed[i3.toNat]?).bind fun OQ=>
 bif !OQ then
 some (Sum.inl (IntKind.i64.wrap (i2+1),IntKind.i64.wrap (i3+1),i4,i5))
 else
 some (Sum.inl (i2,IntKind.i64.wrap (i3+1),i4,i5))
 else
 none
 else
 some (Sum.inl (i2,IntKind.i64.wrap (i3+1),i4,i5))
 else
 none
 else
 bif b7 then
 bif decide (0≤i3) then
 (fixed[i3.toNat]?).bind fun V3=>
 bif !V3 then
 some (Sum.inl (IntKind.i64.wrap (i2+1),IntKind.i64.wrap (i3+1),i4,i5))
 else
 some (Sum.inl (i2,IntKind.i64.wrap (i3+1),i4,i5))
 else
 none
 else
 some (Sum.inl (i2,IntKind.i64.wrap (i3+1),i4,i5))
 else
 none
 else
 some (Sum.inr (i2,i3,i4,i5))) (0,0,i1,1)).bind fun (i15,i16,i17,i18)=>
 bif i15==0 then
 some (aj.mk i17 i18,0)
 else
 (aa.z4 (aj.mk i17 i18) (aj.mk i15 1)).bind fun (V4,i20)=>
 some (V4,i15)
 else
 none
noncomputable def Go.aa.fk(a:aj)(b:aj):Option (Int×Int):=
 (aa.cN a).bind fun b1=>
 bif !b1 then
 some (0,1)
 else
 (aa.cN b).bind fun b2=>
 bif !b2 then
 some (0,1)
 else
 bif decide (IntKind.i64.wrap (a.du*b.Den)<IntKind.i64.wrap (b.du*a.Den)) then
 some (-1,0)
 else
 bif decide (IntKind.i64.wrap (b.du*a.Den)<IntKind.i64.wrap (a.du*b.Den)) then
 some (1,0)
 else
 some (0,0)
noncomputable def Go.aa.vW(n:bN):Option ((List aj)×Int):=
 (aa.c6 n).bind fun b1=>
 bif !b1 then
 some ([],1)
 else
 bif decide ((↑n.af.length:Int).toNat*16≤2^47)&&decide ((↑n.af.length:Int).toNat<2^62) then
 bif decide ((↑n.af.length:Int).toNat*1≤2^47)&&decide ((↑n.af.length:Int).toNat<2^62) then
 (aL (ω:=Int×List aj×List Bool) (fun ((i2,l3,l4):Int×List aj×List Bool)=>
 bif decide (0<i2) then
 (aL (ω:=Int×Int×Int×Int) (fun ((i5,i6,i7,i8):Int×Int×Int×Int)=>
 bif decide (i6<(↑n.aA.length:Int)) then
 (aa.vV n l4 l3 i6).bind fun (q9,i10)=>
 (aa.fk q9 (aj.mk i7 i8)).bind fun (i11,i12)=>
 bif decide (0<i10) then
 bif decide (i11<0) then
 some (Sum.inl (i6,IntKind.i64.wrap (i6+1),q9.du,q9.Den))
 else
 some (Sum.inl (i5,IntKind.i64.wrap (i6+1),i7,i8))
 else
 some (Sum.inl (i5,IntKind.i64.wrap (i6+1),i7,i8))
 else
 some (Sum.inr (i5,i6,i7,i8))) (-1,0,1000000,1)).bind fun (i13,i14,i15,i16)=>
 (aL (ω:=Int×Int×Int×Int×Int) (fun ((i17,i18,i19,i20,i21):Int×Int×Int×Int×Int)=>
 bif decide (i19<(↑n.af.length:Int)) then
 bif decide (0≤i19) then
 (n.aH[i19.toNat]?).bind fun i22=>
 (aa.fk (aj.mk i22 1) (aj.mk i20 i21)).bind fun (i23,i24)=>
 bif decide (0≤i19) then
 bif decide (i19.toNat<l4.length) then
 (l4[0+i19.toNat]?).bind fun b25=>
 bif !b25 then
 bif decide (0≤i19) then
 (n.aH[i19.toNat]?).bind fun i26=>
 bif decide (0<i26) then
 bif decide (i23<0) then
 some (Sum.inl (i19,-1,IntKind.i64.wrap (i19+1),i22,1))
 else
 some (Sum.inl (i17,i18,IntKind.i64.wrap (i19+1),i20,i21))
 else
 some (Sum.inl (i17,i18,IntKind.i64.wrap (i19+1),i20,i21))
 else
 none
 else
 some (Sum.inl (i17,i18,IntKind.i64.wrap (i19+1),i20,i21))
 else
 none
 else
 none
 else
 none
 else
 some (Sum.inr (i17,i18,i19,i20,i21))) (-1,i13,0,i15,i16)).bind fun (i27,i28,i29,i30,i31)=>
 (aL (ω:=Int×Int×List aj×List Bool) (fun ((i32,i33,qD,ru):Int×Int×List aj×List Bool)=>
 bif decide (i33<(↑n.af.length:Int)) then
 bif decide (0≤i28) then
 bif decide (0≤i33) then
 (n.af[i33.toNat]?).bind fun l36=>
 (aa.pT l36 i28).bind fun b37=>
 bif decide (0≤i33) then
 bif decide (i33.toNat<ru.length) then
 (ru[0+i33.toNat]?).bind fun Qe=>
 bif !Qe then
 bif b37 then
 bif decide (0≤i33) then
 bif decide (i33.toNat<ru.length) then
 (ru[0+i33.toNat]?).bind fun Yq=>
 bif decide (0≤i33) then
 bif decide (i33.toNat<qD.length) then
 (qD[0+i33.toNat]?).bind fun q40=>
 bif decide ((qD.set (0+i33.toNat) (aj.mk i30 i31)).length=l3.length) then
 bif decide ((ru.set (0+i33.toNat) true).length=l4.length) then
 some (Sum.inl (IntKind.i64.wrap (i32-1),IntKind.i64.wrap (i33+1),qD.set (0+i33.toNat) (aj.mk i30 i31),ru.set (0+i33.toNat) true))
 else
 none
 else
 none
 else
 none
 else
 none
 else
 none
 else
 none
 else
 bif decide (i28<0) then
 bif i33==i27 then
 bif decide (0≤i33) then
 bif decide (i33.toNat<ru.length) then
 (ru[0+i33.toNat]?).bind fun Yr=>
 bif decide (0≤i33) then
 bif decide (i33.toNat<qD.length) then
 (qD[0+i33.toNat]?).bind fun q42=>
 bif decide ((qD.set (0+i33.toNat) (aj.mk i30 i31)).length=l3.length) then
 bif decide ((ru.set (0+i33.toNat) true).length=l4.length) then
 some (Sum.inl (IntKind.i64.wrap (i32-1),IntKind.i64.wrap (i33+1),qD.set (0+i33.toNat) (aj.mk i30 i31),ru.set (0+i33.toNat) true))
 else
 none
 else
 none
 else
 none
 else
 none
 else
 none
 else
 none
 else
 bif decide (qD.length=l3.length) then
 bif decide (ru.length=l4.length) then
 some (Sum.inl (i32,IntKind.i64.wrap (i33+1),qD,ru))
 else
 none
 else
 none
 else
 bif decide (qD.length=l3.length) then
 bif decide (ru.length=l4.length) then
 some (Sum.inl (i32,IntKind.i64.wrap (i33+1),qD,ru))
 else
 none
 else
 none
 else
 bif decide (qD.length=l3.length) then
 bif decide (ru.length=l4.length) then
 some (Sum.inl (i32,IntKind.i64.wrap (i33+1),qD,ru))
 else
 none
 else
 none
 else
 none
 else
 none
 else
 none
 else
 bif decide (0≤i33) then
 bif decide (i33.toNat<ru.length) then
 (ru[0+i33.toNat]?).bind fun V5=>
 bif !V5 then
 bif decide (i28<0) then
 bif i33==i27 then
 bif decide (0≤i33) then
 bif decide (i33.toNat<ru.length) then
 (ru[0+i33.toNat]?).bind fun Ys=>
 bif decide (0≤i33) then
 bif decide (i33.toNat<qD.length) then
 (qD[0+i33.toNat]?).bind fun V6=>
 bif decide ((qD.set (0+i33.toNat) (aj.mk i30 i31)).length=l3.length) then
 bif decide ((ru.set (0+i33.toNat) true).length=l4.length) then
 some (Sum.inl (IntKind.i64.wrap (i32-1),IntKind.i64.wrap (i33+1),qD.set (0+i33.toNat) (aj.mk i30 i31),ru.set (0+i33.toNat) true))
 else
 none
 else
 none
 else
 none
 else
 none
 else
 none
 else
 none
 else
 bif decide (qD.length=l3.length) then
 bif decide (ru.length=l4.length) then
 some (Sum.inl (i32,IntKind.i64.wrap (i33+1),qD,ru))
 else
 none
 else
 none
 else
 bif decide (qD.length=l3.length) then
 bif decide (ru.length=l4.length) then
 some (Sum.inl (i32,IntKind.i64.wrap (i33+1),qD,ru))
 else
 none
 else
 none
 else
 bif decide (qD.length=l3.length) then
 bif decide (ru.length=l4.length) then
 some (Sum.inl (i32,IntKind.i64.wrap (i33+1),qD,ru))
 else
 none
 else
 none
 else
 none
 else
 none
 else
 bif decide (qD.length=l3.length) then
 bif decide (ru.length=l4.length) then
 some (Sum.inr (i32,i33,qD,ru))
 else
 none
 else
 none) (i2,0,l3,l4)).bind fun (i46,i47,Qg,Rb)=>
 bif decide (Qg.length=(List.replicate (↑n.af.length:Int).toNat (aj.mk 0 0)).length) then
 bif decide (Rb.length=(List.replicate (↑n.af.length:Int).toNat false).length) then
 some (Sum.inl (i46,Qg,Rb))
 else
 none
 else
 none
 else
 bif decide (l3.length=(List.replicate (↑n.af.length:Int).toNat (aj.mk 0 0)).length) then
 bif decide (l4.length=(List.replicate (↑n.af.length:Int).toNat false).length) then
 some (Sum.inr (i2,l3,l4))
 else
 none
 else
 none) ((↑n.af.length:Int),List.replicate (↑n.af.length:Int).toNat (aj.mk 0 0),List.replicate (↑n.af.length:Int).toNat false)).bind fun (i50,NI,l52)=>
 some (NI,0)
 else
 none
 else
 none
noncomputable def Go.aa.dy(n:Int):Option aj:=
 some (aj.mk n 1)
noncomputable def Go.aa.mK(s:List Int)(v:Int):Option Int:=
 (aL (ω:=Int ⊕ Int×Int) (fun ((i1,i2):Int×Int)=>
 bif decide (i2<(↑s.length:Int)) then
 bif decide (0≤i2) then
 (s[i2.toNat]?).bind fun i3=>
 bif v==i3 then
 some (Sum.inr (Sum.inl i2))
 else
 some (Sum.inl (i1,IntKind.i64.wrap (i2+1)))
 else
 none
 else
 some (Sum.inr (Sum.inr (i1,i2)))) (0,0)).bind fun w4=>
 Sum.elim (fun i5=>
 some i5) (fun (i6,i7)=>
 some (-1)) w4
noncomputable def Go.aa.bK(s:List Int)(v:Int):Option Bool:=
 (aa.mK s v).bind fun i1=>
 some (decide (0≤i1))
noncomputable def Go.aa.bp(f:aj):Option (aj×Int):=
 (aa.cT f).bind fun q1=>
 (aa.bM q1).bind fun b2=>
 bif !b2 then
 some (aj.mk 0 0,3)
 else
 some (q1,0)
noncomputable def Go.aa.z5(a:aj)(b:aj):Option (aj×Int):=
 (aa.cM a).bind fun b1=>
 bif !b1 then
 some (aj.mk 0 0,1)
 else
 (aa.cM b).bind fun b2=>
 bif !b2 then
 some (aj.mk 0 0,1)
 else
 bif IntKind.i64.wrap (a.Den*b.Den)==0 then
 some (aj.mk 0 0,14)
 else
 (aa.bp (aj.mk (IntKind.i64.wrap (IntKind.i64.wrap (a.du*b.Den)+IntKind.i64.wrap (b.du*a.Den))) (IntKind.i64.wrap (a.Den*b.Den)))).bind fun (q3,i4)=>
 some (q3,i4)
noncomputable def Go.aa.mz(s:cb)(l:Int):Option (aj×Bool):=
 (aa.dy 0).bind fun q1=>
 (aL (ω:=Int×Int×Bool×Int×Int ⊕ Int×Int×Int) (fun ((i2,i3,i4):Int×Int×Int)=>
 bif decide (i2<(↑s.Net.af.length:Int)) then
 bif decide (0≤i2) then
 (s.Net.af[i2.toNat]?).bind fun l5=>
 (aa.bK l5 l).bind fun b6=>
 bif b6 then
 bif decide (0≤i2) then
 (s.CR[i2.toNat]?).bind fun q7=>
 (aa.z5 (aj.mk i3 i4) q7).bind fun (q8,i9)=>
 bif !i9==0 then
 some (Sum.inr (Sum.inl (i3,i4,false,i3,i4)))
 else
 some (Sum.inl (IntKind.i64.wrap (i2+1),q8.du,q8.Den))
 else
 none
 else
 some (Sum.inl (IntKind.i64.wrap (i2+1),i3,i4))
 else
 none
 else
 some (Sum.inr (Sum.inr (i2,i3,i4)))) (0,q1.du,q1.Den)).bind fun SG=>
 Sum.elim (fun (i11,i12,OQ,i14,i15)=>
 some (aj.mk i14 i15,OQ)) (fun (i16,i17,i18)=>
 bif decide (0≤l) then
 (s.Net.aA[l.toNat]?).bind fun i19=>
 (aa.dy i19).bind fun V7=>
 (aa.fT V7 (aj.mk i17 i18)).bind fun SH=>
 some (aj.mk i17 i18,!SH)
 else
 none) SG
noncomputable def Go.aa.jl(n:bN)(x:List aj):Option Bool:=
 (aa.gu n).bind fun b1=>
 bif !b1 then
 some false
 else
 bif !(↑x.length:Int)==(↑n.af.length:Int) then
 some false
 else
 (aL (ω:=Bool ⊕ Bool×Int) (fun ((b2,i3):Bool×Int)=>
 bif decide (i3<(↑x.length:Int)) then
 bif decide (0≤i3) then
 (x[i3.toNat]?).bind fun q4=>
 (aa.cM q4).bind fun b5=>
 bif !b5 then
 some (Sum.inr (Sum.inl false))
 else
 bif decide (q4.du<0) then
 some (Sum.inr (Sum.inl false))
 else
 bif decide (0≤i3) then
 (n.aH[i3.toNat]?).bind fun i6=>
 bif decide (0<i6) then
 bif decide (0≤i3) then
 (n.aH[i3.toNat]?).bind fun i7=>
 (aa.dy i7).bind fun q8=>
 (aa.fT q8 q4).bind fun b9=>
 bif b9 then
 some (Sum.inr (Sum.inl false))
 else
 some (Sum.inl (b2,IntKind.i64.wrap (i3+1)))
 else
 none
 else
 some (Sum.inl (b2,IntKind.i64.wrap (i3+1)))
 else
 none
 else
 none
 else
 some (Sum.inr (Sum.inr (b2,i3)))) (false,0)).bind fun SG=>
 Sum.elim (fun SI=>
 some SI) (fun (Eb,i13)=>
 bif decide ((↑x.length:Int).toNat*1≤2^47)&&decide ((↑x.length:Int).toNat<2^62) then
 (aL (ω:=Int×List Bool) (fun ((i14,uF):Int×List Bool)=>
 bif decide (i14<(↑n.aH.length:Int)) then
 bif decide (0≤i14) then
 (n.aH[i14.toNat]?).bind fun i16=>
 bif decide (0<i16) then
 bif decide (0≤i14) then
 (x[i14.toNat]?).bind fun HZ=>
 (aa.dy i16).bind fun OS=>
 bif decide (0≤i14) then
 bif decide (i14.toNat<uF.length) then
 (uF[0+i14.toNat]?).bind fun b19=>
 bif decide ((uF.set (0+i14.toNat) (HZ.du==OS.du&&HZ.Den==OS.Den)).length=(List.replicate (↑x.length:Int).toNat false).length) then
 some (Sum.inl (IntKind.i64.wrap (i14+1),uF.set (0+i14.toNat) (HZ.du==OS.du&&HZ.Den==OS.Den)))
 else
 none
 else
 none
 else
 none
 else
 none
 else
 bif decide (0≤i14) then
 bif decide (i14.toNat<uF.length) then
 (uF[0+i14.toNat]?).bind fun Yt=>
 bif decide ((uF.set (0+i14.toNat) false).length=(List.replicate (↑x.length:Int).toNat false).length) then
 some (Sum.inl (IntKind.i64.wrap (i14+1),uF.set (0+i14.toNat) false))
 else
 none
 else
 none
 else
 none
 else
 none
 else
 bif decide (uF.length=(List.replicate (↑x.length:Int).toNat false).length) then
 some (Sum.inr (i14,uF))
 else
 none) (0,List.replicate (↑x.length:Int).toNat false)).bind fun (i21,GP)=>
 (aL (ω:=Bool×List Bool ⊕ Bool×Int×List Bool) (fun ((Ux,i24,BJ):Bool×Int×List Bool)=>
 bif decide (i24<(↑n.aA.length:Int)) then
 (aa.mz (cb.mk n [] x) i24:Option (aj×Bool)).bind fun (Uy,Uz)=>
 bif !Uz then
 bif decide (BJ.length=GP.length) then
 some (Sum.inr (Sum.inl (false,BJ)))
 else
 none
 else
 (aL (ω:=Int×List Bool) (fun ((i28,BL):Int×List Bool)=>
 bif decide (i28<(↑n.af.length:Int)) then
 bif decide (0≤i28) then
 (n.af[i28.toNat]?).bind fun l30=>
 (aa.bK l30 i24).bind fun b31=>
 bif b31 then
 (aL (ω:=Int×Bool) (fun ((i32,SJ):Int×Bool)=>
 bif decide (i32<(↑n.af.length:Int)) then
 bif decide (0≤i32) then
 (n.af[i32.toNat]?).bind fun qD=>
 (aa.bK qD i24).bind fun V8=>
 bif V8 then
 bif SJ then
 bif decide (0≤i28) then
 (x[i28.toNat]?).bind fun q36=>
 bif decide (0≤i32) then
 (x[i32.toNat]?).bind fun q37=>
 (aa.fT q36 q37).bind fun Qe=>
 some (Sum.inl (IntKind.i64.wrap (i32+1),!Qe))
 else
 none
 else
 none
 else
 some (Sum.inl (IntKind.i64.wrap (i32+1),false))
 else
 some (Sum.inl (IntKind.i64.wrap (i32+1),SJ))
 else
 none
 else
 some (Sum.inr (i32,SJ))) (0,true)).bind fun (i39,V9)=>
 bif decide (0≤i28) then
 bif decide (i28.toNat<BL.length) then
 (BL[0+i28.toNat]?).bind fun Yr=>
 bif Yr then
 bif decide (0≤i28) then
 bif decide (i28.toNat<BL.length) then
 (BL[0+i28.toNat]?).bind fun b42=>
 bif decide ((BL.set (0+i28.toNat) true).length=BJ.length) then
 some (Sum.inl (IntKind.i64.wrap (i28+1),BL.set (0+i28.toNat) true))
 else
 none
 else
 none
 else
 none
 else
 bif V9 then
 bif decide (0≤i24) then
 (n.aA[i24.toNat]?).bind fun i43=>
 (aa.dy i43).bind fun UA=>
 bif decide (0≤i28) then
 bif decide (i28.toNat<BL.length) then
 (BL[0+i28.toNat]?).bind fun b45=>
 bif decide ((BL.set (0+i28.toNat) (Uy.du==UA.du&&Uy.Den==UA.Den)).length=BJ.length) then
 some (Sum.inl (IntKind.i64.wrap (i28+1),BL.set (0+i28.toNat) (Uy.du==UA.du&&Uy.Den==UA.Den)))
 else
 none
 else
 none
 else
 none
 else
 none
 else
 bif decide (0≤i28) then
 bif decide (i28.toNat<BL.length) then
 (BL[0+i28.toNat]?).bind fun Rc=>
 bif decide ((BL.set (0+i28.toNat) false).length=BJ.length) then
 some (Sum.inl (IntKind.i64.wrap (i28+1),BL.set (0+i28.toNat) false))
 else
 none
 else
 none
 else
 none
 else
 none
 else
 none
 else
 bif decide (BL.length=BJ.length) then
 some (Sum.inl (IntKind.i64.wrap (i28+1),BL))
 else
 none
 else
 none
 else
 bif decide (BL.length=BJ.length) then
 some (Sum.inr (i28,BL))
 else
 none) (0,BJ)).bind fun (i47,Qg)=>
 bif decide (Qg.length=GP.length) then
 some (Sum.inl (Ux,IntKind.i64.wrap (i24+1),Qg))
 else
 none
 else
 bif decide (BJ.length=GP.length) then
 some (Sum.inr (Sum.inr (Ux,i24,BJ)))
 else
 none) (Eb,0,GP)).bind fun w49=>
 Sum.elim (fun (b50,NI)=>
 some b50) (fun (Yu,i53,Mq)=>
 (aa.ff Mq false).bind fun Wa=>
 some !Wa) w49
 else
 none) SG
noncomputable def Go.aa.z6(a:aj)(b:aj):Option (aj×Int):=
 (aa.cN a).bind fun b1=>
 bif !b1 then
 some (aj.mk 0 0,1)
 else
 (aa.cN b).bind fun b2=>
 bif !b2 then
 some (aj.mk 0 0,1)
 else
 (aa.jZ (IntKind.i64.wrap (IntKind.i64.wrap (a.du*b.Den)+IntKind.i64.wrap (b.du*a.Den))) (IntKind.i64.wrap (a.Den*b.Den))).bind fun (q3,i4)=>
 some (q3,i4)
noncomputable def Go.aa.oh(n:bN)(x:List aj)(link:Int):Option (aj×Bool):=
 (aL (ω:=Bool×Int×Int×Int×Int ⊕ Bool×Int×Int×Int) (fun ((b1,i2,i3,i4):Bool×Int×Int×Int)=>
 bif decide (i2<(↑n.af.length:Int)) then
 bif decide (0≤i2) then
 (n.af[i2.toNat]?).bind fun l5=>
 (aa.pT l5 link).bind fun b6=>
 bif b6 then
 bif decide (0≤i2) then
 (x[i2.toNat]?).bind fun q7=>
 (aa.z6 (aj.mk i3 i4) q7).bind fun (q8,i9)=>
 bif !i9==0 then
 some (Sum.inr (Sum.inl (false,i3,i4,i3,i4)))
 else
 some (Sum.inl (b1,IntKind.i64.wrap (i2+1),q8.du,q8.Den))
 else
 none
 else
 some (Sum.inl (b1,IntKind.i64.wrap (i2+1),i3,i4))
 else
 none
 else
 some (Sum.inr (Sum.inr (b1,i2,i3,i4)))) (false,0,0,1)).bind fun SG=>
 Sum.elim (fun (SI,i12,i13,i14,i15)=>
 some (aj.mk i14 i15,SI)) (fun (V2,i17,i18,i19)=>
 some (aj.mk i18 i19,true)) SG
noncomputable def Go.aa.oi(n:bN)(x:List aj)(Fw:Int)(link:Int):Option Bool:=
 (aa.oh n x link).bind fun (q1,b2)=>
 (aL (ω:=Bool ⊕ Bool×Int) (fun ((b3,i4):Bool×Int)=>
 bif decide (i4<(↑n.af.length:Int)) then
 bif decide (0≤i4) then
 (n.af[i4.toNat]?).bind fun l5=>
 (aa.pT l5 link).bind fun b6=>
 bif decide (0≤i4) then
 (x[i4.toNat]?).bind fun q7=>
 bif decide (0≤Fw) then
 (x[Fw.toNat]?).bind fun q8=>
 (aa.fk q7 q8).bind fun (i9,i10)=>
 bif b6 then
 bif decide (0<i9) then
 some (Sum.inr (Sum.inl false))
 else
 some (Sum.inl (b3,IntKind.i64.wrap (i4+1)))
 else
 some (Sum.inl (b3,IntKind.i64.wrap (i4+1)))
 else
 none
 else
 none
 else
 none
 else
 some (Sum.inr (Sum.inr (b3,i4)))) (false,0)).bind fun Wb=>
 Sum.elim (fun Eb=>
 some Eb) (fun (OQ,i14)=>
 bif q1.Den==1 then
 bif decide (0≤link) then
 (n.aA[link.toNat]?).bind fun i15=>
 some (q1.du==i15)
 else
 none
 else
 some false) Wb
noncomputable def Go.aa.vX(n:bN)(x:List aj):Option Bool:=
 (aa.c6 n).bind fun b1=>
 bif !b1 then
 some false
 else
 bif !(↑x.length:Int)==(↑n.af.length:Int) then
 some false
 else
 (aL (ω:=Bool ⊕ Bool×Int) (fun ((b2,i3):Bool×Int)=>
 bif decide (i3<(↑x.length:Int)) then
 bif decide (0≤i3) then
 (x[i3.toNat]?).bind fun q4=>
 (aa.cN q4).bind fun b5=>
 bif !b5 then
 some (Sum.inr (Sum.inl false))
 else
 bif decide (0≤i3) then
 (x[i3.toNat]?).bind fun q6=>
 bif decide (q6.du<0) then
 some (Sum.inr (Sum.inl false))
 else
 bif decide (0≤i3) then
 (n.aH[i3.toNat]?).bind fun i7=>
 bif decide (0<i7) then
 bif decide (0≤i3) then
 (x[i3.toNat]?).bind fun q8=>
 bif decide (0≤i3) then
 (n.aH[i3.toNat]?).bind fun i9=>
 bif decide (0≤i3) then
 (x[i3.toNat]?).bind fun CS=>
 bif decide (IntKind.i64.wrap (i9*CS.Den)<q8.du) then
 some (Sum.inr (Sum.inl false))
 else
 some (Sum.inl (b2,IntKind.i64.wrap (i3+1)))
 else
 none
 else
 none
 else
 none
 else
 some (Sum.inl (b2,IntKind.i64.wrap (i3+1)))
 else
 none
 else
 none
 else
 none
 else
 some (Sum.inr (Sum.inr (b2,i3)))) (false,0)).bind fun Wb=>
 Sum.elim (fun Eb=>
 some Eb) (fun (OQ,i14)=>
 (aL (ω:=Bool ⊕ Bool×Int) (fun ((Uw,i16):Bool×Int)=>
 bif decide (i16<(↑n.aA.length:Int)) then
 (aa.oh n x i16).bind fun (HZ,Wc)=>
 bif !Wc then
 some (Sum.inr (Sum.inl false))
 else
 bif decide (0≤i16) then
 (n.aA[i16.toNat]?).bind fun i19=>
 bif decide (IntKind.i64.wrap (i19*HZ.Den)<HZ.du) then
 some (Sum.inr (Sum.inl false))
 else
 some (Sum.inl (Uw,IntKind.i64.wrap (i16+1)))
 else
 none
 else
 some (Sum.inr (Sum.inr (Uw,i16)))) (OQ,0)).bind fun w20=>
 Sum.elim (fun SH=>
 some SH) (fun (Wd,i23)=>
 (aL (ω:=Bool ⊕ Bool×Int) (fun ((UB,i25):Bool×Int)=>
 bif decide (i25<(↑x.length:Int)) then
 bif decide (0≤i25) then
 (n.aH[i25.toNat]?).bind fun i26=>
 bif decide (0<i26) then
 bif decide (0≤i25) then
 (x[i25.toNat]?).bind fun q27=>
 bif q27.Den==1 then
 bif decide (0≤i25) then
 (x[i25.toNat]?).bind fun SK=>
 bif decide (0≤i25) then
 (n.aH[i25.toNat]?).bind fun i29=>
 (aL (ω:=Bool×Int) (fun ((We,i31):Bool×Int)=>
 bif decide (0≤i25) then
 (n.af[i25.toNat]?).bind fun l32=>
 bif decide (i31<(↑l32.length:Int)) then
 bif !We then
 bif decide (0≤i25) then
 (n.af[i25.toNat]?).bind fun l33=>
 bif decide (0≤i31) then
 (l33[i31.toNat]?).bind fun i34=>
 (aa.oi n x i25 i34).bind fun V8=>
 some (Sum.inl (V8,IntKind.i64.wrap (i31+1)))
 else
 none
 else
 none
 else
 some (Sum.inr (We,i31))
 else
 some (Sum.inr (We,i31))
 else
 none) (SK.du==i29,0)).bind fun (Wf,i37)=>
 bif !Wf then
 some (Sum.inr (Sum.inl false))
 else
 some (Sum.inl (UB,IntKind.i64.wrap (i25+1)))
 else
 none
 else
 none
 else
 (aL (ω:=Bool×Int) (fun ((Qe,i39):Bool×Int)=>
 bif decide (0≤i25) then
 (n.af[i25.toNat]?).bind fun l40=>
 bif decide (i39<(↑l40.length:Int)) then
 bif !Qe then
 bif decide (0≤i25) then
 (n.af[i25.toNat]?).bind fun l41=>
 bif decide (0≤i39) then
 (l41[i39.toNat]?).bind fun i42=>
 (aa.oi n x i25 i42).bind fun V5=>
 some (Sum.inl (V5,IntKind.i64.wrap (i39+1)))
 else
 none
 else
 none
 else
 some (Sum.inr (Qe,i39))
 else
 some (Sum.inr (Qe,i39))
 else
 none) (false,0)).bind fun (Ys,i45)=>
 bif !Ys then
 some (Sum.inr (Sum.inl false))
 else
 some (Sum.inl (UB,IntKind.i64.wrap (i25+1)))
 else
 none
 else
 (aL (ω:=Bool×Int) (fun ((Rc,i47):Bool×Int)=>
 bif decide (0≤i25) then
 (n.af[i25.toNat]?).bind fun Qg=>
 bif decide (i47<(↑Qg.length:Int)) then
 bif !Rc then
 bif decide (0≤i25) then
 (n.af[i25.toNat]?).bind fun Rb=>
 bif decide (0≤i47) then
 (Rb[i47.toNat]?).bind fun i50=>
 (aa.oi n x i25 i50).bind fun b51=>
 some (Sum.inl (b51,IntKind.i64.wrap (i47+1)))
 else
 none
 else
 none
 else
 some (Sum.inr (Rc,i47))
 else
 some (Sum.inr (Rc,i47))
 else
 none) (false,0)).bind fun (Yu,i53)=>
 bif !Yu then
 some (Sum.inr (Sum.inl false))
 else
 some (Sum.inl (UB,IntKind.i64.wrap (i25+1)))
 else
 none
 else
 some (Sum.inr (Sum.inr (UB,i25)))) (Wd,0)).bind fun w54=>
 Sum.elim (fun Wa=>
 some Wa) (fun (b56,i57)=>
 some true) w54) w20) Wb
noncomputable def Go.aa.iE(n:bN):Option Bool:=
 (aL (ω:=Bool ⊕ Bool×Int) (fun ((b1,i2):Bool×Int)=>
 bif decide (i2<(↑n.af.length:Int)) then
 bif decide (i2<50) then
 bif decide (0≤i2) then
 (n.af[i2.toNat]?).bind fun l3=>
 bif decide (50<(↑l3.length:Int)) then
 some (Sum.inr (Sum.inl false))
 else
 some (Sum.inl (b1,IntKind.i64.wrap (i2+1)))
 else
 none
 else
 some (Sum.inr (Sum.inr (b1,i2)))
 else
 some (Sum.inr (Sum.inr (b1,i2)))) (false,0)).bind fun w4=>
 Sum.elim (fun b5=>
 some b5) (fun (b6,i7)=>
 bif decide ((↑n.aA.length:Int)≤50) then
 bif decide ((↑n.af.length:Int)≤50) then
 some (decide ((↑n.aH.length:Int)≤50))
 else
 some false
 else
 some false) w4
noncomputable def Go.aa.lR(a:List aj)(b:List aj):Option Bool:=
 bif !(↑a.length:Int)==(↑b.length:Int) then
 some false
 else
 (aL (ω:=Bool ⊕ Bool×Int) (fun ((b1,i2):Bool×Int)=>
 bif decide (i2<(↑a.length:Int)) then
 bif decide (0≤i2) then
 (a[i2.toNat]?).bind fun q3=>
 bif decide (0≤i2) then
 (b[i2.toNat]?).bind fun q4=>
 bif !(q3.du==q4.du&&q3.Den==q4.Den) then
 some (Sum.inr (Sum.inl false))
 else
 some (Sum.inl (b1,IntKind.i64.wrap (i2+1)))
 else
 none
 else
 none
 else
 some (Sum.inr (Sum.inr (b1,i2)))) (false,0)).bind fun w5=>
 Sum.elim (fun b6=>
 some b6) (fun (b7,i8)=>
 some true) w5
noncomputable def Go.aa.nE(a:aj)(b:aj):Option (aj×Int):=
 (aa.cM a).bind fun b1=>
 bif !b1 then
 some (aj.mk 0 0,1)
 else
 (aa.cM b).bind fun b2=>
 bif !b2 then
 some (aj.mk 0 0,1)
 else
 bif IntKind.i64.wrap (a.Den*b.Den)==0 then
 some (aj.mk 0 0,14)
 else
 (aa.bp (aj.mk (IntKind.i64.wrap (IntKind.i64.wrap (a.du*b.Den)-IntKind.i64.wrap (b.du*a.Den))) (IntKind.i64.wrap (a.Den*b.Den)))).bind fun (q3,i4)=>
 some (q3,i4)
noncomputable def Go.aa.qt(a:aj)(b:aj):Option (aj×Int):=
 (aa.cM a).bind fun b1=>
 bif !b1 then
 some (aj.mk 0 0,1)
 else
 (aa.cM b).bind fun b2=>
 bif !b2 then
 some (aj.mk 0 0,1)
 else
 bif IntKind.i64.wrap (a.Den*b.du)==0 then
 some (aj.mk 0 0,14)
 else
 (aa.bp (aj.mk (IntKind.i64.wrap (a.du*b.Den)) (IntKind.i64.wrap (a.Den*b.du)))).bind fun (q3,i4)=>
 some (q3,i4)
noncomputable def Go.aa.cf(l:Int)(s:cb):Option (aj×Bool):=
 bif decide (0≤l) then
 (s.Net.aA[l.toNat]?).bind fun i1=>
 (aa.dy i1).bind fun q2=>
 (aL (ω:=Int×Int×Int×Int) (fun ((i3,i4,i5,i6):Int×Int×Int×Int)=>
 bif decide (i3<(↑s.Net.af.length:Int)) then
 bif decide (0≤i3) then
 (s.Net.af[i3.toNat]?).bind fun l7=>
 (aa.bK l7 l).bind fun b8=>
 bif b8 then
 bif decide (0≤i3) then
 (s.CQ[i3.toNat]?).bind fun b9=>
 bif !b9 then
 some (Sum.inl (IntKind.i64.wrap (i3+1),IntKind.i64.wrap (i4+1),i5,i6))
 else
 bif decide (0≤i3) then
 (s.CR[i3.toNat]?).bind fun CS=>
 (aa.nE (aj.mk i5 i6) CS).bind fun (Ml,i12)=>
 some (Sum.inl (IntKind.i64.wrap (i3+1),i4,Ml.du,Ml.Den))
 else
 none
 else
 none
 else
 some (Sum.inl (IntKind.i64.wrap (i3+1),i4,i5,i6))
 else
 none
 else
 some (Sum.inr (i3,i4,i5,i6))) (0,0,q2.du,q2.Den)).bind fun (i13,i14,i15,i16)=>
 bif i14==0 then
 some (aj.mk i15 i16,false)
 else
 (aa.dy i14).bind fun HZ=>
 (aa.qt (aj.mk i15 i16) HZ).bind fun (OS,i19)=>
 some (OS,true)
 else
 none
noncomputable def Go.aa.fJ(l:Int)(s:cb)(Fw:Int):Option Bool:=
 bif decide (0≤Fw) then
 (s.Net.af[Fw.toNat]?).bind fun l1=>
 (aa.bK l1 l).bind fun b2=>
 some b2
 else
 none
noncomputable def Go.aa.cz(l:Int)(s:cb):Option (aj×Bool):=
 bif decide (0≤l) then
 (s.Net.aH[l.toNat]?).bind fun i1=>
 (aa.dy i1).bind fun q2=>
 bif decide (0≤l) then
 (s.Net.aH[l.toNat]?).bind fun i3=>
 bif decide (0<i3) then
 bif decide (0≤l) then
 (s.CQ[l.toNat]?).bind fun b4=>
 some (q2,!b4)
 else
 none
 else
 some (q2,false)
 else
 none
 else
 none
noncomputable def Go.aa.lT(l:Int)(s:cb)(Fw:Int):Option Bool:=
 some (l==Fw)
noncomputable def Go.aa.cw(n:bN):Option ((List aj)×Int):=
 (aa.gu n).bind fun b1=>
 bif !b1 then
 some ([],1)
 else
 bif decide ((↑n.af.length:Int).toNat*1≤2^47)&&decide ((↑n.af.length:Int).toNat<2^62) then
 bif decide ((↑n.af.length:Int).toNat*16≤2^47)&&decide ((↑n.af.length:Int).toNat<2^62) then
 (aL (ω:=Int×List dV) (fun ((i2,l3):Int×List dV)=>
 bif decide (i2<(↑n.aA.length:Int)) then
 bif decide ((l3.length+1)*16≤2^44)&&decide (l3.length+1≤2^44) then
 some (Sum.inl (IntKind.i64.wrap (i2+1),l3++[dV.mk true i2]))
 else
 none
 else
 some (Sum.inr (i2,l3))) (0,[])).bind fun (i4,l5)=>
 (aL (ω:=Int×List dV) (fun ((i6,l7):Int×List dV)=>
 bif decide (i6<(↑n.aH.length:Int)) then
 bif decide ((l7.length+1)*16≤2^44)&&decide (l7.length+1≤2^44) then
 some (Sum.inl (IntKind.i64.wrap (i6+1),l7++[dV.mk false i6]))
 else
 none
 else
 some (Sum.inr (i6,l7))) (0,l5)).bind fun (i8,l9)=>
 (aL (ω:=List aj×List Bool) (fun ((KS,BK):List aj×List Bool)=>
 (aa.ff BK false).bind fun Eb=>
 bif Eb then
 (aL (ω:=Int×List aj×List dV) (fun ((i13,Ea,uF):Int×List aj×List dV)=>
 bif decide (i13<(↑l9.length:Int)) then
 bif decide (0≤i13) then
 bif decide (i13.toNat<l9.length) then
 (l9[0+i13.toNat]?).bind fun SL=>
 bif SL.A then
 (aa.cf SL.N (cb.mk n BK KS)).bind fun (HZ,Wc)=>
 bif Wc then
 bif decide ((Ea.length+1)*16≤2^44)&&decide (Ea.length+1≤2^44) then
 bif decide ((uF.length+1)*16≤2^44)&&decide (uF.length+1≤2^44) then
 some (Sum.inl (IntKind.i64.wrap (i13+1),Ea++[HZ],uF++[dV.mk true SL.N]))
 else
 none
 else
 none
 else
 some (Sum.inl (IntKind.i64.wrap (i13+1),Ea,uF))
 else
 (aa.cz SL.N (cb.mk n BK KS)).bind fun (V4,Yt)=>
 bif Yt then
 bif decide ((Ea.length+1)*16≤2^44)&&decide (Ea.length+1≤2^44) then
 bif decide ((uF.length+1)*16≤2^44)&&decide (uF.length+1≤2^44) then
 some (Sum.inl (IntKind.i64.wrap (i13+1),Ea++[V4],uF++[dV.mk false SL.N]))
 else
 none
 else
 none
 else
 some (Sum.inl (IntKind.i64.wrap (i13+1),Ea,uF))
 else
 none
 else
 none
 else
 some (Sum.inr (i13,Ea,uF))) (0,[],[])).bind fun (i21,GP,vQ)=>
 bif decide (0<GP.length) then
 (GP[0]?).bind fun SM=>
 (aL (ω:=Int×Int×Int) (fun ((i25,i26,i27):Int×Int×Int)=>
 bif decide (i25<(↑GP.length:Int)) then
 bif decide (0≤i25) then
 bif decide (i25.toNat<GP.length) then
 (GP[0+i25.toNat]?).bind fun SK=>
 (aa.fT SK (aj.mk i26 i27)).bind fun b29=>
 bif b29 then
 some (Sum.inl (IntKind.i64.wrap (i25+1),SK.du,SK.Den))
 else
 some (Sum.inl (IntKind.i64.wrap (i25+1),i26,i27))
 else
 none
 else
 none
 else
 some (Sum.inr (i25,i26,i27))) (0,SM.du,SM.Den)).bind fun (i30,i31,i32)=>
 (aL (ω:=Int×List Int) (fun ((i33,qD):Int×List Int)=>
 bif decide (i33<(↑vQ.length:Int)) then
 bif decide (0≤i33) then
 bif decide (i33.toNat<vQ.length) then
 (vQ[0+i33.toNat]?).bind fun Wg=>
 bif Wg.A then
 (aL (ω:=Int×List Int) (fun ((i36,Qh):Int×List Int)=>
 bif decide (i36<(↑n.af.length:Int)) then
 bif decide (0≤i33) then
 bif decide (i33.toNat<GP.length) then
 (GP[0+i33.toNat]?).bind fun Yv=>
 bif Yv.du==i31&&Yv.Den==i32 then
 bif decide (0≤i36) then
 bif decide (i36.toNat<BK.length) then
 (BK[0+i36.toNat]?).bind fun Yq=>
 bif !Yq then
 (aa.fJ Wg.N (cb.mk n BK KS) i36).bind fun V9=>
 bif V9 then
 bif decide ((Qh.length+1)*8≤2^44)&&decide (Qh.length+1≤2^44) then
 some (Sum.inl (IntKind.i64.wrap (i36+1),Qh++[i36]))
 else
 none
 else
 some (Sum.inl (IntKind.i64.wrap (i36+1),Qh))
 else
 some (Sum.inl (IntKind.i64.wrap (i36+1),Qh))
 else
 none
 else
 none
 else
 some (Sum.inl (IntKind.i64.wrap (i36+1),Qh))
 else
 none
 else
 none
 else
 some (Sum.inr (i36,Qh))) (0,qD)).bind fun (i41,l42)=>
 some (Sum.inl (IntKind.i64.wrap (i33+1),l42))
 else
 (aL (ω:=Int×List Int) (fun ((i43,NJ):Int×List Int)=>
 bif decide (i43<(↑n.af.length:Int)) then
 bif decide (0≤i33) then
 bif decide (i33.toNat<GP.length) then
 (GP[0+i33.toNat]?).bind fun V6=>
 bif V6.du==i31&&V6.Den==i32 then
 bif decide (0≤i43) then
 bif decide (i43.toNat<BK.length) then
 (BK[0+i43.toNat]?).bind fun Rc=>
 bif !Rc then
 (aa.lT Wg.N (cb.mk n BK KS) i43).bind fun b47=>
 bif b47 then
 bif decide ((NJ.length+1)*8≤2^44)&&decide (NJ.length+1≤2^44) then
 some (Sum.inl (IntKind.i64.wrap (i43+1),NJ++[i43]))
 else
 none
 else
 some (Sum.inl (IntKind.i64.wrap (i43+1),NJ))
 else
 some (Sum.inl (IntKind.i64.wrap (i43+1),NJ))
 else
 none
 else
 none
 else
 some (Sum.inl (IntKind.i64.wrap (i43+1),NJ))
 else
 none
 else
 none
 else
 some (Sum.inr (i43,NJ))) (0,qD)).bind fun (i48,Rb)=>
 some (Sum.inl (IntKind.i64.wrap (i33+1),Rb))
 else
 none
 else
 none
 else
 some (Sum.inr (i33,qD))) (0,[])).bind fun (i50,NI)=>
 (aL (ω:=Int×List aj×List Bool) (fun ((i52,Qi,Mq):Int×List aj×List Bool)=>
 bif decide (i52<(↑NI.length:Int)) then
 bif decide (0≤i52) then
 bif decide (i52.toNat<NI.length) then
 (NI[0+i52.toNat]?).bind fun i55=>
 bif decide (0≤i55) then
 bif decide (i55.toNat<Mq.length) then
 (Mq[0+i55.toNat]?).bind fun b56=>
 bif decide (0≤i55) then
 bif decide (i55.toNat<Qi.length) then
 (Qi[0+i55.toNat]?).bind fun q57=>
 bif decide ((Qi.set (0+i55.toNat) (aj.mk i31 i32)).length=KS.length) then
 bif decide ((Mq.set (0+i55.toNat) true).length=BK.length) then
 some (Sum.inl (IntKind.i64.wrap (i52+1),Qi.set (0+i55.toNat) (aj.mk i31 i32),Mq.set (0+i55.toNat) true))
 else
 none
 else
 none
 else
 none
 else
 none
 else
 none
 else
 none
 else
 none
 else
 none
 else
 bif decide (Qi.length=KS.length) then
 bif decide (Mq.length=BK.length) then
 some (Sum.inr (i52,Qi,Mq))
 else
 none
 else
 none) (0,KS,BK)).bind fun (i58,Yw,Yx)=>
 bif decide (Yw.length=(List.replicate (↑n.af.length:Int).toNat (aj.mk 0 0)).length) then
 bif decide (Yx.length=(List.replicate (↑n.af.length:Int).toNat false).length) then
 some (Sum.inl (Yw,Yx))
 else
 none
 else
 none
 else
 none
 else
 bif decide (KS.length=(List.replicate (↑n.af.length:Int).toNat (aj.mk 0 0)).length) then
 bif decide (BK.length=(List.replicate (↑n.af.length:Int).toNat false).length) then
 some (Sum.inr (KS,BK))
 else
 none
 else
 none) (List.replicate (↑n.af.length:Int).toNat (aj.mk 0 0),List.replicate (↑n.af.length:Int).toNat false)).bind fun (l61,l62)=>
 some (l61,0)
 else
 none
 else
 none
noncomputable def Go.aa.Dc(n:Int):Option aj:=
 some (aj.mk n 1)
noncomputable def Go.aa.KT(n:bN)(want:List aj):Option Bool:=
 (aa.cw n).bind fun (l1,i2)=>
 (aa.jl n want).bind fun b3=>
 bif i2==0 then
 bif b3 then
 (aa.lR l1 want).bind fun b4=>
 some b4
 else
 some false
 else
 some false
noncomputable def Go.aa.je(n:bN)(parts:List Int)(jf:Int):Option ((List Int)):=
 bif decide ((↑n.aA.length:Int).toNat*8≤2^47)&&decide ((↑n.aA.length:Int).toNat<2^62) then
 (aL (ω:=Int×List Int) (fun ((i1,l2):Int×List Int)=>
 bif decide (i1<(↑n.aA.length:Int)) then
 bif decide (0≤i1) then
 (n.aA[i1.toNat]?).bind fun i3=>
 bif decide (0≤i1) then
 bif decide (i1.toNat<l2.length) then
 (l2[0+i1.toNat]?).bind fun i4=>
 bif decide ((l2.set (0+i1.toNat) (IntKind.i64.wrap (i3*jf))).length=(List.replicate (↑n.aA.length:Int).toNat (0:Int)).length) then
 some (Sum.inl (IntKind.i64.wrap (i1+1),l2.set (0+i1.toNat) (IntKind.i64.wrap (i3*jf))))
 else
 none
 else
 none
 else
 none
 else
 none
 else
 bif decide (l2.length=(List.replicate (↑n.aA.length:Int).toNat (0:Int)).length) then
 some (Sum.inr (i1,l2))
 else
 none) (0,List.replicate (↑n.aA.length:Int).toNat (0:Int))).bind fun (i5,l6)=>
 bif decide ((↑n.af.length:Int).toNat*8≤2^47)&&decide ((↑n.af.length:Int).toNat<2^62) then
 (aL (ω:=Int×List Int×List Int) (fun ((i7,l8,l9):Int×List Int×List Int)=>
 bif decide (i7<(↑n.af.length:Int)) then
 bif decide (i7<(↑parts.length:Int)) then
 bif decide (0≤i7) then
 (n.aH[i7.toNat]?).bind fun i10=>
 bif decide (0<i10) then
 bif decide (0≤i7) then
 (n.aH[i7.toNat]?).bind fun i11=>
 (aL (ω:=Int×Int) (fun ((i12,i13):Int×Int)=>
 bif decide (0≤i7) then
 (n.af[i7.toNat]?).bind fun Ea=>
 bif decide (i13<(↑Ea.length:Int)) then
 bif decide (0≤i7) then
 (n.af[i7.toNat]?).bind fun uF=>
 bif decide (0≤i13) then
 (uF[i13.toNat]?).bind fun i16=>
 bif decide (0≤i16) then
 bif decide (i16.toNat<l8.length) then
 (l8[0+i16.toNat]?).bind fun i17=>
 some (Sum.inl (if i17<i12 then i17 else i12,IntKind.i64.wrap (i13+1)))
 else
 none
 else
 none
 else
 none
 else
 none
 else
 some (Sum.inr (i12,i13))
 else
 none) (IntKind.i64.wrap (i11*jf),0)).bind fun (i18,i19)=>
 bif decide (0≤i7) then
 (parts[i7.toNat]?).bind fun i20=>
 bif decide (IntKind.i64.wrap (i18+1)=0) then
 none
 else
 bif decide (0≤i7) then
 bif decide (i7.toNat<l9.length) then
 (l9[0+i7.toNat]?).bind fun i21=>
 (aL (ω:=Int×List Int) (fun ((i22,vQ):Int×List Int)=>
 bif decide (0≤i7) then
 (n.af[i7.toNat]?).bind fun VR=>
 bif decide (i22<(↑VR.length:Int)) then
 bif decide (0≤i7) then
 (n.af[i7.toNat]?).bind fun BJ=>
 bif decide (0≤i22) then
 (BJ[i22.toNat]?).bind fun i26=>
 bif decide (0≤i26) then
 bif decide (i26.toNat<vQ.length) then
 (vQ[0+i26.toNat]?).bind fun i27=>
 bif decide (0≤i7) then
 bif decide (i7.toNat<(l9.set (0+i7.toNat) ((IntKind.i64.wrap i20).tmod (IntKind.i64.wrap (i18+1)))).length) then
 ((l9.set (0+i7.toNat) ((IntKind.i64.wrap i20).tmod (IntKind.i64.wrap (i18+1))))[0+i7.toNat]?).bind fun i28=>
 bif decide (0≤i26) then
 bif decide (i26.toNat<vQ.length) then
 (vQ[0+i26.toNat]?).bind fun i29=>
 bif decide ((vQ.set (0+i26.toNat) (IntKind.i64.wrap (i27-i28))).length=l8.length) then
 some (Sum.inl (IntKind.i64.wrap (i22+1),vQ.set (0+i26.toNat) (IntKind.i64.wrap (i27-i28))))
 else
 none
 else
 none
 else
 none
 else
 none
 else
 none
 else
 none
 else
 none
 else
 none
 else
 none
 else
 bif decide (vQ.length=l8.length) then
 some (Sum.inr (i22,vQ))
 else
 none
 else
 none) (0,l8)).bind fun (i30,Ss)=>
 bif decide (Ss.length=l6.length) then
 bif decide ((l9.set (0+i7.toNat) ((IntKind.i64.wrap i20).tmod (IntKind.i64.wrap (i18+1)))).length=(List.replicate (↑n.af.length:Int).toNat (0:Int)).length) then
 some (Sum.inl (IntKind.i64.wrap (i7+1),Ss,l9.set (0+i7.toNat) ((IntKind.i64.wrap i20).tmod (IntKind.i64.wrap (i18+1)))))
 else
 none
 else
 none
 else
 none
 else
 none
 else
 none
 else
 none
 else
 (aL (ω:=Int×Int) (fun ((i32,i33):Int×Int)=>
 bif decide (0≤i7) then
 (n.af[i7.toNat]?).bind fun qD=>
 bif decide (i33<(↑qD.length:Int)) then
 bif decide (0≤i7) then
 (n.af[i7.toNat]?).bind fun ru=>
 bif decide (0≤i33) then
 (ru[i33.toNat]?).bind fun i36=>
 bif decide (0≤i36) then
 bif decide (i36.toNat<l8.length) then
 (l8[0+i36.toNat]?).bind fun i37=>
 some (Sum.inl (if i37<i32 then i37 else i32,IntKind.i64.wrap (i33+1)))
 else
 none
 else
 none
 else
 none
 else
 none
 else
 some (Sum.inr (i32,i33))
 else
 none) (IntKind.i64.wrap (1000*jf),0)).bind fun (i38,i39)=>
 bif decide (0≤i7) then
 (parts[i7.toNat]?).bind fun i40=>
 bif decide (IntKind.i64.wrap (i38+1)=0) then
 none
 else
 bif decide (0≤i7) then
 bif decide (i7.toNat<l9.length) then
 (l9[0+i7.toNat]?).bind fun i41=>
 (aL (ω:=Int×List Int) (fun ((i42,OT):Int×List Int)=>
 bif decide (0≤i7) then
 (n.af[i7.toNat]?).bind fun NJ=>
 bif decide (i42<(↑NJ.length:Int)) then
 bif decide (0≤i7) then
 (n.af[i7.toNat]?).bind fun l45=>
 bif decide (0≤i42) then
 (l45[i42.toNat]?).bind fun i46=>
 bif decide (0≤i46) then
 bif decide (i46.toNat<OT.length) then
 (OT[0+i46.toNat]?).bind fun i47=>
 bif decide (0≤i7) then
 bif decide (i7.toNat<(l9.set (0+i7.toNat) ((IntKind.i64.wrap i40).tmod (IntKind.i64.wrap (i38+1)))).length) then
 ((l9.set (0+i7.toNat) ((IntKind.i64.wrap i40).tmod (IntKind.i64.wrap (i38+1))))[0+i7.toNat]?).bind fun i48=>
 bif decide (0≤i46) then
 bif decide (i46.toNat<OT.length) then
 (OT[0+i46.toNat]?).bind fun i49=>
 bif decide ((OT.set (0+i46.toNat) (IntKind.i64.wrap (i47-i48))).length=l8.length) then
 some (Sum.inl (IntKind.i64.wrap (i42+1),OT.set (0+i46.toNat) (IntKind.i64.wrap (i47-i48))))
 else
 none
 else
 none
 else
 none
 else
 none
 else
 none
 else
 none
 else
 none
 else
 none
 else
 none
 else
 bif decide (OT.length=l8.length) then
 some (Sum.inr (i42,OT))
 else
 none
 else
 none) (0,l8)).bind fun (i50,NI)=>
 bif decide (NI.length=l6.length) then
 bif decide ((l9.set (0+i7.toNat) ((IntKind.i64.wrap i40).tmod (IntKind.i64.wrap (i38+1)))).length=(List.replicate (↑n.af.length:Int).toNat (0:Int)).length) then
 some (Sum.inl (IntKind.i64.wrap (i7+1),NI,l9.set (0+i7.toNat) ((IntKind.i64.wrap i40).tmod (IntKind.i64.wrap (i38+1)))))
 else
 none
 else
 none
 else
 none
 else
 none
 else
 none
 else
 none
 else
 bif decide (l8.length=l6.length) then
 bif decide (l9.length=(List.replicate (↑n.af.length:Int).toNat (0:Int)).length) then
 some (Sum.inr (i7,l8,l9))
 else
 none
 else
 none
 else
 bif decide (l8.length=l6.length) then
 bif decide (l9.length=(List.replicate (↑n.af.length:Int).toNat (0:Int)).length) then
 some (Sum.inr (i7,l8,l9))
 else
 none
 else
 none) (0,l6,List.replicate (↑n.af.length:Int).toNat (0:Int))).bind fun (i52,Qi,Mq)=>
 some Mq
 else
 none
 else
 none
noncomputable def Go.aa.eF(r:aj)(num:Int)(jf:Int):Option Int:=
 some (IntKind.i64.wrap (IntKind.i64.wrap (r.du*jf)-IntKind.i64.wrap (num*r.Den)))
noncomputable def Go.aa.eZ(n:bN)(parts:List Int)(jf:Int):Option Bool:=
 (aa.jM).bind fun b1=>
 (aa.iE n).bind fun b2=>
 bif b2 then
 (aa.c6 n).bind fun b3=>
 bif !b3 then
 some b1
 else
 (aa.je n parts (IntKind.i64.wrap (1+(IntKind.i64.wrap jf).tmod 60))).bind fun l4=>
 (aa.cw n).bind fun (l5,i6)=>
 bif !i6==0 then
 some false
 else
 bif !(↑l5.length:Int)==(↑l4.length:Int) then
 some false
 else
 (aL (ω:=Bool×Int) (fun ((b7,i8):Bool×Int)=>
 bif decide (i8<(↑l5.length:Int)) then
 bif decide (0≤i8) then
 (l5[i8.toNat]?).bind fun q9=>
 bif decide (0≤i8) then
 (l4[i8.toNat]?).bind fun i10=>
 (aa.eF q9 i10 (IntKind.i64.wrap (1+(IntKind.i64.wrap jf).tmod 60))).bind fun i11=>
 bif decide (0≤i11) then
 some (Sum.inl (b7,IntKind.i64.wrap (i8+1)))
 else
 (aL (ω:=Bool×Int) (fun ((Eb,i13):Bool×Int)=>
 bif decide (i13<(↑l5.length:Int)) then
 bif decide (0≤i13) then
 (l5[i13.toNat]?).bind fun q14=>
 bif decide (0≤i8) then
 (l5[i8.toNat]?).bind fun q15=>
 (aa.fk q14 q15).bind fun (i16,i17)=>
 bif Eb then
 some (Sum.inl (true,IntKind.i64.wrap (i13+1)))
 else
 bif decide (i16≤0) then
 bif decide (0≤i13) then
 (l5[i13.toNat]?).bind fun OS=>
 bif decide (0≤i13) then
 (l4[i13.toNat]?).bind fun i19=>
 (aa.eF OS i19 (IntKind.i64.wrap (1+(IntKind.i64.wrap jf).tmod 60))).bind fun i20=>
 some (Sum.inl (decide (0<i20),IntKind.i64.wrap (i13+1)))
 else
 none
 else
 none
 else
 some (Sum.inl (false,IntKind.i64.wrap (i13+1)))
 else
 none
 else
 none
 else
 some (Sum.inr (Eb,i13))) (false,0)).bind fun (SH,i22)=>
 bif b7 then
 some (Sum.inl (SH,IntKind.i64.wrap (i8+1)))
 else
 some (Sum.inl (false,IntKind.i64.wrap (i8+1)))
 else
 none
 else
 none
 else
 some (Sum.inr (b7,i8))) (b1,0)).bind fun (Ux,i24)=>
 some Ux
 else
 some b1
noncomputable def Go.aa.tF(n:bN)(times:Int):Option Bool:=
 (aa.jM).bind fun b1=>
 (aa.iE n).bind fun b2=>
 bif b2 then
 (aa.c6 n).bind fun b3=>
 bif !b3 then
 some b1
 else
 bif decide (times<1) then
 some b1
 else
 bif decide (1000<times) then
 some b1
 else
 (aL (ω:=Int×List (List Int)×List Int×List Int) (fun ((i4,l5,l6,l7):Int×List (List Int)×List Int×List Int)=>
 bif decide (i4<(↑n.aA.length:Int)) then
 bif decide (0≤i4) then
 (n.aA[i4.toNat]?).bind fun i8=>
 bif decide ((l6.length+1)*8≤2^44)&&decide (l6.length+1≤2^44) then
 some (Sum.inl (IntKind.i64.wrap (i4+1),l5,l6++[IntKind.i64.wrap (i8*times)],l7))
 else
 none
 else
 none
 else
 some (Sum.inr (i4,l5,l6,l7))) (0,n.af,[],[])).bind fun (i9,KS,BK,V1)=>
 (aL (ω:=Int×List (List Int)×List Int×List Int) (fun ((i13,Ea,uF,UC):Int×List (List Int)×List Int×List Int)=>
 bif decide (i13<(↑n.aH.length:Int)) then
 bif decide (0≤i13) then
 (n.aH[i13.toNat]?).bind fun i17=>
 bif decide ((UC.length+1)*8≤2^44)&&decide (UC.length+1≤2^44) then
 some (Sum.inl (IntKind.i64.wrap (i13+1),Ea,uF,UC++[IntKind.i64.wrap (i17*times)]))
 else
 none
 else
 none
 else
 some (Sum.inr (i13,Ea,uF,UC))) (0,KS,BK,V1)).bind fun (i18,Yy,Yz,YA)=>
 (aa.c6 (bN.mk Yz Yy YA)).bind fun Wd=>
 bif !Wd then
 some b1
 else
 (aa.cw n).bind fun (vQ,i24)=>
 (aa.cw (bN.mk Yz Yy YA)).bind fun (BJ,i26)=>
 bif !i24==0 then
 some false
 else
 bif !i26==0 then
 some false
 else
 bif !(↑vQ.length:Int)==(↑BJ.length:Int) then
 some false
 else
 (aL (ω:=Bool×Int) (fun ((Uz,i28):Bool×Int)=>
 bif decide (i28<(↑vQ.length:Int)) then
 bif Uz then
 bif decide (0≤i28) then
 (BJ[i28.toNat]?).bind fun q29=>
 bif decide (0≤i28) then
 (vQ[i28.toNat]?).bind fun q30=>
 bif decide (0≤i28) then
 (vQ[i28.toNat]?).bind fun q31=>
 bif decide (0≤i28) then
 (BJ[i28.toNat]?).bind fun q32=>
 some (Sum.inl (IntKind.i64.wrap (q29.du*q30.Den)==IntKind.i64.wrap (IntKind.i64.wrap (times*q31.du)*q32.Den),IntKind.i64.wrap (i28+1)))
 else
 none
 else
 none
 else
 none
 else
 none
 else
 some (Sum.inl (false,IntKind.i64.wrap (i28+1)))
 else
 some (Sum.inr (Uz,i28))) (b1,0)).bind fun (SJ,i34)=>
 some SJ
 else
 some b1
noncomputable def Go.aa.uT(n:bN)(oQ:Int)(more:Int):Option Bool:=
 (aa.jM).bind fun b1=>
 (aa.iE n).bind fun b2=>
 bif b2 then
 (aa.c6 n).bind fun b3=>
 bif !b3 then
 some b1
 else
 bif (↑n.af.length:Int)==0 then
 some b1
 else
 bif decide (oQ<0) then
 some b1
 else
 bif decide (more<0) then
 some b1
 else
 bif decide (1000<more) then
 some b1
 else
 bif decide ((↑n.aA.length:Int)=0) then
 none
 else
 bif decide (0≤(↑n.aA.length:Int).toNat)&&decide ((↑n.aA.length:Int).toNat*8≤2^47)&&decide ((↑n.aA.length:Int).toNat<2^62) then
 bif decide (0+n.aA.length≤(↑n.aA.length:Int).toNat)&&decide (0+n.aA.length≤(List.replicate (↑n.aA.length:Int).toNat (0:Int)).length) then
 bif decide (0≤oQ.tmod (↑n.aA.length:Int)) then
 bif decide ((oQ.tmod (↑n.aA.length:Int)).toNat<0+n.aA.length) then
 ((n.aA++List.drop (0+n.aA.length) (List.replicate (↑n.aA.length:Int).toNat (0:Int)))[0+(oQ.tmod (↑n.aA.length:Int)).toNat]?).bind fun i4=>
 bif decide (0≤oQ.tmod (↑n.aA.length:Int)) then
 bif decide ((oQ.tmod (↑n.aA.length:Int)).toNat<0+n.aA.length) then
 ((n.aA++List.drop (0+n.aA.length) (List.replicate (↑n.aA.length:Int).toNat (0:Int)))[0+(oQ.tmod (↑n.aA.length:Int)).toNat]?).bind fun i5=>
 (aa.cw n).bind fun (l6,i7)=>
 bif decide (0+(0+n.aA.length)≤((n.aA++List.drop (0+n.aA.length) (List.replicate (↑n.aA.length:Int).toNat (0:Int))).set (0+(oQ.tmod (↑n.aA.length:Int)).toNat) (if IntKind.i64.wrap (i4+more)<1000 then IntKind.i64.wrap (i4+more) else 1000)).length) then
 (aa.cw (bN.mk (List.take (0+n.aA.length) (List.drop 0 ((n.aA++List.drop (0+n.aA.length) (List.replicate (↑n.aA.length:Int).toNat (0:Int))).set (0+(oQ.tmod (↑n.aA.length:Int)).toNat) (if IntKind.i64.wrap (i4+more)<1000 then IntKind.i64.wrap (i4+more) else 1000)))) n.af n.aH)).bind fun (l8,i9)=>
 bif !i7==0 then
 some false
 else
 bif !i9==0 then
 some false
 else
 bif !(↑l6.length:Int)==(↑n.af.length:Int) then
 some false
 else
 bif !(↑l8.length:Int)==(↑l6.length:Int) then
 some false
 else
 (l6[0]?).bind fun CS=>
 (l8[0]?).bind fun Ml=>
 (aL (ω:=Int×Int×Int×Int×Int) (fun ((i12,i13,i14,i15,i16):Int×Int×Int×Int×Int)=>
 bif decide (i12<(↑l6.length:Int)) then
 bif decide (0≤i12) then
 (l6[i12.toNat]?).bind fun HZ=>
 (aa.fk HZ (aj.mk i15 i16)).bind fun (i18,i19)=>
 bif decide (0≤i12) then
 (l8[i12.toNat]?).bind fun V7=>
 (aa.fk V7 (aj.mk i13 i14)).bind fun (i21,i22)=>
 bif decide (i18<0) then
 bif decide (0≤i12) then
 (l6[i12.toNat]?).bind fun UD=>
 bif decide (i21<0) then
 bif decide (0≤i12) then
 (l8[i12.toNat]?).bind fun SM=>
 some (Sum.inl (IntKind.i64.wrap (i12+1),SM.du,SM.Den,UD.du,UD.Den))
 else
 none
 else
 some (Sum.inl (IntKind.i64.wrap (i12+1),i13,i14,UD.du,UD.Den))
 else
 none
 else
 bif decide (i21<0) then
 bif decide (0≤i12) then
 (l8[i12.toNat]?).bind fun YB=>
 some (Sum.inl (IntKind.i64.wrap (i12+1),YB.du,YB.Den,i15,i16))
 else
 none
 else
 some (Sum.inl (IntKind.i64.wrap (i12+1),i13,i14,i15,i16))
 else
 none
 else
 none
 else
 some (Sum.inr (i12,i13,i14,i15,i16))) (0,Ml.du,Ml.Den,CS.du,CS.Den)).bind fun (i26,i27,i28,i29,i30)=>
 (aa.fk (aj.mk i29 i30) (aj.mk i27 i28)).bind fun (i31,i32)=>
 (aa.oh n l6 (oQ.tmod (↑n.aA.length:Int))).bind fun (YC,b34)=>
 bif b34 then
 bif decide (0≤oQ.tmod (↑n.aA.length:Int)) then
 (n.aA[(oQ.tmod (↑n.aA.length:Int)).toNat]?).bind fun i35=>
 bif b1 then
 bif i32==0 then
 bif decide (i31≤0) then
 bif !decide (YC.du<IntKind.i64.wrap (i35*YC.Den)) then
 some true
 else
 (aa.lR l6 l8).bind fun Wf=>
 some Wf
 else
 some false
 else
 some false
 else
 some false
 else
 none
 else
 bif b1 then
 bif i32==0 then
 bif decide (i31≤0) then
 some true
 else
 some false
 else
 some false
 else
 some false
 else
 none
 else
 none
 else
 none
 else
 none
 else
 none
 else
 none
 else
 none
 else
 some b1
noncomputable def Go.aa.kC(n:bN)(x:List aj):Option Bool:=
 (aa.jM).bind fun b1=>
 (aa.iE n).bind fun b2=>
 bif !b2 then
 some b1
 else
 bif decide (50<(↑x.length:Int)) then
 some b1
 else
 (aa.cw n).bind fun (l3,i4)=>
 (aa.vW n).bind fun (l5,i6)=>
 bif b1 then
 (aa.lR l3 l5).bind fun b7=>
 bif b7 then
 bif i4==i6 then
 (aa.jl n x).bind fun b8=>
 (aa.vX n x).bind fun b9=>
 bif b8==b9 then
 (aa.gu n).bind fun Ra=>
 (aa.c6 n).bind fun SI=>
 some (Ra==SI)
 else
 some false
 else
 some false
 else
 some false
 else
 some false
noncomputable def Go.aa.qS(n:bN)(x:List aj):Option Bool:=
 (aa.jM).bind fun b1=>
 (aa.iE n).bind fun b2=>
 bif b2 then
 (aa.c6 n).bind fun b3=>
 bif !b3 then
 some b1
 else
 bif decide (50<(↑x.length:Int)) then
 some b1
 else
 (aa.cw n).bind fun (l4,i5)=>
 (aa.jl n l4).bind fun b6=>
 (aa.jl n x).bind fun b7=>
 (aL (ω:=Bool×Int) (fun ((b8,i9):Bool×Int)=>
 bif decide (i9<(↑l4.length:Int)) then
 bif b8 then
 bif decide (0≤i9) then
 (l4[i9.toNat]?).bind fun CS=>
 bif decide (1≤CS.Den) then
 bif decide (0≤i9) then
 (l4[i9.toNat]?).bind fun Ml=>
 some (Sum.inl (decide (Ml.Den≤18),IntKind.i64.wrap (i9+1)))
 else
 none
 else
 some (Sum.inl (false,IntKind.i64.wrap (i9+1)))
 else
 none
 else
 some (Sum.inl (false,IntKind.i64.wrap (i9+1)))
 else
 some (Sum.inr (b8,i9))) (b1,0)).bind fun (Eb,i13)=>
 bif Eb then
 bif i5==0 then
 bif b6 then
 (aa.lR x l4).bind fun V3=>
 some (b7==V3)
 else
 some false
 else
 some false
 else
 some false
 else
 some b1
namespace Go.Proofs.Ytedjbjphpnkpoaa
noncomputable def hints:List (Nat×Nat×Hint):=[(43,2,⟨[(4,.val 4),(5,.val 3)],[6,7,8,9,12,13,14,15,16,17,18,19,20,21,22,23,24,25,26,27,28,29,30,31,32,33,34,35,36,37,38,39,40,10,11],[],[⟨none,[(4,.val 4)],[],[],[]⟩,⟨some 0,[(4,.val 4),(5,.val 3)],[],[],[]⟩]⟩),(18,1004,⟨[(2,.val 4),(3,.val 3)],[25,26,27,28,29,32,33,34,35,36,37,38,39,40,41,42,43,44,45,30,31],[],[⟨none,[(2,.val 4)],[],[],[]⟩,⟨some 0,[(2,.val 4),(3,.val 3)],[],[],[]⟩]⟩),(18,1009,⟨[(2,.val 4),(4,.val 3)],[46,47,48,49,50,53,54,55,56,57,58,59,60,61,5,62,63,64,65,66,67,68,69,70,71,72,73,74,75,76,77,78,79,51,52],[],[⟨none,[(2,.val 4)],[],[],[]⟩,⟨some 2,[(2,.val 4),(4,.val 3)],[],[],[]⟩]⟩),(32,2,⟨[(4,.val 4),(5,.val 3)],[6,7,8,9,12,13,14,15,16,17,10,11],[],[⟨none,[(4,.val 4)],[],[],[]⟩,⟨some 0,[(4,.val 4),(5,.val 3)],[],[],[]⟩]⟩),(59,1,⟨[(0,.val 3),(1,.val 3)],[6,7,8,9,10,5,11,12],[],[⟨some 0,[(0,.val 3),(1,.val 3)],[],[],[]⟩]⟩),(31,3004,⟨[(11,.val 3),(12,.val 3)],[20,21,22,23,24,27,28,29,30,31,32,33,13,34,35,36,37,38,39,40,42,43,44,45,46,47,41,48,49,50,51,52,53,54,55,56,57,58,59,25,26],[(2,.agg [.val 2,.val 2])],[⟨some 0,[(11,.val 3),(12,.val 3)],[],[],[]⟩]⟩),(13,5012,⟨[(9,.val 3),(11,.val 3)],[40,41,42,43,44,48,49,50,51,52,47,53,54,12,13,56,57,58,55,59,60,14,15,61,62,63,64,65,66,67,68,45,46],[(4,.agg [.val 2,.val 2])],[⟨some 2,[(9,.val 3),(11,.val 3)],[],[],[]⟩]⟩),(13,5020,⟨[(10,.val 3),(9,.val 3),(16,.val 3)],[69,70,71,72,73,76,77,78,79,80,81,17,83,84,85,82,86,87,18,19,88,89,90,91,92,93,94,95,96,97,98,99,100,101,102,103,104,105,106,74,75],[(4,.agg [.val 2,.val 2])],[⟨some 4,[(10,.val 3),(9,.val 3),(16,.val 3)],[],[],[]⟩]⟩),(13,5029,⟨[(7,.val 3),(20,.val 3)],[107,108,109,110,111,114,115,116,117,118,119,120,121,122,123,124,21,125,126,127,128,129,130,131,132,133,134,135,136,137,138,139,140,141,142,143,144,145,146,147,148,149,150,112,113],[(2,.fix 35),(3,.fix 4)],[⟨some 6,[(7,.val 3),(20,.val 3)],[],[],[]⟩]⟩),(13,4007,⟨[(7,.val 3)],[37,38,39,8,9,10,11,40,41,42,43,44,48,49,50,51,52,47,53,54,12,13,56,57,58,55,59,60,14,15,61,62,63,64,65,66,67,68,45,46,16,69,70,71,72,73,76,77,78,79,80,81,17,83,84,85,82,86,87,18,19,88,89,90,91,92,93,94,95,96,97,98,99,100,101,102,103,104,105,106,74,75,20,107,108,109,110,111,114,115,116,117,118,119,120,121,122,123,124,21,125,126,127,128,129,130,131,132,133,134,135,136,137,138,139,140,141,142,143,144,145,146,147,148,149,150,112,113],[(2,.fix 35),(3,.fix 4)],[⟨some 0,[(7,.val 3)],[],[],[]⟩]⟩),(56,7001,⟨[(12,.val 3)],[13,14,15,16,4,5,17,18,19,20,21,22,23,24,25,26],[(3,.one (.val 2)),(2,.agg [.val 2,.val 2])],[⟨some 0,[(12,.val 3)],[],[(6,.ready)],[]⟩]⟩),(15,2004,⟨[(4,.val 4),(30,.val 3)],[31,32,33,34,6,5,35,36,37,38,39,40,41,42,43,44,45,46,47,48,49,50,51,52,53,54,55,56,57,58,59,60,61],[],[⟨none,[(4,.val 4)],[.gY],[],[]⟩,⟨some 0,[(4,.val 4),(30,.val 3)],[],[],[]⟩]⟩),(15,6012,⟨[(72,.val 3)],[73,74,75,76,9,10,77,78,79,80,81,82,83,84,85,86,87,88,89,90,91],[(4,.fix 4)],[⟨some 2,[(72,.val 3)],[],[],[]⟩]⟩),(56,16001,⟨[(12,.val 3)],[13,14,15,16,4,5,17,18,19,20,21,22,23,24,25,26],[(12,.one (.val 4))],[⟨some 0,[(12,.val 3)],[],[(15,.ready),(10,.busy)],[]⟩]⟩),(56,11001,⟨[(12,.val 3)],[13,14,15,16,4,5,17,18,19,20,21,22,23,24,25,26],[(4,.fix 4)],[⟨some 0,[(12,.val 3)],[],[(10,.ready)],[]⟩]⟩),(15,6017,⟨[(4,.val 4),(95,.val 3)],[96,97,11,99,100,101,98,102,103,12,13,104,105,106,107,108,147],[(4,.fix 4)],[⟨none,[(4,.val 4)],[.gY,.gY],[],[]⟩,⟨some 4,[(4,.val 4),(95,.val 3)],[],[],[]⟩]⟩),(22,3003,⟨[(7,.val 4),(9,.val 3)],[14,15,16,17,18,21,22,23,24,25,26,27,10,28,30,31,32,33,34,35,29,36,37,11,12,38,39,40,41,19,20],[(2,.agg [.val 2,.val 2])],[⟨none,[(7,.val 4)],[.gY],[],[(1,.agg [.val 2,.val 2])]⟩,⟨some 0,[(7,.val 4),(9,.val 3)],[],[],[]⟩]⟩),(39,2003,⟨[(8,.val 4),(11,.val 3)],[22,23,24,25,26,29,30,31,32,33,34,35,12,37,38,39,40,41,42,43,44,45,36,46,47,13,14,48,49,50,51,52,27,28],[],[⟨none,[(8,.val 4)],[],[],[]⟩,⟨some 0,[(8,.val 4),(11,.val 3)],[],[],[]⟩]⟩),(16,1005,⟨[(4,.val 4),(6,.val 3)],[26,27,28,29,32,33,34,35,36,7,37,38,39,40,41,42,43,44,45,46,47,48,49,50,51,52,53,54,55,56,57,58,59,60,61,62,63,64,65,66,67,68,69,70,71,72,73,30,31],[],[⟨none,[(4,.val 4)],[],[],[]⟩,⟨some 0,[(4,.val 4),(6,.val 3)],[],[],[]⟩]⟩),(16,1011,⟨[(4,.val 4),(8,.val 3)],[74,75,76,77,78,82,83,84,85,81,86,87,9,10,88,89,90,91,92,93,94,95,96,97,98,99,100,101,102,79,80],[],[⟨none,[(4,.val 4)],[.gY],[],[]⟩,⟨some 2,[(4,.val 4),(8,.val 3)],[],[],[]⟩]⟩),(16,1021,⟨[(12,.val 4),(13,.val 3)],[136,137,138,139,140,141,142,143,144,145,146,147,150,151,152,153,154,155,156,157,158,159,160,161,148,149],[],[⟨some 6,[(12,.val 4),(13,.val 3)],[],[],[]⟩]⟩),(16,1017,⟨[(4,.val 4),(11,.val 3)],[103,104,105,106,109,110,111,112,113,114,115,116,117,118,119,120,121,122,123,124,125,126,127,128,129,130,131,132,133,134,135,12,13,136,137,138,139,140,141,142,143,144,145,146,147,150,151,152,153,154,155,156,157,158,159,160,161,148,149,162,163,107,108],[],[⟨none,[(4,.val 4)],[],[],[]⟩,⟨some 4,[(4,.val 4),(11,.val 3)],[],[],[]⟩]⟩),(11,1002,⟨[(2,.val 4),(3,.val 3)],[4,5,6,7,8,9,10,11,12,15,16,17,18,19,20,21,13,14],[],[⟨none,[(2,.val 4)],[],[],[]⟩,⟨some 0,[(2,.val 4),(3,.val 3)],[],[],[]⟩]⟩),(14,4,⟨[(4,.val 4),(5,.val 3)],[11,12,13,14,17,18,19,20,21,22,23,24,25,15,16],[],[⟨none,[(4,.val 4)],[],[],[]⟩,⟨some 0,[(4,.val 4),(5,.val 3)],[],[],[]⟩]⟩),(86,2,⟨[(4,.val 3),(8,.val 3)],[9,10,5,11,12,13,14,15,16,17,18],[],[⟨none,[(4,.val 3)],[],[],[]⟩,⟨some 0,[(4,.val 3),(8,.val 3)],[],[],[]⟩]⟩),(42,2,⟨[(4,.val 4),(9,.val 3)],[10,11,12,13,5,6,14,15,16,17,18,19,20,21,22,23,24,25,26,27,28,29,30,31,32],[],[⟨none,[(4,.val 4)],[],[],[]⟩,⟨some 0,[(4,.val 4),(9,.val 3)],[],[],[]⟩]⟩),(17,2004,⟨[(2,.val 4),(33,.val 3)],[34,35,36,4,37,38,39,40],[],[⟨none,[(2,.val 4)],[],[],[]⟩,⟨some 0,[(2,.val 4),(33,.val 3)],[],[],[]⟩]⟩),(17,2010,⟨[(2,.val 4),(44,.val 3)],[45,46,47,6,48,49,50,51,52,53,54],[],[⟨none,[(2,.val 4)],[],[],[]⟩,⟨some 2,[(2,.val 4),(44,.val 3)],[],[],[]⟩]⟩),(48,2,⟨[(4,.val 3),(8,.val 3)],[9,10,5,11,12,13,14,15,16,17,18],[],[⟨none,[(4,.val 3)],[],[],[]⟩,⟨some 0,[(4,.val 3),(8,.val 3)],[],[],[]⟩]⟩),(12,6006,⟨[(5,.own 1 5),(25,.val 3)],[26,27,6,28,29,30,31,32,33],[(5,.list 82)],[⟨some 0,[(5,.own 1 5),(25,.val 3)],[],[],[]⟩]⟩),(12,6011,⟨[(5,.own 1 5),(37,.val 3)],[38,39,7,40,41,42,43,44,45],[(5,.list 82)],[⟨some 2,[(5,.own 1 5),(37,.val 3)],[],[],[]⟩]⟩),(30,8003,⟨[(4,.own 2 6),(5,.own 1 7),(19,.val 3)],[20,21,22,7,24,25,26,23,27,28,8,9,29,30,31,32,33,34,35,36,37,38],[(6,.list 35),(7,.list 82)],[⟨some 0,[(4,.own 2 6),(5,.own 1 7),(19,.val 3)],[],[],[]⟩]⟩),(49,10003,⟨[(13,.val 3)],[14,15,16,7,17,18,19,20,21,22],[(9,.agg [.val 2,.val 2])],[⟨some 0,[(13,.val 3)],[],[],[]⟩]⟩),(30,10015,⟨[(11,.own 1 9),(54,.val 3)],[55,56,14,57,58,59,60,61,62,63,64,65,66,67,68,69,70,71,72,73,74,75,76,77,78,79,80,81,82,83],[(9,.list 3)],[⟨some 4,[(11,.own 1 9),(54,.val 3)],[],[],[]⟩]⟩),(30,10012,⟨[(11,.own 1 9),(43,.val 3)],[44,45,46,47,12,13,48,49,50,51,52,53,54,55,56,14,57,58,59,60,61,62,63,64,65,66,67,68,69,70,71,72,73,74,75,76,77,78,79,80,81,82,83,84],[(9,.list 3)],[⟨some 2,[(11,.own 1 9),(43,.val 3)],[],[],[]⟩]⟩),(30,10022,⟨[(87,.val 3)],[88,89,90,16,91,92,93,94,95,96,97,98,99,100,101,102,103,104],[(3,.fix 35),(2,.fix 4)],[⟨some 6,[(87,.val 3)],[],[],[]⟩]⟩),(12,6015,⟨[],[46,47,48,49,50,51,52,53],[(3,.fix 35),(2,.fix 4)],[⟨some 4,[],[],[],[]⟩]⟩),(19,3003,⟨[(8,.val 3)],[18,19,20,21,22,25,26,27,28,29,30,31,32,33,34,23,24],[(2,.fix 3)],[⟨some 0,[(8,.val 3)],[],[],[]⟩]⟩),(19,4014,⟨[(11,.val 3),(12,.val 3)],[67,68,69,70,71,72,73,74,77,78,79,80,81,82,83,84,85,86,87,88,89,75,76],[],[⟨some 4,[(11,.val 3),(12,.val 3)],[],[],[]⟩]⟩),(19,4019,⟨[(13,.val 3)],[101,102,103,104,105,106,107,108,111,112,113,114,115,116,117,118,119,120,121,122,123,124,125,126,127,109,110],[(2,.fix 3)],[⟨some 6,[(13,.val 3)],[],[],[]⟩]⟩),(19,4008,⟨[(10,.val 3)],[39,40,41,42,43,44,45,46,47,48,49,52,53,11,54,55,56,57,58,59,60,61,62,63,64,65,66,12,67,68,69,70,71,72,73,74,77,78,79,80,81,82,83,84,85,86,87,88,89,75,76,90,91,92,93,94,95,96,97,98,99,100,13,101,102,103,104,105,106,107,108,111,112,113,114,115,116,117,118,119,120,121,122,123,124,125,126,127,109,110,50,51],[(2,.fix 3),(3,.fix 3)],[⟨some 2,[(10,.val 3)],[],[],[]⟩]⟩),(5,1017,⟨[(15,.val 4),(16,.val 3)],[69,70,71,72,76,77,78,79,80,81,82,83,84,75,85,86,17,18,87,88,89,90,91,92,93,94,95,96,97,98,99,100,101,102,103,104,73,74],[],[⟨some 2,[(15,.val 4),(16,.val 3)],[],[],[]⟩]⟩),(5,1012,⟨[(7,.val 4),(14,.val 3)],[52,53,54,55,58,59,60,61,62,63,64,65,66,67,68,15,16,69,70,71,72,76,77,78,79,80,81,82,83,84,75,85,86,17,18,87,88,89,90,91,92,93,94,95,96,97,98,99,100,101,102,103,104,73,74,105,106,107,108,56,57],[],[⟨some 0,[(7,.val 4),(14,.val 3)],[],[],[]⟩]⟩),(7,6016,⟨[(18,.val 3)],[123,124,125,126,130,131,132,133,134,135,129,136,137,19,20,139,140,141,142,143,144,138,145,146,21,22,147,148,149,150,151,152,153,154,155,156,157,158,127,128],[(5,.agg [.val 2,.val 2]),(4,.agg [.val 2,.val 2])],[⟨some 0,[(18,.val 3)],[],[],[]⟩]⟩),(8,2008,⟨[(7,.val 3)],[31,32,35,36,37,38,39,40,41,42,43,44,33,34],[(1,.agg [.val 22,.val 23,.val 22])],[⟨some 0,[(7,.val 3)],[],[],[]⟩]⟩),(8,3016,⟨[(9,.own 1 2),(10,.val 3)],[60,61,64,65,66,67,68,69,70,71,72,73,74,75,76,77,78,79,62,63],[(2,.list 3)],[⟨some 4,[(9,.own 1 2),(10,.val 3)],[],[],[]⟩]⟩),(8,2012,⟨[(8,.val 3)],[49,50,9,53,54,55,56,57,58,59,10,60,61,64,65,66,67,68,69,70,71,72,73,74,75,76,77,78,79,62,63,80,81,82,83,84,85,86,87,88,89,90,91,92,93,94,95,51,52],[],[⟨some 2,[(8,.val 3)],[],[],[]⟩]⟩),(8,2026,⟨[(3,.val 4),(15,.val 3)],[127,128,129,130,133,134,135,136,137,138,139,140,141,142,143,144,145,146,147,148,131,132],[],[⟨some 6,[(3,.val 4),(15,.val 3)],[],[],[]⟩]⟩),(4,1010,⟨[(5,.val 4),(12,.val 3)],[40,41,42,43,46,47,48,49,50,51,52,53,54,55,56,57,58,59,60,61,62,44,45],[],[⟨some 0,[(5,.val 4),(12,.val 3)],[],[],[]⟩]⟩),(6,4008,⟨[(9,.val 3)],[39,40,41,42,43,46,47,48,49,50,51,52,53,54,55,56,57,44,45],[(3,.agg [.own 1 1,.val 23,.own 1 2]),(1,.list 3),(2,.list 3)],[⟨some 0,[(9,.val 3)],[],[],[]⟩]⟩),(6,4012,⟨[(10,.val 3)],[58,59,60,61,62,65,66,67,68,69,70,71,72,73,74,75,76,63,64],[(3,.agg [.own 1 1,.val 23,.own 1 2]),(1,.list 3),(2,.list 3)],[⟨some 2,[(10,.val 3)],[],[],[]⟩]⟩),(6,4023,⟨[(5,.val 4),(16,.val 3)],[105,106,107,108,111,112,113,114,115,116,117,118,119,120,121,122,123,124,125,126,127,128,129,130,131,132,133,134,135,136,137,138,109,110],[],[⟨some 4,[(5,.val 4),(16,.val 3)],[],[],[]⟩]⟩)]
noncomputable def Qj:List (Nat×Nat×Hint):=[(56,7001,⟨[(12,.val 3)],[13,14,15,16,4,5,17,18,19,20,21,22,23,24,25,26],[(3,.agg [.val 2,.val 2])],[⟨none,[],[],[(6,.jump none)],[(2,.one (.val 4)),(1,.agg [.val 2,.val 2])]⟩,⟨some 0,[(12,.val 3)],[],[(6,.ready)],[]⟩]⟩)]
def uK:FuncId→Nat→Bool:=fun f _=>Nat.beq f 10
noncomputable def Wh:List (Nat×uJ T):=[(41,⟨[3,3,3],[4],fun x=>Go.aa.nF x.1 x.2.1 x.2.2⟩),
 (42,⟨[22,3],[4],fun x=>Go.aa.jV x.1 x.2⟩),
 (40,⟨[23],[22],fun x=>Go.aa.gX x⟩),
 (17,⟨[25],[4],fun x=>Go.aa.gu x⟩),
 (48,⟨[53,4],[3],fun x=>Go.aa.n9 x.1 x.2⟩),
 (29,⟨[53,4],[4],fun x=>Go.aa.ff x.1 x.2⟩),
 (52,⟨[87],[4],fun x=>Go.aa.bM x⟩),
 (82,⟨[3,3],[3],fun x=>Go.aa.jU x.1 x.2⟩),
 (53,⟨[87],[87],fun x=>Go.aa.cT x⟩),
 (33,⟨[35],[4],fun x=>Go.aa.cM x⟩),
 (95,⟨[3],[4],fun x=>Go.aa.qv x⟩),
 (83,⟨[3,3],[3],fun x=>Go.aa.pN x.1 x.2⟩),
 (54,⟨[35,35],[3,29],fun x=>Go.aa.qu x.1 x.2⟩),
 (34,⟨[35,35],[4],fun x=>Go.aa.fT x.1 x.2⟩),
 (43,⟨[22,3],[4],fun x=>Go.aa.n8 x.1 x.2⟩),
 (18,⟨[25],[4],fun x=>Go.aa.c6 x⟩),
 (32,⟨[22,3],[4],fun x=>Go.aa.pT x.1 x.2⟩),
 (58,⟨[3,3],[4],fun x=>Go.aa.lK x.1 x.2⟩),
 (60,⟨[3],[3],fun x=>Go.aa.nG x⟩),
 (59,⟨[3,3],[3],fun x=>Go.aa.fj x.1 x.2⟩),
 (38,⟨[35],[4],fun x=>Go.aa.cN x⟩),
 (62,⟨[3,3],[35,29],fun x=>Go.aa.jZ x.1 x.2⟩),
 (50,⟨[35,35],[35,29],fun x=>Go.aa.z3 x.1 x.2⟩),
 (51,⟨[35,35],[35,29],fun x=>Go.aa.z4 x.1 x.2⟩),
 (31,⟨[25,53,26,3],[35,3],fun x=>Go.aa.vV x.1 x.2.1 x.2.2.1 x.2.2.2⟩),
 (21,⟨[35,35],[3,29],fun x=>Go.aa.fk x.1 x.2⟩),
 (13,⟨[25],[26,29],fun x=>Go.aa.vW x⟩),
 (35,⟨[3],[35],fun x=>Go.aa.dy x⟩),
 (86,⟨[22,3],[3],fun x=>Go.aa.mK x.1 x.2⟩),
 (57,⟨[22,3],[4],fun x=>Go.aa.bK x.1 x.2⟩),
 (96,⟨[87],[35,29],fun x=>Go.aa.bp x⟩),
 (55,⟨[35,35],[35,29],fun x=>Go.aa.z5 x.1 x.2⟩),
 (36,⟨[52,57],[35,4],fun x=>Go.aa.mz x.1 x.2⟩),
 (15,⟨[25,26],[4],fun x=>Go.aa.jl x.1 x.2⟩),
 (44,⟨[35,35],[35,29],fun x=>Go.aa.z6 x.1 x.2⟩),
 (22,⟨[25,26,3],[35,4],fun x=>Go.aa.oh x.1 x.2.1 x.2.2⟩),
 (39,⟨[25,26,3,3],[4],fun x=>Go.aa.oi x.1 x.2.1 x.2.2.1 x.2.2.2⟩),
 (16,⟨[25,26],[4],fun x=>Go.aa.vX x.1 x.2⟩),
 (11,⟨[25],[4],fun x=>Go.aa.iE x⟩),
 (14,⟨[26,26],[4],fun x=>Go.aa.lR x.1 x.2⟩),
 (117,⟨[35,35],[35,29],fun x=>Go.aa.nE x.1 x.2⟩),
 (118,⟨[35,35],[35,29],fun x=>Go.aa.qt x.1 x.2⟩),
 (115,⟨[57,52],[35,4],fun x=>Go.aa.cf x.1 x.2⟩),
 (116,⟨[57,52,3],[4],fun x=>Go.aa.fJ x.1 x.2.1 x.2.2⟩),
 (121,⟨[58,52],[35,4],fun x=>Go.aa.cz x.1 x.2⟩),
 (122,⟨[58,52,3],[4],fun x=>Go.aa.lT x.1 x.2.1 x.2.2⟩),
 (12,⟨[25],[26,29],fun x=>Go.aa.cw x⟩),
 (28,⟨[3],[35],fun x=>Go.aa.Dc x⟩),
 (27,⟨[25,26],[4],fun x=>Go.aa.KT x.1 x.2⟩),
 (19,⟨[25,36,3],[22],fun x=>Go.aa.je x.1 x.2.1 x.2.2⟩),
 (20,⟨[35,3,3],[3],fun x=>Go.aa.eF x.1 x.2.1 x.2.2⟩),
 (10,⟨[],[4],fun x=>Go.aa.jM ⟩),
 (5,⟨[25,36,5],[4],fun x=>Go.aa.eZ x.1 x.2.1 x.2.2⟩),
 (6,⟨[25,3],[4],fun x=>Go.aa.tF x.1 x.2⟩),
 (7,⟨[25,3,3],[4],fun x=>Go.aa.uT x.1 x.2.1 x.2.2⟩),
 (3,⟨[25,26],[4],fun x=>Go.aa.kC x.1 x.2⟩),
 (4,⟨[25,26],[4],fun x=>Go.aa.qS x.1 x.2⟩)]
noncomputable abbrev S(n:Nat):oa:=GQ C T Bl (Go.PI.GH hints) uK Wh n kf tA SN
theorem KU{h h':FuncId→Nat→Option Hint}{r:FuncId→Nat→Bool}{L:List (Nat×uJ T)}{n:Nat}(k:(GQ C T Bl h r L n kf tA SN).Ok):(GQ C T Bl h' r L n kf tA SN).Ok:=⟨k.T,k.Q,k.Z,k.sum,k.own⟩
theorem s0:(S 0).Ok:=Dd YD Qk YE sf
end Go.Proofs.Ytedjbjphpnkpoaa
end
