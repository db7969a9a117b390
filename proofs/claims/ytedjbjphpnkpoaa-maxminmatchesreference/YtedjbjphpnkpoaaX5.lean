/- Part 5 of the proof: texts of this session laid one behind the other. -/
import Derived.Test.YtedjbjphpnkpoaaProg
import Derived.KernelRfl
import Derived.Test.YtedjbjphpnkpoaaX4
set_option linter.unusedVariables false
set_option linter.unusedSimpArgs false
section
/- The types of this seat: what must hold of them (printed by gen_tys.py out of the dump). -/
set_option maxRecDepth 100000
namespace Go.Proofs.Ytedjbjphpnkpoaa
open Go.PI
theorem Jz{H:ai den}{v:V}{vs:List V}{l:List AV}:RL T H (v::vs) l↔∃ c cs,l=c::cs∧R T H v c∧RL T H vs cs:=Ez (T:=T)
theorem VK{H:ai den}{l:List AV}:RL T H [] l↔l=[]:=Gp (T:=T)
theorem UE(x:bt)(a:AV)(H:ai den)(h:Je x a):R T H (O7 x) a:=by
 obtain⟨a0,a1,a2,h0,h1,h2,rfl⟩:=h
 unfold O7
 simp only[R]
 refine⟨_,rfl,?_⟩
 simp only[RL,R,and_true,true_and]
 exact⟨h0,h1,h2⟩
theorem UF(v:V)(x:bt)(a:AV)(H:ai den)(h:O8 v=some x)(hr:R T H v a):Je x a:=by
 unfold O8 at h
 split at h
 ·simp only[Option.bind_eq_some_iff,Option.some.injEq]at h
  obtain⟨b0,g0,b1,g1,b2,g2,rfl⟩:=h
  simp only[R]at hr
  obtain⟨_,rfl,hl⟩:=hr
  obtain⟨c0,_,rfl,r0,hl⟩:=Jz.1 hl
  obtain⟨c1,_,rfl,r1,hl⟩:=Jz.1 hl
  obtain⟨c2,_,rfl,r2,hl⟩:=Jz.1 hl
  cases VK.1 hl
  have e0:=gG (T:=T) (e:=3) (fun _ _ _ h hr=>fi (T:=T) h hr) g0 r0
  have e1:=gG (T:=T) (e:=22) (fun _ _ _ h hr=>gG (T:=T) (e:=3) (fun _ _ _ h hr=>fi (T:=T) h hr) h hr) g1 r1
  have e2:=gG (T:=T) (e:=3) (fun _ _ _ h hr=>fi (T:=T) h hr) g2 r2
  exact⟨_,_,_,e0,e1,e2,rfl⟩
 ·simp at h
theorem UG(x:bt)(a:AV)(h:Je x a):aJ true 3 a=true∧closed a=true:=by
 obtain⟨a0,a1,a2,h0,h1,h2,rfl⟩:=h
 have k0:=eG h0
 have k1:=eG h1
 have k2:=eG h2
 exact⟨by simp[aJ,uK,rJ,uM,k0.2.2,k1.2.2,k2.2.2],by simp[closed,bc,k0.2.1,k1.2.1,k2.2.1]⟩
theorem UH(x:ah)(a:AV)(H:ai den)(h:z5 x a):R T H (O9 x) a:=by
 unfold z5 at h; subst h
 unfold O9
 simp only[R]
 refine⟨_,rfl,?_⟩
 simp only[RL,R,and_true,true_and]
theorem Pd(v:V)(x:ah)(a:AV)(H:ai den)(h:Mu v=some x)(hr:R T H v a):z5 x a:=by
 unfold Mu at h
 split at h
 ·simp only[Option.bind_eq_some_iff,Option.some.injEq]at h
  obtain⟨b0,g0,b1,g1,rfl⟩:=h
  simp only[R]at hr
  obtain⟨_,rfl,hl⟩:=hr
  obtain⟨c0,_,rfl,r0,hl⟩:=Jz.1 hl
  obtain⟨c1,_,rfl,r1,hl⟩:=Jz.1 hl
  cases VK.1 hl
  cases fi (T:=T) g0 r0
  cases fi (T:=T) g1 r1
  exact rfl
 ·simp at h
theorem UI(x:ah)(a:AV)(h:z5 x a):aJ true 2 a=true∧closed a=true:=by
 unfold z5 at h; subst h
 exact⟨by simp[aJ,uK,rJ,uM],by simp[closed,bc]⟩
theorem R6(x:cr)(a:AV)(H:ai den)(h:Jf x a):R T H (Mv x) a:=by
 obtain⟨a0,a1,a2,a3,a4,h0,h1,h2,h3,h4,rfl⟩:=h
 unfold Mv
 simp only[R]
 refine⟨_,rfl,?_⟩
 simp only[RL,R,and_true,true_and]
 exact⟨h0,h1,h2,h3,h4⟩
theorem R7(v:V)(x:cr)(a:AV)(H:ai den)(h:Mw v=some x)(hr:R T H v a):Jf x a:=by
 unfold Mw at h
 split at h
 ·simp only[Option.bind_eq_some_iff,Option.some.injEq]at h
  obtain⟨b0,g0,b1,g1,b2,g2,b3,g3,b4,g4,rfl⟩:=h
  simp only[R]at hr
  obtain⟨_,rfl,hl⟩:=hr
  obtain⟨c0,_,rfl,r0,hl⟩:=Jz.1 hl
  obtain⟨c1,_,rfl,r1,hl⟩:=Jz.1 hl
  obtain⟨c2,_,rfl,r2,hl⟩:=Jz.1 hl
  obtain⟨c3,_,rfl,r3,hl⟩:=Jz.1 hl
  obtain⟨c4,_,rfl,r4,hl⟩:=Jz.1 hl
  cases VK.1 hl
  have e0:=gG (T:=T) (e:=3) (fun _ _ _ h hr=>fi (T:=T) h hr) g0 r0
  have e1:=gG (T:=T) (e:=22) (fun _ _ _ h hr=>gG (T:=T) (e:=3) (fun _ _ _ h hr=>fi (T:=T) h hr) h hr) g1 r1
  have e2:=gG (T:=T) (e:=3) (fun _ _ _ h hr=>fi (T:=T) h hr) g2 r2
  have e3:=gG (T:=T) (e:=4) (fun _ _ _ h hr=>Ms (T:=T) h hr) g3 r3
  have e4:=gG (T:=T) (e:=35) (fun _ _ _ h hr=>Pd _ _ _ H h hr) g4 r4
  exact⟨_,_,_,_,_,e0,e1,e2,e3,e4,rfl⟩
 ·simp at h
theorem UJ(x:cr)(a:AV)(h:Jf x a):aJ true 5 a=true∧closed a=true:=by
 obtain⟨a0,a1,a2,a3,a4,h0,h1,h2,h3,h4,rfl⟩:=h
 have k0:=eG h0
 have k1:=eG h1
 have k2:=eG h2
 have k3:=eG h3
 have k4:=eG h4
 exact⟨by simp[aJ,uK,rJ,uM,k0.2.2,k1.2.2,k2.2.2,k3.2.2,k4.2.2],by simp[closed,bc,k0.2.1,k1.2.1,k2.2.1,k3.2.1,k4.2.1]⟩
theorem UK(x:eu)(a:AV)(H:ai den)(h:EB x a):R T H (Pa x) a:=by
 unfold EB at h; subst h
 obtain⟨b,n⟩:=x
 cases b<;>simp[Pa,R]
theorem R8(v:V)(x:eu)(a:AV)(H:ai den)(h:Mx v=some x)(hr:R T H v a):EB x a:=by
 unfold Mx at h
 split at h
 ·rename_i t w
  simp only[Option.bind_eq_some_iff]at h
  obtain⟨n,g,h⟩:=h
  simp only[R]at hr
  obtain⟨a',rfl,hr⟩:=hr
  have e:=fi (T:=T) g hr
  subst e
  cases h1:Nat.beq t 57 with
  |true=>
   rw[h1]at h
   obtain rfl:=Nat.eq_of_beq_eq_true h1
   cases h
   rfl
  |false=>
   rw[h1]at h
   cases h2:Nat.beq t 58 with
   |true=>
    rw[h2]at h
    obtain rfl:=Nat.eq_of_beq_eq_true h2
    cases h
    rfl
   |false=>rw[h2]at h; cases h
 ·simp at h
theorem UL(x:eu)(a:AV)(h:EB x a):aJ false 1 a=true∧closed a=true:=by
 unfold EB at h; subst h
 exact⟨rfl,rfl⟩
theorem UM(x:ah)(a:AV)(H:ai den)(h:Gq x a):R T H (Pb x) a:=by
 unfold Gq at h; subst h
 unfold Pb
 simp only[R]
 refine⟨_,rfl,?_⟩
 simp only[RL,R,and_true,true_and]
theorem UN(v:V)(x:ah)(a:AV)(H:ai den)(h:Pc v=some x)(hr:R T H v a):Gq x a:=by
 unfold Pc at h
 split at h
 ·simp only[Option.bind_eq_some_iff,Option.some.injEq]at h
  obtain⟨b0,g0,b1,g1,rfl⟩:=h
  simp only[R]at hr
  obtain⟨_,rfl,hl⟩:=hr
  obtain⟨c0,_,rfl,r0,hl⟩:=Jz.1 hl
  obtain⟨c1,_,rfl,r1,hl⟩:=Jz.1 hl
  cases VK.1 hl
  cases fi (T:=T) g0 r0
  cases fi (T:=T) g1 r1
  exact rfl
 ·simp at h
theorem UO(x:ah)(a:AV)(h:Gq x a):aJ true 2 a=true∧closed a=true:=by
 unfold Gq at h; subst h
 exact⟨by simp[aJ,uK,rJ,uM],by simp[closed,bc]⟩
theorem Ye(t:Nat)(x:den t)(a:AV)(H:ai den)(h:rp t x a):R T H (up t x) a:=by
 unfold rp at h
 split at h
 ·exact uL (T:=T) h
 ·exact uL (T:=T) h
 ·exact uL (T:=T) h
 ·exact uL (T:=T) h
 ·exact uL (T:=T) h
 ·exact uG (T:=T) (e:=3) h
 ·exact uG (T:=T) (e:=22) h
 ·exact UE _ _ H h
 ·exact UE _ _ H h
 ·exact uG (T:=T) (e:=35) h
 ·exact uL (T:=T) h
 ·exact UH _ _ H h
 ·exact UH _ _ H h
 ·exact uG (T:=T) (e:=73) h
 ·exact uG (T:=T) (e:=4) h
 ·exact R6 _ _ H h
 ·exact R6 _ _ H h
 ·exact uG (T:=T) (e:=82) h
 ·exact uL (T:=T) h
 ·exact uL (T:=T) h
 ·exact uL (T:=T) h
 ·exact uL (T:=T) h
 ·exact UK _ _ H h
 ·exact UK _ _ H h
 ·exact UM _ _ H h
 ·exact UM _ _ H h
 ·exact uL (T:=T) h
 ·exact uL (T:=T) h
 ·exact uL (T:=T) h
 ·exact uL (T:=T) h
 ·exact uP (T:=T) (fun b hb=>R6 _ _ H hb) rfl h
 ·exact h.elim
theorem Yf(t:Nat)(v:V)(x:den t)(a:AV)(H:ai den)(h:dn t v=some x)(hr:R T H v a):rp t x a:=by
 revert x h hr
 refine dn.fun_cases_unfolding (motive:=fun t v r=>∀ (x:den t),r=some x→R T H v a→rp t x a) ?_ ?_ ?_ ?_ ?_ ?_ ?_ ?_ ?_ ?_ ?_ ?_ ?_ ?_ ?_ ?_ ?_ ?_ ?_ ?_ ?_ ?_ ?_ ?_ ?_ ?_ ?_ ?_ ?_ ?_ ?_ ?_ t v
 ·intro v x h hr; exact fi (T:=T) h hr
 ·intro v x h hr; exact fi (T:=T) h hr
 ·intro v x h hr; exact Ms (T:=T) h hr
 ·intro v x h hr; exact fi (T:=T) h hr
 ·intro v x h hr; exact Ur (T:=T) h hr
 ·intro v x h hr; exact gG (T:=T) (e:=3) (fun _ _ _ h hr=>fi (T:=T) h hr) h hr
 ·intro v x h hr; exact gG (T:=T) (e:=22) (fun _ _ _ h hr=>gG (T:=T) (e:=3) (fun _ _ _ h hr=>fi (T:=T) h hr) h hr) h hr
 ·intro v x h hr; exact UF _ _ _ H h hr
 ·intro v x h hr; exact UF _ _ _ H h hr
 ·intro v x h hr; exact gG (T:=T) (e:=35) (fun _ _ _ h hr=>Pd _ _ _ H h hr) h hr
 ·intro v x h hr; exact fi (T:=T) h hr
 ·intro v x h hr; exact Pd _ _ _ H h hr
 ·intro v x h hr; exact Pd _ _ _ H h hr
 ·intro v x h hr; exact gG (T:=T) (e:=73) (fun _ _ _ h hr=>fi (T:=T) h hr) h hr
 ·intro v x h hr; exact gG (T:=T) (e:=4) (fun _ _ _ h hr=>Ms (T:=T) h hr) h hr
 ·intro v x h hr; exact R7 _ _ _ H h hr
 ·intro v x h hr; exact R7 _ _ _ H h hr
 ·intro v x h hr; exact gG (T:=T) (e:=82) (fun _ _ _ h hr=>R8 _ _ _ H h hr) h hr
 ·intro v x h hr; exact fi (T:=T) h hr
 ·intro v x h hr; exact fi (T:=T) h hr
 ·intro v x h hr; exact fi (T:=T) h hr
 ·intro v x h hr; exact fi (T:=T) h hr
 ·intro v x h hr; exact R8 _ _ _ H h hr
 ·intro v x h hr; exact R8 _ _ _ H h hr
 ·intro v x h hr; exact UN _ _ _ H h hr
 ·intro v x h hr; exact UN _ _ _ H h hr
 ·intro v x h hr; exact fi (T:=T) h hr
 ·intro v x h hr; exact fi (T:=T) h hr
 ·intro v x h hr; exact fi (T:=T) h hr
 ·intro v x h hr; exact fi (T:=T) h hr
 ·intro v x h hr; exact R2 (T:=T) (fun _ _ h hr=>R7 _ _ _ H h hr) h hr
 ·intros; rename_i h _; cases h
theorem UP(t:Nat)(x:den t)(a:AV)(h:rp t x a):aJ (UB t) (Qe t) a=true∧closed a=true:=by
 unfold rp at h
 split at h
 ·exact zt (eI h)
 ·exact zt (eI h)
 ·exact zt (eB h)
 ·exact zt (eI h)
 ·exact zt (eS h)
 ·exact zt (eG h)
 ·exact zt (eG h)
 ·exact UG _ _ h
 ·exact UG _ _ h
 ·exact zt (eG h)
 ·exact zt (eI h)
 ·exact UI _ _ h
 ·exact UI _ _ h
 ·exact zt (eG h)
 ·exact zt (eG h)
 ·exact UJ _ _ h
 ·exact UJ _ _ h
 ·exact zt (eG h)
 ·exact zt (eI h)
 ·exact zt (eI h)
 ·exact zt (eI h)
 ·exact zt (eI h)
 ·exact UL _ _ h
 ·exact UL _ _ h
 ·exact UO _ _ h
 ·exact UO _ _ h
 ·exact zt (eI h)
 ·exact zt (eI h)
 ·exact zt (eI h)
 ·exact zt (eI h)
 ·exact zt (eP h)
 ·exact h.elim
theorem UQ(t:Nat)(f:(den t→Bool)×(den t→V)×(den t→V))(h:R5 t=some f)(x:den t):(bif f.1 x then f.2.1 x else f.2.2 x)=up t x:=by
 unfold R5 at h
 split at h
 ·cases h; rfl
 ·cases h; rfl
 ·cases h
theorem Zu:T.Ok:=⟨fun t x a H h=>Ye t x a H h,fun t v x a H h hr=>Yf t v x a H h hr,fun t x a h=>(UP t x a h).1,fun t x a h=>(UP t x a h).2,fun t f h x=>UQ t f h x⟩
theorem LO:ik.Ok ⟨Try.prog,B6,fun _=>false⟩:=ik.Ok.of (by kernel_rfl) (by kernel_rfl) (by kernel_rfl) (by kernel_rfl) (by kernel_rfl)
def ZP(q:Nat×kD):Prop:=∀ z za,Qg q.1=some z→q.2.zero=some za→rp q.1 z za
theorem Zv:T.uC ⟨Try.prog,B6,fun _=>false⟩:=by
 intro t m z za h1 h2 h3
 have hm:=gY h1
 have all:∀ q,q∈B6→ZP q:=by
  unfold B6
  intro q hq
  simp only[List.mem_cons,List.not_mem_nil,or_false]at hq
  rcases hq with rfl|rfl|rfl|rfl|rfl|rfl|rfl|rfl|rfl|rfl|rfl|rfl|rfl|rfl|rfl|rfl|rfl|rfl|rfl|rfl|rfl|rfl|rfl|rfl|rfl|rfl|rfl|rfl|rfl|rfl|rfl|rfl|rfl|rfl|rfl|rfl|rfl|rfl|rfl|rfl|rfl|rfl|rfl|rfl|rfl|rfl|rfl|rfl|rfl|rfl|rfl|rfl|rfl|rfl|rfl|rfl|rfl|rfl|rfl|rfl|rfl|rfl|rfl|rfl|rfl|rfl|rfl|rfl|rfl|rfl|rfl|rfl|rfl|rfl|rfl|rfl|rfl|rfl|rfl|rfl|rfl|rfl|rfl|rfl|rfl|rfl|rfl|rfl|rfl|rfl|rfl|rfl|rfl|rfl|rfl|rfl|rfl|rfl|rfl|rfl|rfl|rfl|rfl|rfl|rfl|rfl|rfl|rfl|rfl|rfl|rfl|rfl|rfl|rfl|rfl|rfl|rfl|rfl|rfl|rfl|rfl|rfl|rfl|rfl|rfl|rfl|rfl|rfl|rfl|rfl|rfl
  ·exact fun _ _ h _=>zn h
  ·exact fun _ _ h1 h2=>zz h1 h2 (rfl)
  ·exact fun _ _ h1 h2=>zz h1 h2 (rfl)
  ·exact fun _ _ h1 h2=>zz h1 h2 (rfl)
  ·exact fun _ _ h1 h2=>zz h1 h2 (rfl)
  ·exact fun _ _ h _=>zn h
  ·exact fun _ _ h _=>zn h
  ·exact fun _ _ h _=>zn h
  ·exact fun _ _ h1 h2=>zz h1 h2 (rfl)
  ·exact fun _ _ h _=>zn h
  ·exact fun _ _ h _=>zn h
  ·exact fun _ _ h _=>zn h
  ·exact fun _ _ h _=>zn h
  ·exact fun _ _ h _=>zn h
  ·exact fun _ _ h _=>zn h
  ·exact fun _ _ h _=>zn h
  ·exact fun _ _ h _=>zn h
  ·exact fun _ _ h _=>zn h
  ·exact fun _ _ h _=>zn h
  ·exact fun _ _ h _=>zn h
  ·exact fun _ _ h _=>zn h
  ·exact fun _ _ h1 h2=>zz h1 h2 (.inr ⟨rfl,rfl⟩)
  ·exact fun _ _ h1 h2=>zz h1 h2 (.inr ⟨rfl,rfl⟩)
  ·exact fun _ _ h1 h2=>zz h1 h2 (⟨_,_,_,.inr ⟨rfl,rfl⟩,.inr ⟨rfl,rfl⟩,.inr ⟨rfl,rfl⟩,rfl⟩)
  ·exact fun _ _ h1 h2=>zz h1 h2 (⟨_,_,_,.inr ⟨rfl,rfl⟩,.inr ⟨rfl,rfl⟩,.inr ⟨rfl,rfl⟩,rfl⟩)
  ·exact fun _ _ h1 h2=>zz h1 h2 (.inr ⟨rfl,rfl⟩)
  ·exact fun _ _ h _=>zn h
  ·exact fun _ _ h _=>zn h
  ·exact fun _ _ h1 h2=>zz h1 h2 (rfl)
  ·exact fun _ _ h _=>zn h
  ·exact fun _ _ h _=>zn h
  ·exact fun _ _ h _=>zn h
  ·exact fun _ _ h1 h2=>zz h1 h2 (rfl)
  ·exact fun _ _ h1 h2=>zz h1 h2 (rfl)
  ·exact fun _ _ h1 h2=>zz h1 h2 (.inr ⟨rfl,rfl⟩)
  ·exact fun _ _ h _=>zn h
  ·exact fun _ _ h _=>zn h
  ·exact fun _ _ h _=>zn h
  ·exact fun _ _ h _=>zn h
  ·exact fun _ _ h _=>zn h
  ·exact fun _ _ h _=>zn h
  ·exact fun _ _ h _=>zn h
  ·exact fun _ _ h _=>zn h
  ·exact fun _ _ h _=>zn h
  ·exact fun _ _ h _=>zn h
  ·exact fun _ _ h _=>zn h
  ·exact fun _ _ h _=>zn h
  ·exact fun _ _ h _=>zn h
  ·exact fun _ _ h _=>zn h
  ·exact fun _ _ h1 h2=>zz h1 h2 (.inr ⟨rfl,rfl⟩)
  ·exact fun _ _ h1 h2=>zz h1 h2 (⟨_,_,_,_,_,.inr ⟨rfl,rfl⟩,.inr ⟨rfl,rfl⟩,.inr ⟨rfl,rfl⟩,.inr ⟨rfl,rfl⟩,.inr ⟨rfl,rfl⟩,rfl⟩)
  ·exact fun _ _ h1 h2=>zz h1 h2 (⟨_,_,_,_,_,.inr ⟨rfl,rfl⟩,.inr ⟨rfl,rfl⟩,.inr ⟨rfl,rfl⟩,.inr ⟨rfl,rfl⟩,.inr ⟨rfl,rfl⟩,rfl⟩)
  ·exact fun _ _ h1 h2=>zz h1 h2 (.inr ⟨rfl,rfl⟩)
  ·exact fun _ _ h1 h2=>zz h1 h2 (rfl)
  ·exact fun _ _ h1 h2=>zz h1 h2 (rfl)
  ·exact fun _ _ h _=>zn h
  ·exact fun _ _ h _=>zn h
  ·exact fun _ _ h _=>zn h
  ·exact fun _ _ h _=>zn h
  ·exact fun _ _ h _=>zn h
  ·exact fun _ _ h _=>zn h
  ·exact fun _ _ h _=>zn h
  ·exact fun _ _ h _=>zn h
  ·exact fun _ _ h _=>zn h
  ·exact fun _ _ h _=>zn h
  ·exact fun _ _ h _=>zn h
  ·exact fun _ _ h _=>zn h
  ·exact fun _ _ h _=>zn h
  ·exact fun _ _ h1 h2=>zz h1 h2 (rfl)
  ·exact fun _ _ h _=>zn h
  ·exact fun _ _ h _=>zn h
  ·exact fun _ _ h _=>zn h
  ·exact fun _ _ h1 h2=>zz h1 h2 (rfl)
  ·exact fun _ _ h _=>zn h
  ·exact fun _ _ h _=>zn h
  ·exact fun _ _ h _=>zn h
  ·exact fun _ _ h _=>zn h
  ·exact fun _ _ h _=>zn h
  ·exact fun _ _ h _=>zn h
  ·exact fun _ _ h _=>zn h
  ·exact fun _ _ h1 h2=>zz h1 h2 (rfl)
  ·exact fun _ _ h1 h2=>zz h1 h2 (rfl)
  ·exact fun _ _ h _=>zn h
  ·exact fun _ _ h _=>zn h
  ·exact fun _ _ h _=>zn h
  ·exact fun _ _ h _=>zn h
  ·exact fun _ _ h _=>zn h
  ·exact fun _ _ h _=>zn h
  ·exact fun _ _ h _=>zn h
  ·exact fun _ _ h _=>zn h
  ·exact fun _ _ h1 h2=>zz h1 h2 (rfl)
  ·exact fun _ _ h _=>zn h
  ·exact fun _ _ h _=>zn h
  ·exact fun _ _ h _=>zn h
  ·exact fun _ _ h _=>zn h
  ·exact fun _ _ h _=>zn h
  ·exact fun _ _ h1 h2=>zz h1 h2 (rfl)
  ·exact fun _ _ h _=>zn h
  ·exact fun _ _ h1 h2=>zz h1 h2 (rfl)
  ·exact fun _ _ h _=>zn h
  ·exact fun _ _ h _=>zn h
  ·exact fun _ _ h _=>zn h
  ·exact fun _ _ h _=>zn h
  ·exact fun _ _ h _=>zn h
  ·exact fun _ _ h _=>zn h
  ·exact fun _ _ h _=>zn h
  ·exact fun _ _ h _=>zn h
  ·exact fun _ _ h1 h2=>zz h1 h2 (rfl)
  ·exact fun _ _ h _=>zn h
  ·exact fun _ _ h _=>zn h
  ·exact fun _ _ h _=>zn h
  ·exact fun _ _ h _=>zn h
  ·exact fun _ _ h _=>zn h
  ·exact fun _ _ h _=>zn h
  ·exact fun _ _ h _=>zn h
  ·exact fun _ _ h _=>zn h
  ·exact fun _ _ h _=>zn h
  ·exact fun _ _ h _=>zn h
  ·exact fun _ _ h _=>zn h
  ·exact fun _ _ h _=>zn h
  ·exact fun _ _ h _=>zn h
  ·exact fun _ _ h _=>zn h
  ·exact fun _ _ h _=>zn h
  ·exact fun _ _ h _=>zn h
  ·exact fun _ _ h _=>zn h
  ·exact fun _ _ h _=>zn h
  ·exact fun _ _ h _=>zn h
  ·exact fun _ _ h _=>zn h
  ·exact fun _ _ h _=>zn h
  ·exact fun _ _ h _=>zn h
  ·exact fun _ _ h _=>zn h
 exact all _ hm z za h3 h2
theorem Yg:Try.prog.underlying 3=some (.int .i64):=by kernel_rfl
def UR(x:Int):Prop:=IntKind.min .i64≤x∧x≤IntKind.max .i64
theorem Yh{n:Nat}{l:List AV}(h:Shape Try.prog n 3 l):∃ x,UR x∧∃ a,l=[a]∧Jy x a:=by
 obtain⟨m,rfl,h1⟩:=Jc Yg h
 exact⟨m,h1,_,rfl,rfl⟩
theorem Yi:Try.prog.underlying 22=some (.slice 3):=by kernel_rfl
theorem Yj:(Try.prog.underlying 3).isSome=true:=by kernel_rfl
theorem Yk:(Try.prog.underlying 3).map ei=some false:=by kernel_rfl
theorem Yl:Try.prog.underlying 3=Try.prog.underlying 3:=by kernel_rfl
def My(x:List Int):Prop:=x.length≤maxLen∧∀ y,y∈x→UR y
theorem R9{n:Nat}{l:List AV}(h:Shape Try.prog n 22 l):∃ x,My x∧∃ a,l=[a]∧EA x a:=by
 obtain⟨d,hd⟩:=Option.isSome_iff_exists.1 Yj
 have pg:ei d=false:=by have:=Yk; rw[hd]at this; simpa using this
 obtain⟨ys,xs,rfl,h1,h2⟩:=qN (Q:=fun y x=>UR y∧Jy y x) Yi hd h (by
  rintro k x ⟨cl,h1,h2⟩
  rw[pg]at h1
  simp only[Bool.false_eq_true,if_false]at h1
  replace h2:=fE Yl h2
  subst h1
  obtain⟨y,hy,a,ha,r⟩:=Yh h2
  simp only[List.cons.injEq,and_true]at ha
  subst ha
  exact⟨y,hy,r⟩)
 refine⟨ys,⟨h2,?_⟩,_,rfl,.inl ⟨xs,rfl,h1.mono fun _ _ h=>h.2⟩⟩
 intro y hy
 obtain⟨i,hi⟩:=List.getElem?_of_mem hy
 obtain⟨_,_,h3⟩:=h1.get hi
 exact h3.1
theorem Ym:Try.prog.underlying 23=some (.slice 22):=by kernel_rfl
theorem Yn:(Try.prog.underlying 22).isSome=true:=by kernel_rfl
theorem Yo:(Try.prog.underlying 22).map ei=some false:=by kernel_rfl
theorem Yp:Try.prog.underlying 22=Try.prog.underlying 22:=by kernel_rfl
def US(x:List (List Int)):Prop:=x.length≤maxLen∧∀ y,y∈x→My y
theorem Yq{n:Nat}{l:List AV}(h:Shape Try.prog n 23 l):∃ x,US x∧∃ a,l=[a]∧O6 x a:=by
 obtain⟨d,hd⟩:=Option.isSome_iff_exists.1 Yn
 have pg:ei d=false:=by have:=Yo; rw[hd]at this; simpa using this
 obtain⟨ys,xs,rfl,h1,h2⟩:=qN (Q:=fun y x=>My y∧EA y x) Ym hd h (by
  rintro k x ⟨cl,h1,h2⟩
  rw[pg]at h1
  simp only[Bool.false_eq_true,if_false]at h1
  replace h2:=fE Yp h2
  subst h1
  obtain⟨y,hy,a,ha,r⟩:=R9 h2
  simp only[List.cons.injEq,and_true]at ha
  subst ha
  exact⟨y,hy,r⟩)
 refine⟨ys,⟨h2,?_⟩,_,rfl,.inl ⟨xs,rfl,h1.mono fun _ _ h=>h.2⟩⟩
 intro y hy
 obtain⟨i,hi⟩:=List.getElem?_of_mem hy
 obtain⟨_,_,h3⟩:=h1.get hi
 exact h3.1
def Yr(x:bt):Prop:=My x.aA∧US x.ab∧My x.aF
theorem Sa:Try.prog.underlying 22=Try.prog.underlying 22:=by kernel_rfl
theorem Sb:Try.prog.underlying 23=Try.prog.underlying 23:=by kernel_rfl
theorem Sc:Try.prog.underlying 22=Try.prog.underlying 22:=by kernel_rfl
theorem XR{n:Nat}{l:List AV}(h:Shape Try.prog n 24 l):∃ x,Yr x∧Je x (.agg l):=by
 obtain⟨hl,k,hf⟩:=uJ LO (t:=24) rfl rfl h
 rw[iU LO (t:=24) rfl]at hl
 have h0:=hf (0,22) (by simp)
 rw[iU LO (t:=22) rfl]at h0
 replace h0:=fE (Sa) h0
 have h1:=hf (1,23) (by simp)
 rw[iU LO (t:=23) rfl]at h1
 replace h1:=fE (Sb) h1
 have h2:=hf (2,22) (by simp)
 rw[iU LO (t:=22) rfl]at h2
 replace h2:=fE (Sc) h2
 match l,hl with
 |[a0,a1,a2],_=>
  replace h0:Shape Try.prog k 22 [a0]:=h0
  obtain⟨x0,w0,b0,e0,r0⟩:=R9 h0
  simp only[List.cons.injEq,and_true]at e0
  subst e0
  have s0:=r0
  replace h1:Shape Try.prog k 23 [a1]:=h1
  obtain⟨x1,w1,b1,e1,r1⟩:=Yq h1
  simp only[List.cons.injEq,and_true]at e1
  subst e1
  have s1:=r1
  replace h2:Shape Try.prog k 22 [a2]:=h2
  obtain⟨x2,w2,b2,e2,r2⟩:=R9 h2
  simp only[List.cons.injEq,and_true]at e2
  subst e2
  have s2:=r2
  exact⟨⟨x0,x1,x2⟩,⟨w0,w1,w2⟩,⟨_,_,_,s0,s1,s2,rfl⟩⟩
def Sd(x:ah):Prop:=UR x.cF∧UR x.Den
theorem Se:Try.prog.underlying 3=Try.prog.underlying 3:=by kernel_rfl
theorem Sf:Try.prog.underlying 3=Try.prog.underlying 3:=by kernel_rfl
theorem Ys{n:Nat}{l:List AV}(h:Shape Try.prog n 34 l):∃ x,Sd x∧z5 x (.agg l):=by
 obtain⟨hl,k,hf⟩:=uJ LO (t:=34) rfl rfl h
 rw[iU LO (t:=34) rfl]at hl
 have h0:=hf (0,3) (by simp)
 rw[iU LO (t:=3) rfl]at h0
 replace h0:=fE (Se) h0
 have h1:=hf (1,3) (by simp)
 rw[iU LO (t:=3) rfl]at h1
 replace h1:=fE (Sf) h1
 match l,hl with
 |[a0,a1],_=>
  replace h0:Shape Try.prog k 3 [a0]:=h0
  obtain⟨x0,w0,b0,e0,r0⟩:=Yh h0
  simp only[List.cons.injEq,and_true]at e0
  subst e0
  unfold Jy at r0; subst r0
  replace h1:Shape Try.prog k 3 [a1]:=h1
  obtain⟨x1,w1,b1,e1,r1⟩:=Yh h1
  simp only[List.cons.injEq,and_true]at e1
  subst e1
  unfold Jy at r1; subst r1
  exact⟨⟨x0,x1⟩,⟨w0,w1⟩,rfl⟩
theorem Yt:Try.prog.underlying 26=some (.slice 35):=by kernel_rfl
theorem Yu:(Try.prog.underlying 35).isSome=true:=by kernel_rfl
theorem Yv:(Try.prog.underlying 35).map ei=some true:=by kernel_rfl
theorem Yw:Try.prog.underlying 35=Try.prog.underlying 34:=by kernel_rfl
def Yx(x:List ah):Prop:=x.length≤maxLen∧∀ y,y∈x→Sd y
theorem XS{n:Nat}{l:List AV}(h:Shape Try.prog n 26 l):∃ x,Yx x∧∃ a,l=[a]∧R4 x a:=by
 obtain⟨d,hd⟩:=Option.isSome_iff_exists.1 Yu
 have pg:ei d=true:=by have:=Yv; rw[hd]at this; simpa using this
 obtain⟨ys,xs,rfl,h1,h2⟩:=qN (Q:=fun y x=>Sd y∧z5 y x) Yt hd h (by
  rintro k x ⟨cl,h1,h2⟩
  rw[pg]at h1
  simp only[if_true]at h1
  replace h2:=fE Yw h2
  subst h1
  obtain⟨y,hy,r⟩:=Ys h2
  exact⟨y,hy,r⟩)
 refine⟨ys,⟨h2,?_⟩,_,rfl,.inl ⟨xs,rfl,h1.mono fun _ _ h=>h.2⟩⟩
 intro y hy
 obtain⟨i,hi⟩:=List.getElem?_of_mem hy
 obtain⟨_,_,h3⟩:=h1.get hi
 exact h3.1
end Go.Proofs.Ytedjbjphpnkpoaa
end
section
/- Copies of slices in this seat: what the library's functions come to (printed by gen_lib.py). -/
namespace Go.Proofs.Ytedjbjphpnkpoaa.qM
open Go.PI
noncomputable def C0:Ctx where
 P:=Try.prog
 kind:=fun f=>if f=61 then .imp else .pure
 kY:=fun _=>none
 acc:=fun _ _=>false
instance:kh C0:=⟨rfl,rfl⟩
noncomputable def R(t:Nat):bN:=(fH Try.prog t).getD ⟨.bool,0,0,none,false⟩
theorem Jh:aR C0.P 22=some (R 3):=by kernel_rfl
theorem Ji:ck C0.P 22=true:=by kernel_rfl
theorem YA:(cC (R 3)).isSome=true:=by kernel_rfl
theorem VG:(R 3).size=1:=by kernel_rfl
theorem ag3:(R 3).isAgg=false:=by kernel_rfl
theorem by3:(R 3).bytes=8:=by kernel_rfl
theorem YB:C0.P.funcs[61]?=some Try.f61:=by kernel_rfl
theorem UT:ck C0.P 23=true:=by kernel_rfl
theorem st3:ck C0.P 3=false:=by kernel_rfl
theorem Yg:C0.P.underlying 3=some (.int .i64):=by kernel_rfl
noncomputable def xa:AV:=(cC (R 3)).getD .undef
theorem zv3:cC (R 3)=some xa:=by kernel_rfl
theorem zo3:aJ (R 3).isAgg (R 3).size xa=true:=by kernel_rfl
theorem Jj:k6 C0 61 [.lit cX,int 0] []=some (.val (.lit cX),[]):=
 (bm (mW C0 61 [.lit cX,int 0] [])).2 ⟨100,by kernel_rfl⟩
theorem MD(n:Nat)(hn:0<n)(h1:n*(R 3).bytes≤2^44)(h2:n≤2^44):k6 C0 61 [.lit cX,int n] []=some (.val (.bu (R 3).size 0 n 0 0 none),[some (.arr true true false (List.replicate n xa))]):=by
 rw[Bq (fn:=Try.f61) YB rfl]
 have z4:∀ f d,C0.acc f d=false:=fun _ _=>rfl
 have hr:0<(R 3).size:=by rw[VG]; decide
 have hw:IntKind.i64.wrap ((n:Int)-0)=(n:Int):=by rw[IntWalk.i64_in _ (by omega)]; omega
 have U3:IntKind.i64.wrap (0-0)=(0:Int):=by decide
 have BR:¬((n:Int)<0):=by omega
 have cH:(0:Int)<(n:Int):=by omega
 have Ih:Option.map (aB [AV.lit cX]) none=(none:Option AV):=rfl
 simp (decide:=true) only [Try.f61,EC,z4,Pe Ji,Pf Ji,MB,Pg,Ph Jh,Pj Jh hn,Mz,MC Jh st3 Yg zv3 hr zo3 hn h1 h2,hw,U3,BR,cH,bol,Option.map_none,iu,jD,p7,fp,List.map_cons,List.map_nil,eH,kJ,oK,p9,Kt,mh,qa,oJ,lQ,yj,aB,ox,im,hJ,bJ,fu,Ft,BC,lF,Kv,qT,GS,GU,dM,xW,CW,GX,GY,GW,List.getElem?_toArray,List.replicate_succ,List.replicate_zero,Nat.reduceSub,Nat.reduceAdd,Option.bind_some,Option.map_some,decide_true,decide_false,Fq,List.length_nil,List.length_cons,List.nil_append,List.cons_append,Nat.zero_add,Nr,Ns,Nt,Nu,lP,qO]
theorem Ul:C0.P.funcs[40]?=some Try.f40:=by kernel_rfl
theorem YC:fH C0.P 22=some (R 22):=by kernel_rfl
theorem UU:(R 22).isAgg=false:=by kernel_rfl
theorem UW:(R 22).size=1:=by kernel_rfl
theorem YD:aR C0.P 23=some (R 22):=by kernel_rfl
theorem YE:arrayElem C0.P 23=none:=by kernel_rfl
theorem UX{nm:Nat}{ev:Operand→AV}{dst:Option Tmp}{type:TypeId}{pos:String}{after:Array Edge}{guard:Option (Nat×Bool)}{hp:ag}{x:Operand}:
  (aO C0.P nm ev ⟨dst,.load 22 x,type,pos,after,guard⟩).run hp=Kw (G0 false 1 hp (ev x)):=by rw[NP YC,NR UU UW]
theorem UY(x ix:AV):fk C0.P 23 x ix=(asNat ix).bind fun i=>nY false 1 i x:=by rw[KA YD YE,UU,UW]
def I1(ls:List (List AV))(k:Nat)(s:St):Prop:=
 ∃ (i:Nat) (j1 j4 j5 j6 j7 j8 ME MF MG MH MI MJ ML MM MN MO MP MQ MR UZ U0 Qh MS MT MU MV MW MX MY MZ:AV),k=ls.length-i∧i≤ls.length∧s=⟨40,[.sl (ls.map .sl),j1,.lit cX,int ((ls.take i).flatten.length:Nat),j4,j5,j6,j7,j8,.sl (ls.map .sl),int ls.length,int i,ME,MF,MG,MH,MI,MJ,ML,MM,MN,MO,MP,MQ,MR,UZ,U0,Qh,MS,MT,MU,MV,MW,MX,MY,MZ],[]⟩
def P1(ls:List (List AV))(o:Out):Prop:=
 ∃ (Qi j1 j4 j5 j6 j7 j8 ME MF MG MH MI MJ ML MM MN MO MP MQ MR UZ U0 Qh MS MT MU MV MW MX MY MZ:AV),o=.exit 0 ⟨40,[.sl (ls.map .sl),j1,.lit cX,int (ls.flatten.length:Nat),j4,j5,j6,j7,j8,.sl (ls.map .sl),int ls.length,Qi,ME,MF,MG,MH,MI,MJ,ML,MM,MN,MO,MP,MQ,MR,UZ,U0,Qh,MS,MT,MU,MV,MW,MX,MY,MZ],[]⟩
theorem HO{α:Type}(ls:List (List α))(i:Nat):(ls.take i).flatten.length≤ls.flatten.length:=by
 have h:ls.flatten.length=(ls.take i).flatten.length+(ls.drop i).flatten.length:=by
  rw[←List.length_append,←List.flatten_append,List.take_append_drop]
 omega
theorem Bg{α:Type}(ls:List (List α))(i:Nat)(h:i<ls.length):(ls.take (i+1)).flatten=(ls.take i).flatten++ls[i]:=by
 rw[List.take_succ_eq_append_getElem h,List.flatten_append]; simp only[List.flatten_cons,List.flatten_nil,List.append_nil]
noncomputable def cur(ls:List (List AV))(i:Nat):AV:=if ls.flatten.length=0 then .lit cX else .bu (R 3).size 0 ls.flatten.length 0 (ls.take i).flatten.length none
noncomputable def tv(ls:List (List AV))(i:Nat):ag:=if ls.flatten.length=0 then [] else [some (.arr true true false ((ls.take i).flatten++List.replicate (ls.flatten.length-(ls.take i).flatten.length) xa))]
theorem M0(ls:List (List AV))(h1:ls.flatten.length*(R 3).bytes≤2^44)(h2:ls.flatten.length≤2^44):k6 C0 61 [.lit (.slice none 0 0),int ls.flatten.length] []=some (.val (cur ls 0),tv ls 0):=by
 unfold cur tv
 by_cases h:ls.flatten.length=0
 ·rw[if_pos h,if_pos h,h]; exact Jj
 ·rw[if_neg h,if_neg h]
  simpa using MD _ (by omega) h1 h2
theorem Jk(ls:List (List AV))(i:Nat):ic 0 (cur ls i) (tv ls i)=tv ls i:=by
 unfold cur tv ic
 by_cases h:ls.flatten.length=0
 ·rw[if_pos h,if_pos h]; simp
 ·rw[if_neg h,if_neg h]; simp[below]
theorem Gs(ls:List (List AV))(i:Nat):forget (tv ls i).length (cur ls (i+1))=cur ls (i+1):=by
 apply H9
 unfold cur tv
 by_cases h:ls.flatten.length=0
 ·rw[if_pos h,if_pos h]; rfl
 ·rw[if_neg h,if_neg h]; simp[below]
theorem Jl(ls:List (List AV))(i:Nat)(f:Nat)(fr:List AV):ib (tv ls i).length ⟨f,fr,tv ls (i+1)⟩=⟨f,fr.map (forget (tv ls i).length),tv ls (i+1)⟩:=by
 have hl:(tv ls i).length=(tv ls (i+1)).length:=by
  unfold tv
  by_cases h:ls.flatten.length=0
  ·rw[if_pos h,if_pos h]
  ·rw[if_neg h,if_neg h]; rfl
 have ht:(tv ls (i+1)).take (tv ls i).length=tv ls (i+1):=by rw[hl]; exact List.take_length
 rw[CX]
 ·simp only[ht]
 ·simp only[ht]
  unfold tv
  by_cases h:ls.flatten.length=0
  ·rw[if_pos h]; rfl
  ·rw[if_neg h]; rfl
theorem Ck(a ys:List AV)(k:Nat)(z:AV)(h:ys.length≤k):bA (a++List.replicate k z) a.length ys=a++ys++List.replicate (k-ys.length) z:=by
 induction ys generalizing a k with
 |nil=>simp[bA]
 |cons y ys ih=>
  obtain⟨k,rfl⟩:∃ m,k=m+1:=⟨k-1,by simp at h; omega⟩
  have:=ih (a++[y]) k (by simp at h; omega)
  simp only[bA,List.replicate_succ]
  simp only[List.length_append,List.length_cons,List.length_nil]at this
  rw[List.set_append_right _ _ (Nat.le_refl _),Nat.sub_self,List.set_cons_zero]
  simpa[List.append_assoc] using this
theorem Pk(ls:List (List AV))(i:Nat)(hi:i<ls.length)(aX:ls[i].all (aJ (R 3).isAgg (R 3).size)=true):
  ∃ wr,(∀ nm,(fW C0.P nm 22 22 (cur ls i) (.sl ls[i])).run (tv ls i)=some ⟨cur ls (i+1),wr⟩)∧ak (tv ls i) wr=tv ls (i+1):=by
 have hr:0<(R 3).size:=by rw[VG]; decide
 have hf:=Bg ls i hi
 have hle:=HO ls (i+1)
 have hlen:(ls.take (i+1)).flatten.length=(ls.take i).flatten.length+ls[i].length:=by rw[hf,List.length_append]
 by_cases h:ls.flatten.length=0
 ·have he:ls[i]=[]:=List.length_eq_zero_iff.1 (by omega)
  refine⟨[],fun nm=>?_,?_⟩
  ·unfold cur tv
   rw[if_pos h,if_pos h,if_pos h,he]
   simp[fW,Jh,xb,Ji,gl,RM.run_bind,RM.run_pure,YA,hr]
  ·unfold tv; rw[if_pos h,if_pos h]; rfl
 ·by_cases he:ls[i]=[]
  ·have u0:ls[i].length=0:=by rw[he]; rfl
   rw[u0]at hlen
   have jg:(ls.take (i+1)).flatten=(ls.take i).flatten:=by rw[hf,he,List.append_nil]
   refine⟨[],fun nm=>?_,?_⟩
   ·unfold cur tv
    rw[if_neg h,if_neg h,if_neg h,he,jg]
    simp[fW,Jh,xb,Ji,gl,RM.run_bind,RM.run_pure,YA,hr]
   ·unfold tv; rw[if_neg h,if_neg h,jg]; rfl
  ·have dE:ls[i].isEmpty=false:=by cases hq:ls[i]<;>simp_all
   have cP:((ls.take i).flatten++List.replicate (ls.flatten.length-(ls.take i).flatten.length) xa).length=ls.flatten.length:=by
    rw[List.length_append,List.length_replicate]; omega
   refine⟨[(0,.arr true true false ((ls.take (i+1)).flatten++List.replicate (ls.flatten.length-(ls.take (i+1)).flatten.length) xa))],fun nm=>?_,?_⟩
   ·unfold cur tv
    rw[if_neg h,if_neg h,if_neg h]
    have ho:=RM.yn (hp:=[some (.arr true true false ((ls.take i).flatten++List.replicate (ls.flatten.length-(ls.take i).flatten.length) xa))]) (n:=0) rfl
    rw[cP]at ho
    have D3:=Ck (ls.take i).flatten ls[i] (ls.flatten.length-(ls.take i).flatten.length) xa (by omega)
    simp only[fW,Jh,xb,Ji,gl,RM.run_bind,RM.run_pure,Option.bind_some,YA,hr,aX,decide_true,Bool.and_self,dE,ho]
    rw[if_neg (by rintro (h1|h1|h1); (exact absurd h1 (by decide)); (rw[cP]at h1; omega); (exact h1 rfl)),if_pos (by simp only[Option.getD_none]; omega),if_pos (by rw[cP]; omega)]
    simp only[RM.run_pure,Nat.zero_add,D3,hlen,←hf]
    rw[Nat.sub_sub]
   ·unfold tv; rw[if_neg h,if_neg h]; rfl
def I2(ls:List (List AV))(k:Nat)(s:St):Prop:=
 ∃ (i:Nat) (j1 j4 j5 j7 j8 j9 U1 Qi ME MF MG MH MI MJ ML MM MN MO MP MQ MR MS MT MU MV MW MX MY MZ:AV),k=ls.length-i∧i≤ls.length∧s=⟨40,[.sl (ls.map .sl),j1,.lit cX,int (ls.flatten.length:Nat),j4,j5,cur ls i,j7,j8,j9,U1,Qi,ME,MF,MG,MH,MI,MJ,ML,MM,MN,MO,MP,MQ,MR,.sl (ls.map .sl),int ls.length,int i,MS,MT,MU,MV,MW,MX,MY,MZ],tv ls i⟩
def P2(ls:List (List AV))(o:Out):Prop:=
 ∃ (Qh j1 j4 j5 j7 j8 j9 U1 Qi ME MF MG MH MI MJ ML MM MN MO MP MQ MR MS MT MU MV MW MX MY MZ:AV),o=.exit 2 ⟨40,[.sl (ls.map .sl),j1,.lit cX,int (ls.flatten.length:Nat),j4,j5,cur ls ls.length,j7,j8,j9,U1,Qi,ME,MF,MG,MH,MI,MJ,ML,MM,MN,MO,MP,MQ,MR,.sl (ls.map .sl),int ls.length,Qh,MS,MT,MU,MV,MW,MX,MY,MZ],tv ls ls.length⟩
theorem Gj(ls:List (List AV))(hn:ls.length≤2^44)(aX:∀ l∈ls,l.all (aJ (R 3).isAgg (R 3).size)=true)(T2:ls.flatten.length*(R 3).bytes≤2^44)(hT:ls.flatten.length≤2^44):∃ res iG,k6 C0 40 [.sl (ls.map .sl)] []=some (.val res,iG)∧(a9 1000 res).run iG=some (.sl ls.flatten):=by
 have key:k6 C0 40 [.sl (ls.map .sl)] []=some (.val (cur ls ls.length),tv ls ls.length):=by
  rw[Bq (fn:=Try.f40) Ul rfl]
  have z4:∀ f d,C0.acc f d=false:=fun _ _=>rfl
  have hr:0<(R 3).size:=by rw[VG]; decide
  simp (decide:=true) only [Try.f40,EC,z4,Fu UT,List.length_map,iu,jD,p7,fp,List.map_cons,List.map_nil,eH,kJ,oK,mh,Ku,oJ,lQ,aB,ox,im,hJ,bJ,fu,lF,dM,List.getElem?_toArray,List.replicate_succ,List.replicate_zero,Nat.reduceSub,Option.bind_some,List.length_nil,List.length_cons,List.nil_append,List.cons_append,Nat.zero_add,Nr,Ns,Nt,Nu,mf,Option.bind_assoc,BD]
  refine Au (I1 ls) (P1 ls) ls.length ?_ ?_ ?_
  ·exact⟨0,_,_,_,_,_,_,_,_,_,_,_,_,_,_,_,_,_,_,_,_,_,_,_,_,_,_,_,_,_,_,rfl,Nat.zero_le _,rfl⟩
  ·rintro k s ⟨i,j1,j4,j5,j6,j7,j8,ME,MF,MG,MH,MI,MJ,ML,MM,MN,MO,MP,MQ,MR,UZ,U0,Qh,MS,MT,MU,MV,MW,MX,MY,MZ,hk,hi,rfl⟩
   have M1:IntKind.i64.wrap ((i:Int)+1)=((i+1:Nat):Int):=by
    rw[IntWalk.i64_in _ (by omega)]; omega
   by_cases bE:i<ls.length
   ·have nW:(ls.map AV.sl)[i]?=some (.sl ls[i]):=by simp[bE]
    have bM:aJ false 1 (.sl ls[i])=true:=by simp[aJ,bg]
    have hp0:fe false 1 (.sl ls[i]) 0=some (.sl ls[i]):=by simp[fe,bg]
    have yr:((i:Int)<(ls.length:Int)):=by omega
    have hf:=Bg ls i bE
    have hle:=HO ls (i+1)
    have hlen:(ls.take (i+1)).flatten.length=(ls.take i).flatten.length+ls[i].length:=by rw[hf,List.length_append]
    have lA:IntKind.i64.wrap (((ls.take i).flatten.length:Int)+(ls[i].length:Int))=(((ls.take (i+1)).flatten.length:Nat):Int):=by
     rw[IntWalk.i64_in _ (by omega)]; omega
    have BR:¬(((ls.take (i+1)).flatten.length:Int)<0):=by omega
    left
    refine⟨_,by simp (decide:=true) only [nW,bM,yr,M1,lA,BR,UX,UY,Fu Ji,bol,iu,jD,p7,fp,List.map_cons,List.map_nil,eH,kJ,oK,GV,p9,tU,mh,qa,oJ,lQ,yj,aB,ox,im,hJ,bJ,fu,Ft,BC,lF,qT,BA,dM,List.getElem?_toArray,Option.bind_some,Option.map_some,decide_true,decide_false,List.length_nil,bg,Kw,fe,if_true,Nr,Ns,Nt,Nu,mf,lP,wz,tV,sB,nY,G0,qO,BD]; rfl,ls.length-(i+1),by omega,?_⟩
    rw[CX (by simp)]
    exact⟨i+1,_,_,_,_,_,_,_,_,_,_,_,_,_,_,_,_,_,_,_,_,_,_,_,_,_,_,_,_,_,_,rfl,by omega,rfl⟩
   ·have yr:¬((i:Int)<(ls.length:Int)):=by omega
    have RR:i=ls.length:=by omega
    right
    refine⟨_,by simp (decide:=true) only [yr,bol,iu,jD,p7,fp,List.map_cons,List.map_nil,eH,kJ,p9,yj,aB,hJ,bJ,fu,BC,lF,qT,dM,tW,List.getElem?_toArray,Option.bind_some,Option.map_some,decide_false,List.length_nil,Nr,Ns,Nt,Nu,lP,vb]; rfl,by simp,?_⟩
    have:ls.take i=ls:=by rw[RR]; exact List.take_length
    rw[this]
    exact⟨_,_,_,_,_,_,_,_,_,_,_,_,_,_,_,_,_,_,_,_,_,_,_,_,_,_,_,_,_,_,_,rfl⟩
  ·rintro o ⟨Qi,j1,j4,j5,j6,j7,j8,ME,MF,MG,MH,MI,MJ,ML,MM,MN,MO,MP,MQ,MR,UZ,U0,Qh,MS,MT,MU,MV,MW,MX,MY,MZ,rfl⟩
   simp (decide:=true) only [iu,jD,p7,fp,List.map_cons,List.map_nil,eH,oK,oJ,aB,ox,im,hJ,bJ,fu,lF,dM,List.getElem?_toArray,Option.bind_some,List.length_nil,nU,Fs,Nr,Ns,Nt,Nu,Av,Option.bind_assoc]
   have YF:C0.kind 61=.imp:=rfl
   have U2:∀ a t,au (Op.call ⟨.value (.func 61),a,t⟩)=false:=fun _ _=>rfl
   simp only[oE,r9,U2,YF]
   rw[M0 ls T2 hT]
   simp only[Option.bind_some,GK,List.length_nil,Jk]
   simp (decide:=true) only [Fu UT,List.length_map,iu,jD,p7,fp,List.map_cons,List.map_nil,eH,kJ,oK,mh,qa,oJ,lQ,aB,ox,im,hJ,bJ,fu,lF,dM,List.getElem?_toArray,Option.bind_some,Nr,Ns,Nt,Nu,mf,Option.bind_assoc,BD]
   refine Au (I2 ls) (P2 ls) ls.length ?_ ?_ ?_
   ·exact⟨0,_,_,_,_,_,_,_,_,_,_,_,_,_,_,_,_,_,_,_,_,_,_,_,_,_,_,_,_,_,rfl,Nat.zero_le _,rfl⟩
   ·rintro k s ⟨i,j1,j4,j5,j7,j8,j9,U1,Qi,ME,MF,MG,MH,MI,MJ,ML,MM,MN,MO,MP,MQ,MR,MS,MT,MU,MV,MW,MX,MY,MZ,hk,hi,rfl⟩
    have M1:IntKind.i64.wrap ((i:Int)+1)=((i+1:Nat):Int):=by
     rw[IntWalk.i64_in _ (by omega)]; omega
    by_cases bE:i<ls.length
    ·have nW:(ls.map AV.sl)[i]?=some (.sl ls[i]):=by simp[bE]
     have bM:aJ false 1 (.sl ls[i])=true:=by simp[aJ,bg]
     have hp0:fe false 1 (.sl ls[i]) 0=some (.sl ls[i]):=by simp[fe,bg]
     have yr:((i:Int)<(ls.length:Int)):=by omega
     obtain⟨wr,Wa,EN⟩:=Pk ls i bE (aX _ (List.getElem_mem bE))
     left
     refine⟨_,by simp (decide:=true) only [nW,bM,yr,M1,Mz,Wa,EN,UX,UY,bol,iu,jD,p7,fp,List.map_cons,List.map_nil,eH,kJ,oK,GV,p9,tU,mh,qa,oJ,lQ,yj,aB,ox,im,hJ,bJ,fu,Ft,lF,qT,BA,dM,List.getElem?_toArray,Option.bind_some,Option.map_some,decide_true,bg,Kw,fe,if_true,Nr,Ns,Nt,Nu,mf,lP,wz,tV,sB,nY,G0,qO]; rfl,ls.length-(i+1),by omega,?_⟩
     rw[Jl]
     simp only[List.map_cons,List.map_nil,Gs]
     exact⟨i+1,_,_,_,_,_,_,_,_,_,_,_,_,_,_,_,_,_,_,_,_,_,_,_,_,_,_,_,_,_,rfl,by omega,rfl⟩
    ·have yr:¬((i:Int)<(ls.length:Int)):=by omega
     have RR:i=ls.length:=by omega
     right
     refine⟨_,by simp (decide:=true) only [yr,bol,iu,jD,p7,fp,List.map_cons,List.map_nil,eH,kJ,p9,yj,aB,hJ,bJ,fu,BC,lF,qT,dM,tW,List.getElem?_toArray,Option.bind_some,Option.map_some,decide_false,Nr,Ns,Nt,Nu,lP,vb]; rfl,by simp,?_⟩
     subst RR
     exact⟨_,_,_,_,_,_,_,_,_,_,_,_,_,_,_,_,_,_,_,_,_,_,_,_,_,_,_,_,_,_,rfl⟩
   ·rintro o ⟨Qh,j1,j4,j5,j7,j8,j9,U1,Qi,ME,MF,MG,MH,MI,MJ,ML,MM,MN,MO,MP,MQ,MR,MS,MT,MU,MV,MW,MX,MY,MZ,rfl⟩
    simp (decide:=true) only [iu,jD,p7,fp,List.map_cons,List.map_nil,eH,kJ,oK,qa,oJ,lQ,aB,hJ,bJ,fu,lF,dM,xW,CW,GX,GY,GW,List.getElem?_toArray,Option.bind_some,Option.map_some,Nr,Ns,Nt,Nu,Av]
 refine⟨_,_,key,?_⟩
 unfold cur tv
 by_cases h:ls.flatten.length=0
 ·rw[if_pos h,if_pos h,List.length_eq_zero_iff.1 h]; rfl
 ·rw[if_neg h,if_neg h]
  simp only[List.take_length,Nat.sub_self,List.replicate_zero,List.append_nil]
  exact Gr (RM.yn rfl)
end Go.Proofs.Ytedjbjphpnkpoaa.qM
end
section
/- The context of this seat, contracts of library functions, the greatest common divisor. -/
set_option maxRecDepth 100000
set_option maxHeartbeats 0
namespace Go.Proofs.Ytedjbjphpnkpoaa
open Go.PI
def Et:bN:=⟨.bool,1,8,none,false⟩
noncomputable def C:Ctx where
 P:=Try.prog
 kind:=fun f=>match Go.PI.cE [(24,()),(25,()),(26,()),(30,()),(37,()),(45,()),(47,()),(49,()),(56,()),(63,()),(64,()),(65,()),(66,()),(67,()),(68,()),(69,()),(70,()),(73,()),(74,()),(75,()),(77,()),(84,()),(85,()),(87,()),(89,()),(90,()),(91,()),(92,()),(93,()),(94,()),(97,()),(98,()),(111,()),(112,()),(113,()),(119,()),(120,()),(123,())] f with|some _=>.imp|none=>.pure
 kY:=fun g=>Go.PI.cE [(40,nk Et)] g
 acc:=fun _ _=>true
 rL:=fun f d=>(Go.PI.Hn [(6,38,[(0,1),(2,1)])] f d).getD []
theorem Mj : ∀ (f : FuncId) (fn : Func), Try.prog.funcs[f]? = some fn → fn.body.isSome = true → (fn.name == "runtime.NumGoroutine") = false := by
 have h : (Try.prog.funcs.toList.all fun fn => !(fn.name == "runtime.NumGoroutine") || !fn.body.isSome) = true := by kernel_rfl
 intro f fn hf hb
 have hm:fn∈Try.prog.funcs.toList:=by
  have:=Array.mem_of_getElem? hf
  exact Array.mem_toList_iff.2 this
 have:=List.all_eq_true.1 h fn hm
 rw[hb]at this
 simpa using this
theorem O1:qM.C0.Ok where
 name:=Mj
 kY:=fun g h al r hg=>by simp[qM.C0]at hg
 rW:=fun g h al hp e h1=>by cases h1
 FA:=fun g h hg=>by simp[qM.C0]at hg
 jw:=fun g h al r iG hg=>by simp[qM.C0]at hg
 BH:=fun g h hg=>by simp[qM.C0]at hg
theorem Mk{g:FuncId}{h:List AV→Option AV}(hg:C.kY g=some h):g=40∧h=nk Et:=by
 have:=gY (show Go.PI.cE [(40,nk Et)] g=some h from hg)
 simp only[List.mem_singleton,Prod.mk.injEq]at this
 exact this
theorem Cok:C.Ok where
 name:=Mj
 kY:=by
  intro g h al r hg hr Ec w vs hI ha
  obtain⟨rfl,rfl⟩:=Mk hg
  exact I8 (r:=Et) O1 (fun ls h0 h1 h2 h3=>qM.Gj ls h0 (by rw[qM.ag3,qM.VG]; exact h1) (by rw[qM.by3]; exact h2) h3) hr Ec w vs hI ha
 FA:=by
  intro g h hg
  obtain⟨rfl,rfl⟩:=Mk hg
  exact⟨_,qM.Ul,rfl⟩
 rW:=fun g h al hp e h1=>by cases h1
 jw:=fun g h al r iG hg=>by cases hg
 BH:=fun g h hg=>by cases hg
theorem ok3(x:Int)(a:AV)(h:Jy x a):aJ Et.isAgg Et.size a=true:=(zt (eI h)).1
def _root_.Go.aa.iA(s:List (List Int)):Option (List Int):=ui 8 s
theorem Rt:qF C T 40 ⟨[23],[22],fun x=>Go.aa.iA x⟩:=
 Gk (C:=C) (T:=T) (g:=40) (t:=23) (u:=22) (I:=nk Et) (F:=Go.aa.iA) rfl rfl fun x a y h hy=>by
  obtain⟨l,h1,h2⟩:=Gl (r:=Et) (rpe:=Jy) (x:=x) (y:=y) ok3 h hy
  exact⟨l,h1,.inl ⟨l,rfl,h2⟩⟩
def _root_.Go.aa.kp:Option Bool:=some true
def kP:List (Nat×wQ T):=[]
theorem sY:∀ (g:FuncId) (σ:wQ T),cE kP g=some σ→HE C T g σ:=fun g σ h=>by simp[kP,cE]at h
def ur:FuncId→Nat→Bool:=fun _ _=>false
def TU:FuncId→Tmp→List Tw:=fun _ _=>[]
def _root_.Go.aa.FP:Nat→Int→Int→Option Int
 |0,_,_=>none
 |n+1,a,b=>bif b==0 then some a else bif decide (b=0) then none else (Go.aa.FP n b (a.tmod b)).bind fun i=>some i
noncomputable def gS(n:Nat):oS:=Hy C T B6 (fun _ _=>none) (fun _ _=>false) [(82,⟨[3,3],[3],fun x=>Go.aa.FP n x.1 x.2⟩)] 1 kP ur TU
theorem Ml:∀ n,qF C T 82 ⟨[3,3],[3],fun x=>Go.aa.FP n x.1 x.2⟩
 |0=>⟨rfl,fun x al y _ h=>by cases h⟩
 |n+1=>by
  have h0:(Hy C T B6 (fun _ _=>none) (fun _ _=>false) [(82,⟨[3,3],[3],fun x=>Go.aa.FP n x.1 x.2⟩)] 0 kP ur TU).Ok:=DU Zu LO Zv sY
  have h1:(gS n).Ok:=uz h0 rfl (Ml n)
  exact Eu (S:=gS n) (k:=400) (σ:=⟨[3,3],[3],fun x=>Go.aa.FP (n+1) x.1 x.2⟩) h1 rfl rfl fun x=>by kernel_rfl
def _root_.Go.aa.kA(a b:Int):Option Int:=Go.aa.FP 200 a b
theorem Ru:qF C T 82 ⟨[3,3],[3],fun x=>Go.aa.kA x.1 x.2⟩:=Ml 200
end Go.Proofs.Ytedjbjphpnkpoaa
end
section
/- Models of the functions of this seat, and that they hold (printed by chain.py). -/
set_option maxRecDepth 100000
set_option maxHeartbeats 0
namespace Go.Proofs.Ytedjbjphpnkpoaa
open Go.PI
end Go.Proofs.Ytedjbjphpnkpoaa
open Go Go.PI Go.Proofs Go.Proofs.Ytedjbjphpnkpoaa
noncomputable def Go.aa.od(n:Int)(low:Int)(high:Int):Option Bool:=
 bif decide (low≤n) then
 some (decide (n≤high))
 else
 some false
noncomputable def Go.aa.kB(l:List Int)(LK:Int):Option Bool:=
 (aM (ω:=Bool ⊕ Bool×Int) (fun ((b1,i2):Bool×Int)=>
 bif decide (i2<(↑l.length:Int)) then
 bif decide (0≤i2) then
 (l[i2.toNat]?).bind fun i3=>
 (aa.od i3 0 (IntKind.i64.wrap (LK-1))).bind fun b4=>
 bif !b4 then
 some (Sum.inr (Sum.inl false))
 else
 bif decide (0<i2) then
 bif decide (0≤IntKind.i64.wrap (i2-1)) then
 (l[(IntKind.i64.wrap (i2-1)).toNat]?).bind fun i5=>
 bif decide (i3≤i5) then
 some (Sum.inr (Sum.inl false))
 else
 some (Sum.inl (b1,IntKind.i64.wrap (i2+1)))
 else
 none
 else
 some (Sum.inl (b1,IntKind.i64.wrap (i2+1)))
 else
 none
 else
 some (Sum.inr (Sum.inr (b1,i2)))) (false,0)).bind fun w6=>
 Sum.elim (fun b7=>
 some b7) (fun (b8,i9)=>
 (aa.od (↑l.length:Int) 1 6).bind fun PR=>
 some PR) w6
noncomputable def Go.aa.fC(n:bt):Option Bool:=
 bif decide (8<(↑n.aA.length:Int)) then
 some false
 else
 bif decide (8<(↑n.ab.length:Int)) then
 some false
 else
 bif !(↑n.aF.length:Int)==(↑n.ab.length:Int) then
 some false
 else
 (aa.iA [n.aA,n.aF]).bind fun l1=>
 (aM (ω:=Bool ⊕ Bool×Int) (fun ((b2,i3):Bool×Int)=>
 bif decide (i3<(↑l1.length:Int)) then
 bif decide (0≤i3) then
 (l1[i3.toNat]?).bind fun i4=>
 (aa.od i4 0 1000).bind fun b5=>
 bif !b5 then
 some (Sum.inr (Sum.inl false))
 else
 some (Sum.inl (b2,IntKind.i64.wrap (i3+1)))
 else
 none
 else
 some (Sum.inr (Sum.inr (b2,i3)))) (false,0)).bind fun w6=>
 Sum.elim (fun b7=>
 some b7) (fun (b8,i9)=>
 (aM (ω:=Bool ⊕ Bool×Int) (fun ((PR,i11):Bool×Int)=>
 bif decide (i11<(↑n.ab.length:Int)) then
 bif decide (0≤i11) then
 (n.ab[i11.toNat]?).bind fun WZ=>
 (aa.kB WZ (↑n.aA.length:Int)).bind fun Nj=>
 bif !Nj then
 some (Sum.inr (Sum.inl false))
 else
 some (Sum.inl (PR,IntKind.i64.wrap (i11+1)))
 else
 none
 else
 some (Sum.inr (Sum.inr (PR,i11)))) (b8,0)).bind fun w14=>
 Sum.elim (fun Vu=>
 some Vu) (fun (W0,i17)=>
 some true) w14) w6
noncomputable def Go.aa.oP(s:List Bool)(v:Bool):Option Int:=
 (aM (ω:=Int ⊕ Int×Int) (fun ((i1,i2):Int×Int)=>
 bif decide (i2<(↑s.length:Int)) then
 bif decide (0≤i2) then
 (s[i2.toNat]?).bind fun b3=>
 bif v==b3 then
 some (Sum.inr (Sum.inl i2))
 else
 some (Sum.inl (i1,IntKind.i64.wrap (i2+1)))
 else
 none
 else
 some (Sum.inr (Sum.inr (i1,i2)))) (0,0)).bind fun w4=>
 Sum.elim (fun i5=>
 some i5) (fun (i6,i7)=>
 some (-1)) w4
noncomputable def Go.aa.fK(s:List Bool)(v:Bool):Option Bool:=
 (aa.oP s v).bind fun i1=>
 some (decide (0≤i1))
noncomputable def Go.aa.bR(f:ah):Option Bool:=
 bif decide ((if f.cF<IntKind.i64.wrap (0-f.cF) then IntKind.i64.wrap (0-f.cF) else f.cF)≤1000000000) then
 bif decide (1≤f.Den) then
 some (decide (f.Den≤1000000000))
 else
 some false
 else
 some false
noncomputable def Go.aa.dg(f:ah):Option ah:=
 (aa.kA (if f.cF<IntKind.i64.wrap (0-f.cF) then IntKind.i64.wrap (0-f.cF) else f.cF) (if f.Den<IntKind.i64.wrap (0-f.Den) then IntKind.i64.wrap (0-f.Den) else f.Den)).bind fun i1=>
 bif decide (f.Den<0) then
 bif decide (IntKind.i64.wrap (0-i1)=0) then
 none
 else
 bif decide (IntKind.i64.wrap (0-i1)=0) then
 none
 else
 some (ah.mk (IntKind.i64.wrap (f.cF.tdiv (IntKind.i64.wrap (0-i1)))) (IntKind.i64.wrap (f.Den.tdiv (IntKind.i64.wrap (0-i1)))))
 else
 bif decide (i1=0) then
 none
 else
 bif decide (i1=0) then
 none
 else
 some (ah.mk (IntKind.i64.wrap (f.cF.tdiv i1)) (IntKind.i64.wrap (f.Den.tdiv i1)))
noncomputable def Go.aa.cZ(a:ah):Option Bool:=
 bif decide (-1000000000≤a.cF) then
 (aa.bR a).bind fun b1=>
 bif b1 then
 (aa.dg a).bind fun q2=>
 some (q2.cF==a.cF&&q2.Den==a.Den)
 else
 some false
 else
 some false
noncomputable def Go.aa.rh(x:Int):Option Bool:=
 some (!x==x)
noncomputable def Go.aa.qm(x:Int)(y:Int):Option Int:=
 (aa.rh x).bind fun b1=>
 (aa.rh y).bind fun b2=>
 bif b1 then
 bif b2 then
 some 0
 else
 some (-1)
 else
 bif b2 then
 some 1
 else
 bif decide (x<y) then
 some (-1)
 else
 bif decide (y<x) then
 some 1
 else
 some 0
noncomputable def Go.aa.rf(a:ah)(b:ah):Option (Int×Int):=
 (aa.cZ a).bind fun b1=>
 bif !b1 then
 some (0,1)
 else
 (aa.cZ b).bind fun b2=>
 bif !b2 then
 some (0,1)
 else
 (aa.qm (IntKind.i64.wrap (a.cF*b.Den)) (IntKind.i64.wrap (b.cF*a.Den))).bind fun i3=>
 some (i3,0)
noncomputable def Go.aa.fh(a:ah)(b:ah):Option Bool:=
 (aa.rf a b).bind fun (i1,i2)=>
 some (decide (i1<0))
noncomputable def Go.aa.oO(l:List Int)(LK:Int):Option Bool:=
 (aM (ω:=Bool ⊕ Bool×Int) (fun ((b1,i2):Bool×Int)=>
 bif decide (i2<(↑l.length:Int)) then
 bif decide (0≤i2) then
 (l[i2.toNat]?).bind fun i3=>
 bif decide (i3<0) then
 some (Sum.inr (Sum.inl false))
 else
 bif decide (0≤i2) then
 (l[i2.toNat]?).bind fun i4=>
 bif decide (LK≤i4) then
 some (Sum.inr (Sum.inl false))
 else
 bif decide (0<i2) then
 bif decide (0≤i2) then
 (l[i2.toNat]?).bind fun i5=>
 bif decide (0≤IntKind.i64.wrap (i2-1)) then
 (l[(IntKind.i64.wrap (i2-1)).toNat]?).bind fun i6=>
 bif decide (i5≤i6) then
 some (Sum.inr (Sum.inl false))
 else
 some (Sum.inl (b1,IntKind.i64.wrap (i2+1)))
 else
 none
 else
 none
 else
 some (Sum.inl (b1,IntKind.i64.wrap (i2+1)))
 else
 none
 else
 none
 else
 some (Sum.inr (Sum.inr (b1,i2)))) (false,0)).bind fun w7=>
 Sum.elim (fun b8=>
 some b8) (fun (b9,i10)=>
 bif decide (1≤(↑l.length:Int)) then
 some (decide ((↑l.length:Int)≤6))
 else
 some false) w7
noncomputable def Go.aa.c6(n:bt):Option Bool:=
 bif decide (8<(↑n.aA.length:Int)) then
 some false
 else
 bif decide (8<(↑n.ab.length:Int)) then
 some false
 else
 bif !(↑n.aF.length:Int)==(↑n.ab.length:Int) then
 some false
 else
 (aM (ω:=Bool ⊕ Bool×Int) (fun ((b1,i2):Bool×Int)=>
 bif decide (i2<(↑n.aA.length:Int)) then
 bif decide (0≤i2) then
 (n.aA[i2.toNat]?).bind fun i3=>
 bif decide (i3<0) then
 some (Sum.inr (Sum.inl false))
 else
 bif decide (0≤i2) then
 (n.aA[i2.toNat]?).bind fun i4=>
 bif decide (1000<i4) then
 some (Sum.inr (Sum.inl false))
 else
 some (Sum.inl (b1,IntKind.i64.wrap (i2+1)))
 else
 none
 else
 none
 else
 some (Sum.inr (Sum.inr (b1,i2)))) (false,0)).bind fun w5=>
 Sum.elim (fun b6=>
 some b6) (fun (b7,i8)=>
 (aM (ω:=Bool ⊕ Bool×Int) (fun ((b9,i10):Bool×Int)=>
 bif decide (i10<(↑n.ab.length:Int)) then
 bif decide (0≤i10) then
 (n.ab[i10.toNat]?).bind fun Cq=>
 (aa.oO Cq (↑n.aA.length:Int)).bind fun Cp=>
 bif !Cp then
 some (Sum.inr (Sum.inl false))
 else
 bif decide (0≤i10) then
 (n.aF[i10.toNat]?).bind fun i13=>
 bif decide (i13<0) then
 some (Sum.inr (Sum.inl false))
 else
 bif decide (0≤i10) then
 (n.aF[i10.toNat]?).bind fun i14=>
 bif decide (1000<i14) then
 some (Sum.inr (Sum.inl false))
 else
 some (Sum.inl (b9,IntKind.i64.wrap (i10+1)))
 else
 none
 else
 none
 else
 none
 else
 some (Sum.inr (Sum.inr (b9,i10)))) (b7,0)).bind fun w15=>
 Sum.elim (fun W0=>
 some W0) (fun (b17,i18)=>
 some true) w15) w5
noncomputable def Go.aa.jH(l:List Int)(link:Int):Option Bool:=
 (aM (ω:=Bool ⊕ Bool×Int) (fun ((b1,i2):Bool×Int)=>
 bif decide (i2<(↑l.length:Int)) then
 bif decide (0≤i2) then
 (l[i2.toNat]?).bind fun i3=>
 bif i3==link then
 some (Sum.inr (Sum.inl true))
 else
 some (Sum.inl (b1,IntKind.i64.wrap (i2+1)))
 else
 none
 else
 some (Sum.inr (Sum.inr (b1,i2)))) (false,0)).bind fun w4=>
 Sum.elim (fun b5=>
 some b5) (fun (b6,i7)=>
 some false) w4
noncomputable def Go.aa.fD(num:Int)(nF:Int):Option Bool:=
 bif decide (-1000000000≤num) then
 bif decide (num≤1000000000) then
 bif decide (1≤nF) then
 some (decide (nF≤1000000000))
 else
 some false
 else
 some false
 else
 some false
noncomputable def Go.aa.kj(n:Int):Option Int:=
 some (if n<IntKind.i64.wrap (0-n) then IntKind.i64.wrap (0-n) else n)
noncomputable def Go.aa.fN(a:Int)(b:Int):Option Int:=
 (aM (ω:=Int×Int) (fun ((i1,i2):Int×Int)=>
 bif !i2==0 then
 bif decide (i2=0) then
 none
 else
 some (Sum.inl (i2,i1.tmod i2))
 else
 some (Sum.inr (i1,i2))) (a,b)).bind fun (i3,i4)=>
 some i3
noncomputable def Go.aa.cA(a:ah):Option Bool:=
 (aa.fD a.cF a.Den).bind fun b1=>
 bif b1 then
 (aa.kj a.cF).bind fun i2=>
 (aa.fN i2 a.Den).bind fun i3=>
 some (i3==1)
 else
 some false
noncomputable def Go.aa.dm(num:Int)(nF:Int):Option (ah×Int):=
 bif decide (nF<0) then
 (aa.kj (IntKind.i64.wrap (0-num))).bind fun i1=>
 (aa.fN i1 (IntKind.i64.wrap (0-nF))).bind fun i2=>
 bif decide (i2=0) then
 none
 else
 bif decide (i2=0) then
 none
 else
 (aa.fD (IntKind.i64.wrap ((IntKind.i64.wrap (0-num)).tdiv i2)) (IntKind.i64.wrap ((IntKind.i64.wrap (0-nF)).tdiv i2))).bind fun b3=>
 bif !b3 then
 some (ah.mk 0 0,3)
 else
 bif decide (i2=0) then
 none
 else
 bif decide (i2=0) then
 none
 else
 some (ah.mk (IntKind.i64.wrap ((IntKind.i64.wrap (0-num)).tdiv i2)) (IntKind.i64.wrap ((IntKind.i64.wrap (0-nF)).tdiv i2)),0)
 else
 (aa.kj num).bind fun i4=>
 (aa.fN i4 nF).bind fun i5=>
 bif decide (i5=0) then
 none
 else
 bif decide (i5=0) then
 none
 else
 (aa.fD (IntKind.i64.wrap (num.tdiv i5)) (IntKind.i64.wrap (nF.tdiv i5))).bind fun b6=>
 bif !b6 then
 some (ah.mk 0 0,3)
 else
 bif decide (i5=0) then
 none
 else
 bif decide (i5=0) then
 none
 else
 some (ah.mk (IntKind.i64.wrap (num.tdiv i5)) (IntKind.i64.wrap (nF.tdiv i5)),0)
noncomputable def Go.aa.oe(a:ah)(b:ah):Option (ah×Int):=
 (aa.cA a).bind fun b1=>
 bif !b1 then
 some (ah.mk 0 0,1)
 else
 (aa.cA b).bind fun b2=>
 bif !b2 then
 some (ah.mk 0 0,1)
 else
 (aa.dm (IntKind.i64.wrap (IntKind.i64.wrap (a.cF*b.Den)-IntKind.i64.wrap (b.cF*a.Den))) (IntKind.i64.wrap (a.Den*b.Den))).bind fun (q3,i4)=>
 some (q3,i4)
noncomputable def Go.aa.rk(a:ah)(b:ah):Option (ah×Int):=
 (aa.cA a).bind fun b1=>
 bif !b1 then
 some (ah.mk 0 0,1)
 else
 (aa.cA b).bind fun b2=>
 bif !b2 then
 some (ah.mk 0 0,1)
 else
 bif b.cF==0 then
 some (ah.mk 0 0,14)
 else
 (aa.dm (IntKind.i64.wrap (a.cF*b.Den)) (IntKind.i64.wrap (a.Den*b.cF))).bind fun (q3,i4)=>
 some (q3,i4)
noncomputable def Go.aa.kN(n:bt)(fixed:List Bool)(x:List ah)(link:Int):Option (ah×Int):=
 bif decide (0≤link) then
 (n.aA[link.toNat]?).bind fun i1=>
 (aM (ω:=Int×Int×Int×Int) (fun ((i2,i3,i4,i5):Int×Int×Int×Int)=>
 bif decide (i3<(↑n.ab.length:Int)) then
 bif decide (0≤i3) then
 (n.ab[i3.toNat]?).bind fun l6=>
 (aa.jH l6 link).bind fun b7=>
 bif b7 then
 bif decide (0≤i3) then
 (fixed[i3.toNat]?).bind fun b8=>
 bif b8 then
 bif decide (0≤i3) then
 (x[i3.toNat]?).bind fun q9=>
 (aa.oe (ah.mk i4 i5) q9).bind fun (xy,i11)=>
 bif b7 then
 bif decide (0≤i3) then
 (fixed[i3.toNat]?).bind fun Cp=>
 bif !Cp then
 some (Sum.inl (IntKind.i64.wrap (i2+1),IntKind.i64.wrap (i3+1),xy.cF,xy.Den))
 else
 some (Sum.inl (i2,IntKind.i64.wrap (i3+1),xy.cF,xy.Den))
 else
 none
 else
 some (Sum.inl (i2,IntKind.i64.wrap (i3+1),xy.cF,xy.Den))
 else
 none
 else
 bif b7 then
 bif decide (0≤i3) then
 (fixed[i3.toNat]?).bind fun Nj=>
 bif !Nj then
 some (Sum.inl (IntKind.i64.wrap (i2+1),IntKind.i64.wrap (i3+1),i4,i5))
 else
 some (Sum.inl (i2,IntKind.i64.wrap (i3+1),i4,i5))
 else
 none
 else
 some (Sum.inl (i2,IntKind.i64.wrap (i3+1),i4,i5))
 else
 none
 else
 bif b7 then
 bif decide (0≤i3) then
 (fixed[i3.toNat]?).bind fun TJ=>
 bif !TJ then
 some (Sum.inl (IntKind.i64.wrap (i2+1),IntKind.i64.wrap (i3+1),i4,i5))
 else
 some (Sum.inl (i2,IntKind.i64.wrap (i3+1),i4,i5))
 else
 none
 else
 some (Sum.inl (i2,IntKind.i64.wrap (i3+1),i4,i5))
 else
 none
 else
 some (Sum.inr (i2,i3,i4,i5))) (0,0,i1,1)).bind fun (i15,i16,i17,i18)=>
 bif i15==0 then
 some (ah.mk i17 i18,0)
 else
 (aa.rk (ah.mk i17 i18) (ah.mk i15 1)).bind fun (W1,i20)=>
 some (W1,i15)
 else
 none
noncomputable def Go.aa.fO(a:ah)(b:ah):Option (Int×Int):=
 (aa.cA a).bind fun b1=>
 bif !b1 then
 some (0,1)
 else
 (aa.cA b).bind fun b2=>
 bif !b2 then
 some (0,1)
 else
 bif decide (IntKind.i64.wrap (a.cF*b.Den)<IntKind.i64.wrap (b.cF*a.Den)) then
 some (-1,0)
 else
 bif decide (IntKind.i64.wrap (b.cF*a.Den)<IntKind.i64.wrap (a.cF*b.Den)) then
 some (1,0)
 else
 some (0,0)
noncomputable def Go.aa.jl(n:bt):Option ((List ah)×Int):=
 (aa.c6 n).bind fun b1=>
 bif !b1 then
 some ([],1)
 else
 bif decide ((↑n.ab.length:Int).toNat*16≤2^47)&&decide ((↑n.ab.length:Int).toNat<2^62) then
 bif decide ((↑n.ab.length:Int).toNat*1≤2^47)&&decide ((↑n.ab.length:Int).toNat<2^62) then
 (aM (ω:=Int×List ah×List Bool) (fun ((i2,l3,l4):Int×List ah×List Bool)=>
 bif decide (0<i2) then
 (aM (ω:=Int×Int×Int×Int) (fun ((i5,i6,i7,i8):Int×Int×Int×Int)=>
 bif decide (i6<(↑n.aA.length:Int)) then
 (aa.kN n l4 l3 i6).bind fun (q9,i10)=>
 (aa.fO q9 (ah.mk i7 i8)).bind fun (i11,i12)=>
 bif decide (0<i10) then
 bif decide (i11<0) then
 some (Sum.inl (i6,IntKind.i64.wrap (i6+1),q9.cF,q9.Den))
 else
 some (Sum.inl (i5,IntKind.i64.wrap (i6+1),i7,i8))
 else
 some (Sum.inl (i5,IntKind.i64.wrap (i6+1),i7,i8))
 else
 some (Sum.inr (i5,i6,i7,i8))) (-1,0,1000000,1)).bind fun (i13,i14,i15,i16)=>
 (aM (ω:=Int×Int×Int×Int×Int) (fun ((i17,i18,i19,i20,i21):Int×Int×Int×Int×Int)=>
 bif decide (i19<(↑n.ab.length:Int)) then
 bif decide (0≤i19) then
 (n.aF[i19.toNat]?).bind fun i22=>
 (aa.fO (ah.mk i22 1) (ah.mk i20 i21)).bind fun (i23,i24)=>
 bif decide (0≤i19) then
 bif decide (i19.toNat<l4.length) then
 (l4[0+i19.toNat]?).bind fun b25=>
 bif !b25 then
 bif decide (0≤i19) then
 (n.aF[i19.toNat]?).bind fun i26=>
 bif decide (0<i26) then
 bif decide (i23<0) then
 some (Sum.inl (i19,-1,IntKind.i64.wrap (i19+1),i22,1))
 else
 some (Sum.inl (i17,i18,IntKind.i64.wrap (i19+1),i20,i21))
 else
 some (Sum.inl (i17,i18,IntKind.i64.wrap (i19+1),i20,i21))
 else
 none
 else
 some (Sum.inl (i17,i18,IntKind.i64.wrap (i19+1),i20,i21))
 else
 none
 else
 none
 else
 none
 else
 some (Sum.inr (i17,i18,i19,i20,i21))) (-1,i13,0,i15,i16)).bind fun (i27,i28,i29,i30,i31)=>
 (aM (ω:=Int×Int×List ah×List Bool) (fun ((i32,i33,pI,sg):Int×Int×List ah×List Bool)=>
 bif decide (i33<(↑n.ab.length:Int)) then
 bif decide (0≤i28) then
 bif decide (0≤i33) then
 (n.ab[i33.toNat]?).bind fun l36=>
 (aa.jH l36 i28).bind fun b37=>
 bif decide (0≤i33) then
 bif decide (i33.toNat<sg.length) then
 (sg[0+i33.toNat]?).bind fun Ou=>
 bif !Ou then
 bif b37 then
 bif decide (0≤i33) then
 bif decide (i33.toNat<sg.length) then
 (sg[0+i33.toNat]?).bind fun Zg=>
 bif decide (0≤i33) then
 bif decide (i33.toNat<pI.length) then
 (pI[0+i33.toNat]?).bind fun q40=>
 bif decide ((pI.set (0+i33.toNat) (ah.mk i30 i31)).length=l3.length) then
 bif decide ((sg.set (0+i33.toNat) true).length=l4.length) then
 some (Sum.inl (IntKind.i64.wrap (i32-1),IntKind.i64.wrap (i33+1),pI.set (0+i33.toNat) (ah.mk i30 i31),sg.set (0+i33.toNat) true))
 else
 none
 else
 none
 else
 none
 else
 none
 else
 none
 else
 none
 else
 bif decide (i28<0) then
 bif i33==i27 then
 bif decide (0≤i33) then
 bif decide (i33.toNat<sg.length) then
 (sg[0+i33.toNat]?).bind fun Zh=>
 bif decide (0≤i33) then
 bif decide (i33.toNat<pI.length) then
 (pI[0+i33.toNat]?).bind fun q42=>
 bif decide ((pI.set (0+i33.toNat) (ah.mk i30 i31)).length=l3.length) then
 bif decide ((sg.set (0+i33.toNat) true).length=l4.length) then
 some (Sum.inl (IntKind.i64.wrap (i32-1),IntKind.i64.wrap (i33+1),pI.set (0+i33.toNat) (ah.mk i30 i31),sg.set (0+i33.toNat) true))
 else
 none
 else
 none
 else
 none
 else
 none
 else
 none
 else
 none
 else
 bif decide (pI.length=l3.length) then
 bif decide (sg.length=l4.length) then
 some (Sum.inl (i32,IntKind.i64.wrap (i33+1),pI,sg))
 else
 none
 else
 none
 else
 bif decide (pI.length=l3.length) then
 bif decide (sg.length=l4.length) then
 some (Sum.inl (i32,IntKind.i64.wrap (i33+1),pI,sg))
 else
 none
 else
 none
 else
 bif decide (pI.length=l3.length) then
 bif decide (sg.length=l4.length) then
 some (Sum.inl (i32,IntKind.i64.wrap (i33+1),pI,sg))
 else
 none
 else
 none
 else
 none
 else
 none
 else
 none
 else
 bif decide (0≤i33) then
 bif decide (i33.toNat<sg.length) then
 (sg[0+i33.toNat]?).bind fun W2=>
 bif !W2 then
 bif decide (i28<0) then
 bif i33==i27 then
 bif decide (0≤i33) then
 bif decide (i33.toNat<sg.length) then
 (sg[0+i33.toNat]?).bind fun Zi=>
 bif decide (0≤i33) then
 bif decide (i33.toNat<pI.length) then
 (pI[0+i33.toNat]?).bind fun W3=>
 bif decide ((pI.set (0+i33.toNat) (ah.mk i30 i31)).length=l3.length) then
 bif decide ((sg.set (0+i33.toNat) true).length=l4.length) then
 some (Sum.inl (IntKind.i64.wrap (i32-1),IntKind.i64.wrap (i33+1),pI.set (0+i33.toNat) (ah.mk i30 i31),sg.set (0+i33.toNat) true))
 else
 none
 else
 none
 else
 none
 else
 none
 else
 none
 else
 none
 else
 bif decide (pI.length=l3.length) then
 bif decide (sg.length=l4.length) then
 some (Sum.inl (i32,IntKind.i64.wrap (i33+1),pI,sg))
 else
 none
 else
 none
 else
 bif decide (pI.length=l3.length) then
 bif decide (sg.length=l4.length) then
 some (Sum.inl (i32,IntKind.i64.wrap (i33+1),pI,sg))
 else
 none
 else
 none
 else
 bif decide (pI.length=l3.length) then
 bif decide (sg.length=l4.length) then
 some (Sum.inl (i32,IntKind.i64.wrap (i33+1),pI,sg))
 else
 none
 else
 none
 else
 none
 else
 none
 else
 bif decide (pI.length=l3.length) then
 bif decide (sg.length=l4.length) then
 some (Sum.inr (i32,i33,pI,sg))
 else
 none
 else
 none) (i2,0,l3,l4)).bind fun (i46,i47,Rp,SA)=>
 bif decide (Rp.length=(List.replicate (↑n.ab.length:Int).toNat (ah.mk 0 0)).length) then
 bif decide (SA.length=(List.replicate (↑n.ab.length:Int).toNat false).length) then
 some (Sum.inl (i46,Rp,SA))
 else
 none
 else
 none
 else
 bif decide (l3.length=(List.replicate (↑n.ab.length:Int).toNat (ah.mk 0 0)).length) then
 bif decide (l4.length=(List.replicate (↑n.ab.length:Int).toNat false).length) then
 some (Sum.inr (i2,l3,l4))
 else
 none
 else
 none) ((↑n.ab.length:Int),List.replicate (↑n.ab.length:Int).toNat (ah.mk 0 0),List.replicate (↑n.ab.length:Int).toNat false)).bind fun (i50,OK,l52)=>
 some (OK,0)
 else
 none
 else
 none
noncomputable def Go.aa.dR(n:Int):Option ah:=
 some (ah.mk n 1)
noncomputable def Go.aa.ny(s:List Int)(v:Int):Option Int:=
 (aM (ω:=Int ⊕ Int×Int) (fun ((i1,i2):Int×Int)=>
 bif decide (i2<(↑s.length:Int)) then
 bif decide (0≤i2) then
 (s[i2.toNat]?).bind fun i3=>
 bif v==i3 then
 some (Sum.inr (Sum.inl i2))
 else
 some (Sum.inl (i1,IntKind.i64.wrap (i2+1)))
 else
 none
 else
 some (Sum.inr (Sum.inr (i1,i2)))) (0,0)).bind fun w4=>
 Sum.elim (fun i5=>
 some i5) (fun (i6,i7)=>
 some (-1)) w4
noncomputable def Go.aa.bG(s:List Int)(v:Int):Option Bool:=
 (aa.ny s v).bind fun i1=>
 some (decide (0≤i1))
noncomputable def Go.aa.bj(f:ah):Option (ah×Int):=
 (aa.dg f).bind fun q1=>
 (aa.bR q1).bind fun b2=>
 bif !b2 then
 some (ah.mk 0 0,3)
 else
 some (q1,0)
noncomputable def Go.aa.ra(a:ah)(b:ah):Option (ah×Int):=
 (aa.cZ a).bind fun b1=>
 bif !b1 then
 some (ah.mk 0 0,1)
 else
 (aa.cZ b).bind fun b2=>
 bif !b2 then
 some (ah.mk 0 0,1)
 else
 bif IntKind.i64.wrap (a.Den*b.Den)==0 then
 some (ah.mk 0 0,14)
 else
 (aa.bj (ah.mk (IntKind.i64.wrap (IntKind.i64.wrap (a.cF*b.Den)+IntKind.i64.wrap (b.cF*a.Den))) (IntKind.i64.wrap (a.Den*b.Den)))).bind fun (q3,i4)=>
 some (q3,i4)
noncomputable def Go.aa.gd(s:cr)(l:Int):Option (ah×Bool):=
 (aa.dR 0).bind fun q1=>
 (aM (ω:=Int×Int×Bool×Int×Int ⊕ Int×Int×Int) (fun ((i2,i3,i4):Int×Int×Int)=>
 bif decide (i2<(↑s.Net.ab.length:Int)) then
 bif decide (0≤i2) then
 (s.Net.ab[i2.toNat]?).bind fun l5=>
 (aa.bG l5 l).bind fun b6=>
 bif b6 then
 bif decide (0≤i2) then
 (s.DA[i2.toNat]?).bind fun q7=>
 (aa.ra (ah.mk i3 i4) q7).bind fun (q8,i9)=>
 bif !i9==0 then
 some (Sum.inr (Sum.inl (i3,i4,false,i3,i4)))
 else
 some (Sum.inl (IntKind.i64.wrap (i2+1),q8.cF,q8.Den))
 else
 none
 else
 some (Sum.inl (IntKind.i64.wrap (i2+1),i3,i4))
 else
 none
 else
 some (Sum.inr (Sum.inr (i2,i3,i4)))) (0,q1.cF,q1.Den)).bind fun TP=>
 Sum.elim (fun (i11,i12,Nj,i14,i15)=>
 some (ah.mk i14 i15,Nj)) (fun (i16,i17,i18)=>
 bif decide (0≤l) then
 (s.Net.aA[l.toNat]?).bind fun i19=>
 (aa.dR i19).bind fun W4=>
 (aa.fh W4 (ah.mk i17 i18)).bind fun TQ=>
 some (ah.mk i17 i18,!TQ)
 else
 none) TP
noncomputable def Go.aa.dN(n:bt)(x:List ah):Option Bool:=
 (aa.fC n).bind fun b1=>
 bif !b1 then
 some false
 else
 bif !(↑x.length:Int)==(↑n.ab.length:Int) then
 some false
 else
 (aM (ω:=Bool ⊕ Bool×Int) (fun ((b2,i3):Bool×Int)=>
 bif decide (i3<(↑x.length:Int)) then
 bif decide (0≤i3) then
 (x[i3.toNat]?).bind fun q4=>
 (aa.cZ q4).bind fun b5=>
 bif !b5 then
 some (Sum.inr (Sum.inl false))
 else
 bif decide (q4.cF<0) then
 some (Sum.inr (Sum.inl false))
 else
 bif decide (0≤i3) then
 (n.aF[i3.toNat]?).bind fun i6=>
 bif decide (0<i6) then
 bif decide (0≤i3) then
 (n.aF[i3.toNat]?).bind fun i7=>
 (aa.dR i7).bind fun q8=>
 (aa.fh q8 q4).bind fun b9=>
 bif b9 then
 some (Sum.inr (Sum.inl false))
 else
 some (Sum.inl (b2,IntKind.i64.wrap (i3+1)))
 else
 none
 else
 some (Sum.inl (b2,IntKind.i64.wrap (i3+1)))
 else
 none
 else
 none
 else
 some (Sum.inr (Sum.inr (b2,i3)))) (false,0)).bind fun TP=>
 Sum.elim (fun Rh=>
 some Rh) (fun (Cp,i13)=>
 bif decide ((↑x.length:Int).toNat*1≤2^47)&&decide ((↑x.length:Int).toNat<2^62) then
 (aM (ω:=Int×List Bool) (fun ((i14,xl):Int×List Bool)=>
 bif decide (i14<(↑n.aF.length:Int)) then
 bif decide (0≤i14) then
 (n.aF[i14.toNat]?).bind fun i16=>
 bif decide (0<i16) then
 bif decide (0≤i14) then
 (x[i14.toNat]?).bind fun IM=>
 (aa.dR i16).bind fun PV=>
 bif decide (0≤i14) then
 bif decide (i14.toNat<xl.length) then
 (xl[0+i14.toNat]?).bind fun b19=>
 bif decide ((xl.set (0+i14.toNat) (IM.cF==PV.cF&&IM.Den==PV.Den)).length=(List.replicate (↑x.length:Int).toNat false).length) then
 some (Sum.inl (IntKind.i64.wrap (i14+1),xl.set (0+i14.toNat) (IM.cF==PV.cF&&IM.Den==PV.Den)))
 else
 none
 else
 none
 else
 none
 else
 none
 else
 bif decide (0≤i14) then
 bif decide (i14.toNat<xl.length) then
 (xl[0+i14.toNat]?).bind fun Zj=>
 bif decide ((xl.set (0+i14.toNat) false).length=(List.replicate (↑x.length:Int).toNat false).length) then
 some (Sum.inl (IntKind.i64.wrap (i14+1),xl.set (0+i14.toNat) false))
 else
 none
 else
 none
 else
 none
 else
 none
 else
 bif decide (xl.length=(List.replicate (↑x.length:Int).toNat false).length) then
 some (Sum.inr (i14,xl))
 else
 none) (0,List.replicate (↑x.length:Int).toNat false)).bind fun (i21,Hw)=>
 (aM (ω:=Bool×List Bool ⊕ Bool×Int×List Bool) (fun ((Vv,i24,ES):Bool×Int×List Bool)=>
 bif decide (i24<(↑n.aA.length:Int)) then
 (aa.gd (cr.mk n [] x) i24:Option (ah×Bool)).bind fun (Vw,Vx)=>
 bif !Vx then
 bif decide (ES.length=Hw.length) then
 some (Sum.inr (Sum.inl (false,ES)))
 else
 none
 else
 (aM (ω:=Int×List Bool) (fun ((i28,Cr):Int×List Bool)=>
 bif decide (i28<(↑n.ab.length:Int)) then
 bif decide (0≤i28) then
 (n.ab[i28.toNat]?).bind fun l30=>
 (aa.bG l30 i24).bind fun b31=>
 bif b31 then
 (aM (ω:=Int×Bool) (fun ((i32,Ot):Int×Bool)=>
 bif decide (i32<(↑n.ab.length:Int)) then
 bif decide (0≤i32) then
 (n.ab[i32.toNat]?).bind fun pI=>
 (aa.bG pI i24).bind fun Q9=>
 bif Q9 then
 bif Ot then
 bif decide (0≤i28) then
 (x[i28.toNat]?).bind fun WL=>
 bif decide (0≤i32) then
 (x[i32.toNat]?).bind fun WM=>
 (aa.fh WL WM).bind fun Ou=>
 some (Sum.inl (IntKind.i64.wrap (i32+1),!Ou))
 else
 none
 else
 none
 else
 some (Sum.inl (IntKind.i64.wrap (i32+1),false))
 else
 some (Sum.inl (IntKind.i64.wrap (i32+1),Ot))
 else
 none
 else
 some (Sum.inr (i32,Ot))) (0,true)).bind fun (i39,W5)=>
 bif decide (0≤i28) then
 bif decide (i28.toNat<Cr.length) then
 (Cr[0+i28.toNat]?).bind fun Zh=>
 bif Zh then
 bif decide (0≤i28) then
 bif decide (i28.toNat<Cr.length) then
 (Cr[0+i28.toNat]?).bind fun b42=>
 bif decide ((Cr.set (0+i28.toNat) true).length=ES.length) then
 some (Sum.inl (IntKind.i64.wrap (i28+1),Cr.set (0+i28.toNat) true))
 else
 none
 else
 none
 else
 none
 else
 bif W5 then
 bif decide (0≤i24) then
 (n.aA[i24.toNat]?).bind fun i43=>
 (aa.dR i43).bind fun Vy=>
 bif decide (0≤i28) then
 bif decide (i28.toNat<Cr.length) then
 (Cr[0+i28.toNat]?).bind fun b45=>
 bif decide ((Cr.set (0+i28.toNat) (Vw.cF==Vy.cF&&Vw.Den==Vy.Den)).length=ES.length) then
 some (Sum.inl (IntKind.i64.wrap (i28+1),Cr.set (0+i28.toNat) (Vw.cF==Vy.cF&&Vw.Den==Vy.Den)))
 else
 none
 else
 none
 else
 none
 else
 none
 else
 bif decide (0≤i28) then
 bif decide (i28.toNat<Cr.length) then
 (Cr[0+i28.toNat]?).bind fun SB=>
 bif decide ((Cr.set (0+i28.toNat) false).length=ES.length) then
 some (Sum.inl (IntKind.i64.wrap (i28+1),Cr.set (0+i28.toNat) false))
 else
 none
 else
 none
 else
 none
 else
 none
 else
 none
 else
 bif decide (Cr.length=ES.length) then
 some (Sum.inl (IntKind.i64.wrap (i28+1),Cr))
 else
 none
 else
 none
 else
 bif decide (Cr.length=ES.length) then
 some (Sum.inr (i28,Cr))
 else
 none) (0,ES)).bind fun (i47,Rp)=>
 bif decide (Rp.length=Hw.length) then
 some (Sum.inl (Vv,IntKind.i64.wrap (i24+1),Rp))
 else
 none
 else
 bif decide (ES.length=Hw.length) then
 some (Sum.inr (Sum.inr (Vv,i24,ES)))
 else
 none) (Cp,0,Hw)).bind fun w49=>
 Sum.elim (fun (b50,OK)=>
 some b50) (fun (Zk,i53,Nl)=>
 (aa.fK Nl false).bind fun W6=>
 some !W6) w49
 else
 none) TP
noncomputable def Go.aa.rj(a:ah)(b:ah):Option (ah×Int):=
 (aa.cA a).bind fun b1=>
 bif !b1 then
 some (ah.mk 0 0,1)
 else
 (aa.cA b).bind fun b2=>
 bif !b2 then
 some (ah.mk 0 0,1)
 else
 (aa.dm (IntKind.i64.wrap (IntKind.i64.wrap (a.cF*b.Den)+IntKind.i64.wrap (b.cF*a.Den))) (IntKind.i64.wrap (a.Den*b.Den))).bind fun (q3,i4)=>
 some (q3,i4)
noncomputable def Go.aa.eM(n:bt)(x:List ah)(link:Int):Option (ah×Bool):=
 (aM (ω:=Bool×Int×Int×Int×Int ⊕ Bool×Int×Int×Int) (fun ((b1,i2,i3,i4):Bool×Int×Int×Int)=>
 bif decide (i2<(↑n.ab.length:Int)) then
 bif decide (0≤i2) then
 (n.ab[i2.toNat]?).bind fun l5=>
 (aa.jH l5 link).bind fun b6=>
 bif b6 then
 bif decide (0≤i2) then
 (x[i2.toNat]?).bind fun q7=>
 (aa.rj (ah.mk i3 i4) q7).bind fun (q8,i9)=>
 bif !i9==0 then
 some (Sum.inr (Sum.inl (false,i3,i4,i3,i4)))
 else
 some (Sum.inl (b1,IntKind.i64.wrap (i2+1),q8.cF,q8.Den))
 else
 none
 else
 some (Sum.inl (b1,IntKind.i64.wrap (i2+1),i3,i4))
 else
 none
 else
 some (Sum.inr (Sum.inr (b1,i2,i3,i4)))) (false,0,0,1)).bind fun TP=>
 Sum.elim (fun (Rh,i12,i13,i14,i15)=>
 some (ah.mk i14 i15,Rh)) (fun (W0,i17,i18,i19)=>
 some (ah.mk i18 i19,true)) TP
noncomputable def Go.aa.iR(n:bt)(x:List ah)(F7:Int)(link:Int):Option Bool:=
 (aa.eM n x link).bind fun (q1,b2)=>
 (aM (ω:=Bool ⊕ Bool×Int) (fun ((b3,i4):Bool×Int)=>
 bif decide (i4<(↑n.ab.length:Int)) then
 bif decide (0≤i4) then
 (n.ab[i4.toNat]?).bind fun l5=>
 (aa.jH l5 link).bind fun b6=>
 bif decide (0≤i4) then
 (x[i4.toNat]?).bind fun q7=>
 bif decide (0≤F7) then
 (x[F7.toNat]?).bind fun q8=>
 (aa.fO q7 q8).bind fun (i9,i10)=>
 bif b6 then
 bif decide (0<i9) then
 some (Sum.inr (Sum.inl false))
 else
 some (Sum.inl (b3,IntKind.i64.wrap (i4+1)))
 else
 some (Sum.inl (b3,IntKind.i64.wrap (i4+1)))
 else
 none
 else
 none
 else
 none
 else
 some (Sum.inr (Sum.inr (b3,i4)))) (false,0)).bind fun W7=>
 Sum.elim (fun Cp=>
 some Cp) (fun (Nj,i14)=>
 bif q1.Den==1 then
 bif decide (0≤link) then
 (n.aA[link.toNat]?).bind fun i15=>
 some (q1.cF==i15)
 else
 none
 else
 some false) W7
noncomputable def Go.aa.jk(n:bt)(x:List ah):Option Bool:=
 (aa.c6 n).bind fun b1=>
 bif !b1 then
 some false
 else
 bif !(↑x.length:Int)==(↑n.ab.length:Int) then
 some false
 else
 (aM (ω:=Bool ⊕ Bool×Int) (fun ((b2,i3):Bool×Int)=>
 bif decide (i3<(↑x.length:Int)) then
 bif decide (0≤i3) then
 (x[i3.toNat]?).bind fun q4=>
 (aa.cA q4).bind fun b5=>
 bif !b5 then
 some (Sum.inr (Sum.inl false))
 else
 bif decide (0≤i3) then
 (x[i3.toNat]?).bind fun q6=>
 bif decide (q6.cF<0) then
 some (Sum.inr (Sum.inl false))
 else
 bif decide (0≤i3) then
 (n.aF[i3.toNat]?).bind fun i7=>
 bif decide (0<i7) then
 bif decide (0≤i3) then
 (x[i3.toNat]?).bind fun q8=>
 bif decide (0≤i3) then
 (n.aF[i3.toNat]?).bind fun i9=>
 bif decide (0≤i3) then
 (x[i3.toNat]?).bind fun xy=>
 bif decide (IntKind.i64.wrap (i9*xy.Den)<q8.cF) then
 some (Sum.inr (Sum.inl false))
 else
 some (Sum.inl (b2,IntKind.i64.wrap (i3+1)))
 else
 none
 else
 none
 else
 none
 else
 some (Sum.inl (b2,IntKind.i64.wrap (i3+1)))
 else
 none
 else
 none
 else
 none
 else
 some (Sum.inr (Sum.inr (b2,i3)))) (false,0)).bind fun W7=>
 Sum.elim (fun Cp=>
 some Cp) (fun (Nj,i14)=>
 (aM (ω:=Bool ⊕ Bool×Int) (fun ((Vu,i16):Bool×Int)=>
 bif decide (i16<(↑n.aA.length:Int)) then
 (aa.eM n x i16).bind fun (IM,W8)=>
 bif !W8 then
 some (Sum.inr (Sum.inl false))
 else
 bif decide (0≤i16) then
 (n.aA[i16.toNat]?).bind fun i19=>
 bif decide (IntKind.i64.wrap (i19*IM.Den)<IM.cF) then
 some (Sum.inr (Sum.inl false))
 else
 some (Sum.inl (Vu,IntKind.i64.wrap (i16+1)))
 else
 none
 else
 some (Sum.inr (Sum.inr (Vu,i16)))) (Nj,0)).bind fun w20=>
 Sum.elim (fun TQ=>
 some TQ) (fun (W9,i23)=>
 (aM (ω:=Bool ⊕ Bool×Int) (fun ((Sx,i25):Bool×Int)=>
 bif decide (i25<(↑x.length:Int)) then
 bif decide (0≤i25) then
 (n.aF[i25.toNat]?).bind fun i26=>
 bif decide (0<i26) then
 bif decide (0≤i25) then
 (x[i25.toNat]?).bind fun q27=>
 bif q27.Den==1 then
 bif decide (0≤i25) then
 (x[i25.toNat]?).bind fun TR=>
 bif decide (0≤i25) then
 (n.aF[i25.toNat]?).bind fun i29=>
 (aM (ω:=Bool×Int) (fun ((Rc,i31):Bool×Int)=>
 bif decide (0≤i25) then
 (n.ab[i25.toNat]?).bind fun WO=>
 bif decide (i31<(↑WO.length:Int)) then
 bif !Rc then
 bif decide (0≤i25) then
 (n.ab[i25.toNat]?).bind fun WQ=>
 bif decide (0≤i31) then
 (WQ[i31.toNat]?).bind fun i34=>
 (aa.iR n x i25 i34).bind fun Q9=>
 some (Sum.inl (Q9,IntKind.i64.wrap (i31+1)))
 else
 none
 else
 none
 else
 some (Sum.inr (Rc,i31))
 else
 some (Sum.inr (Rc,i31))
 else
 none) (TR.cF==i29,0)).bind fun (TI,i37)=>
 bif !TI then
 some (Sum.inr (Sum.inl false))
 else
 some (Sum.inl (Sx,IntKind.i64.wrap (i25+1)))
 else
 none
 else
 none
 else
 (aM (ω:=Bool×Int) (fun ((Ou,i39):Bool×Int)=>
 bif decide (0≤i25) then
 (n.ab[i25.toNat]?).bind fun l40=>
 bif decide (i39<(↑l40.length:Int)) then
 bif !Ou then
 bif decide (0≤i25) then
 (n.ab[i25.toNat]?).bind fun l41=>
 bif decide (0≤i39) then
 (l41[i39.toNat]?).bind fun i42=>
 (aa.iR n x i25 i42).bind fun W2=>
 some (Sum.inl (W2,IntKind.i64.wrap (i39+1)))
 else
 none
 else
 none
 else
 some (Sum.inr (Ou,i39))
 else
 some (Sum.inr (Ou,i39))
 else
 none) (false,0)).bind fun (Zi,i45)=>
 bif !Zi then
 some (Sum.inr (Sum.inl false))
 else
 some (Sum.inl (Sx,IntKind.i64.wrap (i25+1)))
 else
 none
 else
 (aM (ω:=Bool×Int) (fun ((SB,i47):Bool×Int)=>
 bif decide (0≤i25) then
 (n.ab[i25.toNat]?).bind fun Rp=>
 bif decide (i47<(↑Rp.length:Int)) then
 bif !SB then
 bif decide (0≤i25) then
 (n.ab[i25.toNat]?).bind fun SA=>
 bif decide (0≤i47) then
 (SA[i47.toNat]?).bind fun i50=>
 (aa.iR n x i25 i50).bind fun b51=>
 some (Sum.inl (b51,IntKind.i64.wrap (i47+1)))
 else
 none
 else
 none
 else
 some (Sum.inr (SB,i47))
 else
 some (Sum.inr (SB,i47))
 else
 none) (false,0)).bind fun (Zk,i53)=>
 bif !Zk then
 some (Sum.inr (Sum.inl false))
 else
 some (Sum.inl (Sx,IntKind.i64.wrap (i25+1)))
 else
 none
 else
 some (Sum.inr (Sum.inr (Sx,i25)))) (W9,0)).bind fun w54=>
 Sum.elim (fun W6=>
 some W6) (fun (b56,i57)=>
 some true) w54) w20) W7
noncomputable def Go.aa.ji(n:bt):Option Bool:=
 (aM (ω:=Bool ⊕ Bool×Int) (fun ((b1,i2):Bool×Int)=>
 bif decide (i2<(↑n.ab.length:Int)) then
 bif decide (i2<50) then
 bif decide (0≤i2) then
 (n.ab[i2.toNat]?).bind fun l3=>
 bif decide (50<(↑l3.length:Int)) then
 some (Sum.inr (Sum.inl false))
 else
 some (Sum.inl (b1,IntKind.i64.wrap (i2+1)))
 else
 none
 else
 some (Sum.inr (Sum.inr (b1,i2)))
 else
 some (Sum.inr (Sum.inr (b1,i2)))) (false,0)).bind fun w4=>
 Sum.elim (fun b5=>
 some b5) (fun (b6,i7)=>
 bif decide ((↑n.aA.length:Int)≤50) then
 bif decide ((↑n.ab.length:Int)≤50) then
 some (decide ((↑n.aF.length:Int)≤50))
 else
 some false
 else
 some false) w4
noncomputable def Go.aa.iQ(a:List ah)(b:List ah):Option Bool:=
 bif !(↑a.length:Int)==(↑b.length:Int) then
 some false
 else
 (aM (ω:=Bool ⊕ Bool×Int) (fun ((b1,i2):Bool×Int)=>
 bif decide (i2<(↑a.length:Int)) then
 bif decide (0≤i2) then
 (a[i2.toNat]?).bind fun q3=>
 bif decide (0≤i2) then
 (b[i2.toNat]?).bind fun q4=>
 bif !(q3.cF==q4.cF&&q3.Den==q4.Den) then
 some (Sum.inr (Sum.inl false))
 else
 some (Sum.inl (b1,IntKind.i64.wrap (i2+1)))
 else
 none
 else
 none
 else
 some (Sum.inr (Sum.inr (b1,i2)))) (false,0)).bind fun w5=>
 Sum.elim (fun b6=>
 some b6) (fun (b7,i8)=>
 some true) w5
noncomputable def Go.aa.oa(a:ah)(b:ah):Option (ah×Int):=
 (aa.cZ a).bind fun b1=>
 bif !b1 then
 some (ah.mk 0 0,1)
 else
 (aa.cZ b).bind fun b2=>
 bif !b2 then
 some (ah.mk 0 0,1)
 else
 bif IntKind.i64.wrap (a.Den*b.Den)==0 then
 some (ah.mk 0 0,14)
 else
 (aa.bj (ah.mk (IntKind.i64.wrap (IntKind.i64.wrap (a.cF*b.Den)-IntKind.i64.wrap (b.cF*a.Den))) (IntKind.i64.wrap (a.Den*b.Den)))).bind fun (q3,i4)=>
 some (q3,i4)
noncomputable def Go.aa.rb(a:ah)(b:ah):Option (ah×Int):=
 (aa.cZ a).bind fun b1=>
 bif !b1 then
 some (ah.mk 0 0,1)
 else
 (aa.cZ b).bind fun b2=>
 bif !b2 then
 some (ah.mk 0 0,1)
 else
 bif IntKind.i64.wrap (a.Den*b.cF)==0 then
 some (ah.mk 0 0,14)
 else
 (aa.bj (ah.mk (IntKind.i64.wrap (a.cF*b.Den)) (IntKind.i64.wrap (a.Den*b.cF)))).bind fun (q3,i4)=>
 some (q3,i4)
noncomputable def Go.aa.cz(l:Int)(s:cr):Option (ah×Bool):=
 bif decide (0≤l) then
 (s.Net.aA[l.toNat]?).bind fun i1=>
 (aa.dR i1).bind fun q2=>
 (aM (ω:=Int×Int×Int×Int) (fun ((i3,i4,i5,i6):Int×Int×Int×Int)=>
 bif decide (i3<(↑s.Net.ab.length:Int)) then
 bif decide (0≤i3) then
 (s.Net.ab[i3.toNat]?).bind fun l7=>
 (aa.bG l7 l).bind fun b8=>
 bif b8 then
 bif decide (0≤i3) then
 (s.Dz[i3.toNat]?).bind fun b9=>
 bif !b9 then
 some (Sum.inl (IntKind.i64.wrap (i3+1),IntKind.i64.wrap (i4+1),i5,i6))
 else
 bif decide (0≤i3) then
 (s.DA[i3.toNat]?).bind fun xy=>
 (aa.oa (ah.mk i5 i6) xy).bind fun (Ng,i12)=>
 some (Sum.inl (IntKind.i64.wrap (i3+1),i4,Ng.cF,Ng.Den))
 else
 none
 else
 none
 else
 some (Sum.inl (IntKind.i64.wrap (i3+1),i4,i5,i6))
 else
 none
 else
 some (Sum.inr (i3,i4,i5,i6))) (0,0,q2.cF,q2.Den)).bind fun (i13,i14,i15,i16)=>
 bif i14==0 then
 some (ah.mk i15 i16,false)
 else
 (aa.dR i14).bind fun IM=>
 (aa.rb (ah.mk i15 i16) IM).bind fun (PV,i19)=>
 some (PV,true)
 else
 none
noncomputable def Go.aa.gb(l:Int)(s:cr)(F7:Int):Option Bool:=
 bif decide (0≤F7) then
 (s.Net.ab[F7.toNat]?).bind fun l1=>
 (aa.bG l1 l).bind fun b2=>
 some b2
 else
 none
noncomputable def Go.aa.cM(l:Int)(s:cr):Option (ah×Bool):=
 bif decide (0≤l) then
 (s.Net.aF[l.toNat]?).bind fun i1=>
 (aa.dR i1).bind fun q2=>
 bif decide (0≤l) then
 (s.Net.aF[l.toNat]?).bind fun i3=>
 bif decide (0<i3) then
 bif decide (0≤l) then
 (s.Dz[l.toNat]?).bind fun b4=>
 some (q2,!b4)
 else
 none
 else
 some (q2,false)
 else
 none
 else
 none
noncomputable def Go.aa.mC(l:Int)(s:cr)(F7:Int):Option Bool:=
 some (l==F7)
noncomputable def Go.aa.bX(n:bt):Option ((List ah)×Int):=
 (aa.fC n).bind fun b1=>
 bif !b1 then
 some ([],1)
 else
 bif decide ((↑n.ab.length:Int).toNat*1≤2^47)&&decide ((↑n.ab.length:Int).toNat<2^62) then
 bif decide ((↑n.ab.length:Int).toNat*16≤2^47)&&decide ((↑n.ab.length:Int).toNat<2^62) then
 (aM (ω:=Int×List eu) (fun ((i2,l3):Int×List eu)=>
 bif decide (i2<(↑n.aA.length:Int)) then
 bif decide ((l3.length+1)*16≤2^44)&&decide (l3.length+1≤2^44) then
 some (Sum.inl (IntKind.i64.wrap (i2+1),l3++[eu.mk true i2]))
 else
 none
 else
 some (Sum.inr (i2,l3))) (0,[])).bind fun (i4,l5)=>
 (aM (ω:=Int×List eu) (fun ((i6,l7):Int×List eu)=>
 bif decide (i6<(↑n.aF.length:Int)) then
 bif decide ((l7.length+1)*16≤2^44)&&decide (l7.length+1≤2^44) then
 some (Sum.inl (IntKind.i64.wrap (i6+1),l7++[eu.mk false i6]))
 else
 none
 else
 some (Sum.inr (i6,l7))) (0,l5)).bind fun (i8,l9)=>
 (aM (ω:=List ah×List Bool) (fun ((LL,Cq):List ah×List Bool)=>
 (aa.fK Cq false).bind fun Cp=>
 bif Cp then
 (aM (ω:=Int×List ah×List eu) (fun ((i13,Hx,xl):Int×List ah×List eu)=>
 bif decide (i13<(↑l9.length:Int)) then
 bif decide (0≤i13) then
 bif decide (i13.toNat<l9.length) then
 (l9[0+i13.toNat]?).bind fun TS=>
 bif TS.A then
 (aa.cz TS.N (cr.mk n Cq LL)).bind fun (IM,W8)=>
 bif W8 then
 bif decide ((Hx.length+1)*16≤2^44)&&decide (Hx.length+1≤2^44) then
 bif decide ((xl.length+1)*16≤2^44)&&decide (xl.length+1≤2^44) then
 some (Sum.inl (IntKind.i64.wrap (i13+1),Hx++[IM],xl++[eu.mk true TS.N]))
 else
 none
 else
 none
 else
 some (Sum.inl (IntKind.i64.wrap (i13+1),Hx,xl))
 else
 (aa.cM TS.N (cr.mk n Cq LL)).bind fun (W1,Zj)=>
 bif Zj then
 bif decide ((Hx.length+1)*16≤2^44)&&decide (Hx.length+1≤2^44) then
 bif decide ((xl.length+1)*16≤2^44)&&decide (xl.length+1≤2^44) then
 some (Sum.inl (IntKind.i64.wrap (i13+1),Hx++[W1],xl++[eu.mk false TS.N]))
 else
 none
 else
 none
 else
 some (Sum.inl (IntKind.i64.wrap (i13+1),Hx,xl))
 else
 none
 else
 none
 else
 some (Sum.inr (i13,Hx,xl))) (0,[],[])).bind fun (i21,Hw,DS)=>
 bif decide (0<Hw.length) then
 (Hw[0]?).bind fun TT=>
 (aM (ω:=Int×Int×Int) (fun ((i25,i26,i27):Int×Int×Int)=>
 bif decide (i25<(↑Hw.length:Int)) then
 bif decide (0≤i25) then
 bif decide (i25.toNat<Hw.length) then
 (Hw[0+i25.toNat]?).bind fun TR=>
 (aa.fh TR (ah.mk i26 i27)).bind fun b29=>
 bif b29 then
 some (Sum.inl (IntKind.i64.wrap (i25+1),TR.cF,TR.Den))
 else
 some (Sum.inl (IntKind.i64.wrap (i25+1),i26,i27))
 else
 none
 else
 none
 else
 some (Sum.inr (i25,i26,i27))) (0,TT.cF,TT.Den)).bind fun (i30,i31,i32)=>
 (aM (ω:=Int×List Int) (fun ((i33,pI):Int×List Int)=>
 bif decide (i33<(↑DS.length:Int)) then
 bif decide (0≤i33) then
 bif decide (i33.toNat<DS.length) then
 (DS[0+i33.toNat]?).bind fun Xa=>
 bif Xa.A then
 (aM (ω:=Int×List Int) (fun ((i36,Rq):Int×List Int)=>
 bif decide (i36<(↑n.ab.length:Int)) then
 bif decide (0≤i33) then
 bif decide (i33.toNat<Hw.length) then
 (Hw[0+i33.toNat]?).bind fun Zl=>
 bif Zl.cF==i31&&Zl.Den==i32 then
 bif decide (0≤i36) then
 bif decide (i36.toNat<Cq.length) then
 (Cq[0+i36.toNat]?).bind fun Zg=>
 bif !Zg then
 (aa.gb Xa.N (cr.mk n Cq LL) i36).bind fun W5=>
 bif W5 then
 bif decide ((Rq.length+1)*8≤2^44)&&decide (Rq.length+1≤2^44) then
 some (Sum.inl (IntKind.i64.wrap (i36+1),Rq++[i36]))
 else
 none
 else
 some (Sum.inl (IntKind.i64.wrap (i36+1),Rq))
 else
 some (Sum.inl (IntKind.i64.wrap (i36+1),Rq))
 else
 none
 else
 none
 else
 some (Sum.inl (IntKind.i64.wrap (i36+1),Rq))
 else
 none
 else
 none
 else
 some (Sum.inr (i36,Rq))) (0,pI)).bind fun (i41,l42)=>
 some (Sum.inl (IntKind.i64.wrap (i33+1),l42))
 else
 (aM (ω:=Int×List Int) (fun ((i43,OL):Int×List Int)=>
 bif decide (i43<(↑n.ab.length:Int)) then
 bif decide (0≤i33) then
 bif decide (i33.toNat<Hw.length) then
 (Hw[0+i33.toNat]?).bind fun W3=>
 bif W3.cF==i31&&W3.Den==i32 then
 bif decide (0≤i43) then
 bif decide (i43.toNat<Cq.length) then
 (Cq[0+i43.toNat]?).bind fun SB=>
 bif !SB then
 (aa.mC Xa.N (cr.mk n Cq LL) i43).bind fun b47=>
 bif b47 then
 bif decide ((OL.length+1)*8≤2^44)&&decide (OL.length+1≤2^44) then
 some (Sum.inl (IntKind.i64.wrap (i43+1),OL++[i43]))
 else
 none
 else
 some (Sum.inl (IntKind.i64.wrap (i43+1),OL))
 else
 some (Sum.inl (IntKind.i64.wrap (i43+1),OL))
 else
 none
 else
 none
 else
 some (Sum.inl (IntKind.i64.wrap (i43+1),OL))
 else
 none
 else
 none
 else
 some (Sum.inr (i43,OL))) (0,pI)).bind fun (i48,SA)=>
 some (Sum.inl (IntKind.i64.wrap (i33+1),SA))
 else
 none
 else
 none
 else
 some (Sum.inr (i33,pI))) (0,[])).bind fun (i50,OK)=>
 (aM (ω:=Int×List ah×List Bool) (fun ((i52,Rr,Nl):Int×List ah×List Bool)=>
 bif decide (i52<(↑OK.length:Int)) then
 bif decide (0≤i52) then
 bif decide (i52.toNat<OK.length) then
 (OK[0+i52.toNat]?).bind fun i55=>
 bif decide (0≤i55) then
 bif decide (i55.toNat<Nl.length) then
 (Nl[0+i55.toNat]?).bind fun b56=>
 bif decide (0≤i55) then
 bif decide (i55.toNat<Rr.length) then
 (Rr[0+i55.toNat]?).bind fun q57=>
 bif decide ((Rr.set (0+i55.toNat) (ah.mk i31 i32)).length=LL.length) then
 bif decide ((Nl.set (0+i55.toNat) true).length=Cq.length) then
 some (Sum.inl (IntKind.i64.wrap (i52+1),Rr.set (0+i55.toNat) (ah.mk i31 i32),Nl.set (0+i55.toNat) true))
 else
 none
 else
 none
 else
 none
 else
 none
 else
 none
 else
 none
 else
 none
 else
 none
 else
 bif decide (Rr.length=LL.length) then
 bif decide (Nl.length=Cq.length) then
 some (Sum.inr (i52,Rr,Nl))
 else
 none
 else
 none) (0,LL,Cq)).bind fun (i58,Zm,Zn)=>
 bif decide (Zm.length=(List.replicate (↑n.ab.length:Int).toNat (ah.mk 0 0)).length) then
 bif decide (Zn.length=(List.replicate (↑n.ab.length:Int).toNat false).length) then
 some (Sum.inl (Zm,Zn))
 else
 none
 else
 none
 else
 none
 else
 bif decide (LL.length=(List.replicate (↑n.ab.length:Int).toNat (ah.mk 0 0)).length) then
 bif decide (Cq.length=(List.replicate (↑n.ab.length:Int).toNat false).length) then
 some (Sum.inr (LL,Cq))
 else
 none
 else
 none) (List.replicate (↑n.ab.length:Int).toNat (ah.mk 0 0),List.replicate (↑n.ab.length:Int).toNat false)).bind fun (l61,l62)=>
 some (l61,0)
 else
 none
 else
 none
noncomputable def Go.aa.DT(n:Int):Option ah:=
 some (ah.mk n 1)
noncomputable def Go.aa.LM(n:bt)(want:List ah):Option Bool:=
 (aa.bX n).bind fun (l1,i2)=>
 (aa.dN n want).bind fun b3=>
 bif i2==0 then
 bif b3 then
 (aa.iQ l1 want).bind fun b4=>
 some b4
 else
 some false
 else
 some false
noncomputable def Go.aa.qz(n:bt)(parts:List Int)(nF:Int):Option ((List Int)):=
 bif decide ((↑n.aA.length:Int).toNat*8≤2^47)&&decide ((↑n.aA.length:Int).toNat<2^62) then
 (aM (ω:=Int×List Int) (fun ((i1,l2):Int×List Int)=>
 bif decide (i1<(↑n.aA.length:Int)) then
 bif decide (0≤i1) then
 (n.aA[i1.toNat]?).bind fun i3=>
 bif decide (0≤i1) then
 bif decide (i1.toNat<l2.length) then
 (l2[0+i1.toNat]?).bind fun i4=>
 bif decide ((l2.set (0+i1.toNat) (IntKind.i64.wrap (i3*nF))).length=(List.replicate (↑n.aA.length:Int).toNat (0:Int)).length) then
 some (Sum.inl (IntKind.i64.wrap (i1+1),l2.set (0+i1.toNat) (IntKind.i64.wrap (i3*nF))))
 else
 none
 else
 none
 else
 none
 else
 none
 else
 bif decide (l2.length=(List.replicate (↑n.aA.length:Int).toNat (0:Int)).length) then
 some (Sum.inr (i1,l2))
 else
 none) (0,List.replicate (↑n.aA.length:Int).toNat (0:Int))).bind fun (i5,l6)=>
 bif decide ((↑n.ab.length:Int).toNat*8≤2^47)&&decide ((↑n.ab.length:Int).toNat<2^62) then
 (aM (ω:=Int×List Int×List Int) (fun ((i7,l8,l9):Int×List Int×List Int)=>
 bif decide (i7<(↑n.ab.length:Int)) then
 bif decide (i7<(↑parts.length:Int)) then
 bif decide (0≤i7) then
 (n.aF[i7.toNat]?).bind fun i10=>
 bif decide (0<i10) then
 bif decide (0≤i7) then
 (n.aF[i7.toNat]?).bind fun i11=>
 (aM (ω:=Int×Int) (fun ((i12,i13):Int×Int)=>
 bif decide (0≤i7) then
 (n.ab[i7.toNat]?).bind fun Hx=>
 bif decide (i13<(↑Hx.length:Int)) then
 bif decide (0≤i7) then
 (n.ab[i7.toNat]?).bind fun xl=>
 bif decide (0≤i13) then
 (xl[i13.toNat]?).bind fun i16=>
 bif decide (0≤i16) then
 bif decide (i16.toNat<l8.length) then
 (l8[0+i16.toNat]?).bind fun i17=>
 some (Sum.inl (if i17<i12 then i17 else i12,IntKind.i64.wrap (i13+1)))
 else
 none
 else
 none
 else
 none
 else
 none
 else
 some (Sum.inr (i12,i13))
 else
 none) (IntKind.i64.wrap (i11*nF),0)).bind fun (i18,i19)=>
 bif decide (0≤i7) then
 (parts[i7.toNat]?).bind fun i20=>
 bif decide (IntKind.i64.wrap (i18+1)=0) then
 none
 else
 bif decide (0≤i7) then
 bif decide (i7.toNat<l9.length) then
 (l9[0+i7.toNat]?).bind fun i21=>
 (aM (ω:=Int×List Int) (fun ((i22,DS):Int×List Int)=>
 bif decide (0≤i7) then
 (n.ab[i7.toNat]?).bind fun l24=>
 bif decide (i22<(↑l24.length:Int)) then
 bif decide (0≤i7) then
 (n.ab[i7.toNat]?).bind fun ES=>
 bif decide (0≤i22) then
 (ES[i22.toNat]?).bind fun i26=>
 bif decide (0≤i26) then
 bif decide (i26.toNat<DS.length) then
 (DS[0+i26.toNat]?).bind fun i27=>
 bif decide (0≤i7) then
 bif decide (i7.toNat<(l9.set (0+i7.toNat) ((IntKind.i64.wrap i20).tmod (IntKind.i64.wrap (i18+1)))).length) then
 ((l9.set (0+i7.toNat) ((IntKind.i64.wrap i20).tmod (IntKind.i64.wrap (i18+1))))[0+i7.toNat]?).bind fun i28=>
 bif decide (0≤i26) then
 bif decide (i26.toNat<DS.length) then
 (DS[0+i26.toNat]?).bind fun i29=>
 bif decide ((DS.set (0+i26.toNat) (IntKind.i64.wrap (i27-i28))).length=l8.length) then
 some (Sum.inl (IntKind.i64.wrap (i22+1),DS.set (0+i26.toNat) (IntKind.i64.wrap (i27-i28))))
 else
 none
 else
 none
 else
 none
 else
 none
 else
 none
 else
 none
 else
 none
 else
 none
 else
 none
 else
 bif decide (DS.length=l8.length) then
 some (Sum.inr (i22,DS))
 else
 none
 else
 none) (0,l8)).bind fun (i30,Zo)=>
 bif decide (Zo.length=l6.length) then
 bif decide ((l9.set (0+i7.toNat) ((IntKind.i64.wrap i20).tmod (IntKind.i64.wrap (i18+1)))).length=(List.replicate (↑n.ab.length:Int).toNat (0:Int)).length) then
 some (Sum.inl (IntKind.i64.wrap (i7+1),Zo,l9.set (0+i7.toNat) ((IntKind.i64.wrap i20).tmod (IntKind.i64.wrap (i18+1)))))
 else
 none
 else
 none
 else
 none
 else
 none
 else
 none
 else
 none
 else
 (aM (ω:=Int×Int) (fun ((i32,i33):Int×Int)=>
 bif decide (0≤i7) then
 (n.ab[i7.toNat]?).bind fun pI=>
 bif decide (i33<(↑pI.length:Int)) then
 bif decide (0≤i7) then
 (n.ab[i7.toNat]?).bind fun sg=>
 bif decide (0≤i33) then
 (sg[i33.toNat]?).bind fun i36=>
 bif decide (0≤i36) then
 bif decide (i36.toNat<l8.length) then
 (l8[0+i36.toNat]?).bind fun i37=>
 some (Sum.inl (if i37<i32 then i37 else i32,IntKind.i64.wrap (i33+1)))
 else
 none
 else
 none
 else
 none
 else
 none
 else
 some (Sum.inr (i32,i33))
 else
 none) (IntKind.i64.wrap (1000*nF),0)).bind fun (i38,i39)=>
 bif decide (0≤i7) then
 (parts[i7.toNat]?).bind fun i40=>
 bif decide (IntKind.i64.wrap (i38+1)=0) then
 none
 else
 bif decide (0≤i7) then
 bif decide (i7.toNat<l9.length) then
 (l9[0+i7.toNat]?).bind fun i41=>
 (aM (ω:=Int×List Int) (fun ((i42,PW):Int×List Int)=>
 bif decide (0≤i7) then
 (n.ab[i7.toNat]?).bind fun OL=>
 bif decide (i42<(↑OL.length:Int)) then
 bif decide (0≤i7) then
 (n.ab[i7.toNat]?).bind fun l45=>
 bif decide (0≤i42) then
 (l45[i42.toNat]?).bind fun i46=>
 bif decide (0≤i46) then
 bif decide (i46.toNat<PW.length) then
 (PW[0+i46.toNat]?).bind fun i47=>
 bif decide (0≤i7) then
 bif decide (i7.toNat<(l9.set (0+i7.toNat) ((IntKind.i64.wrap i40).tmod (IntKind.i64.wrap (i38+1)))).length) then
 ((l9.set (0+i7.toNat) ((IntKind.i64.wrap i40).tmod (IntKind.i64.wrap (i38+1))))[0+i7.toNat]?).bind fun i48=>
 bif decide (0≤i46) then
 bif decide (i46.toNat<PW.length) then
 (PW[0+i46.toNat]?).bind fun i49=>
 bif decide ((PW.set (0+i46.toNat) (IntKind.i64.wrap (i47-i48))).length=l8.length) then
 some (Sum.inl (IntKind.i64.wrap (i42+1),PW.set (0+i46.toNat) (IntKind.i64.wrap (i47-i48))))
 else
 none
 else
 none
 else
 none
 else
 none
 else
 none
 else
 none
 else
 none
 else
 none
 else
 none
 else
 bif decide (PW.length=l8.length) then
 some (Sum.inr (i42,PW))
 else
 none
 else
 none) (0,l8)).bind fun (i50,OK)=>
 bif decide (OK.length=l6.length) then
 bif decide ((l9.set (0+i7.toNat) ((IntKind.i64.wrap i40).tmod (IntKind.i64.wrap (i38+1)))).length=(List.replicate (↑n.ab.length:Int).toNat (0:Int)).length) then
 some (Sum.inl (IntKind.i64.wrap (i7+1),OK,l9.set (0+i7.toNat) ((IntKind.i64.wrap i40).tmod (IntKind.i64.wrap (i38+1)))))
 else
 none
 else
 none
 else
 none
 else
 none
 else
 none
 else
 none
 else
 bif decide (l8.length=l6.length) then
 bif decide (l9.length=(List.replicate (↑n.ab.length:Int).toNat (0:Int)).length) then
 some (Sum.inr (i7,l8,l9))
 else
 none
 else
 none
 else
 bif decide (l8.length=l6.length) then
 bif decide (l9.length=(List.replicate (↑n.ab.length:Int).toNat (0:Int)).length) then
 some (Sum.inr (i7,l8,l9))
 else
 none
 else
 none) (0,l6,List.replicate (↑n.ab.length:Int).toNat (0:Int))).bind fun (i52,Rr,Nl)=>
 some Nl
 else
 none
 else
 none
noncomputable def Go.aa.mD(r:ah)(num:Int)(nF:Int):Option Int:=
 some (IntKind.i64.wrap (IntKind.i64.wrap (r.cF*nF)-IntKind.i64.wrap (num*r.Den)))
noncomputable def Go.aa.td(n:bt)(parts:List Int)(nF:Int):Option Bool:=
 (aa.kp).bind fun b1=>
 (aa.ji n).bind fun b2=>
 bif b2 then
 (aa.c6 n).bind fun b3=>
 bif !b3 then
 some b1
 else
 (aa.qz n parts (IntKind.i64.wrap (1+(IntKind.i64.wrap nF).tmod 60))).bind fun l4=>
 (aa.bX n).bind fun (l5,i6)=>
 bif !i6==0 then
 some false
 else
 bif !(↑l5.length:Int)==(↑l4.length:Int) then
 some false
 else
 (aM (ω:=Bool×Int) (fun ((b7,i8):Bool×Int)=>
 bif decide (i8<(↑l5.length:Int)) then
 bif decide (0≤i8) then
 (l5[i8.toNat]?).bind fun q9=>
 bif decide (0≤i8) then
 (l4[i8.toNat]?).bind fun i10=>
 (aa.mD q9 i10 (IntKind.i64.wrap (1+(IntKind.i64.wrap nF).tmod 60))).bind fun i11=>
 bif decide (0≤i11) then
 some (Sum.inl (b7,IntKind.i64.wrap (i8+1)))
 else
 (aM (ω:=Bool×Int) (fun ((Cp,i13):Bool×Int)=>
 bif decide (i13<(↑l5.length:Int)) then
 bif decide (0≤i13) then
 (l5[i13.toNat]?).bind fun q14=>
 bif decide (0≤i8) then
 (l5[i8.toNat]?).bind fun q15=>
 (aa.fO q14 q15).bind fun (i16,i17)=>
 bif Cp then
 some (Sum.inl (true,IntKind.i64.wrap (i13+1)))
 else
 bif decide (i16≤0) then
 bif decide (0≤i13) then
 (l5[i13.toNat]?).bind fun PV=>
 bif decide (0≤i13) then
 (l4[i13.toNat]?).bind fun i19=>
 (aa.mD PV i19 (IntKind.i64.wrap (1+(IntKind.i64.wrap nF).tmod 60))).bind fun i20=>
 some (Sum.inl (decide (0<i20),IntKind.i64.wrap (i13+1)))
 else
 none
 else
 none
 else
 some (Sum.inl (false,IntKind.i64.wrap (i13+1)))
 else
 none
 else
 none
 else
 some (Sum.inr (Cp,i13))) (false,0)).bind fun (TQ,i22)=>
 bif b7 then
 some (Sum.inl (TQ,IntKind.i64.wrap (i8+1)))
 else
 some (Sum.inl (false,IntKind.i64.wrap (i8+1)))
 else
 none
 else
 none
 else
 some (Sum.inr (b7,i8))) (b1,0)).bind fun (Vv,i24)=>
 some Vv
 else
 some b1
noncomputable def Go.aa.uy(n:bt)(times:Int):Option Bool:=
 (aa.kp).bind fun b1=>
 (aa.ji n).bind fun b2=>
 bif b2 then
 (aa.c6 n).bind fun b3=>
 bif !b3 then
 some b1
 else
 bif decide (times<1) then
 some b1
 else
 bif decide (1000<times) then
 some b1
 else
 (aM (ω:=Int×List (List Int)×List Int×List Int) (fun ((i4,l5,l6,l7):Int×List (List Int)×List Int×List Int)=>
 bif decide (i4<(↑n.aA.length:Int)) then
 bif decide (0≤i4) then
 (n.aA[i4.toNat]?).bind fun i8=>
 bif decide ((l6.length+1)*8≤2^44)&&decide (l6.length+1≤2^44) then
 some (Sum.inl (IntKind.i64.wrap (i4+1),l5,l6++[IntKind.i64.wrap (i8*times)],l7))
 else
 none
 else
 none
 else
 some (Sum.inr (i4,l5,l6,l7))) (0,n.ab,[],[])).bind fun (i9,LL,Cq,WZ)=>
 (aM (ω:=Int×List (List Int)×List Int×List Int) (fun ((i13,Hx,xl,Vz):Int×List (List Int)×List Int×List Int)=>
 bif decide (i13<(↑n.aF.length:Int)) then
 bif decide (0≤i13) then
 (n.aF[i13.toNat]?).bind fun i17=>
 bif decide ((Vz.length+1)*8≤2^44)&&decide (Vz.length+1≤2^44) then
 some (Sum.inl (IntKind.i64.wrap (i13+1),Hx,xl,Vz++[IntKind.i64.wrap (i17*times)]))
 else
 none
 else
 none
 else
 some (Sum.inr (i13,Hx,xl,Vz))) (0,LL,Cq,WZ)).bind fun (i18,Zp,Zq,Zr)=>
 (aa.c6 (bt.mk Zq Zp Zr)).bind fun W9=>
 bif !W9 then
 some b1
 else
 (aa.bX n).bind fun (DS,i24)=>
 (aa.bX (bt.mk Zq Zp Zr)).bind fun (ES,i26)=>
 bif !i24==0 then
 some false
 else
 bif !i26==0 then
 some false
 else
 bif !(↑DS.length:Int)==(↑ES.length:Int) then
 some false
 else
 (aM (ω:=Bool×Int) (fun ((Vx,i28):Bool×Int)=>
 bif decide (i28<(↑DS.length:Int)) then
 bif Vx then
 bif decide (0≤i28) then
 (ES[i28.toNat]?).bind fun q29=>
 bif decide (0≤i28) then
 (DS[i28.toNat]?).bind fun q30=>
 bif decide (0≤i28) then
 (DS[i28.toNat]?).bind fun q31=>
 bif decide (0≤i28) then
 (ES[i28.toNat]?).bind fun q32=>
 some (Sum.inl (IntKind.i64.wrap (q29.cF*q30.Den)==IntKind.i64.wrap (IntKind.i64.wrap (times*q31.cF)*q32.Den),IntKind.i64.wrap (i28+1)))
 else
 none
 else
 none
 else
 none
 else
 none
 else
 some (Sum.inl (false,IntKind.i64.wrap (i28+1)))
 else
 some (Sum.inr (Vx,i28))) (b1,0)).bind fun (Ot,i34)=>
 some Ot
 else
 some b1
noncomputable def Go.aa.vO(n:bt)(pt:Int)(more:Int):Option Bool:=
 (aa.kp).bind fun b1=>
 (aa.ji n).bind fun b2=>
 bif b2 then
 (aa.c6 n).bind fun b3=>
 bif !b3 then
 some b1
 else
 bif (↑n.ab.length:Int)==0 then
 some b1
 else
 bif decide (pt<0) then
 some b1
 else
 bif decide (more<0) then
 some b1
 else
 bif decide (1000<more) then
 some b1
 else
 bif decide ((↑n.aA.length:Int)=0) then
 none
 else
 bif decide (0≤(↑n.aA.length:Int).toNat)&&decide ((↑n.aA.length:Int).toNat*8≤2^47)&&decide ((↑n.aA.length:Int).toNat<2^62) then
 bif decide (0+n.aA.length≤(↑n.aA.length:Int).toNat)&&decide (0+n.aA.length≤(List.replicate (↑n.aA.length:Int).toNat (0:Int)).length) then
 bif decide (0≤pt.tmod (↑n.aA.length:Int)) then
 bif decide ((pt.tmod (↑n.aA.length:Int)).toNat<0+n.aA.length) then
 ((n.aA++List.drop (0+n.aA.length) (List.replicate (↑n.aA.length:Int).toNat (0:Int)))[0+(pt.tmod (↑n.aA.length:Int)).toNat]?).bind fun i4=>
 bif decide (0≤pt.tmod (↑n.aA.length:Int)) then
 bif decide ((pt.tmod (↑n.aA.length:Int)).toNat<0+n.aA.length) then
 ((n.aA++List.drop (0+n.aA.length) (List.replicate (↑n.aA.length:Int).toNat (0:Int)))[0+(pt.tmod (↑n.aA.length:Int)).toNat]?).bind fun i5=>
 (aa.bX n).bind fun (l6,i7)=>
 bif decide (0+(0+n.aA.length)≤((n.aA++List.drop (0+n.aA.length) (List.replicate (↑n.aA.length:Int).toNat (0:Int))).set (0+(pt.tmod (↑n.aA.length:Int)).toNat) (if IntKind.i64.wrap (i4+more)<1000 then IntKind.i64.wrap (i4+more) else 1000)).length) then
 (aa.bX (bt.mk (List.take (0+n.aA.length) (List.drop 0 ((n.aA++List.drop (0+n.aA.length) (List.replicate (↑n.aA.length:Int).toNat (0:Int))).set (0+(pt.tmod (↑n.aA.length:Int)).toNat) (if IntKind.i64.wrap (i4+more)<1000 then IntKind.i64.wrap (i4+more) else 1000)))) n.ab n.aF)).bind fun (l8,i9)=>
 bif !i7==0 then
 some false
 else
 bif !i9==0 then
 some false
 else
 bif !(↑l6.length:Int)==(↑n.ab.length:Int) then
 some false
 else
 bif !(↑l8.length:Int)==(↑l6.length:Int) then
 some false
 else
 (l6[0]?).bind fun xy=>
 (l8[0]?).bind fun Ng=>
 (aM (ω:=Int×Int×Int×Int×Int) (fun ((i12,i13,i14,i15,i16):Int×Int×Int×Int×Int)=>
 bif decide (i12<(↑l6.length:Int)) then
 bif decide (0≤i12) then
 (l6[i12.toNat]?).bind fun IM=>
 (aa.fO IM (ah.mk i15 i16)).bind fun (i18,i19)=>
 bif decide (0≤i12) then
 (l8[i12.toNat]?).bind fun W4=>
 (aa.fO W4 (ah.mk i13 i14)).bind fun (i21,i22)=>
 bif decide (i18<0) then
 bif decide (0≤i12) then
 (l6[i12.toNat]?).bind fun VA=>
 bif decide (i21<0) then
 bif decide (0≤i12) then
 (l8[i12.toNat]?).bind fun TT=>
 some (Sum.inl (IntKind.i64.wrap (i12+1),TT.cF,TT.Den,VA.cF,VA.Den))
 else
 none
 else
 some (Sum.inl (IntKind.i64.wrap (i12+1),i13,i14,VA.cF,VA.Den))
 else
 none
 else
 bif decide (i21<0) then
 bif decide (0≤i12) then
 (l8[i12.toNat]?).bind fun Zs=>
 some (Sum.inl (IntKind.i64.wrap (i12+1),Zs.cF,Zs.Den,i15,i16))
 else
 none
 else
 some (Sum.inl (IntKind.i64.wrap (i12+1),i13,i14,i15,i16))
 else
 none
 else
 none
 else
 some (Sum.inr (i12,i13,i14,i15,i16))) (0,Ng.cF,Ng.Den,xy.cF,xy.Den)).bind fun (i26,i27,i28,i29,i30)=>
 (aa.fO (ah.mk i29 i30) (ah.mk i27 i28)).bind fun (i31,i32)=>
 (aa.eM n l6 (pt.tmod (↑n.aA.length:Int))).bind fun (Zt,b34)=>
 bif b34 then
 bif decide (0≤pt.tmod (↑n.aA.length:Int)) then
 (n.aA[(pt.tmod (↑n.aA.length:Int)).toNat]?).bind fun i35=>
 bif b1 then
 bif i32==0 then
 bif decide (i31≤0) then
 bif !decide (Zt.cF<IntKind.i64.wrap (i35*Zt.Den)) then
 some true
 else
 (aa.iQ l6 l8).bind fun TI=>
 some TI
 else
 some false
 else
 some false
 else
 some false
 else
 none
 else
 bif b1 then
 bif i32==0 then
 bif decide (i31≤0) then
 some true
 else
 some false
 else
 some false
 else
 some false
 else
 none
 else
 none
 else
 none
 else
 none
 else
 none
 else
 none
 else
 none
 else
 some b1
noncomputable def Go.aa.cI(n:bt)(x:List ah):Option Bool:=
 (aa.kp).bind fun b1=>
 (aa.ji n).bind fun b2=>
 bif !b2 then
 some b1
 else
 bif decide (50<(↑x.length:Int)) then
 some b1
 else
 (aa.bX n).bind fun (l3,i4)=>
 (aa.jl n).bind fun (l5,i6)=>
 bif b1 then
 (aa.iQ l3 l5).bind fun b7=>
 bif b7 then
 bif i4==i6 then
 (aa.dN n x).bind fun b8=>
 (aa.jk n x).bind fun b9=>
 bif b8==b9 then
 (aa.fC n).bind fun PR=>
 (aa.c6 n).bind fun Rh=>
 some (PR==Rh)
 else
 some false
 else
 some false
 else
 some false
 else
 some false
noncomputable def Go.aa.rS(n:bt)(x:List ah):Option Bool:=
 (aa.kp).bind fun b1=>
 (aa.ji n).bind fun b2=>
 bif b2 then
 (aa.c6 n).bind fun b3=>
 bif !b3 then
 some b1
 else
 bif decide (50<(↑x.length:Int)) then
 some b1
 else
 (aa.bX n).bind fun (l4,i5)=>
 (aa.dN n l4).bind fun b6=>
 (aa.dN n x).bind fun b7=>
 (aM (ω:=Bool×Int) (fun ((b8,i9):Bool×Int)=>
 bif decide (i9<(↑l4.length:Int)) then
 bif b8 then
 bif decide (0≤i9) then
 (l4[i9.toNat]?).bind fun xy=>
 bif decide (1≤xy.Den) then
 bif decide (0≤i9) then
 (l4[i9.toNat]?).bind fun Ng=>
 some (Sum.inl (decide (Ng.Den≤18),IntKind.i64.wrap (i9+1)))
 else
 none
 else
 some (Sum.inl (false,IntKind.i64.wrap (i9+1)))
 else
 none
 else
 some (Sum.inl (false,IntKind.i64.wrap (i9+1)))
 else
 some (Sum.inr (b8,i9))) (b1,0)).bind fun (Cp,i13)=>
 bif Cp then
 bif i5==0 then
 bif b6 then
 (aa.iQ x l4).bind fun TJ=>
 some (b7==TJ)
 else
 some false
 else
 some false
 else
 some false
 else
 some b1
namespace Go.Proofs.Ytedjbjphpnkpoaa
noncomputable def hints:List (Nat×Nat×Hint):=[(43,2,⟨[(4,.val 4),(5,.val 3)],[6,7,8,9,12,13,14,15,16,17,18,19,20,21,22,23,24,25,26,27,28,29,30,31,32,33,34,35,36,37,38,39,40,10,11],[],[⟨none,[(4,.val 4)],[],[],[]⟩,⟨some 0,[(4,.val 4),(5,.val 3)],[],[],[]⟩]⟩),(18,1004,⟨[(2,.val 4),(3,.val 3)],[25,26,27,28,29,32,33,34,35,36,37,38,39,40,41,42,43,44,45,30,31],[],[⟨none,[(2,.val 4)],[],[],[]⟩,⟨some 0,[(2,.val 4),(3,.val 3)],[],[],[]⟩]⟩),(18,1009,⟨[(2,.val 4),(4,.val 3)],[46,47,48,49,50,53,54,55,56,57,58,59,60,61,5,62,63,64,65,66,67,68,69,70,71,72,73,74,75,76,77,78,79,51,52],[],[⟨none,[(2,.val 4)],[],[],[]⟩,⟨some 2,[(2,.val 4),(4,.val 3)],[],[],[]⟩]⟩),(32,2,⟨[(4,.val 4),(5,.val 3)],[6,7,8,9,12,13,14,15,16,17,10,11],[],[⟨none,[(4,.val 4)],[],[],[]⟩,⟨some 0,[(4,.val 4),(5,.val 3)],[],[],[]⟩]⟩),(59,1,⟨[(0,.val 3),(1,.val 3)],[6,7,8,9,10,5,11,12],[],[⟨some 0,[(0,.val 3),(1,.val 3)],[],[],[]⟩]⟩),(31,3004,⟨[(11,.val 3),(12,.val 3)],[20,21,22,23,24,27,28,29,30,31,32,33,13,34,35,36,37,38,39,40,42,43,44,45,46,47,41,48,49,50,51,52,53,54,55,56,57,58,59,25,26],[(2,.agg [.val 2,.val 2])],[⟨some 0,[(11,.val 3),(12,.val 3)],[],[],[]⟩]⟩),(13,5012,⟨[(9,.val 3),(11,.val 3)],[40,41,42,43,44,48,49,50,51,52,47,53,54,12,13,56,57,58,55,59,60,14,15,61,62,63,64,65,66,67,68,45,46],[(4,.agg [.val 2,.val 2])],[⟨some 2,[(9,.val 3),(11,.val 3)],[],[],[]⟩]⟩),(13,5020,⟨[(10,.val 3),(9,.val 3),(16,.val 3)],[69,70,71,72,73,76,77,78,79,80,81,17,83,84,85,82,86,87,18,19,88,89,90,91,92,93,94,95,96,97,98,99,100,101,102,103,104,105,106,74,75],[(4,.agg [.val 2,.val 2])],[⟨some 4,[(10,.val 3),(9,.val 3),(16,.val 3)],[],[],[]⟩]⟩),(13,5029,⟨[(7,.val 3),(20,.val 3)],[107,108,109,110,111,114,115,116,117,118,119,120,121,122,123,124,21,125,126,127,128,129,130,131,132,133,134,135,136,137,138,139,140,141,142,143,144,145,146,147,148,149,150,112,113],[(2,.fix 35),(3,.fix 4)],[⟨some 6,[(7,.val 3),(20,.val 3)],[],[],[]⟩]⟩),(13,4007,⟨[(7,.val 3)],[37,38,39,8,9,10,11,40,41,42,43,44,48,49,50,51,52,47,53,54,12,13,56,57,58,55,59,60,14,15,61,62,63,64,65,66,67,68,45,46,16,69,70,71,72,73,76,77,78,79,80,81,17,83,84,85,82,86,87,18,19,88,89,90,91,92,93,94,95,96,97,98,99,100,101,102,103,104,105,106,74,75,20,107,108,109,110,111,114,115,116,117,118,119,120,121,122,123,124,21,125,126,127,128,129,130,131,132,133,134,135,136,137,138,139,140,141,142,143,144,145,146,147,148,149,150,112,113],[(2,.fix 35),(3,.fix 4)],[⟨some 0,[(7,.val 3)],[],[],[]⟩]⟩),(56,7001,⟨[(12,.val 3)],[13,14,15,16,4,5,17,18,19,20,21,22,23,24,25,26],[(3,.one (.val 2)),(2,.agg [.val 2,.val 2])],[⟨some 0,[(12,.val 3)],[],[(6,.ready)],[]⟩]⟩),(15,2004,⟨[(4,.val 4),(30,.val 3)],[31,32,33,34,6,5,35,36,37,38,39,40,41,42,43,44,45,46,47,48,49,50,51,52,53,54,55,56,57,58,59,60,61],[],[⟨none,[(4,.val 4)],[.iB],[],[]⟩,⟨some 0,[(4,.val 4),(30,.val 3)],[],[],[]⟩]⟩),(15,6012,⟨[(72,.val 3)],[73,74,75,76,9,10,77,78,79,80,81,82,83,84,85,86,87,88,89,90,91],[(4,.fix 4)],[⟨some 2,[(72,.val 3)],[],[],[]⟩]⟩),(56,16001,⟨[(12,.val 3)],[13,14,15,16,4,5,17,18,19,20,21,22,23,24,25,26],[(12,.one (.val 4))],[⟨some 0,[(12,.val 3)],[],[(15,.ready),(10,.busy)],[]⟩]⟩),(56,11001,⟨[(12,.val 3)],[13,14,15,16,4,5,17,18,19,20,21,22,23,24,25,26],[(4,.fix 4)],[⟨some 0,[(12,.val 3)],[],[(10,.ready)],[]⟩]⟩),(15,6017,⟨[(4,.val 4),(95,.val 3)],[96,97,11,99,100,101,98,102,103,12,13,104,105,106,107,108,147],[(4,.fix 4)],[⟨none,[(4,.val 4)],[.iB,.iB],[],[]⟩,⟨some 4,[(4,.val 4),(95,.val 3)],[],[],[]⟩]⟩),(22,3003,⟨[(7,.val 4),(9,.val 3)],[14,15,16,17,18,21,22,23,24,25,26,27,10,28,30,31,32,33,34,35,29,36,37,11,12,38,39,40,41,19,20],[(2,.agg [.val 2,.val 2])],[⟨none,[(7,.val 4)],[.iB],[],[(1,.agg [.val 2,.val 2])]⟩,⟨some 0,[(7,.val 4),(9,.val 3)],[],[],[]⟩]⟩),(39,2003,⟨[(8,.val 4),(11,.val 3)],[22,23,24,25,26,29,30,31,32,33,34,35,12,37,38,39,40,41,42,43,44,45,36,46,47,13,14,48,49,50,51,52,27,28],[],[⟨none,[(8,.val 4)],[],[],[]⟩,⟨some 0,[(8,.val 4),(11,.val 3)],[],[],[]⟩]⟩),(16,1005,⟨[(4,.val 4),(6,.val 3)],[26,27,28,29,32,33,34,35,36,7,37,38,39,40,41,42,43,44,45,46,47,48,49,50,51,52,53,54,55,56,57,58,59,60,61,62,63,64,65,66,67,68,69,70,71,72,73,30,31],[],[⟨none,[(4,.val 4)],[],[],[]⟩,⟨some 0,[(4,.val 4),(6,.val 3)],[],[],[]⟩]⟩),(16,1011,⟨[(4,.val 4),(8,.val 3)],[74,75,76,77,78,82,83,84,85,81,86,87,9,10,88,89,90,91,92,93,94,95,96,97,98,99,100,101,102,79,80],[],[⟨none,[(4,.val 4)],[.iB],[],[]⟩,⟨some 2,[(4,.val 4),(8,.val 3)],[],[],[]⟩]⟩),(16,1021,⟨[(12,.val 4),(13,.val 3)],[136,137,138,139,140,141,142,143,144,145,146,147,150,151,152,153,154,155,156,157,158,159,160,161,148,149],[],[⟨some 6,[(12,.val 4),(13,.val 3)],[],[],[]⟩]⟩),(16,1017,⟨[(4,.val 4),(11,.val 3)],[103,104,105,106,109,110,111,112,113,114,115,116,117,118,119,120,121,122,123,124,125,126,127,128,129,130,131,132,133,134,135,12,13,136,137,138,139,140,141,142,143,144,145,146,147,150,151,152,153,154,155,156,157,158,159,160,161,148,149,162,163,107,108],[],[⟨none,[(4,.val 4)],[],[],[]⟩,⟨some 4,[(4,.val 4),(11,.val 3)],[],[],[]⟩]⟩),(11,1002,⟨[(2,.val 4),(3,.val 3)],[4,5,6,7,8,9,10,11,12,15,16,17,18,19,20,21,13,14],[],[⟨none,[(2,.val 4)],[],[],[]⟩,⟨some 0,[(2,.val 4),(3,.val 3)],[],[],[]⟩]⟩),(14,4,⟨[(4,.val 4),(5,.val 3)],[11,12,13,14,17,18,19,20,21,22,23,24,25,15,16],[],[⟨none,[(4,.val 4)],[],[],[]⟩,⟨some 0,[(4,.val 4),(5,.val 3)],[],[],[]⟩]⟩),(86,2,⟨[(4,.val 3),(8,.val 3)],[9,10,5,11,12,13,14,15,16,17,18],[],[⟨none,[(4,.val 3)],[],[],[]⟩,⟨some 0,[(4,.val 3),(8,.val 3)],[],[],[]⟩]⟩),(42,2,⟨[(4,.val 4),(9,.val 3)],[10,11,12,13,5,6,14,15,16,17,18,19,20,21,22,23,24,25,26,27,28,29,30,31,32],[],[⟨none,[(4,.val 4)],[],[],[]⟩,⟨some 0,[(4,.val 4),(9,.val 3)],[],[],[]⟩]⟩),(17,2004,⟨[(2,.val 4),(33,.val 3)],[34,35,36,4,37,38,39,40],[],[⟨none,[(2,.val 4)],[],[],[]⟩,⟨some 0,[(2,.val 4),(33,.val 3)],[],[],[]⟩]⟩),(17,2010,⟨[(2,.val 4),(44,.val 3)],[45,46,47,6,48,49,50,51,52,53,54],[],[⟨none,[(2,.val 4)],[],[],[]⟩,⟨some 2,[(2,.val 4),(44,.val 3)],[],[],[]⟩]⟩),(48,2,⟨[(4,.val 3),(8,.val 3)],[9,10,5,11,12,13,14,15,16,17,18],[],[⟨none,[(4,.val 3)],[],[],[]⟩,⟨some 0,[(4,.val 3),(8,.val 3)],[],[],[]⟩]⟩),(12,6006,⟨[(5,.own 1 5),(25,.val 3)],[26,27,6,28,29,30,31,32,33],[(5,.list 82)],[⟨some 0,[(5,.own 1 5),(25,.val 3)],[],[],[]⟩]⟩),(12,6011,⟨[(5,.own 1 5),(37,.val 3)],[38,39,7,40,41,42,43,44,45],[(5,.list 82)],[⟨some 2,[(5,.own 1 5),(37,.val 3)],[],[],[]⟩]⟩),(30,8003,⟨[(4,.own 2 6),(5,.own 1 7),(19,.val 3)],[20,21,22,7,24,25,26,23,27,28,8,9,29,30,31,32,33,34,35,36,37,38],[(6,.list 35),(7,.list 82)],[⟨some 0,[(4,.own 2 6),(5,.own 1 7),(19,.val 3)],[],[],[]⟩]⟩),(49,10003,⟨[(13,.val 3)],[14,15,16,7,17,18,19,20,21,22],[(9,.agg [.val 2,.val 2])],[⟨some 0,[(13,.val 3)],[],[],[]⟩]⟩),(30,10015,⟨[(11,.own 1 9),(54,.val 3)],[55,56,14,57,58,59,60,61,62,63,64,65,66,67,68,69,70,71,72,73,74,75,76,77,78,79,80,81,82,83],[(9,.list 3)],[⟨some 4,[(11,.own 1 9),(54,.val 3)],[],[],[]⟩]⟩),(30,10012,⟨[(11,.own 1 9),(43,.val 3)],[44,45,46,47,12,13,48,49,50,51,52,53,54,55,56,14,57,58,59,60,61,62,63,64,65,66,67,68,69,70,71,72,73,74,75,76,77,78,79,80,81,82,83,84],[(9,.list 3)],[⟨some 2,[(11,.own 1 9),(43,.val 3)],[],[],[]⟩]⟩),(30,10022,⟨[(87,.val 3)],[88,89,90,16,91,92,93,94,95,96,97,98,99,100,101,102,103,104],[(3,.fix 35),(2,.fix 4)],[⟨some 6,[(87,.val 3)],[],[],[]⟩]⟩),(12,6015,⟨[],[46,47,48,49,50,51,52,53],[(3,.fix 35),(2,.fix 4)],[⟨some 4,[],[],[],[]⟩]⟩),(19,3003,⟨[(8,.val 3)],[18,19,20,21,22,25,26,27,28,29,30,31,32,33,34,23,24],[(2,.fix 3)],[⟨some 0,[(8,.val 3)],[],[],[]⟩]⟩),(19,4014,⟨[(11,.val 3),(12,.val 3)],[67,68,69,70,71,72,73,74,77,78,79,80,81,82,83,84,85,86,87,88,89,75,76],[],[⟨some 4,[(11,.val 3),(12,.val 3)],[],[],[]⟩]⟩),(19,4019,⟨[(13,.val 3)],[101,102,103,104,105,106,107,108,111,112,113,114,115,116,117,118,119,120,121,122,123,124,125,126,127,109,110],[(2,.fix 3)],[⟨some 6,[(13,.val 3)],[],[],[]⟩]⟩),(19,4008,⟨[(10,.val 3)],[39,40,41,42,43,44,45,46,47,48,49,52,53,11,54,55,56,57,58,59,60,61,62,63,64,65,66,12,67,68,69,70,71,72,73,74,77,78,79,80,81,82,83,84,85,86,87,88,89,75,76,90,91,92,93,94,95,96,97,98,99,100,13,101,102,103,104,105,106,107,108,111,112,113,114,115,116,117,118,119,120,121,122,123,124,125,126,127,109,110,50,51],[(2,.fix 3),(3,.fix 3)],[⟨some 2,[(10,.val 3)],[],[],[]⟩]⟩),(5,1017,⟨[(15,.val 4),(16,.val 3)],[69,70,71,72,76,77,78,79,80,81,82,83,84,75,85,86,17,18,87,88,89,90,91,92,93,94,95,96,97,98,99,100,101,102,103,104,73,74],[],[⟨some 2,[(15,.val 4),(16,.val 3)],[],[],[]⟩]⟩),(5,1012,⟨[(7,.val 4),(14,.val 3)],[52,53,54,55,58,59,60,61,62,63,64,65,66,67,68,15,16,69,70,71,72,76,77,78,79,80,81,82,83,84,75,85,86,17,18,87,88,89,90,91,92,93,94,95,96,97,98,99,100,101,102,103,104,73,74,105,106,107,108,56,57],[],[⟨some 0,[(7,.val 4),(14,.val 3)],[],[],[]⟩]⟩),(7,6016,⟨[(18,.val 3)],[123,124,125,126,130,131,132,133,134,135,129,136,137,19,20,139,140,141,142,143,144,138,145,146,21,22,147,148,149,150,151,152,153,154,155,156,157,158,127,128],[(5,.agg [.val 2,.val 2]),(4,.agg [.val 2,.val 2])],[⟨some 0,[(18,.val 3)],[],[],[]⟩]⟩),(8,2008,⟨[(7,.val 3)],[31,32,35,36,37,38,39,40,41,42,43,44,33,34],[(1,.agg [.val 22,.val 23,.val 22])],[⟨some 0,[(7,.val 3)],[],[],[]⟩]⟩),(8,3016,⟨[(9,.own 1 2),(10,.val 3)],[60,61,64,65,66,67,68,69,70,71,72,73,74,75,76,77,78,79,62,63],[(2,.list 3)],[⟨some 4,[(9,.own 1 2),(10,.val 3)],[],[],[]⟩]⟩),(8,2012,⟨[(8,.val 3)],[49,50,9,53,54,55,56,57,58,59,10,60,61,64,65,66,67,68,69,70,71,72,73,74,75,76,77,78,79,62,63,80,81,82,83,84,85,86,87,88,89,90,91,92,93,94,95,51,52],[],[⟨some 2,[(8,.val 3)],[],[],[]⟩]⟩),(8,2026,⟨[(3,.val 4),(15,.val 3)],[127,128,129,130,133,134,135,136,137,138,139,140,141,142,143,144,145,146,147,148,131,132],[],[⟨some 6,[(3,.val 4),(15,.val 3)],[],[],[]⟩]⟩),(4,1010,⟨[(5,.val 4),(12,.val 3)],[40,41,42,43,46,47,48,49,50,51,52,53,54,55,56,57,58,59,60,61,62,44,45],[],[⟨some 0,[(5,.val 4),(12,.val 3)],[],[],[]⟩]⟩),(6,4008,⟨[(9,.val 3)],[39,40,41,42,43,46,47,48,49,50,51,52,53,54,55,56,57,44,45],[(3,.agg [.own 1 1,.val 23,.own 1 2]),(1,.list 3),(2,.list 3)],[⟨some 0,[(9,.val 3)],[],[],[]⟩]⟩),(6,4012,⟨[(10,.val 3)],[58,59,60,61,62,65,66,67,68,69,70,71,72,73,74,75,76,63,64],[(3,.agg [.own 1 1,.val 23,.own 1 2]),(1,.list 3),(2,.list 3)],[⟨some 2,[(10,.val 3)],[],[],[]⟩]⟩),(6,4023,⟨[(5,.val 4),(16,.val 3)],[105,106,107,108,111,112,113,114,115,116,117,118,119,120,121,122,123,124,125,126,127,128,129,130,131,132,133,134,135,136,137,138,109,110],[],[⟨some 4,[(5,.val 4),(16,.val 3)],[],[],[]⟩]⟩)]
noncomputable def Rs:List (Nat×Nat×Hint):=[(56,7001,⟨[(12,.val 3)],[13,14,15,16,4,5,17,18,19,20,21,22,23,24,25,26],[(3,.agg [.val 2,.val 2])],[⟨none,[],[],[(6,.jump none)],[(2,.one (.val 4)),(1,.agg [.val 2,.val 2])]⟩,⟨some 0,[(12,.val 3)],[],[(6,.ready)],[]⟩]⟩)]
def vG:FuncId→Nat→Bool:=fun f _=>Nat.beq f 10
noncomputable def Q7:List (Nat×vF T):=[(41,⟨[3,3,3],[4],fun x=>Go.aa.od x.1 x.2.1 x.2.2⟩),
 (42,⟨[22,3],[4],fun x=>Go.aa.kB x.1 x.2⟩),
 (40,⟨[23],[22],fun x=>Go.aa.iA x⟩),
 (17,⟨[25],[4],fun x=>Go.aa.fC x⟩),
 (48,⟨[53,4],[3],fun x=>Go.aa.oP x.1 x.2⟩),
 (29,⟨[53,4],[4],fun x=>Go.aa.fK x.1 x.2⟩),
 (52,⟨[87],[4],fun x=>Go.aa.bR x⟩),
 (82,⟨[3,3],[3],fun x=>Go.aa.kA x.1 x.2⟩),
 (53,⟨[87],[87],fun x=>Go.aa.dg x⟩),
 (33,⟨[35],[4],fun x=>Go.aa.cZ x⟩),
 (95,⟨[3],[4],fun x=>Go.aa.rh x⟩),
 (83,⟨[3,3],[3],fun x=>Go.aa.qm x.1 x.2⟩),
 (54,⟨[35,35],[3,29],fun x=>Go.aa.rf x.1 x.2⟩),
 (34,⟨[35,35],[4],fun x=>Go.aa.fh x.1 x.2⟩),
 (43,⟨[22,3],[4],fun x=>Go.aa.oO x.1 x.2⟩),
 (18,⟨[25],[4],fun x=>Go.aa.c6 x⟩),
 (32,⟨[22,3],[4],fun x=>Go.aa.jH x.1 x.2⟩),
 (58,⟨[3,3],[4],fun x=>Go.aa.fD x.1 x.2⟩),
 (60,⟨[3],[3],fun x=>Go.aa.kj x⟩),
 (59,⟨[3,3],[3],fun x=>Go.aa.fN x.1 x.2⟩),
 (38,⟨[35],[4],fun x=>Go.aa.cA x⟩),
 (62,⟨[3,3],[35,29],fun x=>Go.aa.dm x.1 x.2⟩),
 (50,⟨[35,35],[35,29],fun x=>Go.aa.oe x.1 x.2⟩),
 (51,⟨[35,35],[35,29],fun x=>Go.aa.rk x.1 x.2⟩),
 (31,⟨[25,53,26,3],[35,3],fun x=>Go.aa.kN x.1 x.2.1 x.2.2.1 x.2.2.2⟩),
 (21,⟨[35,35],[3,29],fun x=>Go.aa.fO x.1 x.2⟩),
 (13,⟨[25],[26,29],fun x=>Go.aa.jl x⟩),
 (35,⟨[3],[35],fun x=>Go.aa.dR x⟩),
 (86,⟨[22,3],[3],fun x=>Go.aa.ny x.1 x.2⟩),
 (57,⟨[22,3],[4],fun x=>Go.aa.bG x.1 x.2⟩),
 (96,⟨[87],[35,29],fun x=>Go.aa.bj x⟩),
 (55,⟨[35,35],[35,29],fun x=>Go.aa.ra x.1 x.2⟩),
 (36,⟨[52,57],[35,4],fun x=>Go.aa.gd x.1 x.2⟩),
 (15,⟨[25,26],[4],fun x=>Go.aa.dN x.1 x.2⟩),
 (44,⟨[35,35],[35,29],fun x=>Go.aa.rj x.1 x.2⟩),
 (22,⟨[25,26,3],[35,4],fun x=>Go.aa.eM x.1 x.2.1 x.2.2⟩),
 (39,⟨[25,26,3,3],[4],fun x=>Go.aa.iR x.1 x.2.1 x.2.2.1 x.2.2.2⟩),
 (16,⟨[25,26],[4],fun x=>Go.aa.jk x.1 x.2⟩),
 (11,⟨[25],[4],fun x=>Go.aa.ji x⟩),
 (14,⟨[26,26],[4],fun x=>Go.aa.iQ x.1 x.2⟩),
 (117,⟨[35,35],[35,29],fun x=>Go.aa.oa x.1 x.2⟩),
 (118,⟨[35,35],[35,29],fun x=>Go.aa.rb x.1 x.2⟩),
 (115,⟨[57,52],[35,4],fun x=>Go.aa.cz x.1 x.2⟩),
 (116,⟨[57,52,3],[4],fun x=>Go.aa.gb x.1 x.2.1 x.2.2⟩),
 (121,⟨[58,52],[35,4],fun x=>Go.aa.cM x.1 x.2⟩),
 (122,⟨[58,52,3],[4],fun x=>Go.aa.mC x.1 x.2.1 x.2.2⟩),
 (12,⟨[25],[26,29],fun x=>Go.aa.bX x⟩),
 (28,⟨[3],[35],fun x=>Go.aa.DT x⟩),
 (27,⟨[25,26],[4],fun x=>Go.aa.LM x.1 x.2⟩),
 (19,⟨[25,36,3],[22],fun x=>Go.aa.qz x.1 x.2.1 x.2.2⟩),
 (20,⟨[35,3,3],[3],fun x=>Go.aa.mD x.1 x.2.1 x.2.2⟩),
 (10,⟨[],[4],fun x=>Go.aa.kp ⟩),
 (5,⟨[25,36,5],[4],fun x=>Go.aa.td x.1 x.2.1 x.2.2⟩),
 (6,⟨[25,3],[4],fun x=>Go.aa.uy x.1 x.2⟩),
 (7,⟨[25,3,3],[4],fun x=>Go.aa.vO x.1 x.2.1 x.2.2⟩),
 (3,⟨[25,26],[4],fun x=>Go.aa.cI x.1 x.2⟩),
 (4,⟨[25,26],[4],fun x=>Go.aa.rS x.1 x.2⟩)]
noncomputable abbrev S(n:Nat):oS:=Hy C T B6 (Go.PI.Hn hints) vG Q7 n kP ur TU
theorem LN{h h':FuncId→Nat→Option Hint}{r:FuncId→Nat→Bool}{L:List (Nat×vF T)}{n:Nat}(k:(Hy C T B6 h r L n kP ur TU).Ok):(Hy C T B6 h' r L n kP ur TU).Ok:=⟨k.T,k.Q,k.Z,k.sum,k.own⟩
theorem s0:(S 0).Ok:=DU Zu LO Zv sY
end Go.Proofs.Ytedjbjphpnkpoaa
end
