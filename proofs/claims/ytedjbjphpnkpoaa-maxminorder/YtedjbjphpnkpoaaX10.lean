/- The law MaxminOrder returns true for every input, and each argument reads as it read before; no conditions. This file: the row, last of the parts. -/
import Derived.IntWalk
import Derived.KernelRfl
import Derived.Test.YtedjbjphpnkpoaaRows
import Derived.WalkKit
import Derived.ProofKit
import Derived.OpenShut
import Derived.ShutString
import Derived.ChangeOld
import Derived.Below
import Derived.SizedLaws
import Derived.Test.YtedjbjphpnkpoaaX9
set_option linter.unusedVariables false
set_option linter.unusedSimpArgs false
section
/- Max-min fair rates, without a program: what makes rates fair, and that there is one choice of them. -/
namespace Go.Mm
def sm(p:Nat→Bool)(x:Nat→Rat):Nat→Rat
 |0=>0
 |n+1=>sm p x n+bif p n then x n else 0
structure xQ where
 F:Nat
 L:Nat
 on:Nat→Nat→Bool
 c:Nat→Rat
 has:Nat→Bool
 k:Nat→Rat
structure Sf(N:xQ)(x:Nat→Rat):Prop where
 nn:∀ i,i<N.F→0≤x i
 ma:∀ i,i<N.F→N.has i=true→x i≤N.k i
 cap:∀ l,l<N.L→sm (N.on l) x N.F≤N.c l
def Vv(N:xQ)(x:Nat→Rat)(i:Nat):Prop:=
 (N.has i=true∧x i=N.k i)∨∃ l,l<N.L∧N.on l i=true∧sm (N.on l) x N.F=N.c l∧∀ j,j<N.F→N.on l j=true→x j≤x i
structure Fair(N:xQ)(x:Nat→Rat):Prop where
 CR:Sf N x
 HR:∀ i,i<N.F→Vv N x i
theorem OO{p:Nat→Bool}{x y:Nat→Rat}:∀ {n:Nat},(∀ j,j<n→p j=true→x j≤y j)→sm p x n≤sm p y n
 |0,_=>Rat.le_refl
 |n+1,h=>by
  have h1:=OO (n:=n) fun j hj=>h j (by omega)
  have h2:=h n (by omega)
  simp only[sm]
  cases hp:p n with
  |false=>simp only[cond_false]; grind
  |true=>simp only[cond_true]; have:=h2 hp; grind
theorem OP{p:Nat→Bool}{x y:Nat→Rat}:∀ {n i:Nat},i<n→p i=true→x i<y i→(∀ j,j<n→p j=true→x j≤y j)→sm p x n<sm p y n
 |0,i,h,_,_,_=>by omega
 |n+1,i,hi,hp,hx,h=>by
  simp only[sm]
  by_cases e:i=n
  ·subst e
   have h1:=OO (n:=i) fun j hj=>h j (by omega)
   rw[hp]; simp only[cond_true]; grind
  ·have h1:=OP (n:=n) (i:=i) (by omega) hp hx fun j hj=>h j (by omega)
   have h2:=h n (by omega)
   cases hp:p n with
   |false=>simp only[cond_false]; grind
   |true=>simp only[cond_true]; have:=h2 hp; grind
theorem lM{p q:Nat→Bool}{x y:Nat→Rat}:∀ {n:Nat},(∀ j,j<n→p j=q j)→(∀ j,j<n→p j=true→x j=y j)→sm p x n=sm q y n
 |0,_,_=>rfl
 |n+1,h,g=>by
  simp only[sm]
  rw[lM (n:=n) (fun j hj=>h j (by omega)) fun j hj=>g j (by omega),←h n (by omega)]
  cases hp:p n with
  |false=>rfl
  |true=>rw[g n (by omega) hp]
theorem CS{p q:Nat→Bool}{x:Nat→Rat}:∀ {n:Nat},sm p x n=sm (fun i=>p i&&q i) x n+sm (fun i=>p i&&!q i) x n
 |0=>by simp only[sm]; grind
 |n+1=>by
  simp only[sm]
  rw[CS (q:=q) (n:=n)]
  cases p n<;>cases q n<;>simp only[Bool.and_true,Bool.and_false,Bool.not_true,Bool.not_false,Bool.true_and,Bool.false_and,cond_true,cond_false]<;>grind
theorem GG{N:xQ}{x y:Nat→Rat}(h:Fair N x)(hy:Sf N y){i:Nat}(hi:i<N.F)(cd:x i<y i):∃ j,j<N.F∧x j≤x i∧y j<x j:=by
 rcases h.HR i hi with ⟨h1,h2⟩|⟨l,hl,pw,Zy,AQ⟩
 ·have:=hy.ma i hi h1; exfalso; grind
 ·apply Classical.byContradiction
  intro hc
  have bf:∀ j,j<N.F→N.on l j=true→x j≤y j:=fun j hj ho=>by
   apply Classical.byContradiction
   intro hn
   exact hc ⟨j,hj,AQ j hj ho,by grind⟩
  have h1:=OP hi pw cd bf
  have h2:=hy.cap l hl
  grind
theorem Ks(P:Nat→Prop)(f:Nat→Rat):∀ n,(∃ i,i<n∧P i)→∃ i,i<n∧P i∧∀ j,j<n→P j→f i≤f j
 |0,⟨i,hi,_⟩=>by omega
 |n+1,⟨i,hi,hp⟩=>by
  by_cases hex:∃ i,i<n∧P i
  ·obtain⟨m,hm,Zz,uo⟩:=Ks P f n hex
   by_cases hn:P n∧f n<f m
   ·refine⟨n,by omega,hn.1,fun j hj IV=>?_⟩
    by_cases e:j=n
    ·subst e; exact Rat.le_refl
    ·have:=uo j (by omega) IV; have:=hn.2; grind
   ·refine⟨m,by omega,Zz,fun j hj IV=>?_⟩
    by_cases e:j=n
    ·subst e; have:¬f j<f m:=fun h=>hn ⟨IV,h⟩; grind
    ·exact uo j (by omega) IV
  ·have:i=n:=by
    apply Classical.byContradiction
    intro e
    exact hex ⟨i,by omega,hp⟩
   subst this
   refine⟨i,by omega,hp,fun j hj IV=>?_⟩
   by_cases e:j=i
   ·subst e; exact Rat.le_refl
   ·exact absurd ⟨j,by omega,IV⟩ hex
theorem CT{N:xQ}{x y:Nat→Rat}(h:Fair N x)(h':Fair N y):∀ i,i<N.F→x i=y i:=by
 apply Classical.byContradiction
 intro dM
 have hex:∃ i,i<N.F∧x i≠y i:=by
  apply Classical.byContradiction
  intro hc
  exact dM fun i hi=>Classical.byContradiction fun e=>hc ⟨i,hi,e⟩
 obtain⟨i,hi,hd,uo⟩:=Ks (fun i=>x i≠y i) (fun i=>if x i≤y i then x i else y i) N.F hex
 by_cases hle:x i≤y i
 ·obtain⟨j,hj,h1,h2⟩:=GG h h'.CR hi (by grind)
  have:=uo j hj (by grind)
  grind
 ·obtain⟨j,hj,h1,h2⟩:=GG h' h.CR hi (by grind)
  have:=uo j hj (by grind)
  grind
/-! ### Filling -/
def ct(p:Nat→Bool):Nat→Nat
 |0=>0
 |n+1=>ct p n+bif p n then 1 else 0
theorem nE{p q:Nat→Bool}:∀ {n:Nat},(∀ j,j<n→p j=q j)→ct p n=ct q n
 |0,_=>rfl
 |n+1,h=>by simp only[ct]; rw[nE (n:=n) fun j hj=>h j (by omega),h n (by omega)]
theorem OQ{p q:Nat→Bool}:∀ {n:Nat},(∀ j,j<n→p j=true→q j=true)→ct p n≤ct q n
 |0,_=>Nat.le_refl _
 |n+1,h=>by
  have h1:=OQ (n:=n) fun j hj=>h j (by omega)
  have h2:=h n (by omega)
  simp only[ct]
  cases hp:p n with
  |false=>simp only[cond_false]; omega
  |true=>rw[h2 hp]; simp only[cond_true]; omega
theorem rS{p:Nat→Bool}:∀ {n i:Nat},i<n→p i=true→0<ct p n
 |0,i,h,_=>by omega
 |n+1,i,h,hp=>by
  simp only[ct]
  by_cases e:i=n
  ·subst e; rw[hp]; simp only[cond_true]; omega
  ·have:=rS (n:=n) (i:=i) (by omega) hp; omega
theorem Kt{p:Nat→Bool}:∀ {n:Nat},0<ct p n→∃ i,i<n∧p i=true
 |0,h=>by simp[ct]at h
 |n+1,h=>by
  simp only[ct]at h
  cases hp:p n with
  |true=>exact⟨n,by omega,hp⟩
  |false=>
   rw[hp]at h
   obtain⟨i,hi,h1⟩:=Kt (n:=n) (by simpa using h)
   exact⟨i,by omega,h1⟩
theorem tu{p q:Nat→Bool}:∀ {n:Nat},ct p n=ct (fun i=>p i&&q i) n+ct (fun i=>p i&&!q i) n
 |0=>rfl
 |n+1=>by
  simp only[ct]
  rw[tu (q:=q) (n:=n)]
  cases p n<;>cases q n<;>simp only[Bool.and_true,Bool.and_false,Bool.not_true,Bool.not_false,Bool.true_and,Bool.false_and,cond_true,cond_false]<;>omega
theorem pN{p:Nat→Bool}:∀ {n:Nat},ct p n≤n
 |0=>Nat.le_refl _
 |n+1=>by
  have:=pN (p:=p) (n:=n)
  simp only[ct]
  cases p n<;>simp only[cond_true,cond_false]<;>omega
theorem CU{p:Nat→Bool}{v:Rat}:∀ {n:Nat},sm p (fun _=>v) n=v*(ct p n:Nat)
 |0=>by simp[sm,ct]
 |n+1=>by
  simp only[sm,ct]
  rw[CU (n:=n)]
  cases p n
  ·simp only[cond_false,Nat.add_zero]; grind
  ·simp only[cond_true]
   rw[Rat.natCast_add]
   grind
end Go.Mm
namespace Go.Mm
def Dv(P:Nat)(q:Rat):Prop:=∃ n:Int,q*(P:Rat)=n
theorem Dv.mul{P m:Nat}{q:Rat}(h:Dv P q):Dv (P*m) q:=by
 obtain⟨n,hn⟩:=h
 refine⟨n*m,?_⟩
 rw[Rat.natCast_mul,Rat.intCast_mul,Rat.intCast_natCast,←hn]
 grind
theorem Dv.int{P:Nat}(n:Int):Dv P n:=⟨n*P,by rw[Rat.intCast_mul,Rat.intCast_natCast]⟩
theorem Dv.zero{P:Nat}:Dv P 0:=⟨0,by simp⟩
theorem Dv.add{P:Nat}{p q:Rat}(h:Dv P p)(h':Dv P q):Dv P (p+q):=by
 obtain⟨n,hn⟩:=h
 obtain⟨m,hm⟩:=h'
 exact⟨n+m,by rw[Rat.intCast_add,←hn,←hm]; grind⟩
theorem Dv.sub{P:Nat}{p q:Rat}(h:Dv P p)(h':Dv P q):Dv P (p-q):=by
 obtain⟨n,hn⟩:=h
 obtain⟨m,hm⟩:=h'
 exact⟨n-m,by rw[Rat.intCast_sub,←hn,←hm]; grind⟩
theorem Dv.sm{P:Nat}{p:Nat→Bool}{x:Nat→Rat}:∀ {n:Nat},(∀ j,j<n→p j=true→Dv P (x j))→Dv P (sm p x n)
 |0,_=>Dv.zero
 |n+1,h=>by
  have h1:=Dv.sm (n:=n) fun j hj=>h j (by omega)
  simp only[Go.Mm.sm]
  cases hp:p n with
  |false=>simp only[cond_false]; exact h1.add .zero
  |true=>exact h1.add (h n (by omega) hp)
theorem Dv.part{P m:Nat}{q r:Rat}(h:Dv P q)(hm:r*(m:Rat)=q):Dv (P*m) r:=by
 obtain⟨n,hn⟩:=h
 refine⟨n,?_⟩
 rw[Rat.natCast_mul,←hn,←hm]
 grind
def mp:Nat→Nat
 |0=>1|1=>1|2=>2|3=>3|4=>4|5=>6|6=>9|7=>12|_=>18
theorem GH{m u u':Nat}(hm:1≤m)(hu:u≤8)(h:m+u'≤u):m*mp u'≤mp u:=by
 have:∀ u,u≤8→∀ m,m≤8→∀ u',u'≤8→1≤m→m+u'≤u→m*mp u'≤mp u:=by decide
 exact this u hu m (by omega) u' (by omega) hm h
theorem Ku(u:Nat):1≤mp u:=by unfold mp; split<;>omega
structure Inv(N:xQ)(fx:Nat→Bool)(x:Nat→Rat)(lo:Rat)(P:Nat):Prop where
 l0:0≤lo
 nn:∀ i,i<N.F→fx i=true→0≤x i∧x i≤lo
 ma:∀ i,i<N.F→fx i=true→N.has i=true→x i≤N.k i
 cap:∀ l,l<N.L→sm (fun i=>N.on l i&&fx i) x N.F≤N.c l
 XV:∀ l,l<N.L→lo*(ct (fun i=>N.on l i&&!fx i) N.F:Nat)≤N.c l-sm (fun i=>N.on l i&&fx i) x N.F
 wait:∀ i,i<N.F→fx i=false→N.has i=true→lo≤N.k i
 HR:∀ i,i<N.F→fx i=true→(N.has i=true∧x i=N.k i) ∨
  ∃ l,l<N.L∧N.on l i=true∧sm (fun i=>N.on l i&&fx i) x N.F=N.c l∧ct (fun i=>N.on l i&&!fx i) N.F=0∧∀ j,j<N.F→N.on l j=true→x j≤x i
 P1:1≤P
 PV:P*mp (ct (fun i=>!fx i) N.F)≤18
 dv:∀ i,i<N.F→fx i=true→Dv P (x i)
structure XW(N:xQ)(fx:Nat→Bool)(x:Nat→Rat)(low:Rat)(nw:Nat→Bool):Prop where
 sub:∀ i,i<N.F→nw i=true→fx i=false
 Sg:∀ l,l<N.L→low*(ct (fun i=>N.on l i&&!fx i) N.F:Nat)≤N.c l-sm (fun i=>N.on l i&&fx i) x N.F
 ma:∀ i,i<N.F→fx i=false→N.has i=true→low≤N.k i
 Vw:∀ i,i<N.F→nw i=true→(N.has i=true∧low=N.k i) ∨
  ∃ l,l<N.L∧N.on l i=true∧low*(ct (fun i=>N.on l i&&!fx i) N.F:Nat)=N.c l-sm (fun i=>N.on l i&&fx i) x N.F∧∀ j,j<N.F→N.on l j=true→fx j=false→nw j=true
 some:∃ i,i<N.F∧nw i=true
theorem Fi{N:xQ}(hF:N.F≤8)(hc:∀ l,l<N.L→0≤N.c l)(hk:∀ i,i<N.F→N.has i=true→0≤N.k i)(x:Nat→Rat):Inv N (fun _=>false) x 0 1 where
 l0:=Rat.le_refl
 nn:=by simp
 ma:=by simp
 cap l hl:=by
  rw[lM (q:=fun _=>false) (y:=x) (by simp) (by simp)]
  have h0:∀ n,sm (fun _=>false) x n=0:=by
   intro n; induction n with
   |zero=>rfl
   |succ n ih=>simp only[sm,ih,cond_false]; grind
  rw[h0]; exact hc l hl
 XV l hl:=by
  have h0:∀ n,sm (fun i=>N.on l i&&false) x n=0:=by
   intro n; induction n with
   |zero=>rfl
   |succ n ih=>simp only[sm,ih,Bool.and_false,cond_false]; grind
  rw[h0]
  have:=hc l hl
  grind
 wait i hi _ hh:=hk i hi hh
 HR:=by simp
 P1:=Nat.le_refl _
 PV:=by
  have:=pN (p:=fun _=>!false) (n:=N.F)
  have h8:∀ u,u≤8→1*mp u≤18:=by decide
  exact h8 _ (by omega)
 dv:=by simp
theorem HS{N:xQ}(hF:N.F≤8)(Vx:∀ l,l<N.L→Dv 1 (N.c l))(Hi:∀ i,i<N.F→Dv 1 (N.k i)){fx:Nat→Bool}{x:Nat→Rat}{lo:Rat}{P:Nat}(h:Inv N fx x lo P){low:Rat}{nw:Nat→Bool}(g:XW N fx x low nw):
  ∃ P',Inv N (fun i=>fx i||nw i) (fun i=>if nw i=true then low else x i) low P':=by
 have hS:∀ l,sm (fun i=>N.on l i&&(fx i||nw i)) (fun i=>if nw i=true then low else x i) N.F=sm (fun i=>N.on l i&&fx i) x N.F+low*(ct (fun i=>N.on l i&&nw i) N.F:Nat):=by
  intro l
  rw[CS (q:=nw)]
  rw[lM (p:=fun i=>(N.on l i&&(fx i||nw i))&&nw i) (q:=fun i=>N.on l i&&nw i) (y:=fun _=>low) (fun j hj=>by cases N.on l j<;>cases fx j<;>cases nw j<;>rfl) (fun j hj hp=>by
   have:nw j=true:=by simp only[Bool.and_eq_true]at hp; exact hp.2
   simp[this]),CU]
  rw[lM (p:=fun i=>(N.on l i&&(fx i||nw i))&&!nw i) (q:=fun i=>N.on l i&&fx i) (y:=x) (fun j hj=>by
   have:=g.sub j hj
   cases h1:N.on l j<;>cases h2:fx j<;>cases h3:nw j<;>simp_all) (fun j hj hp=>by
   have:nw j=false:=by simp only[Bool.and_eq_true,Bool.not_eq_true']at hp; exact hp.2
   simp[this])]
  grind
 have hM:∀ l,ct (fun i=>N.on l i&&!fx i) N.F=ct (fun i=>N.on l i&&nw i) N.F+ct (fun i=>N.on l i&&!(fx i||nw i)) N.F:=by
  intro l
  rw[tu (q:=nw)]
  congr 1
  ·exact nE fun j hj=>by
    have:=g.sub j hj
    cases h1:N.on l j<;>cases h2:fx j<;>cases h3:nw j<;>simp_all
  ·exact nE fun j hj=>by cases N.on l j<;>cases fx j<;>cases nw j<;>rfl
 have hU:ct (fun i=>!fx i) N.F=ct nw N.F+ct (fun i=>!(fx i||nw i)) N.F:=by
  rw[tu (q:=nw)]
  congr 1
  ·exact nE fun j hj=>by
    have:=g.sub j hj
    cases h2:fx j<;>cases h3:nw j<;>simp_all
  ·exact nE fun j hj=>by cases fx j<;>cases nw j<;>rfl
 have Vy:∀ l,((ct (fun i=>N.on l i&&!fx i) N.F:Nat):Rat)=(ct (fun i=>N.on l i&&nw i) N.F:Nat)+(ct (fun i=>N.on l i&&!(fx i||nw i)) N.F:Nat):=fun l=>by rw[hM l,Rat.natCast_add]
 have Vz:lo≤low:=by
  obtain⟨i,hi,hn⟩:=g.some
  rcases g.Vw i hi hn with ⟨h1,h2⟩|⟨l,hl,pw,he,_⟩
  ·rw[h2]; exact h.wait i hi (g.sub i hi hn) h1
  ·have h1:=h.XV l hl
   have hp:0<ct (fun i=>N.on l i&&!fx i) N.F:=rS hi (by simp[pw,g.sub i hi hn])
   have ZA:(0:Rat)<(ct (fun i=>N.on l i&&!fx i) N.F:Nat):=by exact_mod_cast hp
   rw[←he]at h1
   exact Rat.le_of_mul_le_mul_right h1 ZA
 have wG:0≤low:=Rat.le_trans h.l0 Vz
 have XX:∀ j,j<N.F→fx j=true→(if nw j=true then low else x j)=x j:=fun j hj hf=>by
  have:nw j=false:=by cases hn:nw j with|false=>rfl|true=>rw[g.sub j hj hn]at hf; cases hf
  simp[this]
 have hP:∃ P',1≤P'∧P'*mp (ct (fun i=>!(fx i||nw i)) N.F)≤18∧Dv P' low∧∃ m,P'=P*m:=by
  obtain⟨i,hi,hn⟩:=g.some
  have XY:ct (fun i=>!fx i) N.F≤8:=by have:=pN (p:=fun i=>!fx i) (n:=N.F); omega
  have Vg:=rS hi hn
  have h18:=h.PV
  rcases g.Vw i hi hn with ⟨h1,h2⟩|⟨l,hl,pw,he,bf⟩
  ·refine⟨P,h.P1,?_,?_,1,by simp⟩
   ·have:=GH (m:=ct nw N.F) (u:=ct (fun i=>!fx i) N.F) (u':=ct (fun i=>!(fx i||nw i)) N.F) Vg XY (by omega)
    have h3:mp (ct (fun i=>!(fx i||nw i)) N.F)≤mp (ct (fun i=>!fx i) N.F):=Nat.le_trans (Nat.le_mul_of_pos_left _ Vg) this
    exact Nat.le_trans (Nat.mul_le_mul_left _ h3) h18
   ·rw[h2]
    have:=(Hi i hi).mul (m:=P)
    rwa [Nat.one_mul]at this
  ·have Si:0<ct (fun i=>N.on l i&&!fx i) N.F:=rS hi (by simp[pw,g.sub i hi hn])
   refine⟨P*ct (fun i=>N.on l i&&!fx i) N.F,Nat.mul_pos h.P1 Si,?_,?_,_,rfl⟩
   ·have hle:ct (fun i=>N.on l i&&!fx i) N.F≤ct nw N.F:=OQ fun j hj hp=>by
     simp only[Bool.and_eq_true,Bool.not_eq_true']at hp
     exact bf j hj hp.1 hp.2
    have:=GH (m:=ct (fun i=>N.on l i&&!fx i) N.F) (u:=ct (fun i=>!fx i) N.F) (u':=ct (fun i=>!(fx i||nw i)) N.F) Si XY (by omega)
    rw[Nat.mul_assoc]
    exact Nat.le_trans (Nat.mul_le_mul_left _ this) h18
   ·refine Dv.part ?_ he
    have hc:=(Vx l hl).mul (m:=P)
    rw[Nat.one_mul]at hc
    exact hc.sub (Dv.sm fun j hj hp=>h.dv j hj (by simp only[Bool.and_eq_true]at hp; exact hp.2))
 obtain⟨P',PW,VA,ZB,m,rfl⟩:=hP
 refine⟨_,wG,?_,?_,?_,?_,?_,?_,PW,VA,?_⟩
 ·intro i hi hf
  by_cases hn:nw i=true
  ·simp only[hn,if_true]; exact⟨wG,Rat.le_refl⟩
  ·simp only[hn,if_false,Bool.or_false,Bool.false_eq_true]at hf ⊢
   have:=h.nn i hi hf
   exact⟨this.1,Rat.le_trans this.2 Vz⟩
 ·intro i hi hf hh
  by_cases hn:nw i=true
  ·simp only[hn,if_true]; exact g.ma i hi (g.sub i hi hn) hh
  ·simp only[hn,if_false,Bool.or_false,Bool.false_eq_true]at hf ⊢
   exact h.ma i hi hf hh
 ·intro l hl
  rw[hS l]
  have h1:=g.Sg l hl
  rw[Vy l]at h1
  have h2:(0:Rat)≤low*(ct (fun i=>N.on l i&&!(fx i||nw i)) N.F:Nat):=Rat.mul_nonneg wG (by exact_mod_cast Nat.zero_le _)
  grind
 ·intro l hl
  rw[hS l]
  have h1:=g.Sg l hl
  rw[Vy l]at h1
  grind
 ·intro i hi hf hh
  simp only[Bool.or_eq_false_iff]at hf
  exact g.ma i hi hf.1 hh
 ·intro i hi hf
  by_cases hn:nw i=true
  ·simp only[hn,if_true]
   rcases g.Vw i hi hn with h1|⟨l,hl,pw,he,bf⟩
   ·exact .inl h1
   ·have hz:ct (fun i=>N.on l i&&!(fx i||nw i)) N.F=0:=by
     apply Nat.eq_zero_of_not_pos
     intro hp
     obtain⟨j,hj,IV⟩:=Kt hp
     simp only[Bool.and_eq_true,Bool.not_eq_true',Bool.or_eq_false_iff]at IV
     rw[bf j hj IV.1 IV.2.1]at IV
     exact absurd IV.2.2 (by decide)
    refine .inr ⟨l,hl,pw,?_,hz,fun j hj HT=>?_⟩
    ·rw[hS l]
     rw[Vy l,hz]at he
     grind
    ·by_cases VB:nw j=true
     ·simp only[VB,if_true]; exact Rat.le_refl
     ·simp only[VB,if_false,Bool.false_eq_true]
      have:fx j=true:=by
       cases hG:fx j with
       |true=>rfl
       |false=>exact absurd (bf j hj HT hG) VB
      exact Rat.le_trans (h.nn j hj this).2 Vz
  ·have hG:fx i=true:=by simpa[hn] using hf
   rw[XX i hi hG]
   rcases h.HR i hi hG with h1|⟨l,hl,pw,he,hz,AQ⟩
   ·exact .inl h1
   ·have Sj:∀ j,j<N.F→N.on l j=true→fx j=true:=fun j hj HT=>by
     cases Mr:fx j with
     |true=>rfl
     |false=>
      have:=rS (p:=fun i=>N.on l i&&!fx i) hj (by simp[HT,Mr])
      omega
    have No:=hM l
    rw[hz]at No
    have PX:ct (fun i=>N.on l i&&nw i) N.F=0:=by omega
    refine .inr ⟨l,hl,pw,?_,by omega,fun j hj HT=>?_⟩
    ·rw[hS l,PX,he]; grind
    ·rw[XX j hj (Sj j hj HT)]
     exact AQ j hj HT
 ·intro i hi hf
  by_cases hn:nw i=true
  ·simp only[hn,if_true]; exact ZB
  ·simp only[hn,if_false,Bool.or_false,Bool.false_eq_true]at hf ⊢
   exact(h.dv i hi hf).mul
theorem Kv{N:xQ}{fx:Nat→Bool}{x:Nat→Rat}{lo:Rat}{P:Nat}(h:Inv N fx x lo P)(bf:∀ i,i<N.F→fx i=true):Fair N x∧∀ i,i<N.F→Dv P (x i)∧P≤18:=by
 have hS:∀ l,sm (fun i=>N.on l i&&fx i) x N.F=sm (N.on l) x N.F:=fun l=>lM (fun j hj=>by rw[bf j hj,Bool.and_true]) fun _ _ _=>rfl
 refine⟨⟨⟨fun i hi=>(h.nn i hi (bf i hi)).1,fun i hi hh=>h.ma i hi (bf i hi) hh,fun l hl=>by rw[←hS l]; exact h.cap l hl⟩,fun i hi=>?_⟩,fun i hi=>⟨h.dv i hi (bf i hi),?_⟩⟩
 ·rcases h.HR i hi (bf i hi) with h1|⟨l,hl,pw,he,_,AQ⟩
  ·exact .inl h1
  ·exact .inr ⟨l,hl,pw,by rw[←hS l]; exact he,AQ⟩
 ·have:=h.PV
  exact Nat.le_trans (Nat.le_mul_of_pos_right _ (Ku _)) this
end Go.Mm
end
section
/- Plain facts of this seat: ratios. -/
set_option maxRecDepth 100000
namespace Go.Proofs.Ytedjbjphpnkpoaa
open Go.PI Go.Pl Go.Mm
variable {α β:Type}
theorem bT{c:Bool}{x y r:Option α}(hc:c=true)(hx:x=r):(bif c then x else y)=r:=by subst hc; exact hx
theorem bF{c:Bool}{x y r:Option α}(hc:c=false)(hy:y=r):(bif c then x else y)=r:=by subst hc; exact hy
theorem bB{e:Option β}{v:β}{k:β→Option α}{r:Option α}(he:e=some v)(hk:k v=r):e.bind k=r:=by subst he; exact hk
theorem GI{a b:Bool}:(bif a then some b else some false)=some (a&&b):=by cases a<;>rfl
theorem eV{n:Int}(h1 : -9223372036854775808≤n)(h2:n≤9223372036854775807):IntKind.i64.wrap n=n:=IntWalk.i64_in _ (by omega)
theorem ek{i n:Nat}(h:i<n):decide ((i:Int)<(n:Int))=true:=decide_eq_true (by omega)
theorem eW(n:Nat):decide ((n:Int)<(n:Int))=false:=decide_eq_false (by omega)
theorem bE(i:Nat):decide (0≤(i:Int))=true:=decide_eq_true (by omega)
/-! ### The greatest common divisor -/
theorem GJ:∀ (k a b n:Nat),b<2^k→2*k+1≤n→aa.Fj n (a:Int) (b:Int)=some ((Nat.gcd a b:Nat):Int)
 |0,a,b,n,hb,hn=>by
  obtain rfl:b=0:=by simpa using hb
  obtain⟨m,rfl⟩:∃ m,n=m+1:=⟨n-1,by omega⟩
  exact bT rfl (by rw[Nat.gcd_zero_right])
 |k+1,a,b,n,hb,hn=>by
  obtain⟨m,rfl⟩:∃ m,n=m+1:=⟨n-1,by omega⟩
  by_cases h0:b=0
  ·subst h0
   exact bT rfl (by rw[Nat.gcd_zero_right])
  have hr:((a:Int).tmod (b:Int))=((a%b:Nat):Int):=by rw[Int.tmod_eq_emod_of_nonneg (by omega)]; simp
  have ZC:((b:Int)==0)=false:=by simp; omega
  have g1:Nat.gcd a b=Nat.gcd b (a%b):=by rw[Nat.gcd_comm a b,Nat.gcd_rec b a,Nat.gcd_comm]
  refine bF ZC (bF (decide_eq_false (by omega)) ?_)
  rw[hr]
  have cd:=Nat.mod_lt a (Nat.pos_of_ne_zero h0)
  obtain⟨m',rfl⟩:∃ m',m=m'+1:=⟨m-1,by omega⟩
  refine bB (v:=((Nat.gcd b (a%b):Nat):Int)) ?_ (by rw[g1])
  by_cases h1:a%b=0
  ·rw[h1]
   exact bT rfl (by rw[Nat.gcd_zero_right])
  ·have E6:((b:Int).tmod ((a%b:Nat):Int))=((b%(a%b):Nat):Int):=by rw[Int.tmod_eq_emod_of_nonneg (by omega)]; simp
   refine bF (by simp; omega) (bF (decide_eq_false (by omega)) ?_)
   rw[E6]
   have xL:=Nat.mod_lt b (Nat.pos_of_ne_zero h1)
   have hd:=Nat.div_add_mod b (a%b)
   have hq:1≤b/(a%b):=Nat.div_pos (Nat.le_of_lt cd) (Nat.pos_of_ne_zero h1)
   have dR:a%b≤(a%b)*(b/(a%b)):=Nat.le_mul_of_pos_right _ hq
   have hs:b%(a%b)<2^k:=by rw[Nat.pow_succ]at hb; omega
   refine bB (GJ k (a%b) (b%(a%b)) m' hs (by omega)) ?_
   have g2:Nat.gcd b (a%b)=Nat.gcd (a%b) (b%(a%b)):=by rw[Nat.gcd_comm b,Nat.gcd_rec (a%b) b,Nat.gcd_comm]
   rw[←g2]
theorem Np(a b:Nat)(hb:b<2^63):aa.jR (a:Int) (b:Int)=some ((Nat.gcd a b:Nat):Int):=GJ 63 a b 200 hb (by omega)
/-! ### Ratios -/
def kQ(q:Rat):ak:=⟨q.num,q.den⟩
def ig(q:Rat):Prop := -1000000000≤q.num∧q.num≤1000000000∧q.den≤1000000000
instance (q:Rat):Decidable (ig q):=inferInstanceAs (Decidable (_∧_∧_))
theorem abs_eq{n:Int}(h1 : -9223372036854775807≤n)(h2:n≤9223372036854775807):(if n<IntKind.i64.wrap (0-n) then IntKind.i64.wrap (0-n) else n)=(n.natAbs:Int):=by
 rw[eV (by omega) (by omega)]
 split<;>omega
theorem Kw{n:Int}{d:Nat}(h1 : -9223372036854775807≤n)(h2:n≤9223372036854775807)(h3:1≤d)(h4:d≤9223372036854775807):aa.cS ⟨n,d⟩=some (kQ (mkRat n d)):=by
 unfold aa.cS
 rw[abs_eq h1 h2,abs_eq (n:=(d:Int)) (by omega) (by omega)]
 have hg:=Np n.natAbs d (by omega)
 have fp:0<Nat.gcd n.natAbs d:=Nat.gcd_pos_of_pos_right _ (by omega)
 have Q8:((Nat.gcd n.natAbs d:Nat):Int)∣n:=Int.ofNat_dvd_left.2 (Nat.gcd_dvd_left _ _)
 have XT:(Nat.gcd n.natAbs d)∣d:=Nat.gcd_dvd_right _ _
 rw[show ((d:Int).natAbs:Int)=(d:Int) by omega]
 refine bB hg (bF (decide_eq_false (by show ¬(d:Int)<0; omega)) (bF (decide_eq_false (by omega)) (bF (decide_eq_false (by omega)) ?_)))
 have e1:(mkRat n d).num=n/((Nat.gcd n.natAbs d:Nat):Int):=by rw[Rat.num_mkRat,if_neg (by omega),Nat.gcd_comm]
 have e2:(mkRat n d).den=d/Nat.gcd n.natAbs d:=by rw[Rat.den_mkRat,if_neg (by omega),Nat.gcd_comm]
 have b1:n.tdiv ((Nat.gcd n.natAbs d:Nat):Int)=n/((Nat.gcd n.natAbs d:Nat):Int):=Int.tdiv_eq_ediv_of_dvd Q8
 have b2:(d:Int).tdiv ((Nat.gcd n.natAbs d:Nat):Int)=((d/Nat.gcd n.natAbs d:Nat):Int):=by
  rw[Int.tdiv_eq_ediv_of_nonneg (by omega)]; simp
 have c1:(n/((Nat.gcd n.natAbs d:Nat):Int)).natAbs≤n.natAbs:=by
  generalize Nat.gcd n.natAbs d=g at Q8 fp
  obtain⟨k,rfl⟩:=Q8
  rw[Int.mul_ediv_cancel_left _ (by omega),Int.natAbs_mul,Int.natAbs_natCast]
  exact Nat.le_mul_of_pos_left _ fp
 have c2:d/Nat.gcd n.natAbs d≤d:=Nat.div_le_self _ _
 show some (ak.mk (IntKind.i64.wrap (n.tdiv _)) (IntKind.i64.wrap ((d:Int).tdiv _)))=_
 rw[b1,b2,eV (by omega) (by omega),eV (by omega) (by omega)]
 simp only[kQ,e1,e2]
theorem Nq(q:Rat)(h1 : -9223372036854775807≤q.num)(h2:q.num≤9223372036854775807):aa.bO (kQ q)=some (decide (ig q)):=by
 unfold aa.bO
 show (bif decide ((if q.num<IntKind.i64.wrap (0-q.num) then IntKind.i64.wrap (0-q.num) else q.num)≤(1000000000:Int)) then bif decide (1≤(q.den:Int)) then some (decide ((q.den:Int)≤1000000000)) else some false else some false)=_
 rw[abs_eq h1 h2]
 have hd:=q.den_pos
 by_cases ha:((q.num.natAbs:Nat):Int)≤1000000000
 ·refine bT (decide_eq_true ha) (bT (decide_eq_true (by omega)) ?_)
  congr 1
  rw[decide_eq_decide]
  unfold ig
  omega
 ·refine bF (decide_eq_false ha) ?_
  rw[decide_eq_false]
  unfold ig
  omega
theorem Kx{n:Int}{d:Nat}(h:1≤d):(mkRat n d).num.natAbs≤n.natAbs:=by
 rw[Rat.num_mkRat,if_neg (by omega)]
 have hg:0<Nat.gcd d n.natAbs:=Nat.gcd_pos_of_pos_left _ (by omega)
 have Q8:((Nat.gcd d n.natAbs:Nat):Int)∣n:=Int.ofNat_dvd_left.2 (Nat.gcd_dvd_right _ _)
 generalize Nat.gcd d n.natAbs=g at Q8 hg
 obtain⟨k,rfl⟩:=Q8
 rw[Int.mul_ediv_cancel_left _ (by omega),Int.natAbs_mul,Int.natAbs_natCast]
 exact Nat.le_mul_of_pos_left _ hg
theorem Ky{n:Int}{d:Nat}(h1 : -9223372036854775807≤n)(h2:n≤9223372036854775807)(h3:1≤d)(h4:d≤9223372036854775807):
  aa.bq ⟨n,d⟩=some (if ig (mkRat n d) then (kQ (mkRat n d),0) else (⟨0,0⟩,3)):=by
 unfold aa.bq
 have:=Kx (n:=n) h3
 refine bB (Kw h1 h2 h3 h4) (bB (Nq _ (by omega) (by omega)) ?_)
 by_cases hf:ig (mkRat n d)
 ·rw[if_pos hf,decide_eq_true hf]; rfl
 ·rw[if_neg hf,decide_eq_false hf]; rfl
instance:DecidableEq ak:=fun a b=>by
 cases a; cases b
 simp only[ak.mk.injEq]
 exact inferInstance
def vR(a:ak):Bool:=decide (-1000000000≤a.du∧a.du≤1000000000∧1≤a.Den∧a.Den≤1000000000∧kQ (mkRat a.du a.Den.toNat)=a)
theorem uE(q:Rat):vR (kQ q)=decide (ig q):=by
 unfold vR
 rw[decide_eq_decide]
 have hd:=q.den_pos
 have e:kQ (mkRat (kQ q).du (kQ q).Den.toNat)=kQ q:=by
  show kQ (mkRat q.num ((q.den:Int)).toNat)=_
  rw[Int.toNat_natCast,Rat.mkRat_self]
 show (-1000000000≤q.num∧q.num≤1000000000∧1≤(q.den:Int)∧(q.den:Int)≤1000000000∧_)↔_
 unfold ig
 simp only[e,and_true]
 omega
theorem nF(a:ak):aa.cM a=some (vR a):=by
 unfold aa.cM
 by_cases h1 : -1000000000≤a.du
 ·refine bT (decide_eq_true h1) ?_
  by_cases h2:a.du≤1000000000∧1≤a.Den∧a.Den≤1000000000
  ·have hf:aa.bO a=some true:=by
    unfold aa.bO
    rw[abs_eq (by omega) (by omega)]
    exact bT (decide_eq_true (by omega)) (bT (decide_eq_true h2.2.1) (by rw[decide_eq_true h2.2.2]))
   have he:a=⟨a.du,(a.Den.toNat:Nat)⟩:=by
    cases a; simp only[ak.mk.injEq,true_and]; simp only at h2; omega
   refine bB hf (bT rfl ?_)
   have hr:=Kw (n:=a.du) (d:=a.Den.toNat) (by omega) (by omega) (by omega) (by omega)
   rw[←he]at hr
   refine bB hr ?_
   congr 1
   unfold vR
   rw[Bool.eq_iff_iff]
   simp only[Bool.and_eq_true,beq_iff_eq,decide_eq_true_eq]
   constructor
   ·rintro⟨g1,g2⟩
    refine⟨h1,h2.1,h2.2.1,h2.2.2,?_⟩
    cases a
    simp only[kQ,ak.mk.injEq]at g1 g2 ⊢
    exact⟨g1,g2⟩
   ·rintro⟨_,_,_,_,g⟩
    rw[g]; exact⟨rfl,rfl⟩
  ·have hv:vR a=false:=decide_eq_false (by omega)
   rw[hv]
   refine bB (v:=false) ?_ rfl
   unfold aa.bO
   by_cases h3:(if a.du<IntKind.i64.wrap (0-a.du) then IntKind.i64.wrap (0-a.du) else a.du)≤1000000000
   ·refine bT (decide_eq_true h3) ?_
    have h4:a.du≤1000000000:=by split at h3<;>omega
    by_cases h5:1≤a.Den
    ·exact bT (decide_eq_true h5) (by rw[decide_eq_false]; omega)
    ·exact bF (decide_eq_false h5) rfl
   ·exact bF (decide_eq_false h3) rfl
 ·refine bF (decide_eq_false h1) ?_
  rw[show vR a=false from decide_eq_false (by omega)]
/-! ### Operations -/
theorem xR{q:Rat}(h:ig q):(q.den:Int)≤1000000000∧1≤(q.den:Int):=⟨by have:=h.2.2; omega,by have:=q.den_pos; omega⟩
theorem uF{a b:Int}(h1 : -1000000000≤a)(h2:a≤1000000000)(h3:0≤b)(h4:b≤1000000000): -1000000000000000000≤a*b∧a*b≤1000000000000000000:=by
 have e1:a*b≤1000000000*b:=Int.mul_le_mul_of_nonneg_right h2 h3
 have e2 : -1000000000*b≤a*b:=Int.mul_le_mul_of_nonneg_right h1 h3
 omega
theorem sub_eq{p q:Rat}(hp:ig p)(hq:ig q):aa.nG (kQ p) (kQ q)=some (if ig (p-q) then (kQ (p-q),0) else (⟨0,0⟩,3)):=by
 unfold aa.nG
 have dp:=xR hp
 have dq:=xR hq
 have m1:=uF hp.1 hp.2.1 (b:=(q.den:Int)) (by omega) (by omega)
 have m2:=uF hq.1 hq.2.1 (b:=(p.den:Int)) (by omega) (by omega)
 have m3:=uF (a:=(p.den:Int)) (b:=(q.den:Int)) (by omega) (by omega) (by omega) (by omega)
 have m4:1≤p.den*q.den:=Nat.mul_pos p.den_pos q.den_pos
 have e3:(p.den:Int)*(q.den:Int)=((p.den*q.den:Nat):Int):=by simp
 have dM:((((p.den*q.den:Nat):Int))==0)=false:=by rw[beq_eq_false_iff_ne]; omega
 refine bB (nF _) (bF (by rw[uE,decide_eq_true hp]; rfl) (bB (nF _) (bF (by rw[uE,decide_eq_true hq]; rfl) ?_)))
 show (bif IntKind.i64.wrap ((p.den:Int)*(q.den:Int))==0 then _ else (aa.bq (ak.mk (IntKind.i64.wrap (IntKind.i64.wrap (p.num*(q.den:Int))-IntKind.i64.wrap (q.num*(p.den:Int)))) (IntKind.i64.wrap ((p.den:Int)*(q.den:Int))))).bind fun x=>some (x.1,x.2))=_
 rw[eV (n:=p.num*(q.den:Int)) (by omega) (by omega),eV (n:=q.num*(p.den:Int)) (by omega) (by omega),eV (n:=p.num*(q.den:Int)-q.num*(p.den:Int)) (by omega) (by omega),eV (n:=(p.den:Int)*(q.den:Int)) (by omega) (by omega),e3]
 refine bF dM (bB (Ky (by omega) (by omega) m4 (by omega)) ?_)
 rw[Rat.sub_def']
theorem qe(p:Rat){m:Nat}(hm:1≤m):mkRat p.num (p.den*m)=p/(m:Rat):=by
 have h:=Rat.mkRat_self p
 rw[Rat.div_def]
 have hi:((m:Rat))⁻¹=mkRat 1 m:=by
  rw[Rat.mkRat_eq_div,Rat.div_def]; simp
 rw[hi]
 conv=>rhs; rw[←h]
 rw[Rat.mkRat_mul_mkRat]; simp
theorem div_eq{p:Rat}(hp:ig p){m:Nat}(h1:1≤m)(h2:m≤1000):aa.qt (kQ p) ⟨m,1⟩=some (if ig (p/(m:Rat)) then (kQ (p/(m:Rat)),0) else (⟨0,0⟩,3)):=by
 unfold aa.qt
 have dp:=xR hp
 have hm:(⟨m,1⟩:ak)=kQ ((m:Int):Rat):=rfl
 have fm:ig ((m:Int):Rat):=⟨by show (_:Int)≤(m:Int); omega,by show (m:Int)≤_; omega,by show 1≤1000000000; omega⟩
 have m3:=uF (a:=(p.den:Int)) (b:=(m:Int)) (by omega) (by omega) (by omega) (by omega)
 have m4:1≤p.den*m:=Nat.mul_pos p.den_pos h1
 have e3:(p.den:Int)*(m:Int)=((p.den*m:Nat):Int):=by simp
 have dM:((((p.den*m:Nat):Int))==0)=false:=by rw[beq_eq_false_iff_ne]; omega
 refine bB (nF _) (bF (by rw[uE,decide_eq_true hp]; rfl) (bB (nF _) (bF (by rw[hm,uE,decide_eq_true fm]; rfl) ?_)))
 show (bif IntKind.i64.wrap ((p.den:Int)*(m:Int))==0 then _ else (aa.bq (ak.mk (IntKind.i64.wrap (p.num*1)) (IntKind.i64.wrap ((p.den:Int)*(m:Int))))).bind fun x=>some (x.1,x.2))=_
 have Uh:=hp.1
 have Ml:=hp.2.1
 rw[Int.mul_one,eV (n:=p.num) (by omega) (by omega),eV (n:=(p.den:Int)*(m:Int)) (by omega) (by omega),e3]
 refine bF dM (bB (Ky (by omega) (by omega) m4 (by omega)) ?_)
 rw[qe p h1]
def Kz(p q:Rat):Int:=if p<q then -1 else if q<p then 1 else 0
theorem PY{p q:Rat}(hp:ig p)(hq:ig q):aa.qu (kQ p) (kQ q)=some (Kz p q,0):=by
 unfold aa.qu aa.pO aa.qv
 have dp:=xR hp
 have dq:=xR hq
 have m1:=uF hp.1 hp.2.1 (b:=(q.den:Int)) (by omega) (by omega)
 have m2:=uF hq.1 hq.2.1 (b:=(p.den:Int)) (by omega) (by omega)
 refine bB (nF _) (bF (by rw[uE,decide_eq_true hp]; rfl) (bB (nF _) (bF (by rw[uE,decide_eq_true hq]; rfl) ?_)))
 have w1:IntKind.i64.wrap ((kQ p).du*(kQ q).Den)=p.num*(q.den:Int):=eV (n:=p.num*(q.den:Int)) (by omega) (by omega)
 have w2:IntKind.i64.wrap ((kQ q).du*(kQ p).Den)=q.num*(p.den:Int):=eV (n:=q.num*(p.den:Int)) (by omega) (by omega)
 rw[w1,w2]
 refine bB (v:=Kz p q) ?_ rfl
 simp only[beq_self_eq_true,Bool.not_true,Option.bind_some,cond_false]
 unfold Kz
 by_cases h1:p<q
 ·rw[if_pos h1]
  exact bT (decide_eq_true ((Rat.lt_iff p q).1 h1)) rfl
 ·rw[if_neg h1]
  refine bF (decide_eq_false fun h=>h1 ((Rat.lt_iff p q).2 h)) ?_
  by_cases h2:q<p
  ·rw[if_pos h2]
   exact bT (decide_eq_true ((Rat.lt_iff q p).1 h2)) rfl
  ·rw[if_neg h2]
   exact bF (decide_eq_false fun h=>h2 ((Rat.lt_iff q p).2 h)) rfl
theorem Nr{p q:Rat}(hp:ig p)(hq:ig q):aa.fR (kQ p) (kQ q)=some (decide (p<q)):=by
 unfold aa.fR
 refine bB (PY hp hq) ?_
 show some (decide (Kz p q<0))=_
 congr 1
 rw[decide_eq_decide]
 unfold Kz
 by_cases h1:p<q
 ·simp[h1]
 ·rw[if_neg h1]
  by_cases h2:q<p<;>simp[h1,h2]
end Go.Proofs.Ytedjbjphpnkpoaa
end
section
/- Plain facts of this seat: valid networks. -/
set_option maxRecDepth 100000
namespace Go.Proofs.Ytedjbjphpnkpoaa
open Go.PI Go.Pl Go.Mm
theorem wN{τ ω:Type}{f:τ→Option (τ ⊕ ω)}(st:Nat→τ)(c:Nat→Bool)(n:Nat)(e bad:ω){x0:τ}
  (h:∀ i,i<n→f (st i)=bif c i then some (.inl (st (i+1))) else some (.inr bad)) (he:f (st n)=some (.inr e)) (hx:x0=st 0) :
  aO f x0=some (bif (List.range n).all c then e else bad):=by
 subst hx
 rcases tq st c (fun _=>bad) n e (fun i hi=>by rw[h i hi]; cases c i<;>rfl) he with ⟨h1,h2⟩|⟨h1,i,_,_,h2⟩
 ·rw[h1,h2]; rfl
 ·rw[h1,h2]; rfl
theorem dE{τ ω:Type}{f:τ→Option (τ ⊕ ω)}(st:Nat→τ)(n:Nat)(e:ω){x0:τ}(h:∀ i,i<n→f (st i)=some (.inl (st (i+1))))(he:f (st n)=some (.inr e))(hx:x0=st 0):aO f x0=some e:=by
 subst hx
 have key:∀ m i,m=n-i→i≤n→aO f (st i)=some e:=by
  intro m
  induction m with
  |zero=>intro i hm hi; obtain rfl:i=n:=by omega
         exact out he
  |succ m ih=>intro i hm hi; rw[next (h i (by omega))]; exact ih (i+1) (by omega) (by omega)
 exact key n 0 rfl (Nat.zero_le _)
theorem get_at{γ:Type}{l:List γ}{i:Nat}(h:i<l.length):l[(i:Int).toNat]?=some l[i]:=by simp[h]
theorem fS{i:Nat}(h:i<2^62):IntKind.i64.wrap ((i:Int)+1)=((i+1:Nat):Int):=eV (by omega) (by omega)
theorem PZ(n lo hi:Int):aa.nH n lo hi=some (decide (lo≤n)&&decide (n≤hi)):=GI
def pF(l:List Int)(L:Int)(i:Nat):Bool:=
 match l[i]? with
 |none=>false
 |some x=>(decide (0≤x)&&decide (x≤L-1))&&(if i=0 then true else match l[i-1]? with|none=>false|some y=>decide (y<x))
def Bh(l:List Int)(L:Int):Bool:=(List.range l.length).all (pF l L)&&(decide (1≤(l.length:Int))&&decide ((l.length:Int)≤6))
theorem Ns{l:List Int}{L:Int}(hl:l.length≤2^62)(h0:0≤L)(h1:L≤1000000):aa.jS l L=some (Bh l L):=by
 unfold aa.jS
 refine bB (wN (fun i=>(false,(i:Int))) (pF l L) l.length (Sum.inr (false,(l.length:Int))) (Sum.inl false) (fun i hi=>?_) (bF (eW _) rfl) rfl) ?_
 ·refine bT (ek hi) (bT (bE i) (bB (get_at hi) (bB (PZ _ _ _) ?_)))
  rw[eV (n:=L-1) (by omega) (by omega)]
  unfold pF
  rw[List.getElem?_eq_getElem hi]
  cases hc:(decide (0≤l[i])&&decide (l[i]≤L-1)) with
  |false=>simp only[hc]; rfl
  |true=>
   simp only[hc]
   by_cases e:i=0
   ·subst e
    exact bF rfl (bF rfl (by rw[fS (by omega)]; rfl))
   ·have hw:IntKind.i64.wrap ((i:Int)-1)=((i-1:Nat):Int):=by rw[eV (by omega) (by omega)]; omega
    have Ea:i-1<l.length:=by omega
    refine bF rfl (bT (decide_eq_true (by omega)) (bT (by rw[hw]; exact bE _) (bB (v:=l[i-1]) (by rw[hw]; exact get_at Ea) ?_)))
    rw[if_neg e,List.getElem?_eq_getElem Ea,fS (by omega)]
    by_cases cd:l[i]≤l[i-1]
    ·rw[decide_eq_true cd]; simp only[decide_eq_false (by omega:¬l[i-1]<l[i])]; rfl
    ·rw[decide_eq_false cd]; simp only[decide_eq_true (by omega:l[i-1]<l[i])]; rfl
 ·unfold Bh
  cases (List.range l.length).all (pF l L) with
  |false=>rfl
  |true=>exact bB (PZ _ _ _) rfl
theorem KA{l:List Int}{L:Int}(hl:l.length≤2^62):aa.n9 l L=some (Bh l L):=by
 unfold aa.n9
 refine bB (wN (fun i=>(false,(i:Int))) (pF l L) l.length (Sum.inr (false,(l.length:Int))) (Sum.inl false) (fun i hi=>?_) (bF (eW _) rfl) rfl) ?_
 ·refine bT (ek hi) (bT (bE i) (bB (get_at hi) ?_))
  unfold pF
  rw[List.getElem?_eq_getElem hi]
  by_cases h1:l[i]<0
  ·refine bT (decide_eq_true h1) ?_
   simp only[decide_eq_false (by omega:¬0≤l[i])]; rfl
  refine bF (decide_eq_false h1) (bT (bE i) (bB (get_at hi) ?_))
  simp only[decide_eq_true (by omega:0≤l[i])]
  by_cases h2:L≤l[i]
  ·refine bT (decide_eq_true h2) ?_
   simp only[decide_eq_false (by omega:¬l[i]≤L-1)]; rfl
  refine bF (decide_eq_false h2) ?_
  simp only[decide_eq_true (by omega:l[i]≤L-1)]
  by_cases e:i=0
  ·subst e
   exact bF rfl (by rw[fS (by omega)]; rfl)
  ·have hw:IntKind.i64.wrap ((i:Int)-1)=((i-1:Nat):Int):=by rw[eV (by omega) (by omega)]; omega
   have Ea:i-1<l.length:=by omega
   refine bT (decide_eq_true (by omega)) (bT (bE i) (bB (get_at hi) (bT (by rw[hw]; exact bE _) (bB (v:=l[i-1]) (by rw[hw]; exact get_at Ea) ?_))))
   rw[if_neg e,List.getElem?_eq_getElem Ea,fS (by omega)]
   by_cases cd:l[i]≤l[i-1]
   ·rw[decide_eq_true cd]; simp only[decide_eq_false (by omega:¬l[i-1]<l[i])]; rfl
   ·rw[decide_eq_false cd]; simp only[decide_eq_true (by omega:l[i-1]<l[i])]; rfl
 ·unfold Bh
  cases (List.range l.length).all (pF l L) with
  |false=>rfl
  |true=>exact GI
def tU(x:Int):Bool:=decide (0≤x)&&decide (x≤1000)
def vN(n:bJ):Bool:=decide (n.ay.length≤8)&&(decide (n.af.length≤8)&&(decide (n.aC.length=n.af.length)&&((n.ay.all tU&&n.aC.all tU)&&n.af.all fun l=>Bh l (n.ay.length:Int))))
theorem Nt{n:bJ}(hl:∀ l∈n.af,l.length≤2^62):aa.gn n=some (vN n):=by
 unfold aa.gn vN
 by_cases h1:n.ay.length≤8
 case neg=>rw[decide_eq_false h1]; exact bT (decide_eq_true (by omega)) rfl
 rw[decide_eq_true h1]
 refine bF (decide_eq_false (by omega)) ?_
 by_cases h2:n.af.length≤8
 case neg=>rw[decide_eq_false h2]; exact bT (decide_eq_true (by omega)) rfl
 rw[decide_eq_true h2]
 refine bF (decide_eq_false (by omega)) ?_
 by_cases h3:n.aC.length=n.af.length
 case neg=>rw[decide_eq_false h3]; exact bT (by simp; omega) rfl
 rw[decide_eq_true h3]
 refine bF (by simp; omega) ?_
 have hc:aa.gU [n.ay,n.aC]=some (n.ay++n.aC):=by
  show tv 8 [n.ay,n.aC]=_
  unfold tv KB
  have:[n.ay,n.aC].flatten=n.ay++n.aC:=by simp
  rw[this]
  have hlen:(n.ay++n.aC).length≤16:=by rw[List.length_append]; omega
  exact bT (by simp only[Bool.and_eq_true,decide_eq_true_eq]; exact⟨by simp,by omega,by omega⟩) rfl
 refine bB hc ?_
 have hlen:(n.ay++n.aC).length≤16:=by rw[List.length_append]; omega
 refine bB (uD (n.ay++n.aC) (fun i=>(false,(i:Int))) tU (Sum.inl false) (Sum.inr (false,((n.ay++n.aC).length:Int))) (fun i hi=>?_) (bF (eW _) rfl) rfl) ?_
 ·refine bT (ek hi) (bT (bE i) (bB (get_at hi) (bB (PZ _ _ _) ?_)))
  rw[fS (by omega)]
  show (bif !tU _ then _ else _)=_
  cases tU (n.ay++n.aC)[i]<;>rfl
 rw[List.all_append]
 cases ZD:(n.ay.all tU&&n.aC.all tU) with
 |false=>rfl
 |true=>
  simp only[cond_true,Sum.elim_inr,Bool.true_and]
  refine bB (uD n.af (fun i=>(false,(i:Int))) (fun l=>Bh l (n.ay.length:Int)) (Sum.inl false) (Sum.inr (false,(n.af.length:Int))) (fun i hi=>?_) (bF (eW _) rfl) rfl) ?_
  ·refine bT (ek hi) (bT (bE i) (bB (get_at hi) (bB (Ns (hl _ (List.getElem_mem hi)) (by omega) (by omega)) ?_)))
   rw[fS (by omega)]
   cases Bh n.af[i] (n.ay.length:Int)<;>rfl
  ·cases n.af.all fun l=>Bh l (n.ay.length:Int)<;>rfl
theorem Nu{γ δ:Type}{l:List γ}{m:List δ}{p:γ→Bool}{q:δ→Bool}(h:l.length=m.length):((List.range l.length).all fun i=>(l[i]?.map p).getD false&&(m[i]?.map q).getD false)=(l.all p&&m.all q):=by
 rw[Bool.eq_iff_iff,List.all_eq_true,Bool.and_eq_true,List.all_eq_true,List.all_eq_true]
 constructor
 ·intro hh
  refine⟨fun x hx=>?_,fun x hx=>?_⟩
  ·obtain⟨i,hi,rfl⟩:=List.getElem_of_mem hx
   have:=hh i (List.mem_range.2 hi)
   rw[List.getElem?_eq_getElem hi]at this
   simp only[Bool.and_eq_true]at this
   exact this.1
  ·obtain⟨i,hi,rfl⟩:=List.getElem_of_mem hx
   have:=hh i (List.mem_range.2 (by omega))
   rw[List.getElem?_eq_getElem hi]at this
   simp only[Bool.and_eq_true]at this
   exact this.2
 ·rintro⟨h1,h2⟩ i hi
  have hi:=List.mem_range.1 hi
  rw[List.getElem?_eq_getElem hi,List.getElem?_eq_getElem (show i<m.length by omega)]
  simp only[Bool.and_eq_true]
  exact⟨h1 _ (List.getElem_mem _),h2 _ (List.getElem_mem _)⟩
theorem KC{n:bJ}(hl:∀ l∈n.af,l.length≤2^62):aa.cN n=some (vN n):=by
 unfold aa.cN vN
 by_cases h1:n.ay.length≤8
 case neg=>rw[decide_eq_false h1]; exact bT (decide_eq_true (by omega)) rfl
 rw[decide_eq_true h1]
 refine bF (decide_eq_false (by omega)) ?_
 by_cases h2:n.af.length≤8
 case neg=>rw[decide_eq_false h2]; exact bT (decide_eq_true (by omega)) rfl
 rw[decide_eq_true h2]
 refine bF (decide_eq_false (by omega)) ?_
 by_cases h3:n.aC.length=n.af.length
 case neg=>rw[decide_eq_false h3]; exact bT (by simp; omega) rfl
 rw[decide_eq_true h3]
 refine bF (by simp; omega) ?_
 refine bB (uD n.ay (fun i=>(false,(i:Int))) tU (Sum.inl false) (Sum.inr (false,(n.ay.length:Int))) (fun i hi=>?_) (bF (eW _) rfl) rfl) ?_
 ·refine bT (ek hi) (bT (bE i) (bB (get_at hi) ?_))
  rw[fS (by omega)]
  unfold tU
  by_cases g1:n.ay[i]<0
  ·rw[decide_eq_false (by omega:¬0≤n.ay[i])]; exact bT (decide_eq_true g1) rfl
  rw[decide_eq_true (by omega:0≤n.ay[i])]
  refine bF (decide_eq_false g1) (bT (bE i) (bB (get_at hi) ?_))
  by_cases g2:1000<n.ay[i]
  ·rw[decide_eq_false (by omega:¬n.ay[i]≤1000)]; exact bT (decide_eq_true g2) rfl
  ·rw[decide_eq_true (by omega:n.ay[i]≤1000)]; exact bF (decide_eq_false g2) rfl
 cases ZD:n.ay.all tU with
 |false=>rfl
 |true=>
  simp only[cond_true,Sum.elim_inr,Bool.true_and]
  refine bB (wN (fun i=>(false,(i:Int))) (fun i=>(n.af[i]?.map fun l=>Bh l (n.ay.length:Int)).getD false&&(n.aC[i]?.map tU).getD false) n.af.length (Sum.inr (false,(n.af.length:Int))) (Sum.inl false) (fun i hi=>?_) (bF (eW _) rfl) rfl) ?_
  ·have Ga:i<n.aC.length:=by omega
   refine bT (ek hi) (bT (bE i) (bB (get_at hi) (bB (KA (hl _ (List.getElem_mem hi))) ?_)))
   rw[fS (by omega),List.getElem?_eq_getElem hi,List.getElem?_eq_getElem Ga]
   show (bif !Bh n.af[i] (n.ay.length:Int) then _ else _)=bif (Bh n.af[i] (n.ay.length:Int)&&tU n.aC[i]) then _ else _
   cases Bh n.af[i] (n.ay.length:Int) with
   |false=>rfl
   |true=>
    refine bF rfl (bT (bE i) (bB (get_at Ga) ?_))
    unfold tU
    by_cases g1:n.aC[i]<0
    ·simp only[decide_eq_false (by omega:¬0≤n.aC[i])]; exact bT (decide_eq_true g1) rfl
    simp only[decide_eq_true (by omega:0≤n.aC[i])]
    refine bF (decide_eq_false g1) (bT (bE i) (bB (get_at Ga) ?_))
    by_cases g2:1000<n.aC[i]
    ·simp only[decide_eq_false (by omega:¬n.aC[i]≤1000)]; exact bT (decide_eq_true g2) rfl
    ·simp only[decide_eq_true (by omega:n.aC[i]≤1000)]; exact bF (decide_eq_false g2) rfl
  ·rw[Nu (p:=fun l=>Bh l (n.ay.length:Int)) (q:=tU) h3.symm,Bool.and_comm]
   cases (n.aC.all tU&&n.af.all fun l=>Bh l (n.ay.length:Int))<;>rfl
theorem Sk(n:bJ)(hw:n.af.length≤2^63-1):∃ b,aa.gp n=some b∧(b=true→n.ay.length≤50∧n.af.length≤50∧n.aC.length≤50∧∀ l∈n.af,l.length≤50):=by
 unfold aa.gp
 have xS:=wN (ω:=Bool ⊕ Bool×Int) (f:=fun ((b1,i2):Bool×Int)=>
   bif decide (i2<(↑n.af.length:Int)) then bif decide (i2<50) then bif decide (0≤i2) then (n.af[i2.toNat]?).bind fun l3=>bif decide (50<(↑l3.length:Int)) then some (Sum.inr (Sum.inl false)) else some (Sum.inl (b1,IntKind.i64.wrap (i2+1))) else none else some (Sum.inr (Sum.inr (b1,i2))) else some (Sum.inr (Sum.inr (b1,i2))))
  (fun i=>(false,(i:Int))) (fun i=>match n.af[i]? with|some l=>decide (l.length≤50)|none=>false) (min n.af.length 50) (Sum.inr (false,((min n.af.length 50:Nat):Int))) (Sum.inl false) (x0:=(false,0)) (fun i hi=>?_) ?_ rfl
 ·cases bf:(List.range (min n.af.length 50)).all (fun i=>match n.af[i]? with|some l=>decide (l.length≤50)|none=>false) with
  |false=>
   rw[bf]at xS
   exact⟨false,bB xS rfl,fun h=>Bool.noConfusion h⟩
  |true=>
   rw[bf]at xS
   refine⟨_,bB xS (by show (bif _ then bif _ then _ else _ else _)=some (decide ((n.ay.length:Int)≤50)&&(decide ((n.af.length:Int)≤50)&&decide ((n.aC.length:Int)≤50))); cases decide ((n.ay.length:Int)≤50)<;>cases decide ((n.af.length:Int)≤50)<;>rfl),fun h=>?_⟩
   simp only[Bool.and_eq_true,decide_eq_true_eq]at h
   refine⟨by omega,by omega,by omega,fun l hl=>?_⟩
   obtain⟨i,hi,rfl⟩:=List.getElem_of_mem hl
   have:=List.all_eq_true.1 bf i (List.mem_range.2 (by omega))
   rw[List.getElem?_eq_getElem hi]at this
   simpa using this
 ·have h1:i<n.af.length:=by omega
  refine bT (ek h1) (bT (decide_eq_true (by omega)) (bT (bE i) (bB (get_at h1) ?_)))
  rw[List.getElem?_eq_getElem h1,fS (by omega)]
  by_cases g:n.af[i].length≤50
  ·simp only[decide_eq_true g]; exact bF (decide_eq_false (by omega)) rfl
  ·simp only[decide_eq_false g]; exact bT (decide_eq_true (by omega)) rfl
 ·by_cases g:n.af.length≤50
  ·have e:min n.af.length 50=n.af.length:=by omega
   rw[e]
   exact bF (eW _) rfl
  ·have e:min n.af.length 50=50:=by omega
   rw[e]
   exact bT (ek (by omega)) (bF (by decide) rfl)
end Go.Proofs.Ytedjbjphpnkpoaa
end
section
/- Plain facts of this seat: levels. -/
set_option maxRecDepth 100000
namespace Go.Proofs.Ytedjbjphpnkpoaa
open Go.PI Go.Pl Go.Mm
theorem Nv{l:List Int}(hl:l.length≤2^62)(v:Int):aa.bM l v=some (decide (v∈l)):=by
 unfold aa.bM aa.mM
 have key:=tq (ω:=Int ⊕ Int×Int) (f:=fun ((i1,i2):Int×Int)=>bif decide (i2<(↑l.length:Int)) then bif decide (0≤i2) then (l[i2.toNat]?).bind fun i3=>bif v==i3 then some (Sum.inr (Sum.inl i2)) else some (Sum.inl (i1,IntKind.i64.wrap (i2+1))) else none else some (Sum.inr (Sum.inr (i1,i2))))
  (fun i=>((0:Int),(i:Int))) (fun i=>(l[i]?.map fun x=>!(v==x)).getD false) (fun i=>Sum.inl (i:Int)) l.length (Sum.inr (0,(l.length:Int))) (fun i hi=>by
    refine bT (ek hi) (bT (bE i) (bB (get_at hi) ?_))
    rw[List.getElem?_eq_getElem hi,fS (by omega)]
    show (bif v==l[i] then _ else _)=some (bif !(v==l[i]) then _ else _)
    cases v==l[i]<;>rfl) (bF (eW _) rfl)
 rcases key with ⟨h1,h2⟩|⟨h1,i,hi,hp,h2⟩
 ·refine bB (v := -1) (bB h2 rfl) ?_
  rw[show decide (v∈l)=false from decide_eq_false fun hm=>?_]; ·rfl
  obtain⟨i,hi,rfl⟩:=List.getElem_of_mem hm
  have:=List.all_eq_true.1 h1 i (List.mem_range.2 hi)
  rw[List.getElem?_eq_getElem hi]at this
  simp at this
 ·refine bB (v:=(i:Int)) (bB h2 rfl) ?_
  rw[show decide (v∈l)=true from decide_eq_true ?_]; ·rw[bE]
  rw[List.getElem?_eq_getElem hi]at hp
  simp only[Option.map_some,Option.getD_some,Bool.not_eq_false',beq_iff_eq]at hp
  rw[hp]; exact List.getElem_mem _
theorem KD{l:List Bool}(hl:l.length≤2^62)(v:Bool):aa.fc l v=some (decide (v∈l)):=by
 unfold aa.fc aa.oa
 have key:=tq (ω:=Int ⊕ Int×Int) (f:=fun ((i1,i2):Int×Int)=>bif decide (i2<(↑l.length:Int)) then bif decide (0≤i2) then (l[i2.toNat]?).bind fun i3=>bif v==i3 then some (Sum.inr (Sum.inl i2)) else some (Sum.inl (i1,IntKind.i64.wrap (i2+1))) else none else some (Sum.inr (Sum.inr (i1,i2))))
  (fun i=>((0:Int),(i:Int))) (fun i=>(l[i]?.map fun x=>!(v==x)).getD false) (fun i=>Sum.inl (i:Int)) l.length (Sum.inr (0,(l.length:Int))) (fun i hi=>by
    refine bT (ek hi) (bT (bE i) (bB (get_at hi) ?_))
    rw[List.getElem?_eq_getElem hi,fS (by omega)]
    show (bif v==l[i] then _ else _)=some (bif !(v==l[i]) then _ else _)
    cases v==l[i]<;>rfl) (bF (eW _) rfl)
 rcases key with ⟨h1,h2⟩|⟨h1,i,hi,hp,h2⟩
 ·refine bB (v := -1) (bB h2 rfl) ?_
  rw[show decide (v∈l)=false from decide_eq_false fun hm=>?_]; ·rfl
  obtain⟨i,hi,rfl⟩:=List.getElem_of_mem hm
  have:=List.all_eq_true.1 h1 i (List.mem_range.2 hi)
  rw[List.getElem?_eq_getElem hi]at this
  simp at this
 ·refine bB (v:=(i:Int)) (bB h2 rfl) ?_
  rw[show decide (v∈l)=true from decide_eq_true ?_]; ·rw[bE]
  rw[List.getElem?_eq_getElem hi]at hp
  simp only[Option.map_some,Option.getD_some,Bool.not_eq_false',beq_iff_eq]at hp
  rw[hp]; exact List.getElem_mem _
/-! ### A valid network -/
def nN(n:bJ)(l i:Nat):Bool:=(n.af[i]?.map fun f=>decide ((l:Int)∈f)).getD false
def bW(n:bJ):xQ where
 F:=n.af.length
 L:=n.ay.length
 on:=nN n
 c l:=((n.ay[l]?.getD 0:Int):Rat)
 has i:=decide (0<n.aC[i]?.getD 0)
 k i:=((n.aC[i]?.getD 0:Int):Rat)
structure VN(n:bJ):Prop where
 nc:n.ay.length≤8
 nf:n.af.length≤8
 nl:n.aC.length=n.af.length
 c:∀ x∈n.ay,0≤x∧x≤1000
 k:∀ x∈n.aC,0≤x∧x≤1000
 f6:∀ l∈n.af,1≤l.length∧l.length≤6
 fr:∀ l∈n.af,∀ x∈l,0≤x∧x<n.ay.length
theorem KE{n:bJ}(h:vN n=true):VN n:=by
 unfold vN at h
 simp only[Bool.and_eq_true,decide_eq_true_eq,List.all_eq_true]at h
 obtain⟨h1,h2,h3,⟨h4,h5⟩,h6⟩:=h
 have hk:∀ x,tU x=true→0≤x∧x≤1000:=fun x hx=>by simpa[tU] using hx
 refine⟨h1,h2,h3,fun x hx=>hk x (h4 x hx),fun x hx=>hk x (h5 x hx),fun l hl=>?_,fun l hl x hx=>?_⟩
 ·have:=h6 l hl
  unfold Bh at this
  simp only[Bool.and_eq_true,decide_eq_true_eq]at this
  omega
 ·have:=h6 l hl
  unfold Bh at this
  simp only[Bool.and_eq_true,List.all_eq_true]at this
  obtain⟨i,hi,rfl⟩:=List.getElem_of_mem hx
  have:=this.1 i (List.mem_range.2 hi)
  unfold pF at this
  rw[List.getElem?_eq_getElem hi]at this
  simp only[Bool.and_eq_true,decide_eq_true_eq]at this
  omega
theorem VN.Sl{n:bJ}(h:VN n){l:List Int}(hl:l∈n.af):l.length≤2^62:=by have:=h.f6 l hl; omega
theorem VN.cap{n:bJ}(h:VN n){l:Nat}(hl:l<n.ay.length):(bW n).c l=((n.ay[l]:Int):Rat)∧0≤n.ay[l]∧n.ay[l]≤1000:=by
 refine⟨?_,h.c _ (List.getElem_mem _)⟩
 show ((n.ay[l]?.getD 0:Int):Rat)=_
 rw[List.getElem?_eq_getElem hl]; rfl
theorem VN.ma{n:bJ}(h:VN n){i:Nat}(hi:i<n.af.length):∃ k,n.aC[i]?=some k∧(bW n).k i=(k:Rat)∧(bW n).has i=decide (0<k)∧0≤k∧k≤1000:=by
 have hl:i<n.aC.length:=by rw[h.nl]; exact hi
 refine⟨n.aC[i],List.getElem?_eq_getElem hl,?_,?_,h.k _ (List.getElem_mem _)⟩
 ·show ((n.aC[i]?.getD 0:Int):Rat)=_
  rw[List.getElem?_eq_getElem hl]; rfl
 ·show decide (0<n.aC[i]?.getD 0)=_
  rw[List.getElem?_eq_getElem hl]; rfl
theorem VN.on{n:bJ}(h:VN n){l i:Nat}(hi:i<n.af.length):aa.bM n.af[i] (l:Int)=some (nN n l i):=by
 rw[Nv (h.Sl (List.getElem_mem _))]
 unfold nN
 rw[List.getElem?_eq_getElem hi]; rfl
theorem VN.ex{n:bJ}(h:VN n){i:Nat}(hi:i<n.af.length):∃ l,l<n.ay.length∧nN n l i=true:=by
 have h1:=h.f6 _ (List.getElem_mem hi)
 have h2:=h.fr _ (List.getElem_mem hi) _ (List.getElem_mem (show 0<n.af[i].length by omega))
 refine⟨n.af[i][0].toNat,by omega,?_⟩
 unfold nN
 rw[List.getElem?_eq_getElem hi]
 simp only[Option.map_some,Option.getD_some,decide_eq_true_eq]
 rw[Int.toNat_of_nonneg h2.1]
 exact List.getElem_mem _
theorem Bi{P:Nat}{q:Rat}(h1:1≤P)(h2:P≤1000)(hd:Dv P q)(h0:0≤q)(hq:q≤1000):ig q∧q.den≤P:=by
 obtain⟨m,hm⟩:=hd
 have hP:(P:Rat)≠0:=by intro e; have:P=0:=by exact_mod_cast e
                       omega
 have XZ:(0:Rat)<(P:Rat):=by exact_mod_cast h1
 have e:q=mkRat m P:=by
  rw[Rat.mkRat_eq_div,←hm,Rat.div_def,Rat.mul_assoc,Rat.mul_inv_cancel _ hP,Rat.mul_one]
 have Rt:0≤m:=by
  have:(0:Rat)≤(m:Rat):=by rw[←hm]; exact Rat.mul_nonneg h0 (Rat.le_of_lt XZ)
  exact_mod_cast this
 have uj:m≤1000*P:=by
  have:(m:Rat)≤1000*(P:Rat):=by rw[←hm]; exact Rat.mul_le_mul_of_nonneg_right hq (Rat.le_of_lt XZ)
  exact_mod_cast this
 have hn:=Kx (n:=m) h1
 have Sm:(mkRat m P).den≤P:=by rw[Rat.den_mkRat,if_neg (by omega)]; exact Nat.div_le_self _ _
 rw[←e]at hn Sm
 exact⟨⟨by omega,by omega,by omega⟩,Sm⟩
theorem Nw{k:Int}(h0:0≤k)(h1:k≤1000):ig (k:Rat):=⟨by show _≤k; omega,by show k≤_; omega,by show 1≤_; omega⟩
structure mf(n:bJ)(rates:List ak)(fixed:List Bool)(x:Nat→Rat)(lo:Rat)(P:Nat):Prop where
 nr:rates.length=n.af.length
 nf:fixed.length=n.af.length
 r:∀ i,i<n.af.length→fixed[i]?=some true→rates[i]?=some (kQ (x i))
 inv:Inv (bW n) (fun i=>fixed[i]?.getD false) x lo P
abbrev jq(fixed:List Bool)(i:Nat):Bool:=fixed[i]?.getD false
theorem qw{p:Nat→Bool}{x:Nat→Rat}{n:Nat}(h:∀ j,j<n→p j=true→0≤x j):∀ {i:Nat},i≤n→0≤sm p x i∧sm p x i≤sm p x n:=by
 have up:∀ m i,i+m=n→sm p x i≤sm p x n:=by
  intro m
  induction m with
  |zero=>intro i hi; rw[show i=n by omega]; exact Rat.le_refl
  |succ m ih=>
   intro i hi
   have h1:=ih (i+1) (by omega)
   simp only[sm]at h1
   cases hp:p i with
   |false=>rw[hp]at h1; simp only[cond_false]at h1; grind
   |true=>rw[hp]at h1; simp only[cond_true]at h1; have:=h i (by omega) hp; grind
 intro i hi
 refine⟨?_,up (n-i) i (by omega)⟩
 clear up
 induction i with
 |zero=>exact Rat.le_refl
 |succ i ih=>
  have h1:=ih (by omega)
  simp only[sm]
  cases hp:p i with
  |false=>simp only[cond_false]; grind
  |true=>simp only[cond_true]; have:=h i (by omega) hp; grind
section
variable {n:bJ}{rates:List ak}{fixed:List Bool}{x:Nat→Rat}{lo:Rat}{P:Nat}
theorem mf.PV(h:mf n rates fixed x lo P):P≤18:=Nat.le_trans (Nat.le_mul_of_pos_right _ (Ku _)) h.inv.PV
abbrev sF(n:bJ)(fixed:List Bool)(x:Nat→Rat)(l:Nat):Rat:=sm (fun i=>nN n l i&&jq fixed i) x n.af.length
abbrev mF(n:bJ)(fixed:List Bool)(l:Nat):Nat:=ct (fun i=>nN n l i&&!jq fixed i) n.af.length
theorem xT(hv:VN n)(h:mf n rates fixed x lo P){l:Nat}(hl:l<n.ay.length):
  ∃ q,aa.ck (l:Int) (cf.mk n fixed rates)=some (kQ q,decide (mF n fixed l≠0))∧(mF n fixed l≠0→q*(mF n fixed l:Nat)=(bW n).c l-sF n fixed x l∧ig q):=by
 obtain⟨hc,Mi,MH⟩:=hv.cap hl
 have P0:∀ j,j<n.af.length→(nN n l j&&jq fixed j)=true→0≤x j:=fun j hj hp=>by
  simp only[Bool.and_eq_true]at hp
  exact(h.inv.nn j hj hp.2).1
 have AN:=h.inv.cap l hl
 have hP:=h.PV
 have PW:=h.inv.P1
 have KF:∀ i,i≤n.af.length→ig ((bW n).c l-sm (fun i=>nN n l i&&jq fixed i) x i):=fun i hi=>by
  have hm:=qw P0 hi
  refine(Bi PW (by omega) ?_ ?_ ?_).1
  ·refine Dv.sub ?_ (Dv.sm fun j hj hp=>h.inv.dv j (by show j<n.af.length; omega) (by simp only[Bool.and_eq_true]at hp; exact hp.2))
   rw[hc]; exact Dv.int _
  ·have:sm (fun i=>nN n l i&&jq fixed i) x n.af.length≤(bW n).c l:=AN
   grind
  ·have h1:(bW n).c l≤1000:=by rw[hc]; exact_mod_cast MH
   have:=hm.1
   grind
 have hx:∀ i,i<n.af.length→jq fixed i=true→ig (x i):=fun i hi hf=>by
  have h1:=h.inv.nn i hi hf
  obtain⟨l',jO,pw⟩:=hv.ex hi
  obtain⟨HU,_,Sn⟩:=hv.cap jO
  have X0:sm (fun i=>nN n l' i&&jq fixed i) x n.af.length≤(bW n).c l':=h.inv.cap l' jO
  have So:∀ j,j<n.af.length→(nN n l' j&&jq fixed j)=true→0≤x j:=fun j hj hp=>by
   simp only[Bool.and_eq_true]at hp
   exact(h.inv.nn j hj hp.2).1
  have h2:=(qw So (i:=i+1) (by omega)).2
  have h3:=(qw So (i:=i) (by omega)).1
  simp only[sm,pw,hf,Bool.and_self,cond_true]at h2
  have h4:(bW n).c l'≤1000:=by rw[HU]; exact_mod_cast Sn
  exact(Bi PW (by omega) (h.inv.dv i hi hf) h1.1 (by grind)).1
 have HV:∀ i,i<n.af.length→fixed[i]?=some (jq fixed i):=fun i hi=>by
  have:i<fixed.length:=by rw[h.nf]; exact hi
  unfold jq
  rw[List.getElem?_eq_getElem this]; rfl
 have Nx:=hv.nf
 have TX:n.ay[(l:Int).toNat]?=some n.ay[l]:=get_at hl
 have ZE:0≤(bW n).c l-sF n fixed x l:=by
  have:sm (fun i=>nN n l i&&jq fixed i) x n.af.length≤(bW n).c l:=AN
  grind
 have Sn:(bW n).c l≤1000:=by rw[hc]; exact_mod_cast MH
 have hS1:(bW n).c l-sF n fixed x l≤1000:=by
  have:=(qw P0 (i:=n.af.length) (Nat.le_refl _)).1
  grind
 have ZF:Dv P ((bW n).c l-sF n fixed x l):=by
  refine Dv.sub ?_ (Dv.sm fun j hj hp=>h.inv.dv j hj (by simp only[Bool.and_eq_true]at hp; exact hp.2))
  rw[hc]; exact Dv.int _
 have ZG:mF n fixed l≤8:=Nat.le_trans pN Nx
 have xS:aO (ω:=Int×Int×Int×Int) (fun ((i3,i4,i5,i6):Int×Int×Int×Int)=>
    bif decide (i3<(↑(cf.mk n fixed rates).Net.af.length:Int)) then
     bif decide (0≤i3) then
      ((cf.mk n fixed rates).Net.af[i3.toNat]?).bind fun l7=>
      (aa.bM l7 l).bind fun b8=>
      bif b8 then
       bif decide (0≤i3) then
        ((cf.mk n fixed rates).CV[i3.toNat]?).bind fun b9=>
        bif !b9 then
         some (Sum.inl (IntKind.i64.wrap (i3+1),IntKind.i64.wrap (i4+1),i5,i6))
        else
         bif decide (0≤i3) then
          ((cf.mk n fixed rates).CW[i3.toNat]?).bind fun CX=>
          (aa.nG (ak.mk i5 i6) CX).bind fun (Ms,i12)=>
          some (Sum.inl (IntKind.i64.wrap (i3+1),i4,Ms.du,Ms.Den))
         else
          none
       else
        none
      else
       some (Sum.inl (IntKind.i64.wrap (i3+1),i4,i5,i6))
     else
      none
    else
     some (Sum.inr (i3,i4,i5,i6))) (0,0,n.ay[l],1)=some ((n.af.length:Int),((mF n fixed l:Nat):Int),((bW n).c l-sF n fixed x l).num,(((bW n).c l-sF n fixed x l).den:Int)):=by
  refine dE (fun i=>((i:Int),((ct (fun i=>nN n l i&&!jq fixed i) i:Nat):Int),((bW n).c l-sm (fun i=>nN n l i&&jq fixed i) x i).num,((((bW n).c l-sm (fun i=>nN n l i&&jq fixed i) x i).den:Nat):Int))) n.af.length _ (fun i hi=>?_) (bF (eW _) rfl) ?_
  ·refine bT (ek hi) (bT (bE i) (bB (get_at hi) (bB (hv.on hi) ?_)))
   rw[fS (by omega)]
   have UX:=pN (p:=fun i=>nN n l i&&!jq fixed i) (n:=i)
   cases pw:nN n l i with
   |false=>
    refine bF rfl ?_
    simp only[ct,sm,pw,Bool.false_and,cond_false,Nat.add_zero]
    have:(bW n).c l-(sm (fun i=>nN n l i&&jq fixed i) x i+0)=(bW n).c l-sm (fun i=>nN n l i&&jq fixed i) x i:=by grind
    rw[this]
   |true=>
    refine bT rfl (bT (bE i) (bB (v:=jq fixed i) (by rw[Int.toNat_natCast]; exact HV i hi) ?_))
    cases hf:jq fixed i with
    |false=>
     refine bT rfl ?_
     rw[fS (by omega)]
     simp only[ct,sm,pw,hf,Bool.true_and,Bool.not_false,cond_true,cond_false]
     have:(bW n).c l-(sm (fun i=>nN n l i&&jq fixed i) x i+0)=(bW n).c l-sm (fun i=>nN n l i&&jq fixed i) x i:=by grind
     rw[this]
    |true=>
     have IP:fixed[i]?=some true:=by rw[HV i hi,hf]
     have ta:=sub_eq (KF i (by omega)) (hx i hi hf)
     have Sp:(bW n).c l-sm (fun i=>nN n l i&&jq fixed i) x i-x i=(bW n).c l-sm (fun i=>nN n l i&&jq fixed i) x (i+1):=by
      simp only[sm,pw,hf,Bool.and_self,cond_true]; grind
     rw[Sp,if_pos (KF (i+1) (by omega))]at ta
     refine bF rfl (bT (bE i) (bB (v:=kQ (x i)) (by rw[Int.toNat_natCast]; exact h.r i hi IP) (bB ta ?_)))
     simp only[ct,pw,hf,Bool.true_and,Bool.not_true,cond_false,Nat.add_zero]
     rfl
  ·have:(bW n).c l-sm (fun i=>nN n l i&&jq fixed i) x 0=(n.ay[l]:Rat):=by rw[←hc]; simp only[sm]; grind
   rw[this]; rfl
 by_cases hm:mF n fixed l=0
 ·refine⟨(bW n).c l-sF n fixed x l,?_,fun h=>absurd hm h⟩
  unfold aa.ck
  refine bT (bE l) (bB TX (bB (v:=⟨n.ay[l],1⟩) rfl (bB xS (bT (by rw[hm]; rfl) ?_))))
  rw[hm]; rfl
 ·have uj:1≤mF n fixed l:=by omega
  have VC:((mF n fixed l:Nat):Rat)≠0:=fun e=>hm (by exact_mod_cast e)
  have Si:(0:Rat)<((mF n fixed l:Nat):Rat):=by exact_mod_cast uj
  have hq:((bW n).c l-sF n fixed x l)/((mF n fixed l:Nat):Rat)*((mF n fixed l:Nat):Rat)=(bW n).c l-sF n fixed x l:=by
   rw[Rat.div_def,Rat.mul_assoc,Rat.inv_mul_cancel _ VC,Rat.mul_one]
  have VD:0≤((bW n).c l-sF n fixed x l)/((mF n fixed l:Nat):Rat):=by
   apply Rat.le_of_mul_le_mul_right (c:=((mF n fixed l:Nat):Rat)) _ Si
   rw[hq,Rat.zero_mul]; exact ZE
  have gK:((bW n).c l-sF n fixed x l)/((mF n fixed l:Nat):Rat)≤1000:=by
   apply Rat.le_of_mul_le_mul_right (c:=((mF n fixed l:Nat):Rat)) _ Si
   rw[hq]
   have:(1:Rat)≤((mF n fixed l:Nat):Rat):=by exact_mod_cast uj
   grind
  have ZH:P*mF n fixed l≤1000:=Nat.le_trans (Nat.mul_le_mul hP ZG) (by omega)
  have iP:=(Bi (Nat.mul_pos PW uj) ZH (Dv.part ZF hq) VD gK).1
  have VE:ig ((bW n).c l-sF n fixed x l):=KF n.af.length (Nat.le_refl _)
  have hdiv:=div_eq VE uj (by omega)
  rw[if_pos iP]at hdiv
  refine⟨_,?_,fun _=>⟨hq,iP⟩⟩
  unfold aa.ck
  refine bT (bE l) (bB TX (bB (v:=⟨n.ay[l],1⟩) rfl (bB xS (bF (by show (((mF n fixed l:Nat):Int)==0)=false; rw[beq_eq_false_iff_ne]; omega) (bB (v:=⟨((mF n fixed l:Nat):Int),1⟩) rfl (bB hdiv ?_))))))
  rw[decide_eq_true hm]
theorem vS(hv:VN n)(h:mf n rates fixed x lo P){i:Nat}(hi:i<n.af.length):
  aa.cz (i:Int) (cf.mk n fixed rates)=some (kQ ((bW n).k i),(bW n).has i&&!jq fixed i):=by
 obtain⟨k,hk,e1,e2,k0,k1⟩:=hv.ma hi
 have Hi:n.aC[(i:Int).toNat]?=some k:=by rw[Int.toNat_natCast]; exact hk
 unfold aa.cz
 refine bT (bE i) (bB Hi (bB (v:=⟨k,1⟩) rfl (bT (bE i) (bB Hi ?_))))
 rw[e1,e2]
 by_cases hp:0<k
 ·have:i<fixed.length:=by rw[h.nf]; exact hi
  refine bT (decide_eq_true hp) (bT (bE i) (bB (v:=jq fixed i) (by rw[Int.toNat_natCast]; unfold jq; rw[List.getElem?_eq_getElem this]; rfl) ?_))
  rw[decide_eq_true hp]; rfl
 ·rw[decide_eq_false hp]
  exact bF rfl rfl
theorem Fk(hv:VN n)(l:Nat){i:Nat}(hi:i<n.af.length):aa.fG (l:Int) (cf.mk n fixed rates) (i:Int)=some (nN n l i):=by
 unfold aa.fG
 exact bT (bE i) (bB (get_at hi) (bB (hv.on hi) rfl))
end
end Go.Proofs.Ytedjbjphpnkpoaa
end
section
/- Plain facts of this seat: what Share returns. -/
set_option maxRecDepth 100000
set_option maxHeartbeats 1000000
namespace Go.Proofs.Ytedjbjphpnkpoaa
open Go.PI Go.Pl Go.Mm
section
variable {γ:Type}{Q:γ→Prop}
theorem Sq{c:Bool}{x y:Option γ}(hc:c=true)(hx:∃ r,x=some r∧Q r):∃ r,(bif c then x else y)=some r∧Q r:=by subst hc; exact hx
theorem VF{c:Bool}{x y:Option γ}(hc:c=false)(hy:∃ r,y=some r∧Q r):∃ r,(bif c then x else y)=some r∧Q r:=by subst hc; exact hy
theorem Ny{β:Type}{e:Option β}{v:β}{K:β→Option γ}(he:e=some v)(hk:∃ r,K v=some r∧Q r):∃ r,e.bind K=some r∧Q r:=by subst he; exact hk
theorem HW{τ ω:Type}{f:τ→Option (τ ⊕ ω)}(I:τ→Prop)(μ:τ→Nat)(P:ω→Prop)(h:∀ s,I s→(∃ s',f s=some (.inl s')∧I s'∧μ s'<μ s)∨(∃ w,f s=some (.inr w)∧P w)):
  ∀ s,I s→∃ w,aO f s=some w∧P w:=by
 have key:∀ m s,μ s<m→I s→∃ w,aO f s=some w∧P w:=by
  intro m
  induction m with
  |zero=>intro s hs; omega
  |succ m ih=>
   intro s hs hI
   rcases h s hI with ⟨s',h1,h2,h3⟩|⟨w,h1,h2⟩
   ·obtain⟨w,h4,h5⟩:=ih s' (by omega) h2
    exact⟨w,by rw[next h1,h4],h5⟩
   ·exact⟨w,out h1,h2⟩
 exact fun s hs=>key (μ s+1) s (Nat.lt_succ_self _) hs
theorem Nz{τ ω:Type}{f:τ→Option (τ ⊕ ω)}{x0:τ}{K:ω→Option γ}(I:τ→Prop)(μ:τ→Nat)(P:ω→Prop)(h:∀ s,I s→(∃ s',f s=some (.inl s')∧I s'∧μ s'<μ s)∨(∃ w,f s=some (.inr w)∧P w))(h0:I x0)
  (hk:∀ w,P w→∃ r,K w=some r∧Q r):∃ r,(aO f x0).bind K=some r∧Q r:=by
 obtain⟨w,h1,h2⟩:=HW I μ P h x0 h0
 exact Ny h1 (hk w h2)
end
/-! ### Stops -/
def iE(i:Nat):dP:=⟨true,(i:Int)⟩
def rT(i:Nat):dP:=⟨false,(i:Int)⟩
def pP(n:bJ):List dP:=(List.range n.ay.length).map iE++(List.range n.af.length).map rT
theorem CY{n:bJ}{s:dP}(h:s∈pP n):(∃ l,l<n.ay.length∧s=iE l)∨∃ i,i<n.af.length∧s=rT i:=by
 unfold pP at h
 simp only[List.mem_append,List.mem_map,List.mem_range]at h
 rcases h with ⟨l,h1,h2⟩|⟨l,h1,h2⟩
 ·exact .inl ⟨l,h1,h2.symm⟩
 ·exact .inr ⟨l,h1,h2.symm⟩
theorem CZ(n:bJ):(pP n).length=n.ay.length+n.af.length:=by simp[pP]
section
variable {n:bJ}{rates:List ak}{fixed:List Bool}{x:Nat→Rat}{lo:Rat}{P:Nat}
noncomputable def lvl(n:bJ)(rates:List ak)(fixed:List Bool)(s:dP):Option (ak×Bool):=
 bif s.A then aa.ck s.N (cf.mk n fixed rates) else aa.cz s.N (cf.mk n fixed rates)
noncomputable def act(n:bJ)(rates:List ak)(fixed:List Bool)(s:dP):Bool:=((lvl n rates fixed s).map (·.2)).getD false
noncomputable def lv(n:bJ)(rates:List ak)(fixed:List Bool)(s:dP):ak:=((lvl n rates fixed s).map (·.1)).getD ⟨0,0⟩
noncomputable def rq(n:bJ)(rates:List ak)(fixed:List Bool)(s:dP):Rat:=mkRat (lv n rates fixed s).du (lv n rates fixed s).Den.toNat
theorem C1(q:Rat):mkRat (kQ q).du (kQ q).Den.toNat=q:=by
 show mkRat q.num ((q.den:Int)).toNat=q
 rw[Int.toNat_natCast,Rat.mkRat_self]
theorem P3(hv:VN n)(h:mf n rates fixed x lo P){s:dP}(hs:s∈pP n):lvl n rates fixed s=some (lv n rates fixed s,act n rates fixed s):=by
 have:∃ r,lvl n rates fixed s=some r:=by
  rcases CY hs with ⟨l,hl,rfl⟩|⟨i,hi,rfl⟩
  ·obtain⟨q,hq,_⟩:=xT hv h hl
   exact⟨_,hq⟩
  ·exact⟨_,vS hv h hi⟩
 obtain⟨r,hr⟩:=this
 unfold lv act
 rw[hr]; rfl
theorem uH(hv:VN n)(h:mf n rates fixed x lo P){l:Nat}(hl:l<n.ay.length):act n rates fixed (iE l)=decide (mF n fixed l≠0)∧(mF n fixed l≠0→lv n rates fixed (iE l)=kQ (rq n rates fixed (iE l))∧ig (rq n rates fixed (iE l))∧rq n rates fixed (iE l)*(mF n fixed l:Nat)=(bW n).c l-sF n fixed x l):=by
 obtain⟨q,hq,hf⟩:=xT hv h hl
 have e1:act n rates fixed (iE l)=decide (mF n fixed l≠0):=by unfold act lvl; show ((aa.ck (l:Int) _).map _).getD false=_; rw[hq]; rfl
 have e2:lv n rates fixed (iE l)=kQ q:=by unfold lv lvl; show ((aa.ck (l:Int) _).map _).getD _=_; rw[hq]; rfl
 have e3:rq n rates fixed (iE l)=q:=by unfold rq; rw[e2]; exact C1 q
 refine⟨e1,fun hm=>?_⟩
 rw[e3]
 exact⟨e2,(hf hm).2,(hf hm).1⟩
theorem xU(hv:VN n)(h:mf n rates fixed x lo P){i:Nat}(hi:i<n.af.length):act n rates fixed (rT i)=((bW n).has i&&!jq fixed i)∧lv n rates fixed (rT i)=kQ (rq n rates fixed (rT i))∧ig (rq n rates fixed (rT i))∧rq n rates fixed (rT i)=(bW n).k i:=by
 have hq:=vS hv h hi
 obtain⟨k,_,Pu,_,k0,k1⟩:=hv.ma hi
 have e1:act n rates fixed (rT i)=((bW n).has i&&!jq fixed i):=by unfold act lvl; show ((aa.cz (i:Int) _).map _).getD false=_; rw[hq]; rfl
 have e2:lv n rates fixed (rT i)=kQ ((bW n).k i):=by unfold lv lvl; show ((aa.cz (i:Int) _).map _).getD _=_; rw[hq]; rfl
 have e3:rq n rates fixed (rT i)=(bW n).k i:=by unfold rq; rw[e2]; exact C1 _
 rw[e3]
 exact⟨e1,e2,by rw[Pu]; exact Nw k0 k1,rfl⟩
noncomputable def ep(n:bJ)(rates:List ak)(fixed:List Bool):List dP:=(pP n).filter (act n rates fixed)
theorem gq(hv:VN n)(h:mf n rates fixed x lo P){s:dP}(hs:s∈ep n rates fixed):lv n rates fixed s=kQ (rq n rates fixed s)∧ig (rq n rates fixed s) ∧
  ((∃ l,l<n.ay.length∧s=iE l∧mF n fixed l≠0∧rq n rates fixed s*(mF n fixed l:Nat)=(bW n).c l-sF n fixed x l)∨∃ i,i<n.af.length∧s=rT i∧(bW n).has i=true∧jq fixed i=false∧rq n rates fixed s=(bW n).k i):=by
 unfold ep at hs
 obtain⟨h1,h2⟩:=List.mem_filter.1 hs
 rcases CY h1 with ⟨l,hl,rfl⟩|⟨i,hi,rfl⟩
 ·obtain⟨g1,g2⟩:=uH hv h hl
  rw[g1]at h2
  have hm:=of_decide_eq_true h2
  obtain⟨g3,g4,g5⟩:=g2 hm
  exact⟨g3,g4,.inl ⟨l,hl,rfl,hm,g5⟩⟩
 ·obtain⟨g1,g2,g3,g4⟩:=xU hv h hi
  rw[g1]at h2
  simp only[Bool.and_eq_true,Bool.not_eq_true']at h2
  exact⟨g2,g3,.inr ⟨i,hi,rfl,h2.1,h2.2,g4⟩⟩
theorem z9(hv:VN n)(h:mf n rates fixed x lo P){l:Nat}(hl:l<n.ay.length)(hm:mF n fixed l≠0):iE l∈ep n rates fixed:=by
 refine List.mem_filter.2 ⟨?_,by rw[(uH hv h hl).1]; exact decide_eq_true hm⟩
 unfold pP
 exact List.mem_append_left _ (List.mem_map.2 ⟨l,List.mem_range.2 hl,rfl⟩)
theorem KG(hv:VN n)(h:mf n rates fixed x lo P){i:Nat}(hi:i<n.af.length)(h1:(bW n).has i=true)(h2:jq fixed i=false):rT i∈ep n rates fixed:=by
 refine List.mem_filter.2 ⟨?_,by rw[(xU hv h hi).1,h1,h2]; rfl⟩
 unfold pP
 exact List.mem_append_right _ (List.mem_map.2 ⟨i,List.mem_range.2 hi,rfl⟩)
def BR(m:Rat)(l:List Rat):Rat:=l.foldl (fun m q=>if q<m then q else m) m
theorem P4(l:List Rat):∀ m,BR m l≤m∧∀ q∈l,BR m l≤q:=by
 induction l with
 |nil=>intro m; exact⟨Rat.le_refl,fun q hq=>by cases hq⟩
 |cons a l ih=>
  intro m
  have h:=ih (if a<m then a else m)
  show BR (if a<m then a else m) l≤m∧∀ q∈a::l,BR (if a<m then a else m) l≤q
  have h1:(if a<m then a else m)≤m∧(if a<m then a else m)≤a:=by split<;>constructor<;>grind
  refine⟨Rat.le_trans h.1 h1.1,fun q hq=>?_⟩
  rcases List.mem_cons.1 hq with rfl|hq
  ·exact Rat.le_trans h.1 h1.2
  ·exact h.2 q hq
theorem GK(l:List Rat):∀ m,BR m l=m∨BR m l∈l:=by
 induction l with
 |nil=>intro m; exact .inl rfl
 |cons a l ih=>
  intro m
  show BR (if a<m then a else m) l=m∨BR (if a<m then a else m) l∈a::l
  rcases ih (if a<m then a else m) with h|h
  ·rw[h]
   split
   ·exact .inr (by simp)
   ·exact .inl rfl
  ·exact .inr (List.mem_cons_of_mem _ h)
def dQ{γ:Type}(l:List γ)(is:List Nat)(v:γ):List γ:=is.foldl (fun l i=>l.set i v) l
theorem dK{γ:Type}(is:List Nat)(v:γ):∀ l:List γ,(dQ l is v).length=l.length:=by
 induction is with
 |nil=>intro l; rfl
 |cons i is ih=>intro l; show (dQ (l.set i v) is v).length=_; rw[ih,List.length_set]
theorem rU{γ:Type}(is:List Nat)(v:γ):∀ (l:List γ) (j:Nat),j<l.length→(dQ l is v)[j]?=if j∈is then some v else l[j]?:=by
 induction is with
 |nil=>intro l j hj; simp[dQ]
 |cons i is ih=>
  intro l j hj
  show (dQ (l.set i v) is v)[j]?=_
  rw[ih _ _ (by rw[List.length_set]; exact hj)]
  by_cases h1:j∈is
  ·rw[if_pos h1,if_pos (List.mem_cons_of_mem _ h1)]
  ·rw[if_neg h1]
   by_cases h2:j=i
   ·subst h2
    rw[if_pos (by simp),List.getElem?_set_self hj]
   ·rw[if_neg (by simp[h1,h2]),List.getElem?_set_ne (fun e=>h2 e.symm)]
theorem vT{γ:Type}(l:List γ)(is:List Nat)(v:γ){t:Nat}(ht:t<is.length):dQ l (is.take (t+1)) v=(dQ l (is.take t) v).set is[t] v:=by
 unfold dQ
 rw[List.take_succ_eq_append_getElem ht,List.foldl_append]; rfl
end
end Go.Proofs.Ytedjbjphpnkpoaa
end
section
/- Plain facts of this seat: a step of Share, and Share. -/
set_option maxRecDepth 100000
set_option maxHeartbeats 2000000
namespace Go.Proofs.Ytedjbjphpnkpoaa
open Go.PI Go.Pl Go.Mm
theorem hJ{m k:Nat}(h:m≤100000)(hk:k≤64):(decide (m*k≤2^44)&&decide (m≤2^44))=true:=by
 have:m*k≤100000*64:=Nat.mul_le_mul h hk
 simp only[Bool.and_eq_true,decide_eq_true_eq]
 omega
theorem tx(q r:Rat):((kQ q).du==r.num&&(kQ q).Den==(r.den:Int))=decide (q=r):=by
 rw[Bool.eq_iff_iff]
 simp only[kQ,Bool.and_eq_true,beq_iff_eq,decide_eq_true_eq]
 constructor
 ·rintro⟨h1,h2⟩; exact Rat.ext h1 (by omega)
 ·rintro rfl; exact⟨rfl,rfl⟩
def KH(n:bJ)(s:dP)(i:Nat):Bool:=bif s.A then nN n s.N.toNat i else s.N==(i:Int)
noncomputable def IW(n:bJ)(fixed:List Bool)(low:Rat)(r:Rat)(s:dP)(i:Nat):Bool:=decide (r=low)&&(!jq fixed i&&KH n s i)
noncomputable def Bj(n:bJ)(rates:List ak)(fixed:List Bool)(low:Rat)(s:dP)(m:Nat):List Nat:=(List.range m).filter (IW n fixed low (rq n rates fixed s) s)
noncomputable def ij(n:bJ)(rates:List ak)(fixed:List Bool)(low:Rat):List Nat:=(ep n rates fixed).flatMap fun s=>Bj n rates fixed low s n.af.length
theorem rV{γ:Type}(p:γ→Bool)(l:List γ):(l.filter p).length≤l.length:=List.length_filter_le _ _
theorem xV{γ δ:Type}{f:γ→List δ}{b:Nat}:∀ {l:List γ},(∀ x∈l,(f x).length≤b)→(l.flatMap f).length≤l.length*b
 |[],_=>by simp
 |x::l,h=>by
  have h1:=xV (l:=l) fun y hy=>h y (List.mem_cons_of_mem _ hy)
  have h2:=h x (by simp)
  simp only[List.flatMap_cons,List.length_append,List.length_cons,Nat.succ_mul]
  omega
section
variable {n:bJ}{rates:List ak}{fixed:List Bool}{x:Nat→Rat}{lo:Rat}{P:Nat}
theorem KI(hv:VN n):(ep n rates fixed).length≤16:=by
 have h1:=rV (act n rates fixed) (pP n)
 have h2:=CZ n
 have:=hv.nc; have:=hv.nf
 unfold ep; omega
theorem uI{γ:Type}{p:γ→Bool}{l:List γ}{i:Nat}(h:i<l.length):(l.take (i+1)).filter p=(l.take i).filter p++bif p l[i] then [l[i]] else []:=by
 rw[List.take_succ_eq_append_getElem h,List.filter_append]
 cases hp:p l[i]<;>simp[hp]
theorem tz{p:Nat→Bool}{i:Nat}:(List.range (i+1)).filter p=(List.range i).filter p++bif p i then [i] else []:=by
 rw[List.range_succ,List.filter_append]
 cases hp:p i<;>simp[hp]
abbrev Fl(n:bJ)(fixed:List Bool):Nat:=ct (fun i=>!jq fixed i) n.af.length
noncomputable def cA(n:bJ)(rates:List ak)(fixed:List Bool):Rat:=match ep n rates fixed with
 |[]=>0
 |s::l=>BR (rq n rates fixed s) ((s::l).map (rq n rates fixed))
theorem GL(hv:VN n)(h:mf n rates fixed x lo P)(hm:false∈fixed):∃ s l,ep n rates fixed=s::l:=by
 obtain⟨i,hi,he⟩:=List.getElem_of_mem hm
 have ua:i<n.af.length:=by rw[←h.nf]; exact hi
 have hf:jq fixed i=false:=by unfold jq; rw[List.getElem?_eq_getElem hi,he]; rfl
 obtain⟨l,hl,pw⟩:=hv.ex ua
 have Mt:mF n fixed l≠0:=by
  have:=rS (p:=fun i=>nN n l i&&!jq fixed i) ua (by simp[pw,hf])
  unfold mF; omega
 have:=z9 hv h hl Mt
 cases ha:ep n rates fixed with
 |nil=>rw[ha]at this; cases this
 |cons s l=>exact⟨s,l,rfl⟩
theorem C2(hv:VN n)(h:mf n rates fixed x lo P)(hm:false∈fixed):(∃ s∈ep n rates fixed,rq n rates fixed s=cA n rates fixed)∧∀ s∈ep n rates fixed,cA n rates fixed≤rq n rates fixed s:=by
 obtain⟨s,l,ha⟩:=GL hv h hm
 unfold cA
 rw[ha]
 simp only
 have h1:=P4 ((s::l).map (rq n rates fixed)) (rq n rates fixed s)
 refine⟨?_,fun t ht=>h1.2 _ (List.mem_map.2 ⟨t,ht,rfl⟩)⟩
 rcases GK ((s::l).map (rq n rates fixed)) (rq n rates fixed s) with h2|h2
 ·exact⟨s,by simp,h2.symm⟩
 ·obtain⟨t,ht,e⟩:=List.mem_map.1 h2
  exact⟨t,ht,e⟩
theorem NA(hv:VN n)(h:mf n rates fixed x lo P)(hm:false∈fixed):ig (cA n rates fixed):=by
 obtain⟨⟨s,hs,e⟩,_⟩:=C2 hv h hm
 rw[←e]; exact(gq hv h hs).2.1
theorem qx{i:Nat}{low:Rat}:i∈ij n rates fixed low↔∃ s∈ep n rates fixed,i<n.af.length∧rq n rates fixed s=low∧jq fixed i=false∧KH n s i=true:=by
 unfold ij Bj IW
 simp only[List.mem_flatMap,List.mem_filter,List.mem_range,Bool.and_eq_true,decide_eq_true_eq,Bool.not_eq_true']
theorem NB(hv:VN n)(h:mf n rates fixed x lo P)(hm:false∈fixed):XW (bW n) (jq fixed) x (cA n rates fixed) (fun i=>decide (i∈ij n rates fixed (cA n rates fixed))):=by
 obtain⟨⟨s0,Ed,e0⟩,uo⟩:=C2 hv h hm
 have lk:∀ l,l<n.ay.length→mF n fixed l≠0→cA n rates fixed≤rq n rates fixed (iE l)∧rq n rates fixed (iE l)*(mF n fixed l:Nat)=(bW n).c l-sF n fixed x l:=fun l hl Mt=>
  ⟨uo _ (z9 hv h hl Mt),((uH hv h hl).2 Mt).2.2⟩
 refine⟨fun i hi hw=>?_,fun l hl=>?_,fun i hi hf hh=>?_,fun i hi hw=>?_,?_⟩
 ·obtain⟨s,_,_,_,h3,_⟩:=qx.1 (of_decide_eq_true hw)
  exact h3
 ·show cA n rates fixed*((mF n fixed l:Nat):Rat)≤(bW n).c l-sF n fixed x l
  by_cases Mt:mF n fixed l=0
  ·rw[Mt]
   have:sF n fixed x l≤(bW n).c l:=h.inv.cap l hl
   have e:cA n rates fixed*((0:Nat):Rat)=0:=by
    have:((0:Nat):Rat)=0:=rfl
    rw[this,Rat.mul_zero]
   rw[e]; grind
  ·obtain⟨g1,g2⟩:=lk l hl Mt
   rw[←g2]
   exact Rat.mul_le_mul_of_nonneg_right g1 (by exact_mod_cast Nat.zero_le _)
 ·have:=uo _ (KG hv h hi hh hf)
  rw[(xU hv h hi).2.2.2]at this
  exact this
 ·obtain⟨s,hs,_,hq,hf,gJ⟩:=qx.1 (of_decide_eq_true hw)
  obtain⟨_,_,⟨l,hl,rfl,Mt,P5⟩|⟨j,hj,rfl,hh,_,hk⟩⟩:=gq hv h hs
  ·have pw:nN n l i=true:=by simpa[KH,iE] using gJ
   rw[hq]at P5
   refine .inr ⟨l,hl,pw,P5,fun j hj HT P6=>decide_eq_true (qx.2 ⟨_,hs,hj,hq,P6,by have VG:nN n l j=true:=HT; simpa[KH,iE] using VG⟩)⟩
  ·have Mj:j=i:=by simp only[KH,rT,cond_false,beq_iff_eq]at gJ; omega
   subst Mj
   exact .inl ⟨hh,by rw[←hq,hk]⟩
 ·obtain⟨_,_,⟨l,hl,rfl,Mt,P5⟩|⟨j,hj,rfl,hh,hf,hk⟩⟩:=gq hv h Ed
  ·obtain⟨i,hi,hp⟩:=Kt (p:=fun i=>nN n l i&&!jq fixed i) (n:=n.af.length) (by unfold mF at Mt; omega)
   simp only[Bool.and_eq_true,Bool.not_eq_true']at hp
   exact⟨i,hi,decide_eq_true (qx.2 ⟨_,Ed,hi,e0,hp.2,by simpa[KH,iE] using hp.1⟩)⟩
  ·exact⟨j,hj,decide_eq_true (qx.2 ⟨_,Ed,hj,e0,hf,by simp[KH,rT]⟩)⟩
theorem KJ{low:Rat}{i:Nat}(h:i∈ij n rates fixed low):i<n.af.length:=by
 obtain⟨_,_,h1,_⟩:=qx.1 h; exact h1
theorem NC(hv:VN n)(h:mf n rates fixed x lo P)(hm:false∈fixed):∃ x' P',mf n (dQ rates (ij n rates fixed (cA n rates fixed)) (kQ (cA n rates fixed))) (dQ fixed (ij n rates fixed (cA n rates fixed)) true) x' (cA n rates fixed) P' ∧
  Fl n (dQ fixed (ij n rates fixed (cA n rates fixed)) true)<Fl n fixed:=by
 have g:=NB hv h hm
 have Vx:∀ l,l<(bW n).L→Dv 1 ((bW n).c l):=fun l hl=>by rw[(hv.cap hl).1]; exact Dv.int _
 have Hi:∀ i,i<(bW n).F→Dv 1 ((bW n).k i):=fun i hi=>by obtain⟨k,_,e,_⟩:=hv.ma hi; rw[e]; exact Dv.int _
 obtain⟨P',hI⟩:=HS (N:=bW n) hv.nf Vx Hi h.inv g
 have X1:(fun i=>jq (dQ fixed (ij n rates fixed (cA n rates fixed)) true) i)=fun i=>jq fixed i||decide (i∈ij n rates fixed (cA n rates fixed)):=by
  funext i
  by_cases hi:i<fixed.length
  ·unfold jq
   rw[rU _ _ _ _ hi]
   by_cases hw:i∈ij n rates fixed (cA n rates fixed)
   ·rw[if_pos hw,decide_eq_true hw,Bool.or_true]; rfl
   ·rw[if_neg hw,decide_eq_false hw,Bool.or_false]
  ·have h1:i∉ij n rates fixed (cA n rates fixed):=fun hw=>hi (by rw[h.nf]; exact KJ hw)
   rw[decide_eq_false h1,Bool.or_false]
   unfold jq
   have e1:(dQ fixed (ij n rates fixed (cA n rates fixed)) true)[i]?=none:=List.getElem?_eq_none (by rw[dK]; omega)
   have e2:fixed[i]?=none:=List.getElem?_eq_none (by omega)
   rw[e1,e2]
 refine⟨_,P',⟨by rw[dK]; exact h.nr,by rw[dK]; exact h.nf,fun i hi hf=>?_,by rw[X1]; exact hI⟩,?_⟩
 ·rw[rU _ _ _ _ (by rw[h.nr]; exact hi)]
  rw[rU _ _ _ _ (by rw[h.nf]; exact hi)]at hf
  by_cases hw:i∈ij n rates fixed (cA n rates fixed)
  ·simp[hw]
  ·simp only[hw,if_false]at hf ⊢
   simp only[decide_false,Bool.false_eq_true,if_false]
   exact h.r i hi hf
 ·show ct (fun i=>!jq (dQ fixed _ true) i) n.af.length<_
  have e:(fun i=>!jq (dQ fixed (ij n rates fixed (cA n rates fixed)) true) i)=fun i=>!(jq fixed i||decide (i∈ij n rates fixed (cA n rates fixed))):=by
   funext i; rw[show jq (dQ fixed _ true) i=_ from congrFun X1 i]
  rw[e]
  obtain⟨i,hi,hw⟩:=g.some
  have Ry:=tu (p:=fun i=>!jq fixed i) (q:=fun i=>decide (i∈ij n rates fixed (cA n rates fixed))) (n:=n.af.length)
  have hp:=rS (p:=fun i=>!jq fixed i&&decide (i∈ij n rates fixed (cA n rates fixed))) (n:=n.af.length) hi (by rw[g.sub i hi hw,hw]; rfl)
  have e2:ct (fun i=>!(jq fixed i||decide (i∈ij n rates fixed (cA n rates fixed)))) n.af.length=ct (fun i=>!jq fixed i&&!decide (i∈ij n rates fixed (cA n rates fixed))) n.af.length:=nE fun j _=>by cases jq fixed j<;>rfl
  show _<ct (fun i=>!jq fixed i) n.af.length
  rw[e2]; omega
end
end Go.Proofs.Ytedjbjphpnkpoaa
end
section
/- Plain facts of this seat: Share returns the fair rates. -/
set_option maxRecDepth 100000
set_option maxHeartbeats 4000000
namespace Go.Proofs.Ytedjbjphpnkpoaa
open Go.PI Go.Pl Go.Mm
theorem ND{γ:Type}{l:List γ}{i:Nat}(h:i<l.length):l[0+(i:Int).toNat]?=some l[i]:=by
 rw[Nat.zero_add,Int.toNat_natCast]; exact List.getElem?_eq_getElem h
theorem Mu{i m:Nat}(h:i<m):decide ((i:Int).toNat<m)=true:=decide_eq_true (by rw[Int.toNat_natCast]; exact h)
theorem KL(m:Rat)(l:List Rat)(q:Rat):BR m (l++[q])=if q<BR m l then q else BR m l:=by
 unfold BR; rw[List.foldl_append]; rfl
theorem KM{n:bJ}(hb:vN n=true):∃ r,aa.bG n=some r∧r.2=0∧∃ x lo P,mf n r.1 (List.replicate n.af.length true) x lo P:=by
 have hv:=KE hb
 have Nx:=hv.nf
 have Ui:=hv.nc
 have HV:∀ l∈n.af,l.length≤2^62:=fun l hl=>hv.Sl hl
 have eN:((n.af.length:Int)).toNat=n.af.length:=Int.toNat_natCast _
 unfold aa.bG
 refine Ny (Nt HV) (VF (by rw[hb]; rfl) (Sq (by rw[eN]; simp only[Bool.and_eq_true,decide_eq_true_eq]; omega) (Sq (by rw[eN]; simp only[Bool.and_eq_true,decide_eq_true_eq]; omega) ?_)))
 refine Ny (v:=((n.ay.length:Int),(List.range n.ay.length).map iE)) (dE (fun i=>((i:Int),(List.range i).map iE)) n.ay.length _ (fun i hi=>?_) (bF (eW _) rfl) rfl) ?_
 ·refine bT (ek hi) (bT (by rw[List.length_map,List.length_range]; exact hJ (by omega) (by omega)) ?_)
  rw[fS (by omega),List.range_succ,List.map_append]; rfl
 refine Ny (v:=((n.aC.length:Int),pP n)) (dE (fun i=>((i:Int),(List.range n.ay.length).map iE++(List.range i).map rT)) n.aC.length _ (fun i hi=>?_) (bF (eW _) (by rw[hv.nl]; rfl)) (by simp)) ?_
 ·have:=hv.nl
  refine bT (ek hi) (bT (by simp only[List.length_append,List.length_map,List.length_range]; exact hJ (by omega) (by omega)) ?_)
  rw[fS (by omega),List.range_succ,List.map_append,List.append_assoc]; rfl
 refine Nz (fun s=>∃ x lo P,mf n s.1 s.2 x lo P) (fun s=>Fl n s.2) (fun w=>(∃ x lo P,mf n w.1 w.2 x lo P)∧false∉w.2) ?_ ?_ ?_
 ·rintro⟨rates,fixed⟩ ⟨x,lo,P,h⟩
  have Sr:rates.length=n.af.length:=h.nr
  have Ss:fixed.length=n.af.length:=h.nf
  have h':mf n rates fixed x lo P:=h
  have hc:=KD (l:=fixed) (by omega) false
  have er:decide (rates.length=(List.replicate ((n.af.length:Int)).toNat (ak.mk 0 0)).length)=true:=decide_eq_true (by rw[List.length_replicate,eN]; exact Sr)
  have ef:decide (fixed.length=(List.replicate ((n.af.length:Int)).toNat false).length)=true:=decide_eq_true (by rw[List.length_replicate,eN]; exact Ss)
  by_cases hm:false∈fixed
  ·obtain⟨x',P',hS,cd⟩:=NC hv h' hm
   refine .inl ⟨(_,_),?_,⟨x',_,P',hS⟩,cd⟩
   obtain⟨s0,rest,ha⟩:=GL hv h' hm
   have ZI:=NA hv h' hm
   have VH:=KI (n:=n) (rates:=rates) (fixed:=fixed) hv
   have bf:=CZ n
   refine bB hc (bT (decide_eq_true hm) ?_)
   refine bB (v:=(((pP n).length:Int),(ep n rates fixed).map (lv n rates fixed),ep n rates fixed)) (dE (fun i=>((i:Int),(((pP n).take i).filter (act n rates fixed)).map (lv n rates fixed),((pP n).take i).filter (act n rates fixed))) (pP n).length _ (fun i hi=>?_) (bF (eW _) (by simp only[List.take_length]; rfl)) rfl) ?_
   ·have hl:=P3 hv h' (List.getElem_mem hi)
    have Ud:=uI (p:=act n rates fixed) hi
    have ZJ:=rV (act n rates fixed) ((pP n).take i)
    have xL:((pP n).take i).length≤16:=by rw[List.length_take]; omega
    refine bT (ek hi) (bT (bE i) (bT (Mu hi) (bB (ND hi) ?_)))
    rw[fS (by omega),Ud]
    generalize (pP n)[i]=s at hl
    obtain⟨A,N⟩:=s
    cases A with
    |true=>
     refine bT rfl (bB hl ?_)
     cases act n rates fixed ⟨true,N⟩ with
     |false=>exact bF rfl (by simp)
     |true=>exact bT rfl (bT (by rw[List.length_map]; exact hJ (by omega) (by omega)) (bT (hJ (by omega) (by omega)) (by simp)))
    |false=>
     refine bF rfl (bB hl ?_)
     cases act n rates fixed ⟨false,N⟩ with
     |false=>exact bF rfl (by simp)
     |true=>exact bT rfl (bT (by rw[List.length_map]; exact hJ (by omega) (by omega)) (bT (hJ (by omega) (by omega)) (by simp)))
   have lC:∀ {i:Nat} (hi:i<(ep n rates fixed).length),((ep n rates fixed).map (lv n rates fixed))[0+(i:Int).toNat]?=some (kQ (rq n rates fixed (ep n rates fixed)[i])):=fun {i} hi=>by
    rw[Nat.zero_add,Int.toNat_natCast,List.getElem?_map,List.getElem?_eq_getElem hi,Option.map_some,(gq hv h' (List.getElem_mem hi)).1]
   have Ed:s0∈ep n rates fixed:=by rw[ha]; simp
   have fp:0<(ep n rates fixed).length:=by rw[ha]; simp
   refine bT (decide_eq_true (by rw[List.length_map]; exact fp)) (bB (v:=kQ (rq n rates fixed s0)) (by rw[ha,List.map_cons,List.getElem?_cons_zero,(gq hv h' Ed).1]) ?_)
   have U2:∀ i,ig (BR (rq n rates fixed s0) (((ep n rates fixed).take i).map (rq n rates fixed))):=fun i=>by
    rcases GK (((ep n rates fixed).take i).map (rq n rates fixed)) (rq n rates fixed s0) with e|e
    ·rw[e]; exact(gq hv h' Ed).2.1
    ·obtain⟨t,ht,e⟩:=List.mem_map.1 e
     rw[←e]; exact(gq hv h' (List.mem_of_mem_take ht)).2.1
   refine bB (v:=(((ep n rates fixed).length:Int),(cA n rates fixed).num,((cA n rates fixed).den:Int))) (dE (fun i=>((i:Int),(BR (rq n rates fixed s0) (((ep n rates fixed).take i).map (rq n rates fixed))).num,((BR (rq n rates fixed s0) (((ep n rates fixed).take i).map (rq n rates fixed))).den:Int))) (ep n rates fixed).length _ (fun i hi=>?_) (bF (by rw[List.length_map]; exact eW _) ?_) rfl) ?_
   ·have hf:=gq hv h' (List.getElem_mem hi)
    have Su:=Nr hf.2.1 (U2 i)
    refine bT (by rw[List.length_map]; exact ek hi) (bT (bE i) (bT (by rw[List.length_map]; exact Mu hi) (bB (lC hi) (bB Su ?_))))
    rw[fS (by omega),List.take_succ_eq_append_getElem hi,List.map_append,List.map_cons,List.map_nil,KL]
    by_cases hq:rq n rates fixed (ep n rates fixed)[i]<BR (rq n rates fixed s0) (((ep n rates fixed).take i).map (rq n rates fixed))
    ·rw[if_pos hq]; exact bT (decide_eq_true hq) rfl
    ·rw[if_neg hq]; exact bF (decide_eq_false hq) rfl
   ·rw[List.take_length]
    have:cA n rates fixed=BR (rq n rates fixed s0) ((ep n rates fixed).map (rq n rates fixed)):=by unfold cA; rw[ha]
    rw[this]
   have Uj:∀ s m,(Bj n rates fixed (cA n rates fixed) s m).length≤m:=fun s m=>by
    have:=rV (IW n fixed (cA n rates fixed) (rq n rates fixed s) s) (List.range m)
    rw[List.length_range]at this; exact this
   refine bB (v:=(((ep n rates fixed).length:Int),(ij n rates fixed (cA n rates fixed)).map fun i:Nat=>(i:Int))) (dE (fun k=>((k:Int),(((ep n rates fixed).take k).flatMap fun s=>Bj n rates fixed (cA n rates fixed) s n.af.length).map fun i:Nat=>(i:Int))) (ep n rates fixed).length _ (fun k hk=>?_) (bF (eW _) (by rw[List.take_length]; rfl)) rfl) ?_
   ·refine bT (ek hk) (bT (bE k) (bT (Mu hk) (bB (ND hk) ?_)))
    have VI:=lC hk
    have Sv:((ep n rates fixed).take (k+1)).flatMap (fun s=>Bj n rates fixed (cA n rates fixed) s n.af.length)=((ep n rates fixed).take k).flatMap (fun s=>Bj n rates fixed (cA n rates fixed) s n.af.length)++Bj n rates fixed (cA n rates fixed) (ep n rates fixed)[k] n.af.length:=by
     rw[List.take_succ_eq_append_getElem hk,List.flatMap_append]; simp
    have yO:(((ep n rates fixed).take k).flatMap fun s=>Bj n rates fixed (cA n rates fixed) s n.af.length).length≤128:=by
     have h1:=xV (l:=(ep n rates fixed).take k) (f:=fun s=>Bj n rates fixed (cA n rates fixed) s n.af.length) (b:=8) (fun s _=>Nat.le_trans (Uj s _) Nx)
     have h2:((ep n rates fixed).take k).length≤16:=by rw[List.length_take]; omega
     omega
    rw[Sv,List.map_append]
    have hf:=gq hv h' (List.getElem_mem hk)
    have IQ:∀ j (hj:j<n.af.length),fixed[0+(j:Int).toNat]?=some (jq fixed j):=fun j hj=>by
     rw[Nat.zero_add,Int.toNat_natCast,List.getElem?_eq_getElem (by omega)]
     unfold jq; rw[List.getElem?_eq_getElem (by omega)]; rfl
    generalize Sw:(((ep n rates fixed).take k).flatMap fun s=>Bj n rates fixed (cA n rates fixed) s n.af.length).map (fun i:Nat=>(i:Int))=base
    have ZK:base.length≤128:=by rw[←Sw,List.length_map]; exact yO
    generalize hs:(ep n rates fixed)[k]=s at VI hf
    have dH:∀ j,Bj n rates fixed (cA n rates fixed) s (j+1)=Bj n rates fixed (cA n rates fixed) s j++bif IW n fixed (cA n rates fixed) (rq n rates fixed s) s j then [j] else []:=fun j=>tz
    obtain⟨A,N⟩:=s
    cases A with
    |true=>
     refine bT rfl (bB (v:=((n.af.length:Int),base++(Bj n rates fixed (cA n rates fixed) ⟨true,N⟩ n.af.length).map fun i:Nat=>(i:Int))) (dE (fun j=>((j:Int),base++(Bj n rates fixed (cA n rates fixed) ⟨true,N⟩ j).map fun i:Nat=>(i:Int))) n.af.length _ (fun j hj=>?_) (bF (eW _) rfl) (by simp[Bj])) ?_)
     ·obtain⟨l,hN⟩:∃ l:Nat,N=(l:Int):=by
       rcases hf.2.2 with ⟨l,_,e,_⟩|⟨i,_,e,_⟩
       ·exact⟨l,congrArg dP.N e⟩
       ·cases congrArg dP.A e
      subst hN
      have ZL:=Uj ⟨true,(l:Int)⟩ j
      refine bT (ek hj) (bT (bE k) (bT (by rw[List.length_map]; exact Mu hk) (bB VI ?_)))
      rw[fS (by omega),dH j]
      by_cases hq:rq n rates fixed ⟨true,(l:Int)⟩=cA n rates fixed
      ·refine bT (by rw[tx]; exact decide_eq_true hq) (bT (bE j) (bT (Mu (by omega)) (bB (IQ j hj) ?_)))
       cases P6:jq fixed j with
       |true=>exact bF rfl (by simp[IW,P6])
       |false=>
        refine bT rfl (bB (Fk hv l hj) ?_)
        have gJ:KH n ⟨true,(l:Int)⟩ j=nN n l j:=by simp[KH]
        cases pw:nN n l j with
        |false=>exact bF rfl (by simp[IW,gJ,pw])
        |true=>exact bT rfl (bT (by rw[List.length_append,List.length_map]; exact hJ (by omega) (by omega)) (by simp[IW,gJ,pw,P6,hq]))
      ·exact bF (by rw[tx]; exact decide_eq_false hq) (by simp[IW,hq])
     ·rw[fS (by omega)]
    |false=>
     refine bF rfl (bB (v:=((n.af.length:Int),base++(Bj n rates fixed (cA n rates fixed) ⟨false,N⟩ n.af.length).map fun i:Nat=>(i:Int))) (dE (fun j=>((j:Int),base++(Bj n rates fixed (cA n rates fixed) ⟨false,N⟩ j).map fun i:Nat=>(i:Int))) n.af.length _ (fun j hj=>?_) (bF (eW _) rfl) (by simp[Bj])) ?_)
     ·have ZL:=Uj ⟨false,N⟩ j
      refine bT (ek hj) (bT (bE k) (bT (by rw[List.length_map]; exact Mu hk) (bB VI ?_)))
      rw[fS (by omega),dH j]
      by_cases hq:rq n rates fixed ⟨false,N⟩=cA n rates fixed
      ·refine bT (by rw[tx]; exact decide_eq_true hq) (bT (bE j) (bT (Mu (by omega)) (bB (IQ j hj) ?_)))
       cases P6:jq fixed j with
       |true=>exact bF rfl (by simp[IW,P6])
       |false=>
        refine bT rfl (bB (v:=N==(j:Int)) rfl ?_)
        have gJ:KH n ⟨false,N⟩ j=(N==(j:Int)):=by simp[KH]
        cases pw:(N==(j:Int)) with
        |false=>exact bF rfl (by simp[IW,gJ,pw])
        |true=>exact bT rfl (bT (by rw[List.length_append,List.length_map]; exact hJ (by omega) (by omega)) (by simp[IW,gJ,pw,P6,hq]))
      ·exact bF (by rw[tx]; exact decide_eq_false hq) (by simp[IW,hq])
     ·rw[fS (by omega)]
   have MU:(ij n rates fixed (cA n rates fixed)).length≤128:=by
    have h1:=xV (l:=ep n rates fixed) (f:=fun s=>Bj n rates fixed (cA n rates fixed) s n.af.length) (b:=8) (fun s _=>Nat.le_trans (Uj s _) Nx)
    unfold ij; omega
   refine bB (v:=(((ij n rates fixed (cA n rates fixed)).length:Int),dQ rates (ij n rates fixed (cA n rates fixed)) (kQ (cA n rates fixed)),dQ fixed (ij n rates fixed (cA n rates fixed)) true))
    (dE (fun t=>((t:Int),dQ rates ((ij n rates fixed (cA n rates fixed)).take t) (kQ (cA n rates fixed)),dQ fixed ((ij n rates fixed (cA n rates fixed)).take t) true)) (ij n rates fixed (cA n rates fixed)).length _ (fun t ht=>?_) (bF (by rw[List.length_map]; exact eW _) (bT (decide_eq_true (dK _ _ _)) (bT (decide_eq_true (dK _ _ _)) (by rw[List.take_length])))) rfl) ?_
   ·have cd:=KJ (List.getElem_mem ht)
    have l1:(dQ rates ((ij n rates fixed (cA n rates fixed)).take t) (kQ (cA n rates fixed))).length=n.af.length:=by rw[dK]; exact Sr
    have l2:(dQ fixed ((ij n rates fixed (cA n rates fixed)).take t) true).length=n.af.length:=by rw[dK]; exact Ss
    refine bT (by rw[List.length_map]; exact ek ht) (bT (bE t) (bT (by rw[List.length_map]; exact Mu ht) (bB (v:=((ij n rates fixed (cA n rates fixed))[t]:Int)) (by rw[Nat.zero_add,Int.toNat_natCast,List.getElem?_map,List.getElem?_eq_getElem ht]; rfl) ?_)))
    refine bT (bE _) (bT (Mu (by omega)) (bB (ND (by omega)) (bT (bE _) (bT (Mu (by omega)) (bB (ND (by omega)) ?_)))))
    refine bT (decide_eq_true (by rw[List.length_set]; exact dK _ _ _)) (bT (decide_eq_true (by rw[List.length_set]; exact dK _ _ _)) ?_)
    rw[fS (by omega),vT _ _ _ ht,vT _ _ _ ht,Nat.zero_add,Int.toNat_natCast]; rfl
   exact bT (decide_eq_true (by rw[dK,List.length_replicate,eN]; exact Sr)) (bT (decide_eq_true (by rw[dK,List.length_replicate,eN]; exact Ss)) rfl)
  ·exact .inr ⟨(rates,fixed),bB hc (bF (decide_eq_false hm) (bT er (bT ef rfl))),⟨x,lo,P,h⟩,hm⟩
 ·rw[eN]
  refine⟨fun _=>0,0,1,by simp,by simp,fun i hi hf=>?_,?_⟩
  ·rw[List.getElem?_replicate]at hf; split at hf<;>simp at hf
  ·have:(fun i:Nat=>(List.replicate n.af.length false)[i]?.getD false)=fun _=>false:=by
    funext i
    rw[List.getElem?_replicate]
    split<;>rfl
   show Mm.Inv (bW n) (fun i:Nat=>(List.replicate n.af.length false)[i]?.getD false) _ _ _
   rw[this]
   exact Fi Nx (fun l hl=>by rw[(hv.cap hl).1]; exact_mod_cast (hv.cap hl).2.1) (fun i hi hh=>by obtain⟨k,_,e,_,k0,_⟩:=hv.ma hi; rw[e]; exact_mod_cast k0) _
 ·rintro⟨rates,fixed⟩ ⟨⟨x,lo,P,h⟩,hm⟩
  refine⟨_,rfl,rfl,x,lo,P,?_⟩
  have Ss:fixed.length=n.af.length:=h.nf
  have AP:false∉fixed:=hm
  have:fixed=List.replicate n.af.length true:=by
   rw[List.eq_replicate_iff]
   exact⟨Ss,fun b hb=>by cases b with|true=>rfl|false=>exact absurd hb AP⟩
  have h2:mf n rates fixed x lo P:=h
  rw[this]at h2
  exact h2
end Go.Proofs.Ytedjbjphpnkpoaa
end
section
/- Plain facts of this seat: the fair rates; the law MaxminScale. -/
set_option maxRecDepth 100000
set_option maxHeartbeats 1000000
namespace Go.Proofs.Ytedjbjphpnkpoaa
open Go.PI Go.Pl Go.Mm
structure Sh(n:bJ)(xs:List ak)(x:Nat→Rat):Prop where
 e:aa.bG n=some (xs,0)
 len:xs.length=n.af.length
 fair:Mm.Fair (bW n) x
 get:∀ i,i<n.af.length→xs[i]?=some (kQ (x i))
 nn:∀ i,i<n.af.length→0≤x i∧x i≤1000
 fit:∀ i,i<n.af.length→ig (x i)∧(x i).den≤18
 dv:∃ P:Nat,1≤P∧P≤18∧∀ i,i<n.af.length→Dv P (x i)
theorem xW{n:bJ}(hb:vN n=true):∃ xs x,Sh n xs x:=by
 have hv:=KE hb
 obtain⟨⟨xs,e⟩,h1,h2,x,lo,P,h⟩:=KM hb
 obtain rfl:e=0:=h2
 have h':mf n xs (List.replicate n.af.length true) x lo P:=h
 have bf:∀ i,i<(bW n).F→(fun i:Nat=>(List.replicate n.af.length true)[i]?.getD false) i=true:=fun i hi=>by
  show (List.replicate n.af.length true)[i]?.getD false=true
  rw[List.getElem?_replicate,if_pos (show i<n.af.length from hi)]; rfl
 obtain⟨hf,hd⟩:=Kv h'.inv bf
 have hx:∀ i,i<n.af.length→0≤x i∧x i≤1000:=fun i hi=>by
  obtain⟨l,hl,pw⟩:=hv.ex hi
  obtain⟨hc,_,MH⟩:=hv.cap hl
  have AN:sm (nN n l) x n.af.length≤(bW n).c l:=hf.CR.cap l hl
  have P0:∀ j,j<n.af.length→nN n l j=true→0≤x j:=fun j hj _=>hf.CR.nn j hj
  have h2:=(qw P0 (i:=i+1) (by omega)).2
  have h3:=(qw P0 (i:=i) (by omega)).1
  simp only[sm,pw,cond_true]at h2
  have h4:(bW n).c l≤1000:=by rw[hc]; exact_mod_cast MH
  exact⟨hf.CR.nn i hi,by grind⟩
 refine⟨xs,x,h1,h'.nr,hf,fun i hi=>h'.r i hi (by rw[List.getElem?_replicate,if_pos hi]),hx,fun i hi=>?_,P,h'.inv.P1,h'.PV,fun i hi=>(hd i hi).1⟩
 obtain⟨d1,d2⟩:=hd i hi
 have PW:=h'.inv.P1
 have:=Bi PW (by omega) d1 (hx i hi).1 (hx i hi).2
 exact⟨this.1,by omega⟩
end Go.Proofs.Ytedjbjphpnkpoaa
end
section
/- Plain facts of this seat: the other way round; the law MaxminOrder. -/
set_option maxRecDepth 100000
set_option maxHeartbeats 1000000
namespace Go.Proofs.Ytedjbjphpnkpoaa
open Go.PI Go.Pl Go.Mm
def C3(L:Nat)(l:List Int):List Int:=l.reverse.map fun k=>(L:Int)-1-k
def Fm(n:bJ):bJ:=⟨n.ay.reverse,n.af.reverse.map (C3 n.ay.length),n.aC.reverse⟩
theorem Bk{γ:Type}{l:List γ}{j:Nat}(h:j<l.length):l[((l.length:Int)-1-(j:Int)).toNat]?=some (l.reverse[j]'(by simpa using h)):=by
 have e:((l.length:Int)-1-(j:Int)).toNat=l.length-1-j:=by omega
 rw[e,List.getElem_reverse,List.getElem?_eq_getElem (by omega)]
theorem Bl(L:Nat)(l:List Int):(C3 L l).length=l.length:=by simp[C3]
theorem NF{L:Nat}{l:List Int}{k:Int}:k∈C3 L l↔(L:Int)-1-k∈l:=by
 simp only[C3,List.mem_map,List.mem_reverse]
 constructor
 ·rintro⟨x,hx,rfl⟩
  have:(L:Int)-1-((L:Int)-1-x)=x:=by omega
  rwa [this]
 ·intro h
  exact⟨_,h,by omega⟩
theorem P7{l:List Int}{L:Nat}(h:Bh l L=true):Bh (C3 L l) L=true:=by
 unfold Bh at h ⊢
 rw[Bl]
 simp only[Bool.and_eq_true,List.all_eq_true,List.mem_range]at h ⊢
 refine⟨fun i hi=>?_,h.2⟩
 have lC:∀ k (hk:k<l.length),(C3 L l)[k]?=some ((L:Int)-1-l[l.length-1-k]):=fun k hk=>by
  unfold C3
  rw[List.getElem?_map,List.getElem?_eq_getElem (by simpa using hk),List.getElem_reverse]; rfl
 have h1:=h.1 (l.length-1-i) (by omega)
 unfold pF at h1 ⊢
 rw[lC i hi]
 rw[List.getElem?_eq_getElem (by omega)]at h1
 simp only[Bool.and_eq_true,decide_eq_true_eq]at h1 ⊢
 refine⟨by omega,?_⟩
 by_cases e:i=0
 ·rw[if_pos e]
 ·rw[if_neg e,lC (i-1) (by omega)]
  have h2:=h.1 (l.length-1-(i-1)) (by omega)
  unfold pF at h2
  rw[List.getElem?_eq_getElem (by omega)]at h2
  simp only[Bool.and_eq_true,decide_eq_true_eq]at h2 ⊢
  have h3:=h2.2
  rw[if_neg (by omega)]at h3
  have e2:l.length-1-(i-1)-1=l.length-1-i:=by omega
  rw[e2,List.getElem?_eq_getElem (by omega)]at h3
  simp only[decide_eq_true_eq]at h3
  omega
theorem Sx{n:bJ}(h:vN n=true):vN (Fm n)=true:=by
 unfold vN at h ⊢
 unfold Fm
 simp only[Bool.and_eq_true,decide_eq_true_eq,List.length_reverse,List.length_map,List.all_reverse,List.all_map]at h ⊢
 refine⟨h.1,h.2.1,h.2.2.1,h.2.2.2.1,?_⟩
 have:=h.2.2.2.2
 simp only[List.all_eq_true,Function.comp]at this ⊢
 exact fun l hl=>P7 (this l hl)
theorem P8{p:Nat→Bool}{x:Nat→Rat}:∀ {n:Nat},sm (fun i=>p (n-1-i)) (fun i=>x (n-1-i)) n=sm p x n:=by
 have cut:∀ (m:Nat) (p:Nat→Bool) (x:Nat→Rat),sm p x (m+1)=(bif p 0 then x 0 else 0)+sm (fun i=>p (i+1)) (fun i=>x (i+1)) m:=by
  intro m
  induction m with
  |zero=>intro p x; simp only[sm]; grind
  |succ m ih=>
   intro p x
   have:=ih p x
   simp only[sm]at this ⊢
   rw[this]; grind
 intro n
 induction n generalizing p x with
 |zero=>rfl
 |succ n ih=>
  rw[cut n p x]
  have e:sm (fun i=>p (n+1-1-i)) (fun i=>x (n+1-1-i)) (n+1)=sm (fun i=>p (n-i)) (fun i=>x (n-i)) n+bif p 0 then x 0 else 0:=by
   simp only[sm,Nat.add_sub_cancel,Nat.sub_self]
  rw[e]
  have e2:sm (fun i=>p (n-i)) (fun i=>x (n-i)) n=sm (fun i=>p (n-1-i+1)) (fun i=>x (n-1-i+1)) n:=
   lM (fun j hj=>by congr 1; omega) (fun j hj _=>by congr 1; omega)
  rw[e2,ih (p:=fun i=>p (i+1)) (x:=fun i=>x (i+1))]
  grind
theorem Fo{n:bJ}(hv:VN n){l i:Nat}(hl:l<n.ay.length)(hi:i<n.af.length):nN (Fm n) l i=nN n (n.ay.length-1-l) (n.af.length-1-i):=by
 unfold nN Fm
 simp only
 rw[List.getElem?_map,List.getElem?_eq_getElem (by simpa using hi),List.getElem_reverse,List.getElem?_eq_getElem (by omega)]
 simp only[Option.map_some,Option.getD_some,decide_eq_decide,NF]
 have:(n.ay.length:Int)-1-(l:Int)=((n.ay.length-1-l:Nat):Int):=by omega
 rw[this]
theorem NG{n:bJ}(hv:VN n){x:Nat→Rat}(h:Mm.Fair (bW n) x):Mm.Fair (bW (Fm n)) fun i=>x (n.af.length-1-i):=by
 have hF:(bW (Fm n)).F=n.af.length:=by show ((n.af.reverse.map (C3 n.ay.length))).length=_; simp
 have hL:(bW (Fm n)).L=n.ay.length:=by show n.ay.reverse.length=_; simp
 have hc:∀ l,l<n.ay.length→(bW (Fm n)).c l=(bW n).c (n.ay.length-1-l):=fun l hl=>by
  show ((n.ay.reverse[l]?.getD 0:Int):Rat)=((n.ay[n.ay.length-1-l]?.getD 0:Int):Rat)
  rw[List.getElem?_reverse hl]
 have MU:=hv.nl
 have hk:∀ i,i<n.af.length→(bW (Fm n)).k i=(bW n).k (n.af.length-1-i)∧(bW (Fm n)).has i=(bW n).has (n.af.length-1-i):=fun i hi=>by
  have e:n.aC.reverse[i]?=n.aC[n.af.length-1-i]?:=by rw[List.getElem?_reverse (by omega),MU]
  exact⟨by show ((n.aC.reverse[i]?.getD 0:Int):Rat)=_; rw[e]; rfl,by show decide (0<n.aC.reverse[i]?.getD 0)=_; rw[e]; rfl⟩
 have hs:∀ l,l<n.ay.length→sm ((bW (Fm n)).on l) (fun i=>x (n.af.length-1-i)) n.af.length=sm ((bW n).on (n.ay.length-1-l)) x n.af.length:=fun l hl=>by
  rw[←P8 (p:=(bW n).on (n.ay.length-1-l))]
  exact lM (fun j hj=>Fo hv hl hj) (fun _ _ _=>rfl)
 refine⟨⟨fun i hi=>?_,fun i hi hh=>?_,fun l hl=>?_⟩,fun i hi=>?_⟩
 ·rw[hF]at hi
  exact h.CR.nn _ (show _<n.af.length by omega)
 ·rw[hF]at hi
  rw[(hk i hi).2]at hh
  rw[(hk i hi).1]
  exact h.CR.ma _ (show _<n.af.length by omega) hh
 ·rw[hL]at hl
  rw[hF,hs l hl,hc l hl]
  exact h.CR.cap _ (show _<n.ay.length by omega)
 ·rw[hF]at hi
  rcases h.HR (n.af.length-1-i) (show _<n.af.length by omega) with ⟨h1,h2⟩|⟨l,hl,pw,yT,AQ⟩
  ·exact .inl ⟨by rw[(hk i hi).2]; exact h1,by rw[(hk i hi).1]; exact h2⟩
  ·have hl:l<n.ay.length:=hl
   have hb:n.ay.length-1-(n.ay.length-1-l)=l:=by omega
   refine .inr ⟨n.ay.length-1-l,by rw[hL]; omega,?_,?_,fun j hj HT=>?_⟩
   ·show nN (Fm n) _ i=true
    rw[Fo hv (by omega) hi,hb]; exact pw
   ·rw[hF,hs _ (by omega),hc _ (by omega),hb]; exact yT
   ·rw[hF]at hj
    have HT:nN (Fm n) (n.ay.length-1-l) j=true:=HT
    rw[Fo hv (by omega) hj,hb]at HT
    exact AQ _ (show _<n.af.length by omega) HT
theorem C4(n:bJ)(hw:n.af.length≤2^63-1):aa.fH n=some true:=by
 unfold aa.fH
 obtain⟨b2,hf,hlen⟩:=Sk n hw
 refine bB (v:=true) rfl (bB hf ?_)
 cases b2 with
 |false=>rfl
 |true=>
 obtain⟨_,_,_,h4⟩:=hlen rfl
 refine bT rfl (bB (KC fun l hl=>by have:=h4 l hl; omega) ?_)
 cases hb:vN n with
 |false=>rfl
 |true=>
 have hv:=KE hb
 refine bF rfl ?_
 have Nx:=hv.nf
 have Ui:=hv.nc
 have MU:=hv.nl
 have w1:∀ m:Nat,m≤8→IntKind.i64.wrap ((m:Int)-1)=(m:Int)-1:=fun m hm=>eV (by omega) (by omega)
 have wp:∀ m j:Nat,j<m→m≤8→IntKind.i64.wrap ((m:Int)-1-(j:Int)-1)=(m:Int)-1-((j+1:Nat):Int):=fun m j hj hm=>by rw[eV (by omega) (by omega)]; omega
 have nn:∀ m j:Nat,j<m→decide (0≤(m:Int)-1-(j:Int))=true:=fun m j hj=>decide_eq_true (by omega)
 have ng:∀ m:Nat,decide (0≤(m:Int)-1-(m:Int))=false:=fun m=>decide_eq_false (by omega)
 refine bB (v:=((n.ay.length:Int)-1-(n.ay.length:Int),n.ay.reverse,([]:List (List Int)),([]:List Int)))
  (dE (fun j=>((n.ay.length:Int)-1-(j:Int),n.ay.reverse.take j,([]:List (List Int)),([]:List Int))) n.ay.length _ (fun j hj=>?_)
    (bF (ng _) (by rw[List.take_of_length_le (by simp)])) (by rw[w1 _ Ui]; simp)) ?_
 ·refine bT (nn _ _ hj) (bT (nn _ _ hj) (bB (Bk hj) (bT (hJ (by rw[List.length_take]; omega) (by omega)) ?_)))
  rw[wp _ _ hj Ui,List.take_succ_eq_append_getElem (by simpa using hj)]
 refine bB (v:=((n.af.length:Int)-1-(n.af.length:Int),n.ay.reverse,n.af.reverse.map (C3 n.ay.length),n.aC.reverse))
  (dE (fun j=>((n.af.length:Int)-1-(j:Int),n.ay.reverse,(n.af.reverse.map (C3 n.ay.length)).take j,n.aC.reverse.take j)) n.af.length _ (fun j hj=>?_)
    (bF (ng _) (by rw[List.take_of_length_le (by simp),List.take_of_length_le (by simp[MU])])) (by rw[w1 _ Nx]; simp)) ?_
 ·have Vh:j<n.af.reverse.length:=by simpa using hj
  have hm:n.af.reverse[j]∈n.af:=List.mem_reverse.1 (List.getElem_mem Vh)
  generalize hl:n.af.reverse[j]=l at hm
  have h6:=hv.f6 l hm
  have hr:n.af[((n.af.length:Int)-1-(j:Int)).toNat]?=some l:=by rw[Bk hj,hl]
  refine bT (nn _ _ hj) (bT (nn _ _ hj) (bB hr (bB (v:=((l.length:Int)-1-(l.length:Int),C3 n.ay.length l))
   (dE (fun k=>((l.length:Int)-1-(k:Int),(C3 n.ay.length l).take k)) l.length _ (fun k hk=>?_) (bF (ng _) (by rw[List.take_of_length_le (by rw[Bl]; exact Nat.le_refl _)])) (by rw[w1 _ (by omega)]; simp)) ?_)))
  ·have F9:k<l.reverse.length:=by simpa using hk
   have hx:=hv.fr l hm _ (List.mem_reverse.1 (List.getElem_mem F9))
   refine bT (nn _ _ hk) (bT (nn _ _ hj) (bB hr (bT (nn _ _ hk) (bB (Bk hk) (bT (hJ (by rw[List.length_take]; omega) (by omega)) ?_)))))
   have e1:IntKind.i64.wrap (IntKind.i64.wrap ((n.ay.length:Int)-1)-l.reverse[k])=(n.ay.length:Int)-1-l.reverse[k]:=by rw[w1 _ Ui,eV (by omega) (by omega)]
   rw[wp _ _ hk (by omega),e1,List.take_succ_eq_append_getElem (by rw[Bl]; exact hk)]
   simp[C3]
  ·have Mh:j<n.aC.length:=by omega
   refine bT (hJ (by rw[List.length_take]; omega) (by omega)) (bT (nn _ _ hj) (bB (v:=n.aC.reverse[j]'(by simpa using Mh)) (by rw[←MU]; exact Bk Mh) (bT (hJ (by rw[List.length_take]; omega) (by omega)) ?_)))
   rw[wp _ _ hj Nx,List.take_succ_eq_append_getElem (l:=n.aC.reverse) (by simpa using Mh),List.take_succ_eq_append_getElem (l:=n.af.reverse.map (C3 n.ay.length)) (by simpa using hj)]
   simp only[List.getElem_map,hl]
 obtain⟨xs,x,hx⟩:=xW hb
 obtain⟨ys,y,hy⟩:=xW (Sx hb)
 have VJ:(Fm n).af.length=n.af.length:=by show (n.af.reverse.map (C3 n.ay.length)).length=_; simp
 have Mn:ys.length=n.af.length:=by rw[hy.len,VJ]
 have HC:=hx.len
 have VK:∀ i,i<n.af.length→y i=x (n.af.length-1-i):=fun i hi=>CT hy.fair (NG hv hx.fair) i (by show i<(Fm n).af.length; rw[VJ]; exact hi)
 have P9:aa.bG (bJ.mk n.ay.reverse (n.af.reverse.map (C3 n.ay.length)) n.aC.reverse)=some (ys,0):=hy.e
 refine bB hx.e (bB P9 (bF rfl (bF rfl (bF (by rw[HC]; simp) (bF (by rw[HC,Mn]; simp) ?_)))))
 refine bB (v:=(true,(xs.length:Int))) (dE (fun i=>(true,(i:Int))) xs.length _ (fun i hi=>?_) (bF (eW _) rfl) rfl) rfl
 have ua:i<n.af.length:=by omega
 have gx:=hx.get i ua
 have gy:=hy.get (n.af.length-1-i) (by rw[VJ]; omega)
 rw[VK _ (by omega),show n.af.length-1-(n.af.length-1-i)=i by omega]at gy
 have e1:IntKind.i64.wrap (IntKind.i64.wrap ((ys.length:Int)-1)-(i:Int))=((n.af.length-1-i:Nat):Int):=by
  rw[Mn,w1 _ Nx,eV (by omega) (by omega)]; omega
 refine bT (ek hi) (bT rfl (bT (bE i) (bB (v:=kQ (x i)) (by rw[Int.toNat_natCast]; exact gx) (bT (by rw[e1]; exact bE _) (bB (v:=kQ (x i)) (by rw[e1,Int.toNat_natCast]; exact gy) ?_)))))
 rw[fS (by omega)]; simp
end Go.Proofs.Ytedjbjphpnkpoaa
end
section
/- The law MaxminOrder: its row. -/
namespace Go.Proofs.Ytedjbjphpnkpoaa.wg
open Go.PI Go.ChangeShapes Go.WideShapes Go.ChangeAt Go.RowKit
theorem own:ownKnob Try.prog.godebug=none:=by kernel_rfl
theorem laidOut:laidOutB Try.prog=true:=by kernel_rfl
theorem okWide_struct{P:Program}{w:World}{r:Reach}{base:Nat}{t:TypeId}{v:Value}{fs:Array Field}(ht:P.underlying t=some (.struct fs))(h:Value.okWide P w r base t v):∃ cs,v=.agg cs:=by
 unfold Value.okWide at h
 rw[ht]at h
 obtain⟨cs,h,_⟩:=h
 exact⟨cs,h⟩
theorem Oa{E:Env}{l:List AV}{cs:Array Value}(h:aH E false l (Value.agg cs).cells.toList):aj E false (.agg l) (.agg cs):=by
 simp only[aj]
 exact⟨cs.toList,by simp,by simpa[Value.cells] using h⟩
theorem Rn{E:Env}{l:List AV}{a:Option Addr}{len cap:Nat}(h:aH E false l (Value.slice a len cap).cells.toList){x:AV}(hl:l=[x]):aj E false x (.slice a len cap):=by
 subst hl
 have h2:aj E false x (Value.slice a len cap)∧iu (Value.slice a len cap)=true:=by simpa[Value.cells,aH] using h
 exact h2.1
set_option maxRecDepth 100000 in
theorem walk(W:World)(Te:Array Value){l0:List AV}(e0:aH (Env.all W) false l0 (Value.agg Te:Value).cells.toList){n0:Nat}(s0:Shape Try.prog n0 25 l0):Calls Try.prog 8 #[.agg Te] W fun e w'=>e=.returned (.bool true)∧Below W.heap.size W w':=by
 obtain⟨x0,w0,r0⟩:=WR (jK (show Try.prog.underlying 25=Try.prog.underlying 24 by kernel_rfl) s0)
 have hs:p6 C T 8 ⟨[25],[4],fun x=>Go.aa.fH x⟩:=N9 s56 rfl
 refine LD Cok hs rfl (x:=x0) (y:=true) (C4 x0 (Nat.le_trans w0.2.1.1 (by decide))) ?_ («as»:=[.agg l0]) ⟨r0,trivial⟩ (show mG (Env.all W) from fun b c h=>by cases h) (vs:=[.agg Te]) ?_
 ·intro l hl
  match l,hl with
  |[a],hl=>have:a=.lit (.bool true):=hl.1; rw[this]
  |[],hl=>exact False.elim hl
  |_::_::_,hl=>exact False.elim hl.2
 ·simp only[an]
  exact⟨Oa e0,trivial⟩
set_option maxRecDepth 100000 in
theorem lifted(os:Os)(started:os.Started)(H:Type)(enc:TypeId×Value→H):
  ReturnsInHanded {} Try.checked os 8 .any (Rows.maxminOrderSpec.pre6 enc Try.prog Try.f8 Rows.maxminOrderRow.domain false) (Rows.maxminOrderSpec.post enc Try.prog Try.f8 false true false false):=by
 refine returnsInHanded_of_change_sized (C:=Try.checked) own started (by kernel_rfl) Try.func8
  (ChangeSpec.witness6 (enc:=enc) (C:=Try.checked) false ⟨#[],#[.agg #[.slice none 0 0,.slice none 0 0,.slice none 0 0]],[]⟩ 8 (by kernel_rfl) (by kernel_rfl) (by kernel_rfl) (by kernel_rfl)) ?_
 intro W base args ds gs before Pa hW Ji WS _
 have Tf:∀ (j:Nat) t v,Try.f8.params[j]?=some t→args[j]?=some v→Value.okWide Try.prog W .any base t v:=Pa
 have hW':=hW
 obtain⟨p,q,Yu,hV,rfl,Jg,z1⟩:=hW
 have hA:DataW.TrodAll enc Try.prog W 0 (fun _=>true) true Try.f8.params.toList args.toList ds p:=Yu
 rw[Try.params8]at hA Tf
 obtain⟨v0,vs0,d0,ds0,p0,q0,ja,rfl,rfl,h0,r0⟩:=trodAll_cons hA
 obtain⟨rfl,rfl,rfl⟩:=trodAll_nil r0
 obtain rfl:args=#[v0]:=by cases args; simp_all
 obtain⟨rfl,rfl⟩:=trodVars_none hV
 obtain⟨Te,rfl⟩:=okWide_struct Try.underlying25 (Tf 0 25 v0 rfl rfl)
 have k0:=h0
 have lt0:∀ x∈p0,x.block<W.heap.size:=by obtain⟨m,hm⟩:=k0; exact DataW.trod_lt m _ _ _ hm
 obtain⟨f0,hf0⟩:=h0
 obtain⟨l0,e0,s0⟩:=MO f0 10 25 _ _ (by kernel_rfl) hf0
 clear Yu Pa WS
 refine(walk W Te e0 s0 ).mono fun e W' ⟨he,Yv⟩=>?_
 subst he
 exact⟨_,rfl,_,_,_,[],_,[],hW',trodAll_mk1 (shut_bool Try.underlying4 _),(trodAll_cons_mk (Below.trod laidOut (by kernel_rfl) (of_decide_eq_true (by kernel_rfl)) k0 Yv lt0) trodAll_mk0),rfl,Yv.frame _,fun h=>by cases h⟩
theorem gL:Rows.maxminOrderRow.holds Try.pinned (OpenSpec.ofChange Rows.maxminOrderSpec):=
 OpenClaim.holds_of_wide 8 Try.f8 rfl rfl rfl rfl rfl rfl rfl ⟨rfl,rfl,rfl,rfl,rfl⟩ rfl rfl rfl rfl rfl (by kernel_rfl) Try.func8 (by kernel_rfl)
  (of_decide_eq_true (by kernel_rfl)) (by unfold Func.isWrapper; first|(rw[if_pos (by decide +kernel)]; kernel_rfl)|(rw[if_neg (by decide +kernel)]; exact⟨rfl,rfl⟩))
  (fun os started H enc _=>lifted os started H enc)
theorem proved:Rows.MaxminOrderSaid:=gL
end Go.Proofs.Ytedjbjphpnkpoaa.wg
namespace Go.Proofs.Ytedjbjphpnkpoaa
theorem maxminOrder_holds:Rows.MaxminOrderSaid:=wg.proved
end Go.Proofs.Ytedjbjphpnkpoaa
end
