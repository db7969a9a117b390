/- The law MaxminScale returns true for every input, and each argument reads as it read before; no conditions. This file: the row, last of the parts. -/
import Derived.IntWalk
import Derived.KernelRfl
import Derived.Test.YtedjbjphpnkpoaaRows
import Derived.WalkKit
import Derived.ProofKit
import Derived.OpenShut
import Derived.ShutString
import Derived.ChangeOld
import Derived.Below
import Derived.SizedLaws
import Derived.Test.YtedjbjphpnkpoaaX9
set_option linter.unusedVariables false
set_option linter.unusedSimpArgs false
section
/- Max-min fair rates, without a program: what makes rates fair, and that there is one choice of them. -/
namespace Go.Mm
def sm(p:Nat→Bool)(x:Nat→Rat):Nat→Rat
 |0=>0
 |n+1=>sm p x n+bif p n then x n else 0
structure xC where
 F:Nat
 L:Nat
 on:Nat→Nat→Bool
 c:Nat→Rat
 has:Nat→Bool
 k:Nat→Rat
structure Rz(N:xC)(x:Nat→Rat):Prop where
 nn:∀ i,i<N.F→0≤x i
 lP:∀ i,i<N.F→N.has i=true→x i≤N.k i
 cap:∀ l,l<N.L→sm (N.on l) x N.F≤N.c l
def UY(N:xC)(x:Nat→Rat)(i:Nat):Prop:=
 (N.has i=true∧x i=N.k i)∨∃ l,l<N.L∧N.on l i=true∧sm (N.on l) x N.F=N.c l∧∀ j,j<N.F→N.on l j=true→x j≤x i
structure Fair(N:xC)(x:Nat→Rat):Prop where
 Cx:Rz N x
 Hp:∀ i,i<N.F→UY N x i
theorem Of{p:Nat→Bool}{x y:Nat→Rat}:∀ {n:Nat},(∀ j,j<n→p j=true→x j≤y j)→sm p x n≤sm p y n
 |0,_=>Rat.le_refl
 |n+1,h=>by
  have h1:=Of (n:=n) fun j hj=>h j (by omega)
  have h2:=h n (by omega)
  simp only[sm]
  cases hp:p n with
  |false=>simp only[cond_false]; grind
  |true=>simp only[cond_true]; have:=h2 hp; grind
theorem Og{p:Nat→Bool}{x y:Nat→Rat}:∀ {n i:Nat},i<n→p i=true→x i<y i→(∀ j,j<n→p j=true→x j≤y j)→sm p x n<sm p y n
 |0,i,h,_,_,_=>by omega
 |n+1,i,hi,hp,hx,h=>by
  simp only[sm]
  by_cases e:i=n
  ·subst e
   have h1:=Of (n:=i) fun j hj=>h j (by omega)
   rw[hp]; simp only[cond_true]; grind
  ·have h1:=Og (n:=n) (i:=i) (by omega) hp hx fun j hj=>h j (by omega)
   have h2:=h n (by omega)
   cases hp:p n with
   |false=>simp only[cond_false]; grind
   |true=>simp only[cond_true]; have:=h2 hp; grind
theorem pE{p q:Nat→Bool}{x y:Nat→Rat}:∀ {n:Nat},(∀ j,j<n→p j=q j)→(∀ j,j<n→p j=true→x j=y j)→sm p x n=sm q y n
 |0,_,_=>rfl
 |n+1,h,g=>by
  simp only[sm]
  rw[pE (n:=n) (fun j hj=>h j (by omega)) fun j hj=>g j (by omega),←h n (by omega)]
  cases hp:p n with
  |false=>rfl
  |true=>rw[g n (by omega) hp]
theorem xD{p:Nat→Bool}{x:Nat→Rat}(t:Rat):∀ {n:Nat},sm p (fun i=>t*x i) n=t*sm p x n
 |0=>by simp[sm]
 |n+1=>by
  simp only[sm]
  rw[xD t (n:=n)]
  cases p n<;>simp only[cond_true,cond_false]<;>grind
theorem Cy{p q:Nat→Bool}{x:Nat→Rat}:∀ {n:Nat},sm p x n=sm (fun i=>p i&&q i) x n+sm (fun i=>p i&&!q i) x n
 |0=>by simp only[sm]; grind
 |n+1=>by
  simp only[sm]
  rw[Cy (q:=q) (n:=n)]
  cases p n<;>cases q n<;>simp only[Bool.and_true,Bool.and_false,Bool.not_true,Bool.not_false,Bool.true_and,Bool.false_and,cond_true,cond_false]<;>grind
theorem Gd{N:xC}{x y:Nat→Rat}(h:Fair N x)(hy:Rz N y){i:Nat}(hi:i<N.F)(bZ:x i<y i):∃ j,j<N.F∧x j≤x i∧y j<x j:=by
 rcases h.Hp i hi with ⟨h1,h2⟩|⟨l,hl,pg,Y7,Av⟩
 ·have:=hy.lP i hi h1; exfalso; grind
 ·apply Classical.byContradiction
  intro hc
  have bf:∀ j,j<N.F→N.on l j=true→x j≤y j:=fun j hj ho=>by
   apply Classical.byContradiction
   intro hn
   exact hc ⟨j,hj,Av j hj ho,by grind⟩
  have h1:=Og hi pg bZ bf
  have h2:=hy.cap l hl
  grind
theorem J0(P:Nat→Prop)(f:Nat→Rat):∀ n,(∃ i,i<n∧P i)→∃ i,i<n∧P i∧∀ j,j<n→P j→f i≤f j
 |0,⟨i,hi,_⟩=>by omega
 |n+1,⟨i,hi,hp⟩=>by
  by_cases hex:∃ i,i<n∧P i
  ·obtain⟨m,hm,Y8,ue⟩:=J0 P f n hex
   by_cases hn:P n∧f n<f m
   ·refine⟨n,by omega,hn.1,fun j hj Im=>?_⟩
    by_cases e:j=n
    ·subst e; exact Rat.le_refl
    ·have:=ue j (by omega) Im; have:=hn.2; grind
   ·refine⟨m,by omega,Y8,fun j hj Im=>?_⟩
    by_cases e:j=n
    ·subst e; have:¬f j<f m:=fun h=>hn ⟨Im,h⟩; grind
    ·exact ue j (by omega) Im
  ·have:i=n:=by
    apply Classical.byContradiction
    intro e
    exact hex ⟨i,by omega,hp⟩
   subst this
   refine⟨i,by omega,hp,fun j hj Im=>?_⟩
   by_cases e:j=i
   ·subst e; exact Rat.le_refl
   ·exact absurd ⟨j,by omega,Im⟩ hex
theorem Cz{N:xC}{x y:Nat→Rat}(h:Fair N x)(h':Fair N y):∀ i,i<N.F→x i=y i:=by
 apply Classical.byContradiction
 intro dK
 have hex:∃ i,i<N.F∧x i≠y i:=by
  apply Classical.byContradiction
  intro hc
  exact dK fun i hi=>Classical.byContradiction fun e=>hc ⟨i,hi,e⟩
 obtain⟨i,hi,hd,ue⟩:=J0 (fun i=>x i≠y i) (fun i=>if x i≤y i then x i else y i) N.F hex
 by_cases hle:x i≤y i
 ·obtain⟨j,hj,h1,h2⟩:=Gd h h'.Cx hi (by grind)
  have:=ue j hj (by grind)
  grind
 ·obtain⟨j,hj,h1,h2⟩:=Gd h' h.Cx hi (by grind)
  have:=ue j hj (by grind)
  grind
/-! ### Filling -/
def ct(p:Nat→Bool):Nat→Nat
 |0=>0
 |n+1=>ct p n+bif p n then 1 else 0
theorem nq{p q:Nat→Bool}:∀ {n:Nat},(∀ j,j<n→p j=q j)→ct p n=ct q n
 |0,_=>rfl
 |n+1,h=>by simp only[ct]; rw[nq (n:=n) fun j hj=>h j (by omega),h n (by omega)]
theorem Oh{p q:Nat→Bool}:∀ {n:Nat},(∀ j,j<n→p j=true→q j=true)→ct p n≤ct q n
 |0,_=>Nat.le_refl _
 |n+1,h=>by
  have h1:=Oh (n:=n) fun j hj=>h j (by omega)
  have h2:=h n (by omega)
  simp only[ct]
  cases hp:p n with
  |false=>simp only[cond_false]; omega
  |true=>rw[h2 hp]; simp only[cond_true]; omega
theorem rM{p:Nat→Bool}:∀ {n i:Nat},i<n→p i=true→0<ct p n
 |0,i,h,_=>by omega
 |n+1,i,h,hp=>by
  simp only[ct]
  by_cases e:i=n
  ·subst e; rw[hp]; simp only[cond_true]; omega
  ·have:=rM (n:=n) (i:=i) (by omega) hp; omega
theorem J1{p:Nat→Bool}:∀ {n:Nat},0<ct p n→∃ i,i<n∧p i=true
 |0,h=>by simp[ct]at h
 |n+1,h=>by
  simp only[ct]at h
  cases hp:p n with
  |true=>exact⟨n,by omega,hp⟩
  |false=>
   rw[hp]at h
   obtain⟨i,hi,h1⟩:=J1 (n:=n) (by simpa using h)
   exact⟨i,by omega,h1⟩
theorem ti{p q:Nat→Bool}:∀ {n:Nat},ct p n=ct (fun i=>p i&&q i) n+ct (fun i=>p i&&!q i) n
 |0=>rfl
 |n+1=>by
  simp only[ct]
  rw[ti (q:=q) (n:=n)]
  cases p n<;>cases q n<;>simp only[Bool.and_true,Bool.and_false,Bool.not_true,Bool.not_false,Bool.true_and,Bool.false_and,cond_true,cond_false]<;>omega
theorem pG{p:Nat→Bool}:∀ {n:Nat},ct p n≤n
 |0=>Nat.le_refl _
 |n+1=>by
  have:=pG (p:=p) (n:=n)
  simp only[ct]
  cases p n<;>simp only[cond_true,cond_false]<;>omega
theorem CA{p:Nat→Bool}{v:Rat}:∀ {n:Nat},sm p (fun _=>v) n=v*(ct p n:Nat)
 |0=>by simp[sm,ct]
 |n+1=>by
  simp only[sm,ct]
  rw[CA (n:=n)]
  cases p n
  ·simp only[cond_false,Nat.add_zero]; grind
  ·simp only[cond_true]
   rw[Rat.natCast_add]
   grind
end Go.Mm
namespace Go.Mm
def Dv(P:Nat)(q:Rat):Prop:=∃ n:Int,q*(P:Rat)=n
theorem Dv.mul{P m:Nat}{q:Rat}(h:Dv P q):Dv (P*m) q:=by
 obtain⟨n,hn⟩:=h
 refine⟨n*m,?_⟩
 rw[Rat.natCast_mul,Rat.intCast_mul,Rat.intCast_natCast,←hn]
 grind
theorem Dv.int{P:Nat}(n:Int):Dv P n:=⟨n*P,by rw[Rat.intCast_mul,Rat.intCast_natCast]⟩
theorem Dv.zero{P:Nat}:Dv P 0:=⟨0,by simp⟩
theorem Dv.add{P:Nat}{p q:Rat}(h:Dv P p)(h':Dv P q):Dv P (p+q):=by
 obtain⟨n,hn⟩:=h
 obtain⟨m,hm⟩:=h'
 exact⟨n+m,by rw[Rat.intCast_add,←hn,←hm]; grind⟩
theorem Dv.sub{P:Nat}{p q:Rat}(h:Dv P p)(h':Dv P q):Dv P (p-q):=by
 obtain⟨n,hn⟩:=h
 obtain⟨m,hm⟩:=h'
 exact⟨n-m,by rw[Rat.intCast_sub,←hn,←hm]; grind⟩
theorem Dv.sm{P:Nat}{p:Nat→Bool}{x:Nat→Rat}:∀ {n:Nat},(∀ j,j<n→p j=true→Dv P (x j))→Dv P (sm p x n)
 |0,_=>Dv.zero
 |n+1,h=>by
  have h1:=Dv.sm (n:=n) fun j hj=>h j (by omega)
  simp only[Go.Mm.sm]
  cases hp:p n with
  |false=>simp only[cond_false]; exact h1.add .zero
  |true=>exact h1.add (h n (by omega) hp)
theorem Dv.part{P m:Nat}{q r:Rat}(h:Dv P q)(hm:r*(m:Rat)=q):Dv (P*m) r:=by
 obtain⟨n,hn⟩:=h
 refine⟨n,?_⟩
 rw[Rat.natCast_mul,←hn,←hm]
 grind
def mp:Nat→Nat
 |0=>1|1=>1|2=>2|3=>3|4=>4|5=>6|6=>9|7=>12|_=>18
theorem Ge{m u u':Nat}(hm:1≤m)(hu:u≤8)(h:m+u'≤u):m*mp u'≤mp u:=by
 have:∀ u,u≤8→∀ m,m≤8→∀ u',u'≤8→1≤m→m+u'≤u→m*mp u'≤mp u:=by decide
 exact this u hu m (by omega) u' (by omega) hm h
theorem J2(u:Nat):1≤mp u:=by unfold mp; split<;>omega
structure Inv(N:xC)(fx:Nat→Bool)(x:Nat→Rat)(lo:Rat)(P:Nat):Prop where
 l0:0≤lo
 nn:∀ i,i<N.F→fx i=true→0≤x i∧x i≤lo
 lP:∀ i,i<N.F→fx i=true→N.has i=true→x i≤N.k i
 cap:∀ l,l<N.L→sm (fun i=>N.on l i&&fx i) x N.F≤N.c l
 Xp:∀ l,l<N.L→lo*(ct (fun i=>N.on l i&&!fx i) N.F:Nat)≤N.c l-sm (fun i=>N.on l i&&fx i) x N.F
 wait:∀ i,i<N.F→fx i=false→N.has i=true→lo≤N.k i
 Hp:∀ i,i<N.F→fx i=true→(N.has i=true∧x i=N.k i) ∨
  ∃ l,l<N.L∧N.on l i=true∧sm (fun i=>N.on l i&&fx i) x N.F=N.c l∧ct (fun i=>N.on l i&&!fx i) N.F=0∧∀ j,j<N.F→N.on l j=true→x j≤x i
 P1:1≤P
 Qz:P*mp (ct (fun i=>!fx i) N.F)≤18
 dv:∀ i,i<N.F→fx i=true→Dv P (x i)
structure Xq(N:xC)(fx:Nat→Bool)(x:Nat→Rat)(low:Rat)(nw:Nat→Bool):Prop where
 sub:∀ i,i<N.F→nw i=true→fx i=false
 RA:∀ l,l<N.L→low*(ct (fun i=>N.on l i&&!fx i) N.F:Nat)≤N.c l-sm (fun i=>N.on l i&&fx i) x N.F
 lP:∀ i,i<N.F→fx i=false→N.has i=true→low≤N.k i
 UZ:∀ i,i<N.F→nw i=true→(N.has i=true∧low=N.k i) ∨
  ∃ l,l<N.L∧N.on l i=true∧low*(ct (fun i=>N.on l i&&!fx i) N.F:Nat)=N.c l-sm (fun i=>N.on l i&&fx i) x N.F∧∀ j,j<N.F→N.on l j=true→fx j=false→nw j=true
 some:∃ i,i<N.F∧nw i=true
theorem EP{N:xC}(hF:N.F≤8)(hc:∀ l,l<N.L→0≤N.c l)(hk:∀ i,i<N.F→N.has i=true→0≤N.k i)(x:Nat→Rat):Inv N (fun _=>false) x 0 1 where
 l0:=Rat.le_refl
 nn:=by simp
 lP:=by simp
 cap l hl:=by
  rw[pE (q:=fun _=>false) (y:=x) (by simp) (by simp)]
  have h0:∀ n,sm (fun _=>false) x n=0:=by
   intro n; induction n with
   |zero=>rfl
   |succ n ih=>simp only[sm,ih,cond_false]; grind
  rw[h0]; exact hc l hl
 Xp l hl:=by
  have h0:∀ n,sm (fun i=>N.on l i&&false) x n=0:=by
   intro n; induction n with
   |zero=>rfl
   |succ n ih=>simp only[sm,ih,Bool.and_false,cond_false]; grind
  rw[h0]
  have:=hc l hl
  grind
 wait i hi _ hh:=hk i hi hh
 Hp:=by simp
 P1:=Nat.le_refl _
 Qz:=by
  have:=pG (p:=fun _=>!false) (n:=N.F)
  have h8:∀ u,u≤8→1*mp u≤18:=by decide
  exact h8 _ (by omega)
 dv:=by simp
theorem Hq{N:xC}(hF:N.F≤8)(U0:∀ l,l<N.L→Dv 1 (N.c l))(GP:∀ i,i<N.F→Dv 1 (N.k i)){fx:Nat→Bool}{x:Nat→Rat}{lo:Rat}{P:Nat}(h:Inv N fx x lo P){low:Rat}{nw:Nat→Bool}(g:Xq N fx x low nw):
  ∃ P',Inv N (fun i=>fx i||nw i) (fun i=>if nw i=true then low else x i) low P':=by
 have hS:∀ l,sm (fun i=>N.on l i&&(fx i||nw i)) (fun i=>if nw i=true then low else x i) N.F=sm (fun i=>N.on l i&&fx i) x N.F+low*(ct (fun i=>N.on l i&&nw i) N.F:Nat):=by
  intro l
  rw[Cy (q:=nw)]
  rw[pE (p:=fun i=>(N.on l i&&(fx i||nw i))&&nw i) (q:=fun i=>N.on l i&&nw i) (y:=fun _=>low) (fun j hj=>by cases N.on l j<;>cases fx j<;>cases nw j<;>rfl) (fun j hj hp=>by
   have:nw j=true:=by simp only[Bool.and_eq_true]at hp; exact hp.2
   simp[this]),CA]
  rw[pE (p:=fun i=>(N.on l i&&(fx i||nw i))&&!nw i) (q:=fun i=>N.on l i&&fx i) (y:=x) (fun j hj=>by
   have:=g.sub j hj
   cases h1:N.on l j<;>cases h2:fx j<;>cases h3:nw j<;>simp_all) (fun j hj hp=>by
   have:nw j=false:=by simp only[Bool.and_eq_true,Bool.not_eq_true']at hp; exact hp.2
   simp[this])]
  grind
 have hM:∀ l,ct (fun i=>N.on l i&&!fx i) N.F=ct (fun i=>N.on l i&&nw i) N.F+ct (fun i=>N.on l i&&!(fx i||nw i)) N.F:=by
  intro l
  rw[ti (q:=nw)]
  congr 1
  ·exact nq fun j hj=>by
    have:=g.sub j hj
    cases h1:N.on l j<;>cases h2:fx j<;>cases h3:nw j<;>simp_all
  ·exact nq fun j hj=>by cases N.on l j<;>cases fx j<;>cases nw j<;>rfl
 have hU:ct (fun i=>!fx i) N.F=ct nw N.F+ct (fun i=>!(fx i||nw i)) N.F:=by
  rw[ti (q:=nw)]
  congr 1
  ·exact nq fun j hj=>by
    have:=g.sub j hj
    cases h2:fx j<;>cases h3:nw j<;>simp_all
  ·exact nq fun j hj=>by cases fx j<;>cases nw j<;>rfl
 have U1:∀ l,((ct (fun i=>N.on l i&&!fx i) N.F:Nat):Rat)=(ct (fun i=>N.on l i&&nw i) N.F:Nat)+(ct (fun i=>N.on l i&&!(fx i||nw i)) N.F:Nat):=fun l=>by rw[hM l,Rat.natCast_add]
 have U2:lo≤low:=by
  obtain⟨i,hi,hn⟩:=g.some
  rcases g.UZ i hi hn with ⟨h1,h2⟩|⟨l,hl,pg,he,_⟩
  ·rw[h2]; exact h.wait i hi (g.sub i hi hn) h1
  ·have h1:=h.Xp l hl
   have hp:0<ct (fun i=>N.on l i&&!fx i) N.F:=rM hi (by simp[pg,g.sub i hi hn])
   have Y9:(0:Rat)<(ct (fun i=>N.on l i&&!fx i) N.F:Nat):=by exact_mod_cast hp
   rw[←he]at h1
   exact Rat.le_of_mul_le_mul_right h1 Y9
 have wm:0≤low:=Rat.le_trans h.l0 U2
 have Xr:∀ j,j<N.F→fx j=true→(if nw j=true then low else x j)=x j:=fun j hj hf=>by
  have:nw j=false:=by cases hn:nw j with|false=>rfl|true=>rw[g.sub j hj hn]at hf; cases hf
  simp[this]
 have hP:∃ P',1≤P'∧P'*mp (ct (fun i=>!(fx i||nw i)) N.F)≤18∧Dv P' low∧∃ m,P'=P*m:=by
  obtain⟨i,hi,hn⟩:=g.some
  have Xs:ct (fun i=>!fx i) N.F≤8:=by have:=pG (p:=fun i=>!fx i) (n:=N.F); omega
  have UJ:=rM hi hn
  have h18:=h.Qz
  rcases g.UZ i hi hn with ⟨h1,h2⟩|⟨l,hl,pg,he,bf⟩
  ·refine⟨P,h.P1,?_,?_,1,by simp⟩
   ·have:=Ge (m:=ct nw N.F) (u:=ct (fun i=>!fx i) N.F) (u':=ct (fun i=>!(fx i||nw i)) N.F) UJ Xs (by omega)
    have h3:mp (ct (fun i=>!(fx i||nw i)) N.F)≤mp (ct (fun i=>!fx i) N.F):=Nat.le_trans (Nat.le_mul_of_pos_left _ UJ) this
    exact Nat.le_trans (Nat.mul_le_mul_left _ h3) h18
   ·rw[h2]
    have:=(GP i hi).mul (m:=P)
    rwa [Nat.one_mul]at this
  ·have RB:0<ct (fun i=>N.on l i&&!fx i) N.F:=rM hi (by simp[pg,g.sub i hi hn])
   refine⟨P*ct (fun i=>N.on l i&&!fx i) N.F,Nat.mul_pos h.P1 RB,?_,?_,_,rfl⟩
   ·have hle:ct (fun i=>N.on l i&&!fx i) N.F≤ct nw N.F:=Oh fun j hj hp=>by
     simp only[Bool.and_eq_true,Bool.not_eq_true']at hp
     exact bf j hj hp.1 hp.2
    have:=Ge (m:=ct (fun i=>N.on l i&&!fx i) N.F) (u:=ct (fun i=>!fx i) N.F) (u':=ct (fun i=>!(fx i||nw i)) N.F) RB Xs (by omega)
    rw[Nat.mul_assoc]
    exact Nat.le_trans (Nat.mul_le_mul_left _ this) h18
   ·refine Dv.part ?_ he
    have hc:=(U0 l hl).mul (m:=P)
    rw[Nat.one_mul]at hc
    exact hc.sub (Dv.sm fun j hj hp=>h.dv j hj (by simp only[Bool.and_eq_true]at hp; exact hp.2))
 obtain⟨P',Po,U3,Za,m,rfl⟩:=hP
 refine⟨_,wm,?_,?_,?_,?_,?_,?_,Po,U3,?_⟩
 ·intro i hi hf
  by_cases hn:nw i=true
  ·simp only[hn,if_true]; exact⟨wm,Rat.le_refl⟩
  ·simp only[hn,if_false,Bool.or_false,Bool.false_eq_true]at hf ⊢
   have:=h.nn i hi hf
   exact⟨this.1,Rat.le_trans this.2 U2⟩
 ·intro i hi hf hh
  by_cases hn:nw i=true
  ·simp only[hn,if_true]; exact g.lP i hi (g.sub i hi hn) hh
  ·simp only[hn,if_false,Bool.or_false,Bool.false_eq_true]at hf ⊢
   exact h.lP i hi hf hh
 ·intro l hl
  rw[hS l]
  have h1:=g.RA l hl
  rw[U1 l]at h1
  have h2:(0:Rat)≤low*(ct (fun i=>N.on l i&&!(fx i||nw i)) N.F:Nat):=Rat.mul_nonneg wm (by exact_mod_cast Nat.zero_le _)
  grind
 ·intro l hl
  rw[hS l]
  have h1:=g.RA l hl
  rw[U1 l]at h1
  grind
 ·intro i hi hf hh
  simp only[Bool.or_eq_false_iff]at hf
  exact g.lP i hi hf.1 hh
 ·intro i hi hf
  by_cases hn:nw i=true
  ·simp only[hn,if_true]
   rcases g.UZ i hi hn with h1|⟨l,hl,pg,he,bf⟩
   ·exact .inl h1
   ·have hz:ct (fun i=>N.on l i&&!(fx i||nw i)) N.F=0:=by
     apply Nat.eq_zero_of_not_pos
     intro hp
     obtain⟨j,hj,Im⟩:=J1 hp
     simp only[Bool.and_eq_true,Bool.not_eq_true',Bool.or_eq_false_iff]at Im
     rw[bf j hj Im.1 Im.2.1]at Im
     exact absurd Im.2.2 (by decide)
    refine .inr ⟨l,hl,pg,?_,hz,fun j hj LY=>?_⟩
    ·rw[hS l]
     rw[U1 l,hz]at he
     grind
    ·by_cases U4:nw j=true
     ·simp only[U4,if_true]; exact Rat.le_refl
     ·simp only[U4,if_false,Bool.false_eq_true]
      have:fx j=true:=by
       cases iw:fx j with
       |true=>rfl
       |false=>exact absurd (bf j hj LY iw) U4
      exact Rat.le_trans (h.nn j hj this).2 U2
  ·have iw:fx i=true:=by simpa[hn] using hf
   rw[Xr i hi iw]
   rcases h.Hp i hi iw with h1|⟨l,hl,pg,he,hz,Av⟩
   ·exact .inl h1
   ·have RC:∀ j,j<N.F→N.on l j=true→fx j=true:=fun j hj LY=>by
     cases LX:fx j with
     |true=>rfl
     |false=>
      have:=rM (p:=fun i=>N.on l i&&!fx i) hj (by simp[LY,LX])
      omega
    have MW:=hM l
    rw[hz]at MW
    have Pp:ct (fun i=>N.on l i&&nw i) N.F=0:=by omega
    refine .inr ⟨l,hl,pg,?_,by omega,fun j hj LY=>?_⟩
    ·rw[hS l,Pp,he]; grind
    ·rw[Xr j hj (RC j hj LY)]
     exact Av j hj LY
 ·intro i hi hf
  by_cases hn:nw i=true
  ·simp only[hn,if_true]; exact Za
  ·simp only[hn,if_false,Bool.or_false,Bool.false_eq_true]at hf ⊢
   exact(h.dv i hi hf).mul
theorem J3{N:xC}{fx:Nat→Bool}{x:Nat→Rat}{lo:Rat}{P:Nat}(h:Inv N fx x lo P)(bf:∀ i,i<N.F→fx i=true):Fair N x∧∀ i,i<N.F→Dv P (x i)∧P≤18:=by
 have hS:∀ l,sm (fun i=>N.on l i&&fx i) x N.F=sm (N.on l) x N.F:=fun l=>pE (fun j hj=>by rw[bf j hj,Bool.and_true]) fun _ _ _=>rfl
 refine⟨⟨⟨fun i hi=>(h.nn i hi (bf i hi)).1,fun i hi hh=>h.lP i hi (bf i hi) hh,fun l hl=>by rw[←hS l]; exact h.cap l hl⟩,fun i hi=>?_⟩,fun i hi=>⟨h.dv i hi (bf i hi),?_⟩⟩
 ·rcases h.Hp i hi (bf i hi) with h1|⟨l,hl,pg,he,_,Av⟩
  ·exact .inl h1
  ·exact .inr ⟨l,hl,pg,by rw[←hS l]; exact he,Av⟩
 ·have:=h.Qz
  exact Nat.le_trans (Nat.le_mul_of_pos_right _ (J2 _)) this
end Go.Mm
end
section
/- Plain facts of this seat: ratios. -/
set_option maxRecDepth 100000
namespace Go.Proofs.Ytedjbjphpnkpoaa
open Go.PI Go.Pl Go.Mm
variable {α β:Type}
theorem bT{c:Bool}{x y r:Option α}(hc:c=true)(hx:x=r):(bif c then x else y)=r:=by subst hc; exact hx
theorem bF{c:Bool}{x y r:Option α}(hc:c=false)(hy:y=r):(bif c then x else y)=r:=by subst hc; exact hy
theorem bB{e:Option β}{v:β}{k:β→Option α}{r:Option α}(he:e=some v)(hk:k v=r):e.bind k=r:=by subst he; exact hk
theorem Gf{a b:Bool}:(bif a then some b else some false)=some (a&&b):=by cases a<;>rfl
theorem eU{n:Int}(h1 : -9223372036854775808≤n)(h2:n≤9223372036854775807):IntKind.i64.wrap n=n:=IntWalk.i64_in _ (by omega)
theorem dN{i n:Nat}(h:i<n):decide ((i:Int)<(n:Int))=true:=decide_eq_true (by omega)
theorem dZ(n:Nat):decide ((n:Int)<(n:Int))=false:=decide_eq_false (by omega)
theorem br(i:Nat):decide (0≤(i:Int))=true:=decide_eq_true (by omega)
/-! ### The greatest common divisor -/
theorem Gg:∀ (k a b n:Nat),b<2^k→2*k+1≤n→aa.ER n (a:Int) (b:Int)=some ((Nat.gcd a b:Nat):Int)
 |0,a,b,n,hb,hn=>by
  obtain rfl:b=0:=by simpa using hb
  obtain⟨m,rfl⟩:∃ m,n=m+1:=⟨n-1,by omega⟩
  exact bT rfl (by rw[Nat.gcd_zero_right])
 |k+1,a,b,n,hb,hn=>by
  obtain⟨m,rfl⟩:∃ m,n=m+1:=⟨n-1,by omega⟩
  by_cases h0:b=0
  ·subst h0
   exact bT rfl (by rw[Nat.gcd_zero_right])
  have hr:((a:Int).tmod (b:Int))=((a%b:Nat):Int):=by rw[Int.tmod_eq_emod_of_nonneg (by omega)]; simp
  have Zb:((b:Int)==0)=false:=by simp; omega
  have g1:Nat.gcd a b=Nat.gcd b (a%b):=by rw[Nat.gcd_comm a b,Nat.gcd_rec b a,Nat.gcd_comm]
  refine bF Zb (bF (decide_eq_false (by omega)) ?_)
  rw[hr]
  have bZ:=Nat.mod_lt a (Nat.pos_of_ne_zero h0)
  obtain⟨m',rfl⟩:∃ m',m=m'+1:=⟨m-1,by omega⟩
  refine bB (v:=((Nat.gcd b (a%b):Nat):Int)) ?_ (by rw[g1])
  by_cases h1:a%b=0
  ·rw[h1]
   exact bT rfl (by rw[Nat.gcd_zero_right])
  ·have ED:((b:Int).tmod ((a%b:Nat):Int))=((b%(a%b):Nat):Int):=by rw[Int.tmod_eq_emod_of_nonneg (by omega)]; simp
   refine bF (by simp; omega) (bF (decide_eq_false (by omega)) ?_)
   rw[ED]
   have xx:=Nat.mod_lt b (Nat.pos_of_ne_zero h1)
   have hd:=Nat.div_add_mod b (a%b)
   have hq:1≤b/(a%b):=Nat.div_pos (Nat.le_of_lt bZ) (Nat.pos_of_ne_zero h1)
   have dR:a%b≤(a%b)*(b/(a%b)):=Nat.le_mul_of_pos_right _ hq
   have hs:b%(a%b)<2^k:=by rw[Nat.pow_succ]at hb; omega
   refine bB (Gg k (a%b) (b%(a%b)) m' hs (by omega)) ?_
   have g2:Nat.gcd b (a%b)=Nat.gcd (a%b) (b%(a%b)):=by rw[Nat.gcd_comm b,Nat.gcd_rec (a%b) b,Nat.gcd_comm]
   rw[←g2]
theorem MX(a b:Nat)(hb:b<2^63):aa.jO (a:Int) (b:Int)=some ((Nat.gcd a b:Nat):Int):=Gg 63 a b 200 hb (by omega)
/-! ### Ratios -/
def kv(q:Rat):aj:=⟨q.num,q.den⟩
def ia(q:Rat):Prop := -1000000000≤q.num∧q.num≤1000000000∧q.den≤1000000000
instance (q:Rat):Decidable (ia q):=inferInstanceAs (Decidable (_∧_∧_))
theorem abs_eq{n:Int}(h1 : -9223372036854775807≤n)(h2:n≤9223372036854775807):(if n<IntKind.i64.wrap (0-n) then IntKind.i64.wrap (0-n) else n)=(n.natAbs:Int):=by
 rw[eU (by omega) (by omega)]
 split<;>omega
theorem J4{n:Int}{d:Nat}(h1 : -9223372036854775807≤n)(h2:n≤9223372036854775807)(h3:1≤d)(h4:d≤9223372036854775807):aa.cR ⟨n,d⟩=some (kv (mkRat n d)):=by
 unfold aa.cR
 rw[abs_eq h1 h2,abs_eq (n:=(d:Int)) (by omega) (by omega)]
 have hg:=MX n.natAbs d (by omega)
 have fk:0<Nat.gcd n.natAbs d:=Nat.gcd_pos_of_pos_right _ (by omega)
 have QA:((Nat.gcd n.natAbs d:Nat):Int)∣n:=Int.ofNat_dvd_left.2 (Nat.gcd_dvd_left _ _)
 have Xn:(Nat.gcd n.natAbs d)∣d:=Nat.gcd_dvd_right _ _
 rw[show ((d:Int).natAbs:Int)=(d:Int) by omega]
 refine bB hg (bF (decide_eq_false (by show ¬(d:Int)<0; omega)) (bF (decide_eq_false (by omega)) (bF (decide_eq_false (by omega)) ?_)))
 have e1:(mkRat n d).num=n/((Nat.gcd n.natAbs d:Nat):Int):=by rw[Rat.num_mkRat,if_neg (by omega),Nat.gcd_comm]
 have e2:(mkRat n d).den=d/Nat.gcd n.natAbs d:=by rw[Rat.den_mkRat,if_neg (by omega),Nat.gcd_comm]
 have b1:n.tdiv ((Nat.gcd n.natAbs d:Nat):Int)=n/((Nat.gcd n.natAbs d:Nat):Int):=Int.tdiv_eq_ediv_of_dvd QA
 have b2:(d:Int).tdiv ((Nat.gcd n.natAbs d:Nat):Int)=((d/Nat.gcd n.natAbs d:Nat):Int):=by
  rw[Int.tdiv_eq_ediv_of_nonneg (by omega)]; simp
 have c1:(n/((Nat.gcd n.natAbs d:Nat):Int)).natAbs≤n.natAbs:=by
  generalize Nat.gcd n.natAbs d=g at QA fk
  obtain⟨k,rfl⟩:=QA
  rw[Int.mul_ediv_cancel_left _ (by omega),Int.natAbs_mul,Int.natAbs_natCast]
  exact Nat.le_mul_of_pos_left _ fk
 have c2:d/Nat.gcd n.natAbs d≤d:=Nat.div_le_self _ _
 show some (aj.mk (IntKind.i64.wrap (n.tdiv _)) (IntKind.i64.wrap ((d:Int).tdiv _)))=_
 rw[b1,b2,eU (by omega) (by omega),eU (by omega) (by omega)]
 simp only[kv,e1,e2]
theorem MY(q:Rat)(h1 : -9223372036854775807≤q.num)(h2:q.num≤9223372036854775807):aa.bM (kv q)=some (decide (ia q)):=by
 unfold aa.bM
 show (bif decide ((if q.num<IntKind.i64.wrap (0-q.num) then IntKind.i64.wrap (0-q.num) else q.num)≤(1000000000:Int)) then bif decide (1≤(q.den:Int)) then some (decide ((q.den:Int)≤1000000000)) else some false else some false)=_
 rw[abs_eq h1 h2]
 have hd:=q.den_pos
 by_cases ha:((q.num.natAbs:Nat):Int)≤1000000000
 ·refine bT (decide_eq_true ha) (bT (decide_eq_true (by omega)) ?_)
  congr 1
  rw[decide_eq_decide]
  unfold ia
  omega
 ·refine bF (decide_eq_false ha) ?_
  rw[decide_eq_false]
  unfold ia
  omega
theorem J5{n:Int}{d:Nat}(h:1≤d):(mkRat n d).num.natAbs≤n.natAbs:=by
 rw[Rat.num_mkRat,if_neg (by omega)]
 have hg:0<Nat.gcd d n.natAbs:=Nat.gcd_pos_of_pos_left _ (by omega)
 have QA:((Nat.gcd d n.natAbs:Nat):Int)∣n:=Int.ofNat_dvd_left.2 (Nat.gcd_dvd_right _ _)
 generalize Nat.gcd d n.natAbs=g at QA hg
 obtain⟨k,rfl⟩:=QA
 rw[Int.mul_ediv_cancel_left _ (by omega),Int.natAbs_mul,Int.natAbs_natCast]
 exact Nat.le_mul_of_pos_left _ hg
theorem J6{n:Int}{d:Nat}(h1 : -9223372036854775807≤n)(h2:n≤9223372036854775807)(h3:1≤d)(h4:d≤9223372036854775807):
  aa.bo ⟨n,d⟩=some (if ia (mkRat n d) then (kv (mkRat n d),0) else (⟨0,0⟩,3)):=by
 unfold aa.bo
 have:=J5 (n:=n) h3
 refine bB (J4 h1 h2 h3 h4) (bB (MY _ (by omega) (by omega)) ?_)
 by_cases hf:ia (mkRat n d)
 ·rw[if_pos hf,decide_eq_true hf]; rfl
 ·rw[if_neg hf,decide_eq_false hf]; rfl
instance:DecidableEq aj:=fun a b=>by
 cases a; cases b
 simp only[aj.mk.injEq]
 exact inferInstance
def vR(a:aj):Bool:=decide (-1000000000≤a.dC∧a.dC≤1000000000∧1≤a.Den∧a.Den≤1000000000∧kv (mkRat a.dC a.Den.toNat)=a)
theorem uw(q:Rat):vR (kv q)=decide (ia q):=by
 unfold vR
 rw[decide_eq_decide]
 have hd:=q.den_pos
 have e:kv (mkRat (kv q).dC (kv q).Den.toNat)=kv q:=by
  show kv (mkRat q.num ((q.den:Int)).toNat)=_
  rw[Int.toNat_natCast,Rat.mkRat_self]
 show (-1000000000≤q.num∧q.num≤1000000000∧1≤(q.den:Int)∧(q.den:Int)≤1000000000∧_)↔_
 unfold ia
 simp only[e,and_true]
 omega
theorem nt(a:aj):aa.cM a=some (vR a):=by
 unfold aa.cM
 by_cases h1 : -1000000000≤a.dC
 ·refine bT (decide_eq_true h1) ?_
  by_cases h2:a.dC≤1000000000∧1≤a.Den∧a.Den≤1000000000
  ·have hf:aa.bM a=some true:=by
    unfold aa.bM
    rw[abs_eq (by omega) (by omega)]
    exact bT (decide_eq_true (by omega)) (bT (decide_eq_true h2.2.1) (by rw[decide_eq_true h2.2.2]))
   have he:a=⟨a.dC,(a.Den.toNat:Nat)⟩:=by
    cases a; simp only[aj.mk.injEq,true_and]; simp only at h2; omega
   refine bB hf (bT rfl ?_)
   have hr:=J4 (n:=a.dC) (d:=a.Den.toNat) (by omega) (by omega) (by omega) (by omega)
   rw[←he]at hr
   refine bB hr ?_
   congr 1
   unfold vR
   rw[Bool.eq_iff_iff]
   simp only[Bool.and_eq_true,beq_iff_eq,decide_eq_true_eq]
   constructor
   ·rintro⟨g1,g2⟩
    refine⟨h1,h2.1,h2.2.1,h2.2.2,?_⟩
    cases a
    simp only[kv,aj.mk.injEq]at g1 g2 ⊢
    exact⟨g1,g2⟩
   ·rintro⟨_,_,_,_,g⟩
    rw[g]; exact⟨rfl,rfl⟩
  ·have hv:vR a=false:=decide_eq_false (by omega)
   rw[hv]
   refine bB (v:=false) ?_ rfl
   unfold aa.bM
   by_cases h3:(if a.dC<IntKind.i64.wrap (0-a.dC) then IntKind.i64.wrap (0-a.dC) else a.dC)≤1000000000
   ·refine bT (decide_eq_true h3) ?_
    have h4:a.dC≤1000000000:=by split at h3<;>omega
    by_cases h5:1≤a.Den
    ·exact bT (decide_eq_true h5) (by rw[decide_eq_false]; omega)
    ·exact bF (decide_eq_false h5) rfl
   ·exact bF (decide_eq_false h3) rfl
 ·refine bF (decide_eq_false h1) ?_
  rw[show vR a=false from decide_eq_false (by omega)]
/-! ### Operations -/
theorem rN{q:Rat}(h:ia q):(q.den:Int)≤1000000000∧1≤(q.den:Int):=⟨by have:=h.2.2; omega,by have:=q.den_pos; omega⟩
theorem pH{a b:Int}(h1 : -1000000000≤a)(h2:a≤1000000000)(h3:0≤b)(h4:b≤1000000000): -1000000000000000000≤a*b∧a*b≤1000000000000000000:=by
 have e1:a*b≤1000000000*b:=Int.mul_le_mul_of_nonneg_right h2 h3
 have e2 : -1000000000*b≤a*b:=Int.mul_le_mul_of_nonneg_right h1 h3
 omega
theorem sub_eq{p q:Rat}(hp:ia p)(hq:ia q):aa.nu (kv p) (kv q)=some (if ia (p-q) then (kv (p-q),0) else (⟨0,0⟩,3)):=by
 unfold aa.nu
 have dp:=rN hp
 have dq:=rN hq
 have m1:=pH hp.1 hp.2.1 (b:=(q.den:Int)) (by omega) (by omega)
 have m2:=pH hq.1 hq.2.1 (b:=(p.den:Int)) (by omega) (by omega)
 have m3:=pH (a:=(p.den:Int)) (b:=(q.den:Int)) (by omega) (by omega) (by omega) (by omega)
 have m4:1≤p.den*q.den:=Nat.mul_pos p.den_pos q.den_pos
 have e3:(p.den:Int)*(q.den:Int)=((p.den*q.den:Nat):Int):=by simp
 have dK:((((p.den*q.den:Nat):Int))==0)=false:=by rw[beq_eq_false_iff_ne]; omega
 refine bB (nt _) (bF (by rw[uw,decide_eq_true hp]; rfl) (bB (nt _) (bF (by rw[uw,decide_eq_true hq]; rfl) ?_)))
 show (bif IntKind.i64.wrap ((p.den:Int)*(q.den:Int))==0 then _ else (aa.bo (aj.mk (IntKind.i64.wrap (IntKind.i64.wrap (p.num*(q.den:Int))-IntKind.i64.wrap (q.num*(p.den:Int)))) (IntKind.i64.wrap ((p.den:Int)*(q.den:Int))))).bind fun x=>some (x.1,x.2))=_
 rw[eU (n:=p.num*(q.den:Int)) (by omega) (by omega),eU (n:=q.num*(p.den:Int)) (by omega) (by omega),eU (n:=p.num*(q.den:Int)-q.num*(p.den:Int)) (by omega) (by omega),eU (n:=(p.den:Int)*(q.den:Int)) (by omega) (by omega),e3]
 refine bF dK (bB (J6 (by omega) (by omega) m4 (by omega)) ?_)
 rw[Rat.sub_def']
theorem p8(p:Rat){m:Nat}(hm:1≤m):mkRat p.num (p.den*m)=p/(m:Rat):=by
 have h:=Rat.mkRat_self p
 rw[Rat.div_def]
 have hi:((m:Rat))⁻¹=mkRat 1 m:=by
  rw[Rat.mkRat_eq_div,Rat.div_def]; simp
 rw[hi]
 conv=>rhs; rw[←h]
 rw[Rat.mkRat_mul_mkRat]; simp
theorem div_eq{p:Rat}(hp:ia p){m:Nat}(h1:1≤m)(h2:m≤1000):aa.qm (kv p) ⟨m,1⟩=some (if ia (p/(m:Rat)) then (kv (p/(m:Rat)),0) else (⟨0,0⟩,3)):=by
 unfold aa.qm
 have dp:=rN hp
 have hm:(⟨m,1⟩:aj)=kv ((m:Int):Rat):=rfl
 have fm:ia ((m:Int):Rat):=⟨by show (_:Int)≤(m:Int); omega,by show (m:Int)≤_; omega,by show 1≤1000000000; omega⟩
 have m3:=pH (a:=(p.den:Int)) (b:=(m:Int)) (by omega) (by omega) (by omega) (by omega)
 have m4:1≤p.den*m:=Nat.mul_pos p.den_pos h1
 have e3:(p.den:Int)*(m:Int)=((p.den*m:Nat):Int):=by simp
 have dK:((((p.den*m:Nat):Int))==0)=false:=by rw[beq_eq_false_iff_ne]; omega
 refine bB (nt _) (bF (by rw[uw,decide_eq_true hp]; rfl) (bB (nt _) (bF (by rw[hm,uw,decide_eq_true fm]; rfl) ?_)))
 show (bif IntKind.i64.wrap ((p.den:Int)*(m:Int))==0 then _ else (aa.bo (aj.mk (IntKind.i64.wrap (p.num*1)) (IntKind.i64.wrap ((p.den:Int)*(m:Int))))).bind fun x=>some (x.1,x.2))=_
 have TH:=hp.1
 have LS:=hp.2.1
 rw[Int.mul_one,eU (n:=p.num) (by omega) (by omega),eU (n:=(p.den:Int)*(m:Int)) (by omega) (by omega),e3]
 refine bF dK (bB (J6 (by omega) (by omega) m4 (by omega)) ?_)
 rw[p8 p h1]
def J7(p q:Rat):Int:=if p<q then -1 else if q<p then 1 else 0
theorem Pq{p q:Rat}(hp:ia p)(hq:ia q):aa.qn (kv p) (kv q)=some (J7 p q,0):=by
 unfold aa.qn aa.pI aa.qo
 have dp:=rN hp
 have dq:=rN hq
 have m1:=pH hp.1 hp.2.1 (b:=(q.den:Int)) (by omega) (by omega)
 have m2:=pH hq.1 hq.2.1 (b:=(p.den:Int)) (by omega) (by omega)
 refine bB (nt _) (bF (by rw[uw,decide_eq_true hp]; rfl) (bB (nt _) (bF (by rw[uw,decide_eq_true hq]; rfl) ?_)))
 have w1:IntKind.i64.wrap ((kv p).dC*(kv q).Den)=p.num*(q.den:Int):=eU (n:=p.num*(q.den:Int)) (by omega) (by omega)
 have w2:IntKind.i64.wrap ((kv q).dC*(kv p).Den)=q.num*(p.den:Int):=eU (n:=q.num*(p.den:Int)) (by omega) (by omega)
 rw[w1,w2]
 refine bB (v:=J7 p q) ?_ rfl
 simp only[beq_self_eq_true,Bool.not_true,Option.bind_some,cond_false]
 unfold J7
 by_cases h1:p<q
 ·rw[if_pos h1]
  exact bT (decide_eq_true ((Rat.lt_iff p q).1 h1)) rfl
 ·rw[if_neg h1]
  refine bF (decide_eq_false fun h=>h1 ((Rat.lt_iff p q).2 h)) ?_
  by_cases h2:q<p
  ·rw[if_pos h2]
   exact bT (decide_eq_true ((Rat.lt_iff q p).1 h2)) rfl
  ·rw[if_neg h2]
   exact bF (decide_eq_false fun h=>h2 ((Rat.lt_iff q p).2 h)) rfl
theorem MZ{p q:Rat}(hp:ia p)(hq:ia q):aa.fO (kv p) (kv q)=some (decide (p<q)):=by
 unfold aa.fO
 refine bB (Pq hp hq) ?_
 show some (decide (J7 p q<0))=_
 congr 1
 rw[decide_eq_decide]
 unfold J7
 by_cases h1:p<q
 ·simp[h1]
 ·rw[if_neg h1]
  by_cases h2:q<p<;>simp[h1,h2]
end Go.Proofs.Ytedjbjphpnkpoaa
end
section
/- Plain facts of this seat: valid networks. -/
set_option maxRecDepth 100000
namespace Go.Proofs.Ytedjbjphpnkpoaa
open Go.PI Go.Pl Go.Mm
theorem wB{τ ω:Type}{f:τ→Option (τ ⊕ ω)}(st:Nat→τ)(c:Nat→Bool)(n:Nat)(e bad:ω){x0:τ}
  (h:∀ i,i<n→f (st i)=bif c i then some (.inl (st (i+1))) else some (.inr bad)) (he:f (st n)=some (.inr e)) (hx:x0=st 0) :
  aQ f x0=some (bif (List.range n).all c then e else bad):=by
 subst hx
 rcases th st c (fun _=>bad) n e (fun i hi=>by rw[h i hi]; cases c i<;>rfl) he with ⟨h1,h2⟩|⟨h1,i,_,_,h2⟩
 ·rw[h1,h2]; rfl
 ·rw[h1,h2]; rfl
theorem dT{τ ω:Type}{f:τ→Option (τ ⊕ ω)}(st:Nat→τ)(n:Nat)(e:ω){x0:τ}(h:∀ i,i<n→f (st i)=some (.inl (st (i+1))))(he:f (st n)=some (.inr e))(hx:x0=st 0):aQ f x0=some e:=by
 subst hx
 have key:∀ m i,m=n-i→i≤n→aQ f (st i)=some e:=by
  intro m
  induction m with
  |zero=>intro i hm hi; obtain rfl:i=n:=by omega
         exact out he
  |succ m ih=>intro i hm hi; rw[next (h i (by omega))]; exact ih (i+1) (by omega) (by omega)
 exact key n 0 rfl (Nat.zero_le _)
theorem get_at{γ:Type}{l:List γ}{i:Nat}(h:i<l.length):l[(i:Int).toNat]?=some l[i]:=by simp[h]
theorem eZ{i:Nat}(h:i<2^62):IntKind.i64.wrap ((i:Int)+1)=((i+1:Nat):Int):=eU (by omega) (by omega)
theorem Pr(n lo hi:Int):aa.nv n lo hi=some (decide (lo≤n)&&decide (n≤hi)):=Gf
def pF(l:List Int)(L:Int)(i:Nat):Bool:=
 match l[i]? with
 |none=>false
 |some x=>(decide (0≤x)&&decide (x≤L-1))&&(if i=0 then true else match l[i-1]? with|none=>false|some y=>decide (y<x))
def DT(l:List Int)(L:Int):Bool:=(List.range l.length).all (pF l L)&&(decide (1≤(l.length:Int))&&decide ((l.length:Int)≤6))
theorem M0{l:List Int}{L:Int}(hl:l.length≤2^62)(h0:0≤L)(h1:L≤1000000):aa.jP l L=some (DT l L):=by
 unfold aa.jP
 refine bB (wB (fun i=>(false,(i:Int))) (pF l L) l.length (Sum.inr (false,(l.length:Int))) (Sum.inl false) (fun i hi=>?_) (bF (dZ _) rfl) rfl) ?_
 ·refine bT (dN hi) (bT (br i) (bB (get_at hi) (bB (Pr _ _ _) ?_)))
  rw[eU (n:=L-1) (by omega) (by omega)]
  unfold pF
  rw[List.getElem?_eq_getElem hi]
  cases hc:(decide (0≤l[i])&&decide (l[i]≤L-1)) with
  |false=>simp only[hc]; rfl
  |true=>
   simp only[hc]
   by_cases e:i=0
   ·subst e
    exact bF rfl (bF rfl (by rw[eZ (by omega)]; rfl))
   ·have hw:IntKind.i64.wrap ((i:Int)-1)=((i-1:Nat):Int):=by rw[eU (by omega) (by omega)]; omega
    have DP:i-1<l.length:=by omega
    refine bF rfl (bT (decide_eq_true (by omega)) (bT (by rw[hw]; exact br _) (bB (v:=l[i-1]) (by rw[hw]; exact get_at DP) ?_)))
    rw[if_neg e,List.getElem?_eq_getElem DP,eZ (by omega)]
    by_cases bZ:l[i]≤l[i-1]
    ·rw[decide_eq_true bZ]; simp only[decide_eq_false (by omega:¬l[i-1]<l[i])]; rfl
    ·rw[decide_eq_false bZ]; simp only[decide_eq_true (by omega:l[i-1]<l[i])]; rfl
 ·unfold DT
  cases (List.range l.length).all (pF l L) with
  |false=>rfl
  |true=>exact bB (Pr _ _ _) rfl
theorem J8{l:List Int}{L:Int}(hl:l.length≤2^62):aa.nU l L=some (DT l L):=by
 unfold aa.nU
 refine bB (wB (fun i=>(false,(i:Int))) (pF l L) l.length (Sum.inr (false,(l.length:Int))) (Sum.inl false) (fun i hi=>?_) (bF (dZ _) rfl) rfl) ?_
 ·refine bT (dN hi) (bT (br i) (bB (get_at hi) ?_))
  unfold pF
  rw[List.getElem?_eq_getElem hi]
  by_cases h1:l[i]<0
  ·refine bT (decide_eq_true h1) ?_
   simp only[decide_eq_false (by omega:¬0≤l[i])]; rfl
  refine bF (decide_eq_false h1) (bT (br i) (bB (get_at hi) ?_))
  simp only[decide_eq_true (by omega:0≤l[i])]
  by_cases h2:L≤l[i]
  ·refine bT (decide_eq_true h2) ?_
   simp only[decide_eq_false (by omega:¬l[i]≤L-1)]; rfl
  refine bF (decide_eq_false h2) ?_
  simp only[decide_eq_true (by omega:l[i]≤L-1)]
  by_cases e:i=0
  ·subst e
   exact bF rfl (by rw[eZ (by omega)]; rfl)
  ·have hw:IntKind.i64.wrap ((i:Int)-1)=((i-1:Nat):Int):=by rw[eU (by omega) (by omega)]; omega
   have DP:i-1<l.length:=by omega
   refine bT (decide_eq_true (by omega)) (bT (br i) (bB (get_at hi) (bT (by rw[hw]; exact br _) (bB (v:=l[i-1]) (by rw[hw]; exact get_at DP) ?_))))
   rw[if_neg e,List.getElem?_eq_getElem DP,eZ (by omega)]
   by_cases bZ:l[i]≤l[i-1]
   ·rw[decide_eq_true bZ]; simp only[decide_eq_false (by omega:¬l[i-1]<l[i])]; rfl
   ·rw[decide_eq_false bZ]; simp only[decide_eq_true (by omega:l[i-1]<l[i])]; rfl
 ·unfold DT
  cases (List.range l.length).all (pF l L) with
  |false=>rfl
  |true=>exact Gf
def tM(x:Int):Bool:=decide (0≤x)&&decide (x≤1000)
def vN(n:bP):Bool:=decide (n.aD.length≤8)&&(decide (n.ag.length≤8)&&(decide (n.aA.length=n.ag.length)&&((n.aD.all tM&&n.aA.all tM)&&n.ag.all fun l=>DT l (n.aD.length:Int))))
theorem M1{n:bP}(hl:∀ l∈n.ag,l.length≤2^62):aa.gl n=some (vN n):=by
 unfold aa.gl vN
 by_cases h1:n.aD.length≤8
 case neg=>rw[decide_eq_false h1]; exact bT (decide_eq_true (by omega)) rfl
 rw[decide_eq_true h1]
 refine bF (decide_eq_false (by omega)) ?_
 by_cases h2:n.ag.length≤8
 case neg=>rw[decide_eq_false h2]; exact bT (decide_eq_true (by omega)) rfl
 rw[decide_eq_true h2]
 refine bF (decide_eq_false (by omega)) ?_
 by_cases h3:n.aA.length=n.ag.length
 case neg=>rw[decide_eq_false h3]; exact bT (by simp; omega) rfl
 rw[decide_eq_true h3]
 refine bF (by simp; omega) ?_
 have hc:aa.gR [n.aD,n.aA]=some (n.aD++n.aA):=by
  show tj 8 [n.aD,n.aA]=_
  unfold tj J9
  have:[n.aD,n.aA].flatten=n.aD++n.aA:=by simp
  rw[this]
  have hlen:(n.aD++n.aA).length≤16:=by rw[List.length_append]; omega
  exact bT (by simp only[Bool.and_eq_true,decide_eq_true_eq]; exact⟨by simp,by omega,by omega⟩) rfl
 refine bB hc ?_
 have hlen:(n.aD++n.aA).length≤16:=by rw[List.length_append]; omega
 refine bB (uv (n.aD++n.aA) (fun i=>(false,(i:Int))) tM (Sum.inl false) (Sum.inr (false,((n.aD++n.aA).length:Int))) (fun i hi=>?_) (bF (dZ _) rfl) rfl) ?_
 ·refine bT (dN hi) (bT (br i) (bB (get_at hi) (bB (Pr _ _ _) ?_)))
  rw[eZ (by omega)]
  show (bif !tM _ then _ else _)=_
  cases tM (n.aD++n.aA)[i]<;>rfl
 rw[List.all_append]
 cases Zc:(n.aD.all tM&&n.aA.all tM) with
 |false=>rfl
 |true=>
  simp only[cond_true,Sum.elim_inr,Bool.true_and]
  refine bB (uv n.ag (fun i=>(false,(i:Int))) (fun l=>DT l (n.aD.length:Int)) (Sum.inl false) (Sum.inr (false,(n.ag.length:Int))) (fun i hi=>?_) (bF (dZ _) rfl) rfl) ?_
  ·refine bT (dN hi) (bT (br i) (bB (get_at hi) (bB (M0 (hl _ (List.getElem_mem hi)) (by omega) (by omega)) ?_)))
   rw[eZ (by omega)]
   cases DT n.ag[i] (n.aD.length:Int)<;>rfl
  ·cases n.ag.all fun l=>DT l (n.aD.length:Int)<;>rfl
theorem M3{γ δ:Type}{l:List γ}{m:List δ}{p:γ→Bool}{q:δ→Bool}(h:l.length=m.length):((List.range l.length).all fun i=>(l[i]?.map p).getD false&&(m[i]?.map q).getD false)=(l.all p&&m.all q):=by
 rw[Bool.eq_iff_iff,List.all_eq_true,Bool.and_eq_true,List.all_eq_true,List.all_eq_true]
 constructor
 ·intro hh
  refine⟨fun x hx=>?_,fun x hx=>?_⟩
  ·obtain⟨i,hi,rfl⟩:=List.getElem_of_mem hx
   have:=hh i (List.mem_range.2 hi)
   rw[List.getElem?_eq_getElem hi]at this
   simp only[Bool.and_eq_true]at this
   exact this.1
  ·obtain⟨i,hi,rfl⟩:=List.getElem_of_mem hx
   have:=hh i (List.mem_range.2 (by omega))
   rw[List.getElem?_eq_getElem hi]at this
   simp only[Bool.and_eq_true]at this
   exact this.2
 ·rintro⟨h1,h2⟩ i hi
  have hi:=List.mem_range.1 hi
  rw[List.getElem?_eq_getElem hi,List.getElem?_eq_getElem (show i<m.length by omega)]
  simp only[Bool.and_eq_true]
  exact⟨h1 _ (List.getElem_mem _),h2 _ (List.getElem_mem _)⟩
theorem CB{n:bP}(hl:∀ l∈n.ag,l.length≤2^62):aa.cX n=some (vN n):=by
 unfold aa.cX vN
 by_cases h1:n.aD.length≤8
 case neg=>rw[decide_eq_false h1]; exact bT (decide_eq_true (by omega)) rfl
 rw[decide_eq_true h1]
 refine bF (decide_eq_false (by omega)) ?_
 by_cases h2:n.ag.length≤8
 case neg=>rw[decide_eq_false h2]; exact bT (decide_eq_true (by omega)) rfl
 rw[decide_eq_true h2]
 refine bF (decide_eq_false (by omega)) ?_
 by_cases h3:n.aA.length=n.ag.length
 case neg=>rw[decide_eq_false h3]; exact bT (by simp; omega) rfl
 rw[decide_eq_true h3]
 refine bF (by simp; omega) ?_
 refine bB (uv n.aD (fun i=>(false,(i:Int))) tM (Sum.inl false) (Sum.inr (false,(n.aD.length:Int))) (fun i hi=>?_) (bF (dZ _) rfl) rfl) ?_
 ·refine bT (dN hi) (bT (br i) (bB (get_at hi) ?_))
  rw[eZ (by omega)]
  unfold tM
  by_cases g1:n.aD[i]<0
  ·rw[decide_eq_false (by omega:¬0≤n.aD[i])]; exact bT (decide_eq_true g1) rfl
  rw[decide_eq_true (by omega:0≤n.aD[i])]
  refine bF (decide_eq_false g1) (bT (br i) (bB (get_at hi) ?_))
  by_cases g2:1000<n.aD[i]
  ·rw[decide_eq_false (by omega:¬n.aD[i]≤1000)]; exact bT (decide_eq_true g2) rfl
  ·rw[decide_eq_true (by omega:n.aD[i]≤1000)]; exact bF (decide_eq_false g2) rfl
 cases Zc:n.aD.all tM with
 |false=>rfl
 |true=>
  simp only[cond_true,Sum.elim_inr,Bool.true_and]
  refine bB (wB (fun i=>(false,(i:Int))) (fun i=>(n.ag[i]?.map fun l=>DT l (n.aD.length:Int)).getD false&&(n.aA[i]?.map tM).getD false) n.ag.length (Sum.inr (false,(n.ag.length:Int))) (Sum.inl false) (fun i hi=>?_) (bF (dZ _) rfl) rfl) ?_
  ·have Ii:i<n.aA.length:=by omega
   refine bT (dN hi) (bT (br i) (bB (get_at hi) (bB (J8 (hl _ (List.getElem_mem hi))) ?_)))
   rw[eZ (by omega),List.getElem?_eq_getElem hi,List.getElem?_eq_getElem Ii]
   show (bif !DT n.ag[i] (n.aD.length:Int) then _ else _)=bif (DT n.ag[i] (n.aD.length:Int)&&tM n.aA[i]) then _ else _
   cases DT n.ag[i] (n.aD.length:Int) with
   |false=>rfl
   |true=>
    refine bF rfl (bT (br i) (bB (get_at Ii) ?_))
    unfold tM
    by_cases g1:n.aA[i]<0
    ·simp only[decide_eq_false (by omega:¬0≤n.aA[i])]; exact bT (decide_eq_true g1) rfl
    simp only[decide_eq_true (by omega:0≤n.aA[i])]
    refine bF (decide_eq_false g1) (bT (br i) (bB (get_at Ii) ?_))
    by_cases g2:1000<n.aA[i]
    ·simp only[decide_eq_false (by omega:¬n.aA[i]≤1000)]; exact bT (decide_eq_true g2) rfl
    ·simp only[decide_eq_true (by omega:n.aA[i]≤1000)]; exact bF (decide_eq_false g2) rfl
  ·rw[M3 (p:=fun l=>DT l (n.aD.length:Int)) (q:=tM) h3.symm,Bool.and_comm]
   cases (n.aA.all tM&&n.ag.all fun l=>DT l (n.aD.length:Int))<;>rfl
theorem RF(n:bP)(hw:n.ag.length≤2^63-1):∃ b,aa.iz n=some b∧(b=true→n.aD.length≤50∧n.ag.length≤50∧n.aA.length≤50∧∀ l∈n.ag,l.length≤50):=by
 unfold aa.iz
 have xE:=wB (ω:=Bool ⊕ Bool×Int) (f:=fun ((b1,i2):Bool×Int)=>
   bif decide (i2<(↑n.ag.length:Int)) then bif decide (i2<50) then bif decide (0≤i2) then (n.ag[i2.toNat]?).bind fun l3=>bif decide (50<(↑l3.length:Int)) then some (Sum.inr (Sum.inl false)) else some (Sum.inl (b1,IntKind.i64.wrap (i2+1))) else none else some (Sum.inr (Sum.inr (b1,i2))) else some (Sum.inr (Sum.inr (b1,i2))))
  (fun i=>(false,(i:Int))) (fun i=>match n.ag[i]? with|some l=>decide (l.length≤50)|none=>false) (min n.ag.length 50) (Sum.inr (false,((min n.ag.length 50:Nat):Int))) (Sum.inl false) (x0:=(false,0)) (fun i hi=>?_) ?_ rfl
 ·cases bf:(List.range (min n.ag.length 50)).all (fun i=>match n.ag[i]? with|some l=>decide (l.length≤50)|none=>false) with
  |false=>
   rw[bf]at xE
   exact⟨false,bB xE rfl,fun h=>Bool.noConfusion h⟩
  |true=>
   rw[bf]at xE
   refine⟨_,bB xE (by show (bif _ then bif _ then _ else _ else _)=some (decide ((n.aD.length:Int)≤50)&&(decide ((n.ag.length:Int)≤50)&&decide ((n.aA.length:Int)≤50))); cases decide ((n.aD.length:Int)≤50)<;>cases decide ((n.ag.length:Int)≤50)<;>rfl),fun h=>?_⟩
   simp only[Bool.and_eq_true,decide_eq_true_eq]at h
   refine⟨by omega,by omega,by omega,fun l hl=>?_⟩
   obtain⟨i,hi,rfl⟩:=List.getElem_of_mem hl
   have:=List.all_eq_true.1 bf i (List.mem_range.2 (by omega))
   rw[List.getElem?_eq_getElem hi]at this
   simpa using this
 ·have h1:i<n.ag.length:=by omega
  refine bT (dN h1) (bT (decide_eq_true (by omega)) (bT (br i) (bB (get_at h1) ?_)))
  rw[List.getElem?_eq_getElem h1,eZ (by omega)]
  by_cases g:n.ag[i].length≤50
  ·simp only[decide_eq_true g]; exact bF (decide_eq_false (by omega)) rfl
  ·simp only[decide_eq_false g]; exact bT (decide_eq_true (by omega)) rfl
 ·by_cases g:n.ag.length≤50
  ·have e:min n.ag.length 50=n.ag.length:=by omega
   rw[e]
   exact bF (dZ _) rfl
  ·have e:min n.ag.length 50=50:=by omega
   rw[e]
   exact bT (dN (by omega)) (bF (by decide) rfl)
end Go.Proofs.Ytedjbjphpnkpoaa
end
section
/- Plain facts of this seat: levels. -/
set_option maxRecDepth 100000
namespace Go.Proofs.Ytedjbjphpnkpoaa
open Go.PI Go.Pl Go.Mm
theorem M4{l:List Int}(hl:l.length≤2^62)(v:Int):aa.bK l v=some (decide (v∈l)):=by
 unfold aa.bK aa.mB
 have key:=th (ω:=Int ⊕ Int×Int) (f:=fun ((i1,i2):Int×Int)=>bif decide (i2<(↑l.length:Int)) then bif decide (0≤i2) then (l[i2.toNat]?).bind fun i3=>bif v==i3 then some (Sum.inr (Sum.inl i2)) else some (Sum.inl (i1,IntKind.i64.wrap (i2+1))) else none else some (Sum.inr (Sum.inr (i1,i2))))
  (fun i=>((0:Int),(i:Int))) (fun i=>(l[i]?.map fun x=>!(v==x)).getD false) (fun i=>Sum.inl (i:Int)) l.length (Sum.inr (0,(l.length:Int))) (fun i hi=>by
    refine bT (dN hi) (bT (br i) (bB (get_at hi) ?_))
    rw[List.getElem?_eq_getElem hi,eZ (by omega)]
    show (bif v==l[i] then _ else _)=some (bif !(v==l[i]) then _ else _)
    cases v==l[i]<;>rfl) (bF (dZ _) rfl)
 rcases key with ⟨h1,h2⟩|⟨h1,i,hi,hp,h2⟩
 ·refine bB (v := -1) (bB h2 rfl) ?_
  rw[show decide (v∈l)=false from decide_eq_false fun hm=>?_]; ·rfl
  obtain⟨i,hi,rfl⟩:=List.getElem_of_mem hm
  have:=List.all_eq_true.1 h1 i (List.mem_range.2 hi)
  rw[List.getElem?_eq_getElem hi]at this
  simp at this
 ·refine bB (v:=(i:Int)) (bB h2 rfl) ?_
  rw[show decide (v∈l)=true from decide_eq_true ?_]; ·rw[br]
  rw[List.getElem?_eq_getElem hi]at hp
  simp only[Option.map_some,Option.getD_some,Bool.not_eq_false',beq_iff_eq]at hp
  rw[hp]; exact List.getElem_mem _
theorem Ka{l:List Bool}(hl:l.length≤2^62)(v:Bool):aa.e9 l v=some (decide (v∈l)):=by
 unfold aa.e9 aa.nV
 have key:=th (ω:=Int ⊕ Int×Int) (f:=fun ((i1,i2):Int×Int)=>bif decide (i2<(↑l.length:Int)) then bif decide (0≤i2) then (l[i2.toNat]?).bind fun i3=>bif v==i3 then some (Sum.inr (Sum.inl i2)) else some (Sum.inl (i1,IntKind.i64.wrap (i2+1))) else none else some (Sum.inr (Sum.inr (i1,i2))))
  (fun i=>((0:Int),(i:Int))) (fun i=>(l[i]?.map fun x=>!(v==x)).getD false) (fun i=>Sum.inl (i:Int)) l.length (Sum.inr (0,(l.length:Int))) (fun i hi=>by
    refine bT (dN hi) (bT (br i) (bB (get_at hi) ?_))
    rw[List.getElem?_eq_getElem hi,eZ (by omega)]
    show (bif v==l[i] then _ else _)=some (bif !(v==l[i]) then _ else _)
    cases v==l[i]<;>rfl) (bF (dZ _) rfl)
 rcases key with ⟨h1,h2⟩|⟨h1,i,hi,hp,h2⟩
 ·refine bB (v := -1) (bB h2 rfl) ?_
  rw[show decide (v∈l)=false from decide_eq_false fun hm=>?_]; ·rfl
  obtain⟨i,hi,rfl⟩:=List.getElem_of_mem hm
  have:=List.all_eq_true.1 h1 i (List.mem_range.2 hi)
  rw[List.getElem?_eq_getElem hi]at this
  simp at this
 ·refine bB (v:=(i:Int)) (bB h2 rfl) ?_
  rw[show decide (v∈l)=true from decide_eq_true ?_]; ·rw[br]
  rw[List.getElem?_eq_getElem hi]at hp
  simp only[Option.map_some,Option.getD_some,Bool.not_eq_false',beq_iff_eq]at hp
  rw[hp]; exact List.getElem_mem _
/-! ### A valid network -/
def oB(n:bP)(l i:Nat):Bool:=(n.ag[i]?.map fun f=>decide ((l:Int)∈f)).getD false
def cf(n:bP):xC where
 F:=n.ag.length
 L:=n.aD.length
 on:=oB n
 c l:=((n.aD[l]?.getD 0:Int):Rat)
 has i:=decide (0<n.aA[i]?.getD 0)
 k i:=((n.aA[i]?.getD 0:Int):Rat)
structure VN(n:bP):Prop where
 nc:n.aD.length≤8
 nf:n.ag.length≤8
 nl:n.aA.length=n.ag.length
 c:∀ x∈n.aD,0≤x∧x≤1000
 k:∀ x∈n.aA,0≤x∧x≤1000
 f6:∀ l∈n.ag,1≤l.length∧l.length≤6
 fr:∀ l∈n.ag,∀ x∈l,0≤x∧x<n.aD.length
theorem Kb{n:bP}(h:vN n=true):VN n:=by
 unfold vN at h
 simp only[Bool.and_eq_true,decide_eq_true_eq,List.all_eq_true]at h
 obtain⟨h1,h2,h3,⟨h4,h5⟩,h6⟩:=h
 have hk:∀ x,tM x=true→0≤x∧x≤1000:=fun x hx=>by simpa[tM] using hx
 refine⟨h1,h2,h3,fun x hx=>hk x (h4 x hx),fun x hx=>hk x (h5 x hx),fun l hl=>?_,fun l hl x hx=>?_⟩
 ·have:=h6 l hl
  unfold DT at this
  simp only[Bool.and_eq_true,decide_eq_true_eq]at this
  omega
 ·have:=h6 l hl
  unfold DT at this
  simp only[Bool.and_eq_true,List.all_eq_true]at this
  obtain⟨i,hi,rfl⟩:=List.getElem_of_mem hx
  have:=this.1 i (List.mem_range.2 hi)
  unfold pF at this
  rw[List.getElem?_eq_getElem hi]at this
  simp only[Bool.and_eq_true,decide_eq_true_eq]at this
  omega
theorem VN.RG{n:bP}(h:VN n){l:List Int}(hl:l∈n.ag):l.length≤2^62:=by have:=h.f6 l hl; omega
theorem VN.cap{n:bP}(h:VN n){l:Nat}(hl:l<n.aD.length):(cf n).c l=((n.aD[l]:Int):Rat)∧0≤n.aD[l]∧n.aD[l]≤1000:=by
 refine⟨?_,h.c _ (List.getElem_mem _)⟩
 show ((n.aD[l]?.getD 0:Int):Rat)=_
 rw[List.getElem?_eq_getElem hl]; rfl
theorem VN.lP{n:bP}(h:VN n){i:Nat}(hi:i<n.ag.length):∃ k,n.aA[i]?=some k∧(cf n).k i=(k:Rat)∧(cf n).has i=decide (0<k)∧0≤k∧k≤1000:=by
 have hl:i<n.aA.length:=by rw[h.nl]; exact hi
 refine⟨n.aA[i],List.getElem?_eq_getElem hl,?_,?_,h.k _ (List.getElem_mem _)⟩
 ·show ((n.aA[i]?.getD 0:Int):Rat)=_
  rw[List.getElem?_eq_getElem hl]; rfl
 ·show decide (0<n.aA[i]?.getD 0)=_
  rw[List.getElem?_eq_getElem hl]; rfl
theorem VN.on{n:bP}(h:VN n){l i:Nat}(hi:i<n.ag.length):aa.bK n.ag[i] (l:Int)=some (oB n l i):=by
 rw[M4 (h.RG (List.getElem_mem _))]
 unfold oB
 rw[List.getElem?_eq_getElem hi]; rfl
theorem VN.ex{n:bP}(h:VN n){i:Nat}(hi:i<n.ag.length):∃ l,l<n.aD.length∧oB n l i=true:=by
 have h1:=h.f6 _ (List.getElem_mem hi)
 have h2:=h.fr _ (List.getElem_mem hi) _ (List.getElem_mem (show 0<n.ag[i].length by omega))
 refine⟨n.ag[i][0].toNat,by omega,?_⟩
 unfold oB
 rw[List.getElem?_eq_getElem hi]
 simp only[Option.map_some,Option.getD_some,decide_eq_true_eq]
 rw[Int.toNat_of_nonneg h2.1]
 exact List.getElem_mem _
theorem AY{P:Nat}{q:Rat}(h1:1≤P)(h2:P≤1000)(hd:Dv P q)(h0:0≤q)(hq:q≤1000):ia q∧q.den≤P:=by
 obtain⟨m,hm⟩:=hd
 have hP:(P:Rat)≠0:=by intro e; have:P=0:=by exact_mod_cast e
                       omega
 have Xt:(0:Rat)<(P:Rat):=by exact_mod_cast h1
 have e:q=mkRat m P:=by
  rw[Rat.mkRat_eq_div,←hm,Rat.div_def,Rat.mul_assoc,Rat.mul_inv_cancel _ hP,Rat.mul_one]
 have QV:0≤m:=by
  have:(0:Rat)≤(m:Rat):=by rw[←hm]; exact Rat.mul_nonneg h0 (Rat.le_of_lt Xt)
  exact_mod_cast this
 have ub:m≤1000*P:=by
  have:(m:Rat)≤1000*(P:Rat):=by rw[←hm]; exact Rat.mul_le_mul_of_nonneg_right hq (Rat.le_of_lt Xt)
  exact_mod_cast this
 have hn:=J5 (n:=m) h1
 have RI:(mkRat m P).den≤P:=by rw[Rat.den_mkRat,if_neg (by omega)]; exact Nat.div_le_self _ _
 rw[←e]at hn RI
 exact⟨⟨by omega,by omega,by omega⟩,RI⟩
theorem M5{k:Int}(h0:0≤k)(h1:k≤1000):ia (k:Rat):=⟨by show _≤k; omega,by show k≤_; omega,by show 1≤_; omega⟩
structure lU(n:bP)(rates:List aj)(fixed:List Bool)(x:Nat→Rat)(lo:Rat)(P:Nat):Prop where
 nr:rates.length=n.ag.length
 nf:fixed.length=n.ag.length
 r:∀ i,i<n.ag.length→fixed[i]?=some true→rates[i]?=some (kv (x i))
 inv:Inv (cf n) (fun i=>fixed[i]?.getD false) x lo P
abbrev jm(fixed:List Bool)(i:Nat):Bool:=fixed[i]?.getD false
theorem qp{p:Nat→Bool}{x:Nat→Rat}{n:Nat}(h:∀ j,j<n→p j=true→0≤x j):∀ {i:Nat},i≤n→0≤sm p x i∧sm p x i≤sm p x n:=by
 have up:∀ m i,i+m=n→sm p x i≤sm p x n:=by
  intro m
  induction m with
  |zero=>intro i hi; rw[show i=n by omega]; exact Rat.le_refl
  |succ m ih=>
   intro i hi
   have h1:=ih (i+1) (by omega)
   simp only[sm]at h1
   cases hp:p i with
   |false=>rw[hp]at h1; simp only[cond_false]at h1; grind
   |true=>rw[hp]at h1; simp only[cond_true]at h1; have:=h i (by omega) hp; grind
 intro i hi
 refine⟨?_,up (n-i) i (by omega)⟩
 clear up
 induction i with
 |zero=>exact Rat.le_refl
 |succ i ih=>
  have h1:=ih (by omega)
  simp only[sm]
  cases hp:p i with
  |false=>simp only[cond_false]; grind
  |true=>simp only[cond_true]; have:=h i (by omega) hp; grind
section
variable {n:bP}{rates:List aj}{fixed:List Bool}{x:Nat→Rat}{lo:Rat}{P:Nat}
theorem lU.Qz(h:lU n rates fixed x lo P):P≤18:=Nat.le_trans (Nat.le_mul_of_pos_right _ (J2 _)) h.inv.Qz
abbrev sF(n:bP)(fixed:List Bool)(x:Nat→Rat)(l:Nat):Rat:=sm (fun i=>oB n l i&&jm fixed i) x n.ag.length
abbrev mF(n:bP)(fixed:List Bool)(l:Nat):Nat:=ct (fun i=>oB n l i&&!jm fixed i) n.ag.length
theorem xF(hv:VN n)(h:lU n rates fixed x lo P){l:Nat}(hl:l<n.aD.length):
  ∃ q,aa.cd (l:Int) (ca.mk n fixed rates)=some (kv q,decide (mF n fixed l≠0))∧(mF n fixed l≠0→q*(mF n fixed l:Nat)=(cf n).c l-sF n fixed x l∧ia q):=by
 obtain⟨hc,LO,Mf⟩:=hv.cap hl
 have Ps:∀ j,j<n.ag.length→(oB n l j&&jm fixed j)=true→0≤x j:=fun j hj hp=>by
  simp only[Bool.and_eq_true]at hp
  exact(h.inv.nn j hj hp.2).1
 have Aq:=h.inv.cap l hl
 have hP:=h.Qz
 have Po:=h.inv.P1
 have Kc:∀ i,i≤n.ag.length→ia ((cf n).c l-sm (fun i=>oB n l i&&jm fixed i) x i):=fun i hi=>by
  have hm:=qp Ps hi
  refine(AY Po (by omega) ?_ ?_ ?_).1
  ·refine Dv.sub ?_ (Dv.sm fun j hj hp=>h.inv.dv j (by show j<n.ag.length; omega) (by simp only[Bool.and_eq_true]at hp; exact hp.2))
   rw[hc]; exact Dv.int _
  ·have:sm (fun i=>oB n l i&&jm fixed i) x n.ag.length≤(cf n).c l:=Aq
   grind
  ·have h1:(cf n).c l≤1000:=by rw[hc]; exact_mod_cast Mf
   have:=hm.1
   grind
 have hx:∀ i,i<n.ag.length→jm fixed i=true→ia (x i):=fun i hi hf=>by
  have h1:=h.inv.nn i hi hf
  obtain⟨l',jl,pg⟩:=hv.ex hi
  obtain⟨Hr,_,RJ⟩:=hv.cap jl
  have Xu:sm (fun i=>oB n l' i&&jm fixed i) x n.ag.length≤(cf n).c l':=h.inv.cap l' jl
  have RK:∀ j,j<n.ag.length→(oB n l' j&&jm fixed j)=true→0≤x j:=fun j hj hp=>by
   simp only[Bool.and_eq_true]at hp
   exact(h.inv.nn j hj hp.2).1
  have h2:=(qp RK (i:=i+1) (by omega)).2
  have h3:=(qp RK (i:=i) (by omega)).1
  simp only[sm,pg,hf,Bool.and_self,cond_true]at h2
  have h4:(cf n).c l'≤1000:=by rw[Hr]; exact_mod_cast RJ
  exact(AY Po (by omega) (h.inv.dv i hi hf) h1.1 (by grind)).1
 have Ht:∀ i,i<n.ag.length→fixed[i]?=some (jm fixed i):=fun i hi=>by
  have:i<fixed.length:=by rw[h.nf]; exact hi
  unfold jm
  rw[List.getElem?_eq_getElem this]; rfl
 have QB:=hv.nf
 have Tn:n.aD[(l:Int).toNat]?=some n.aD[l]:=get_at hl
 have Zd:0≤(cf n).c l-sF n fixed x l:=by
  have:sm (fun i=>oB n l i&&jm fixed i) x n.ag.length≤(cf n).c l:=Aq
  grind
 have RJ:(cf n).c l≤1000:=by rw[hc]; exact_mod_cast Mf
 have hS1:(cf n).c l-sF n fixed x l≤1000:=by
  have:=(qp Ps (i:=n.ag.length) (Nat.le_refl _)).1
  grind
 have Ze:Dv P ((cf n).c l-sF n fixed x l):=by
  refine Dv.sub ?_ (Dv.sm fun j hj hp=>h.inv.dv j hj (by simp only[Bool.and_eq_true]at hp; exact hp.2))
  rw[hc]; exact Dv.int _
 have Zf:mF n fixed l≤8:=Nat.le_trans pG QB
 have xE:aQ (ω:=Int×Int×Int×Int) (fun ((i3,i4,i5,i6):Int×Int×Int×Int)=>
    bif decide (i3<(↑(ca.mk n fixed rates).Net.ag.length:Int)) then
     bif decide (0≤i3) then
      ((ca.mk n fixed rates).Net.ag[i3.toNat]?).bind fun l7=>
      (aa.bK l7 l).bind fun b8=>
      bif b8 then
       bif decide (0≤i3) then
        ((ca.mk n fixed rates).CC[i3.toNat]?).bind fun b9=>
        bif !b9 then
         some (Sum.inl (IntKind.i64.wrap (i3+1),IntKind.i64.wrap (i4+1),i5,i6))
        else
         bif decide (0≤i3) then
          ((ca.mk n fixed rates).CD[i3.toNat]?).bind fun CE=>
          (aa.nu (aj.mk i5 i6) CE).bind fun (LZ,i12)=>
          some (Sum.inl (IntKind.i64.wrap (i3+1),i4,LZ.dC,LZ.Den))
         else
          none
       else
        none
      else
       some (Sum.inl (IntKind.i64.wrap (i3+1),i4,i5,i6))
     else
      none
    else
     some (Sum.inr (i3,i4,i5,i6))) (0,0,n.aD[l],1)=some ((n.ag.length:Int),((mF n fixed l:Nat):Int),((cf n).c l-sF n fixed x l).num,(((cf n).c l-sF n fixed x l).den:Int)):=by
  refine dT (fun i=>((i:Int),((ct (fun i=>oB n l i&&!jm fixed i) i:Nat):Int),((cf n).c l-sm (fun i=>oB n l i&&jm fixed i) x i).num,((((cf n).c l-sm (fun i=>oB n l i&&jm fixed i) x i).den:Nat):Int))) n.ag.length _ (fun i hi=>?_) (bF (dZ _) rfl) ?_
  ·refine bT (dN hi) (bT (br i) (bB (get_at hi) (bB (hv.on hi) ?_)))
   rw[eZ (by omega)]
   have Up:=pG (p:=fun i=>oB n l i&&!jm fixed i) (n:=i)
   cases pg:oB n l i with
   |false=>
    refine bF rfl ?_
    simp only[ct,sm,pg,Bool.false_and,cond_false,Nat.add_zero]
    have:(cf n).c l-(sm (fun i=>oB n l i&&jm fixed i) x i+0)=(cf n).c l-sm (fun i=>oB n l i&&jm fixed i) x i:=by grind
    rw[this]
   |true=>
    refine bT rfl (bT (br i) (bB (v:=jm fixed i) (by rw[Int.toNat_natCast]; exact Ht i hi) ?_))
    cases hf:jm fixed i with
    |false=>
     refine bT rfl ?_
     rw[eZ (by omega)]
     simp only[ct,sm,pg,hf,Bool.true_and,Bool.not_false,cond_true,cond_false]
     have:(cf n).c l-(sm (fun i=>oB n l i&&jm fixed i) x i+0)=(cf n).c l-sm (fun i=>oB n l i&&jm fixed i) x i:=by grind
     rw[this]
    |true=>
     have Ij:fixed[i]?=some true:=by rw[Ht i hi,hf]
     have sT:=sub_eq (Kc i (by omega)) (hx i hi hf)
     have RN:(cf n).c l-sm (fun i=>oB n l i&&jm fixed i) x i-x i=(cf n).c l-sm (fun i=>oB n l i&&jm fixed i) x (i+1):=by
      simp only[sm,pg,hf,Bool.and_self,cond_true]; grind
     rw[RN,if_pos (Kc (i+1) (by omega))]at sT
     refine bF rfl (bT (br i) (bB (v:=kv (x i)) (by rw[Int.toNat_natCast]; exact h.r i hi Ij) (bB sT ?_)))
     simp only[ct,pg,hf,Bool.true_and,Bool.not_true,cond_false,Nat.add_zero]
     rfl
  ·have:(cf n).c l-sm (fun i=>oB n l i&&jm fixed i) x 0=(n.aD[l]:Rat):=by rw[←hc]; simp only[sm]; grind
   rw[this]; rfl
 by_cases hm:mF n fixed l=0
 ·refine⟨(cf n).c l-sF n fixed x l,?_,fun h=>absurd hm h⟩
  unfold aa.cd
  refine bT (br l) (bB Tn (bB (v:=⟨n.aD[l],1⟩) rfl (bB xE (bT (by rw[hm]; rfl) ?_))))
  rw[hm]; rfl
 ·have ub:1≤mF n fixed l:=by omega
  have U5:((mF n fixed l:Nat):Rat)≠0:=fun e=>hm (by exact_mod_cast e)
  have RB:(0:Rat)<((mF n fixed l:Nat):Rat):=by exact_mod_cast ub
  have hq:((cf n).c l-sF n fixed x l)/((mF n fixed l:Nat):Rat)*((mF n fixed l:Nat):Rat)=(cf n).c l-sF n fixed x l:=by
   rw[Rat.div_def,Rat.mul_assoc,Rat.inv_mul_cancel _ U5,Rat.mul_one]
  have U6:0≤((cf n).c l-sF n fixed x l)/((mF n fixed l:Nat):Rat):=by
   apply Rat.le_of_mul_le_mul_right (c:=((mF n fixed l:Nat):Rat)) _ RB
   rw[hq,Rat.zero_mul]; exact Zd
  have gI:((cf n).c l-sF n fixed x l)/((mF n fixed l:Nat):Rat)≤1000:=by
   apply Rat.le_of_mul_le_mul_right (c:=((mF n fixed l:Nat):Rat)) _ RB
   rw[hq]
   have:(1:Rat)≤((mF n fixed l:Nat):Rat):=by exact_mod_cast ub
   grind
  have Zg:P*mF n fixed l≤1000:=Nat.le_trans (Nat.mul_le_mul hP Zf) (by omega)
  have iJ:=(AY (Nat.mul_pos Po ub) Zg (Dv.part Ze hq) U6 gI).1
  have U7:ia ((cf n).c l-sF n fixed x l):=Kc n.ag.length (Nat.le_refl _)
  have hdiv:=div_eq U7 ub (by omega)
  rw[if_pos iJ]at hdiv
  refine⟨_,?_,fun _=>⟨hq,iJ⟩⟩
  unfold aa.cd
  refine bT (br l) (bB Tn (bB (v:=⟨n.aD[l],1⟩) rfl (bB xE (bF (by show (((mF n fixed l:Nat):Int)==0)=false; rw[beq_eq_false_iff_ne]; omega) (bB (v:=⟨((mF n fixed l:Nat):Int),1⟩) rfl (bB hdiv ?_))))))
  rw[decide_eq_true hm]
theorem vF(hv:VN n)(h:lU n rates fixed x lo P){i:Nat}(hi:i<n.ag.length):
  aa.cz (i:Int) (ca.mk n fixed rates)=some (kv ((cf n).k i),(cf n).has i&&!jm fixed i):=by
 obtain⟨k,hk,e1,e2,k0,k1⟩:=hv.lP hi
 have GP:n.aA[(i:Int).toNat]?=some k:=by rw[Int.toNat_natCast]; exact hk
 unfold aa.cz
 refine bT (br i) (bB GP (bB (v:=⟨k,1⟩) rfl (bT (br i) (bB GP ?_))))
 rw[e1,e2]
 by_cases hp:0<k
 ·have:i<fixed.length:=by rw[h.nf]; exact hi
  refine bT (decide_eq_true hp) (bT (br i) (bB (v:=jm fixed i) (by rw[Int.toNat_natCast]; unfold jm; rw[List.getElem?_eq_getElem this]; rfl) ?_))
  rw[decide_eq_true hp]; rfl
 ·rw[decide_eq_false hp]
  exact bF rfl rfl
theorem ES(hv:VN n)(l:Nat){i:Nat}(hi:i<n.ag.length):aa.fE (l:Int) (ca.mk n fixed rates) (i:Int)=some (oB n l i):=by
 unfold aa.fE
 exact bT (br i) (bB (get_at hi) (bB (hv.on hi) rfl))
end
end Go.Proofs.Ytedjbjphpnkpoaa
end
section
/- Plain facts of this seat: what Share returns. -/
set_option maxRecDepth 100000
set_option maxHeartbeats 1000000
namespace Go.Proofs.Ytedjbjphpnkpoaa
open Go.PI Go.Pl Go.Mm
section
variable {γ:Type}{Q:γ→Prop}
theorem RQ{c:Bool}{x y:Option γ}(hc:c=true)(hx:∃ r,x=some r∧Q r):∃ r,(bif c then x else y)=some r∧Q r:=by subst hc; exact hx
theorem U8{c:Bool}{x y:Option γ}(hc:c=false)(hy:∃ r,y=some r∧Q r):∃ r,(bif c then x else y)=some r∧Q r:=by subst hc; exact hy
theorem M6{β:Type}{e:Option β}{v:β}{K:β→Option γ}(he:e=some v)(hk:∃ r,K v=some r∧Q r):∃ r,e.bind K=some r∧Q r:=by subst he; exact hk
theorem Hu{τ ω:Type}{f:τ→Option (τ ⊕ ω)}(I:τ→Prop)(μ:τ→Nat)(P:ω→Prop)(h:∀ s,I s→(∃ s',f s=some (.inl s')∧I s'∧μ s'<μ s)∨(∃ w,f s=some (.inr w)∧P w)):
  ∀ s,I s→∃ w,aQ f s=some w∧P w:=by
 have key:∀ m s,μ s<m→I s→∃ w,aQ f s=some w∧P w:=by
  intro m
  induction m with
  |zero=>intro s hs; omega
  |succ m ih=>
   intro s hs hI
   rcases h s hI with ⟨s',h1,h2,h3⟩|⟨w,h1,h2⟩
   ·obtain⟨w,h4,h5⟩:=ih s' (by omega) h2
    exact⟨w,by rw[next h1,h4],h5⟩
   ·exact⟨w,out h1,h2⟩
 exact fun s hs=>key (μ s+1) s (Nat.lt_succ_self _) hs
theorem M7{τ ω:Type}{f:τ→Option (τ ⊕ ω)}{x0:τ}{K:ω→Option γ}(I:τ→Prop)(μ:τ→Nat)(P:ω→Prop)(h:∀ s,I s→(∃ s',f s=some (.inl s')∧I s'∧μ s'<μ s)∨(∃ w,f s=some (.inr w)∧P w))(h0:I x0)
  (hk:∀ w,P w→∃ r,K w=some r∧Q r):∃ r,(aQ f x0).bind K=some r∧Q r:=by
 obtain⟨w,h1,h2⟩:=Hu I μ P h x0 h0
 exact M6 h1 (hk w h2)
end
/-! ### Stops -/
def iA(i:Nat):dP:=⟨true,(i:Int)⟩
def rO(i:Nat):dP:=⟨false,(i:Int)⟩
def pJ(n:bP):List dP:=(List.range n.aD.length).map iA++(List.range n.ag.length).map rO
theorem CF{n:bP}{s:dP}(h:s∈pJ n):(∃ l,l<n.aD.length∧s=iA l)∨∃ i,i<n.ag.length∧s=rO i:=by
 unfold pJ at h
 simp only[List.mem_append,List.mem_map,List.mem_range]at h
 rcases h with ⟨l,h1,h2⟩|⟨l,h1,h2⟩
 ·exact .inl ⟨l,h1,h2.symm⟩
 ·exact .inr ⟨l,h1,h2.symm⟩
theorem CG(n:bP):(pJ n).length=n.aD.length+n.ag.length:=by simp[pJ]
section
variable {n:bP}{rates:List aj}{fixed:List Bool}{x:Nat→Rat}{lo:Rat}{P:Nat}
noncomputable def lvl(n:bP)(rates:List aj)(fixed:List Bool)(s:dP):Option (aj×Bool):=
 bif s.A then aa.cd s.N (ca.mk n fixed rates) else aa.cz s.N (ca.mk n fixed rates)
noncomputable def act(n:bP)(rates:List aj)(fixed:List Bool)(s:dP):Bool:=((lvl n rates fixed s).map (·.2)).getD false
noncomputable def lv(n:bP)(rates:List aj)(fixed:List Bool)(s:dP):aj:=((lvl n rates fixed s).map (·.1)).getD ⟨0,0⟩
noncomputable def rq(n:bP)(rates:List aj)(fixed:List Bool)(s:dP):Rat:=mkRat (lv n rates fixed s).dC (lv n rates fixed s).Den.toNat
theorem CH(q:Rat):mkRat (kv q).dC (kv q).Den.toNat=q:=by
 show mkRat q.num ((q.den:Int)).toNat=q
 rw[Int.toNat_natCast,Rat.mkRat_self]
theorem Pt(hv:VN n)(h:lU n rates fixed x lo P){s:dP}(hs:s∈pJ n):lvl n rates fixed s=some (lv n rates fixed s,act n rates fixed s):=by
 have:∃ r,lvl n rates fixed s=some r:=by
  rcases CF hs with ⟨l,hl,rfl⟩|⟨i,hi,rfl⟩
  ·obtain⟨q,hq,_⟩:=xF hv h hl
   exact⟨_,hq⟩
  ·exact⟨_,vF hv h hi⟩
 obtain⟨r,hr⟩:=this
 unfold lv act
 rw[hr]; rfl
theorem ux(hv:VN n)(h:lU n rates fixed x lo P){l:Nat}(hl:l<n.aD.length):act n rates fixed (iA l)=decide (mF n fixed l≠0)∧(mF n fixed l≠0→lv n rates fixed (iA l)=kv (rq n rates fixed (iA l))∧ia (rq n rates fixed (iA l))∧rq n rates fixed (iA l)*(mF n fixed l:Nat)=(cf n).c l-sF n fixed x l):=by
 obtain⟨q,hq,hf⟩:=xF hv h hl
 have e1:act n rates fixed (iA l)=decide (mF n fixed l≠0):=by unfold act lvl; show ((aa.cd (l:Int) _).map _).getD false=_; rw[hq]; rfl
 have e2:lv n rates fixed (iA l)=kv q:=by unfold lv lvl; show ((aa.cd (l:Int) _).map _).getD _=_; rw[hq]; rfl
 have e3:rq n rates fixed (iA l)=q:=by unfold rq; rw[e2]; exact CH q
 refine⟨e1,fun hm=>?_⟩
 rw[e3]
 exact⟨e2,(hf hm).2,(hf hm).1⟩
theorem xG(hv:VN n)(h:lU n rates fixed x lo P){i:Nat}(hi:i<n.ag.length):act n rates fixed (rO i)=((cf n).has i&&!jm fixed i)∧lv n rates fixed (rO i)=kv (rq n rates fixed (rO i))∧ia (rq n rates fixed (rO i))∧rq n rates fixed (rO i)=(cf n).k i:=by
 have hq:=vF hv h hi
 obtain⟨k,_,OW,_,k0,k1⟩:=hv.lP hi
 have e1:act n rates fixed (rO i)=((cf n).has i&&!jm fixed i):=by unfold act lvl; show ((aa.cz (i:Int) _).map _).getD false=_; rw[hq]; rfl
 have e2:lv n rates fixed (rO i)=kv ((cf n).k i):=by unfold lv lvl; show ((aa.cz (i:Int) _).map _).getD _=_; rw[hq]; rfl
 have e3:rq n rates fixed (rO i)=(cf n).k i:=by unfold rq; rw[e2]; exact CH _
 rw[e3]
 exact⟨e1,e2,by rw[OW]; exact M5 k0 k1,rfl⟩
noncomputable def eu(n:bP)(rates:List aj)(fixed:List Bool):List dP:=(pJ n).filter (act n rates fixed)
theorem gm(hv:VN n)(h:lU n rates fixed x lo P){s:dP}(hs:s∈eu n rates fixed):lv n rates fixed s=kv (rq n rates fixed s)∧ia (rq n rates fixed s) ∧
  ((∃ l,l<n.aD.length∧s=iA l∧mF n fixed l≠0∧rq n rates fixed s*(mF n fixed l:Nat)=(cf n).c l-sF n fixed x l)∨∃ i,i<n.ag.length∧s=rO i∧(cf n).has i=true∧jm fixed i=false∧rq n rates fixed s=(cf n).k i):=by
 unfold eu at hs
 obtain⟨h1,h2⟩:=List.mem_filter.1 hs
 rcases CF h1 with ⟨l,hl,rfl⟩|⟨i,hi,rfl⟩
 ·obtain⟨g1,g2⟩:=ux hv h hl
  rw[g1]at h2
  have hm:=of_decide_eq_true h2
  obtain⟨g3,g4,g5⟩:=g2 hm
  exact⟨g3,g4,.inl ⟨l,hl,rfl,hm,g5⟩⟩
 ·obtain⟨g1,g2,g3,g4⟩:=xG hv h hi
  rw[g1]at h2
  simp only[Bool.and_eq_true,Bool.not_eq_true']at h2
  exact⟨g2,g3,.inr ⟨i,hi,rfl,h2.1,h2.2,g4⟩⟩
theorem zO(hv:VN n)(h:lU n rates fixed x lo P){l:Nat}(hl:l<n.aD.length)(hm:mF n fixed l≠0):iA l∈eu n rates fixed:=by
 refine List.mem_filter.2 ⟨?_,by rw[(ux hv h hl).1]; exact decide_eq_true hm⟩
 unfold pJ
 exact List.mem_append_left _ (List.mem_map.2 ⟨l,List.mem_range.2 hl,rfl⟩)
theorem Kd(hv:VN n)(h:lU n rates fixed x lo P){i:Nat}(hi:i<n.ag.length)(h1:(cf n).has i=true)(h2:jm fixed i=false):rO i∈eu n rates fixed:=by
 refine List.mem_filter.2 ⟨?_,by rw[(xG hv h hi).1,h1,h2]; rfl⟩
 unfold pJ
 exact List.mem_append_right _ (List.mem_map.2 ⟨i,List.mem_range.2 hi,rfl⟩)
def Bv(m:Rat)(l:List Rat):Rat:=l.foldl (fun m q=>if q<m then q else m) m
theorem Pu(l:List Rat):∀ m,Bv m l≤m∧∀ q∈l,Bv m l≤q:=by
 induction l with
 |nil=>intro m; exact⟨Rat.le_refl,fun q hq=>by cases hq⟩
 |cons a l ih=>
  intro m
  have h:=ih (if a<m then a else m)
  show Bv (if a<m then a else m) l≤m∧∀ q∈a::l,Bv (if a<m then a else m) l≤q
  have h1:(if a<m then a else m)≤m∧(if a<m then a else m)≤a:=by split<;>constructor<;>grind
  refine⟨Rat.le_trans h.1 h1.1,fun q hq=>?_⟩
  rcases List.mem_cons.1 hq with rfl|hq
  ·exact Rat.le_trans h.1 h1.2
  ·exact h.2 q hq
theorem Gh(l:List Rat):∀ m,Bv m l=m∨Bv m l∈l:=by
 induction l with
 |nil=>intro m; exact .inl rfl
 |cons a l ih=>
  intro m
  show Bv (if a<m then a else m) l=m∨Bv (if a<m then a else m) l∈a::l
  rcases ih (if a<m then a else m) with h|h
  ·rw[h]
   split
   ·exact .inr (by simp)
   ·exact .inl rfl
  ·exact .inr (List.mem_cons_of_mem _ h)
def dQ{γ:Type}(l:List γ)(is:List Nat)(v:γ):List γ:=is.foldl (fun l i=>l.set i v) l
theorem dH{γ:Type}(is:List Nat)(v:γ):∀ l:List γ,(dQ l is v).length=l.length:=by
 induction is with
 |nil=>intro l; rfl
 |cons i is ih=>intro l; show (dQ (l.set i v) is v).length=_; rw[ih,List.length_set]
theorem rP{γ:Type}(is:List Nat)(v:γ):∀ (l:List γ) (j:Nat),j<l.length→(dQ l is v)[j]?=if j∈is then some v else l[j]?:=by
 induction is with
 |nil=>intro l j hj; simp[dQ]
 |cons i is ih=>
  intro l j hj
  show (dQ (l.set i v) is v)[j]?=_
  rw[ih _ _ (by rw[List.length_set]; exact hj)]
  by_cases h1:j∈is
  ·rw[if_pos h1,if_pos (List.mem_cons_of_mem _ h1)]
  ·rw[if_neg h1]
   by_cases h2:j=i
   ·subst h2
    rw[if_pos (by simp),List.getElem?_set_self hj]
   ·rw[if_neg (by simp[h1,h2]),List.getElem?_set_ne (fun e=>h2 e.symm)]
theorem vG{γ:Type}(l:List γ)(is:List Nat)(v:γ){t:Nat}(ht:t<is.length):dQ l (is.take (t+1)) v=(dQ l (is.take t) v).set is[t] v:=by
 unfold dQ
 rw[List.take_succ_eq_append_getElem ht,List.foldl_append]; rfl
end
end Go.Proofs.Ytedjbjphpnkpoaa
end
section
/- Plain facts of this seat: a step of Share, and Share. -/
set_option maxRecDepth 100000
set_option maxHeartbeats 2000000
namespace Go.Proofs.Ytedjbjphpnkpoaa
open Go.PI Go.Pl Go.Mm
theorem jQ{m k:Nat}(h:m≤100000)(hk:k≤64):(decide (m*k≤2^44)&&decide (m≤2^44))=true:=by
 have:m*k≤100000*64:=Nat.mul_le_mul h hk
 simp only[Bool.and_eq_true,decide_eq_true_eq]
 omega
theorem tk(q r:Rat):((kv q).dC==r.num&&(kv q).Den==(r.den:Int))=decide (q=r):=by
 rw[Bool.eq_iff_iff]
 simp only[kv,Bool.and_eq_true,beq_iff_eq,decide_eq_true_eq]
 constructor
 ·rintro⟨h1,h2⟩; exact Rat.ext h1 (by omega)
 ·rintro rfl; exact⟨rfl,rfl⟩
def Ke(n:bP)(s:dP)(i:Nat):Bool:=bif s.A then oB n s.N.toNat i else s.N==(i:Int)
noncomputable def Ip(n:bP)(fixed:List Bool)(low:Rat)(r:Rat)(s:dP)(i:Nat):Bool:=decide (r=low)&&(!jm fixed i&&Ke n s i)
noncomputable def AZ(n:bP)(rates:List aj)(fixed:List Bool)(low:Rat)(s:dP)(m:Nat):List Nat:=(List.range m).filter (Ip n fixed low (rq n rates fixed s) s)
noncomputable def ib(n:bP)(rates:List aj)(fixed:List Bool)(low:Rat):List Nat:=(eu n rates fixed).flatMap fun s=>AZ n rates fixed low s n.ag.length
theorem rQ{γ:Type}(p:γ→Bool)(l:List γ):(l.filter p).length≤l.length:=List.length_filter_le _ _
theorem xH{γ δ:Type}{f:γ→List δ}{b:Nat}:∀ {l:List γ},(∀ x∈l,(f x).length≤b)→(l.flatMap f).length≤l.length*b
 |[],_=>by simp
 |x::l,h=>by
  have h1:=xH (l:=l) fun y hy=>h y (List.mem_cons_of_mem _ hy)
  have h2:=h x (by simp)
  simp only[List.flatMap_cons,List.length_append,List.length_cons,Nat.succ_mul]
  omega
section
variable {n:bP}{rates:List aj}{fixed:List Bool}{x:Nat→Rat}{lo:Rat}{P:Nat}
theorem Kf(hv:VN n):(eu n rates fixed).length≤16:=by
 have h1:=rQ (act n rates fixed) (pJ n)
 have h2:=CG n
 have:=hv.nc; have:=hv.nf
 unfold eu; omega
theorem uy{γ:Type}{p:γ→Bool}{l:List γ}{i:Nat}(h:i<l.length):(l.take (i+1)).filter p=(l.take i).filter p++bif p l[i] then [l[i]] else []:=by
 rw[List.take_succ_eq_append_getElem h,List.filter_append]
 cases hp:p l[i]<;>simp[hp]
theorem tm{p:Nat→Bool}{i:Nat}:(List.range (i+1)).filter p=(List.range i).filter p++bif p i then [i] else []:=by
 rw[List.range_succ,List.filter_append]
 cases hp:p i<;>simp[hp]
abbrev ET(n:bP)(fixed:List Bool):Nat:=ct (fun i=>!jm fixed i) n.ag.length
noncomputable def cA(n:bP)(rates:List aj)(fixed:List Bool):Rat:=match eu n rates fixed with
 |[]=>0
 |s::l=>Bv (rq n rates fixed s) ((s::l).map (rq n rates fixed))
theorem Gi(hv:VN n)(h:lU n rates fixed x lo P)(hm:false∈fixed):∃ s l,eu n rates fixed=s::l:=by
 obtain⟨i,hi,he⟩:=List.getElem_of_mem hm
 have p9:i<n.ag.length:=by rw[←h.nf]; exact hi
 have hf:jm fixed i=false:=by unfold jm; rw[List.getElem?_eq_getElem hi,he]; rfl
 obtain⟨l,hl,pg⟩:=hv.ex p9
 have L0:mF n fixed l≠0:=by
  have:=rM (p:=fun i=>oB n l i&&!jm fixed i) p9 (by simp[pg,hf])
  unfold mF; omega
 have:=zO hv h hl L0
 cases ha:eu n rates fixed with
 |nil=>rw[ha]at this; cases this
 |cons s l=>exact⟨s,l,rfl⟩
theorem CI(hv:VN n)(h:lU n rates fixed x lo P)(hm:false∈fixed):(∃ s∈eu n rates fixed,rq n rates fixed s=cA n rates fixed)∧∀ s∈eu n rates fixed,cA n rates fixed≤rq n rates fixed s:=by
 obtain⟨s,l,ha⟩:=Gi hv h hm
 unfold cA
 rw[ha]
 simp only
 have h1:=Pu ((s::l).map (rq n rates fixed)) (rq n rates fixed s)
 refine⟨?_,fun t ht=>h1.2 _ (List.mem_map.2 ⟨t,ht,rfl⟩)⟩
 rcases Gh ((s::l).map (rq n rates fixed)) (rq n rates fixed s) with h2|h2
 ·exact⟨s,by simp,h2.symm⟩
 ·obtain⟨t,ht,e⟩:=List.mem_map.1 h2
  exact⟨t,ht,e⟩
theorem M8(hv:VN n)(h:lU n rates fixed x lo P)(hm:false∈fixed):ia (cA n rates fixed):=by
 obtain⟨⟨s,hs,e⟩,_⟩:=CI hv h hm
 rw[←e]; exact(gm hv h hs).2.1
theorem qt{i:Nat}{low:Rat}:i∈ib n rates fixed low↔∃ s∈eu n rates fixed,i<n.ag.length∧rq n rates fixed s=low∧jm fixed i=false∧Ke n s i=true:=by
 unfold ib AZ Ip
 simp only[List.mem_flatMap,List.mem_filter,List.mem_range,Bool.and_eq_true,decide_eq_true_eq,Bool.not_eq_true']
theorem M9(hv:VN n)(h:lU n rates fixed x lo P)(hm:false∈fixed):Xq (cf n) (jm fixed) x (cA n rates fixed) (fun i=>decide (i∈ib n rates fixed (cA n rates fixed))):=by
 obtain⟨⟨s0,DQ,e0⟩,ue⟩:=CI hv h hm
 have lk:∀ l,l<n.aD.length→mF n fixed l≠0→cA n rates fixed≤rq n rates fixed (iA l)∧rq n rates fixed (iA l)*(mF n fixed l:Nat)=(cf n).c l-sF n fixed x l:=fun l hl L0=>
  ⟨ue _ (zO hv h hl L0),((ux hv h hl).2 L0).2.2⟩
 refine⟨fun i hi hw=>?_,fun l hl=>?_,fun i hi hf hh=>?_,fun i hi hw=>?_,?_⟩
 ·obtain⟨s,_,_,_,h3,_⟩:=qt.1 (of_decide_eq_true hw)
  exact h3
 ·show cA n rates fixed*((mF n fixed l:Nat):Rat)≤(cf n).c l-sF n fixed x l
  by_cases L0:mF n fixed l=0
  ·rw[L0]
   have:sF n fixed x l≤(cf n).c l:=h.inv.cap l hl
   have e:cA n rates fixed*((0:Nat):Rat)=0:=by
    have:((0:Nat):Rat)=0:=rfl
    rw[this,Rat.mul_zero]
   rw[e]; grind
  ·obtain⟨g1,g2⟩:=lk l hl L0
   rw[←g2]
   exact Rat.mul_le_mul_of_nonneg_right g1 (by exact_mod_cast Nat.zero_le _)
 ·have:=ue _ (Kd hv h hi hh hf)
  rw[(xG hv h hi).2.2.2]at this
  exact this
 ·obtain⟨s,hs,_,hq,hf,gG⟩:=qt.1 (of_decide_eq_true hw)
  obtain⟨_,_,⟨l,hl,rfl,L0,Pv⟩|⟨j,hj,rfl,hh,_,hk⟩⟩:=gm hv h hs
  ·have pg:oB n l i=true:=by simpa[Ke,iA] using gG
   rw[hq]at Pv
   refine .inr ⟨l,hl,pg,Pv,fun j hj LY Pw=>decide_eq_true (qt.2 ⟨_,hs,hj,hq,Pw,by have U9:oB n l j=true:=LY; simpa[Ke,iA] using U9⟩)⟩
  ·have LP:j=i:=by simp only[Ke,rO,cond_false,beq_iff_eq]at gG; omega
   subst LP
   exact .inl ⟨hh,by rw[←hq,hk]⟩
 ·obtain⟨_,_,⟨l,hl,rfl,L0,Pv⟩|⟨j,hj,rfl,hh,hf,hk⟩⟩:=gm hv h DQ
  ·obtain⟨i,hi,hp⟩:=J1 (p:=fun i=>oB n l i&&!jm fixed i) (n:=n.ag.length) (by unfold mF at L0; omega)
   simp only[Bool.and_eq_true,Bool.not_eq_true']at hp
   exact⟨i,hi,decide_eq_true (qt.2 ⟨_,DQ,hi,e0,hp.2,by simpa[Ke,iA] using hp.1⟩)⟩
  ·exact⟨j,hj,decide_eq_true (qt.2 ⟨_,DQ,hj,e0,hf,by simp[Ke,rO]⟩)⟩
theorem Kg{low:Rat}{i:Nat}(h:i∈ib n rates fixed low):i<n.ag.length:=by
 obtain⟨_,_,h1,_⟩:=qt.1 h; exact h1
theorem Na(hv:VN n)(h:lU n rates fixed x lo P)(hm:false∈fixed):∃ x' P',lU n (dQ rates (ib n rates fixed (cA n rates fixed)) (kv (cA n rates fixed))) (dQ fixed (ib n rates fixed (cA n rates fixed)) true) x' (cA n rates fixed) P' ∧
  ET n (dQ fixed (ib n rates fixed (cA n rates fixed)) true)<ET n fixed:=by
 have g:=M9 hv h hm
 have U0:∀ l,l<(cf n).L→Dv 1 ((cf n).c l):=fun l hl=>by rw[(hv.cap hl).1]; exact Dv.int _
 have GP:∀ i,i<(cf n).F→Dv 1 ((cf n).k i):=fun i hi=>by obtain⟨k,_,e,_⟩:=hv.lP hi; rw[e]; exact Dv.int _
 obtain⟨P',hI⟩:=Hq (N:=cf n) hv.nf U0 GP h.inv g
 have Xv:(fun i=>jm (dQ fixed (ib n rates fixed (cA n rates fixed)) true) i)=fun i=>jm fixed i||decide (i∈ib n rates fixed (cA n rates fixed)):=by
  funext i
  by_cases hi:i<fixed.length
  ·unfold jm
   rw[rP _ _ _ _ hi]
   by_cases hw:i∈ib n rates fixed (cA n rates fixed)
   ·rw[if_pos hw,decide_eq_true hw,Bool.or_true]; rfl
   ·rw[if_neg hw,decide_eq_false hw,Bool.or_false]
  ·have h1:i∉ib n rates fixed (cA n rates fixed):=fun hw=>hi (by rw[h.nf]; exact Kg hw)
   rw[decide_eq_false h1,Bool.or_false]
   unfold jm
   have e1:(dQ fixed (ib n rates fixed (cA n rates fixed)) true)[i]?=none:=List.getElem?_eq_none (by rw[dH]; omega)
   have e2:fixed[i]?=none:=List.getElem?_eq_none (by omega)
   rw[e1,e2]
 refine⟨_,P',⟨by rw[dH]; exact h.nr,by rw[dH]; exact h.nf,fun i hi hf=>?_,by rw[Xv]; exact hI⟩,?_⟩
 ·rw[rP _ _ _ _ (by rw[h.nr]; exact hi)]
  rw[rP _ _ _ _ (by rw[h.nf]; exact hi)]at hf
  by_cases hw:i∈ib n rates fixed (cA n rates fixed)
  ·simp[hw]
  ·simp only[hw,if_false]at hf ⊢
   simp only[decide_false,Bool.false_eq_true,if_false]
   exact h.r i hi hf
 ·show ct (fun i=>!jm (dQ fixed _ true) i) n.ag.length<_
  have e:(fun i=>!jm (dQ fixed (ib n rates fixed (cA n rates fixed)) true) i)=fun i=>!(jm fixed i||decide (i∈ib n rates fixed (cA n rates fixed))):=by
   funext i; rw[show jm (dQ fixed _ true) i=_ from congrFun Xv i]
  rw[e]
  obtain⟨i,hi,hw⟩:=g.some
  have Q0:=ti (p:=fun i=>!jm fixed i) (q:=fun i=>decide (i∈ib n rates fixed (cA n rates fixed))) (n:=n.ag.length)
  have hp:=rM (p:=fun i=>!jm fixed i&&decide (i∈ib n rates fixed (cA n rates fixed))) (n:=n.ag.length) hi (by rw[g.sub i hi hw,hw]; rfl)
  have e2:ct (fun i=>!(jm fixed i||decide (i∈ib n rates fixed (cA n rates fixed)))) n.ag.length=ct (fun i=>!jm fixed i&&!decide (i∈ib n rates fixed (cA n rates fixed))) n.ag.length:=nq fun j _=>by cases jm fixed j<;>rfl
  show _<ct (fun i=>!jm fixed i) n.ag.length
  rw[e2]; omega
end
end Go.Proofs.Ytedjbjphpnkpoaa
end
section
/- Plain facts of this seat: Share returns the fair rates. -/
set_option maxRecDepth 100000
set_option maxHeartbeats 4000000
namespace Go.Proofs.Ytedjbjphpnkpoaa
open Go.PI Go.Pl Go.Mm
theorem Nb{γ:Type}{l:List γ}{i:Nat}(h:i<l.length):l[0+(i:Int).toNat]?=some l[i]:=by
 rw[Nat.zero_add,Int.toNat_natCast]; exact List.getElem?_eq_getElem h
theorem L1{i m:Nat}(h:i<m):decide ((i:Int).toNat<m)=true:=decide_eq_true (by rw[Int.toNat_natCast]; exact h)
theorem Kh(m:Rat)(l:List Rat)(q:Rat):Bv m (l++[q])=if q<Bv m l then q else Bv m l:=by
 unfold Bv; rw[List.foldl_append]; rfl
theorem Ki{n:bP}(hb:vN n=true):∃ r,aa.cw n=some r∧r.2=0∧∃ x lo P,lU n r.1 (List.replicate n.ag.length true) x lo P:=by
 have hv:=Kb hb
 have QB:=hv.nf
 have Zh:=hv.nc
 have Ht:∀ l∈n.ag,l.length≤2^62:=fun l hl=>hv.RG hl
 have eN:((n.ag.length:Int)).toNat=n.ag.length:=Int.toNat_natCast _
 unfold aa.cw
 refine M6 (M1 Ht) (U8 (by rw[hb]; rfl) (RQ (by rw[eN]; simp only[Bool.and_eq_true,decide_eq_true_eq]; omega) (RQ (by rw[eN]; simp only[Bool.and_eq_true,decide_eq_true_eq]; omega) ?_)))
 refine M6 (v:=((n.aD.length:Int),(List.range n.aD.length).map iA)) (dT (fun i=>((i:Int),(List.range i).map iA)) n.aD.length _ (fun i hi=>?_) (bF (dZ _) rfl) rfl) ?_
 ·refine bT (dN hi) (bT (by rw[List.length_map,List.length_range]; exact jQ (by omega) (by omega)) ?_)
  rw[eZ (by omega),List.range_succ,List.map_append]; rfl
 refine M6 (v:=((n.aA.length:Int),pJ n)) (dT (fun i=>((i:Int),(List.range n.aD.length).map iA++(List.range i).map rO)) n.aA.length _ (fun i hi=>?_) (bF (dZ _) (by rw[hv.nl]; rfl)) (by simp)) ?_
 ·have:=hv.nl
  refine bT (dN hi) (bT (by simp only[List.length_append,List.length_map,List.length_range]; exact jQ (by omega) (by omega)) ?_)
  rw[eZ (by omega),List.range_succ,List.map_append,List.append_assoc]; rfl
 refine M7 (fun s=>∃ x lo P,lU n s.1 s.2 x lo P) (fun s=>ET n s.2) (fun w=>(∃ x lo P,lU n w.1 w.2 x lo P)∧false∉w.2) ?_ ?_ ?_
 ·rintro⟨rates,fixed⟩ ⟨x,lo,P,h⟩
  have RR:rates.length=n.ag.length:=h.nr
  have RT:fixed.length=n.ag.length:=h.nf
  have h':lU n rates fixed x lo P:=h
  have hc:=Ka (l:=fixed) (by omega) false
  have er:decide (rates.length=(List.replicate ((n.ag.length:Int)).toNat (aj.mk 0 0)).length)=true:=decide_eq_true (by rw[List.length_replicate,eN]; exact RR)
  have ef:decide (fixed.length=(List.replicate ((n.ag.length:Int)).toNat false).length)=true:=decide_eq_true (by rw[List.length_replicate,eN]; exact RT)
  by_cases hm:false∈fixed
  ·obtain⟨x',P',hS,bZ⟩:=Na hv h' hm
   refine .inl ⟨(_,_),?_,⟨x',_,P',hS⟩,bZ⟩
   obtain⟨s0,rest,ha⟩:=Gi hv h' hm
   have Zi:=M8 hv h' hm
   have Va:=Kf (n:=n) (rates:=rates) (fixed:=fixed) hv
   have bf:=CG n
   refine bB hc (bT (decide_eq_true hm) ?_)
   refine bB (v:=(((pJ n).length:Int),(eu n rates fixed).map (lv n rates fixed),eu n rates fixed)) (dT (fun i=>((i:Int),(((pJ n).take i).filter (act n rates fixed)).map (lv n rates fixed),((pJ n).take i).filter (act n rates fixed))) (pJ n).length _ (fun i hi=>?_) (bF (dZ _) (by simp only[List.take_length]; rfl)) rfl) ?_
   ·have hl:=Pt hv h' (List.getElem_mem hi)
    have TD:=uy (p:=act n rates fixed) hi
    have Zj:=rQ (act n rates fixed) ((pJ n).take i)
    have xx:((pJ n).take i).length≤16:=by rw[List.length_take]; omega
    refine bT (dN hi) (bT (br i) (bT (L1 hi) (bB (Nb hi) ?_)))
    rw[eZ (by omega),TD]
    generalize (pJ n)[i]=s at hl
    obtain⟨A,N⟩:=s
    cases A with
    |true=>
     refine bT rfl (bB hl ?_)
     cases act n rates fixed ⟨true,N⟩ with
     |false=>exact bF rfl (by simp)
     |true=>exact bT rfl (bT (by rw[List.length_map]; exact jQ (by omega) (by omega)) (bT (jQ (by omega) (by omega)) (by simp)))
    |false=>
     refine bF rfl (bB hl ?_)
     cases act n rates fixed ⟨false,N⟩ with
     |false=>exact bF rfl (by simp)
     |true=>exact bT rfl (bT (by rw[List.length_map]; exact jQ (by omega) (by omega)) (bT (jQ (by omega) (by omega)) (by simp)))
   have na:∀ {i:Nat} (hi:i<(eu n rates fixed).length),((eu n rates fixed).map (lv n rates fixed))[0+(i:Int).toNat]?=some (kv (rq n rates fixed (eu n rates fixed)[i])):=fun {i} hi=>by
    rw[Nat.zero_add,Int.toNat_natCast,List.getElem?_map,List.getElem?_eq_getElem hi,Option.map_some,(gm hv h' (List.getElem_mem hi)).1]
   have DQ:s0∈eu n rates fixed:=by rw[ha]; simp
   have fk:0<(eu n rates fixed).length:=by rw[ha]; simp
   refine bT (decide_eq_true (by rw[List.length_map]; exact fk)) (bB (v:=kv (rq n rates fixed s0)) (by rw[ha,List.map_cons,List.getElem?_cons_zero,(gm hv h' DQ).1]) ?_)
   have Uv:∀ i,ia (Bv (rq n rates fixed s0) (((eu n rates fixed).take i).map (rq n rates fixed))):=fun i=>by
    rcases Gh (((eu n rates fixed).take i).map (rq n rates fixed)) (rq n rates fixed s0) with e|e
    ·rw[e]; exact(gm hv h' DQ).2.1
    ·obtain⟨t,ht,e⟩:=List.mem_map.1 e
     rw[←e]; exact(gm hv h' (List.mem_of_mem_take ht)).2.1
   refine bB (v:=(((eu n rates fixed).length:Int),(cA n rates fixed).num,((cA n rates fixed).den:Int))) (dT (fun i=>((i:Int),(Bv (rq n rates fixed s0) (((eu n rates fixed).take i).map (rq n rates fixed))).num,((Bv (rq n rates fixed s0) (((eu n rates fixed).take i).map (rq n rates fixed))).den:Int))) (eu n rates fixed).length _ (fun i hi=>?_) (bF (by rw[List.length_map]; exact dZ _) ?_) rfl) ?_
   ·have hf:=gm hv h' (List.getElem_mem hi)
    have RU:=MZ hf.2.1 (Uv i)
    refine bT (by rw[List.length_map]; exact dN hi) (bT (br i) (bT (by rw[List.length_map]; exact L1 hi) (bB (na hi) (bB RU ?_))))
    rw[eZ (by omega),List.take_succ_eq_append_getElem hi,List.map_append,List.map_cons,List.map_nil,Kh]
    by_cases hq:rq n rates fixed (eu n rates fixed)[i]<Bv (rq n rates fixed s0) (((eu n rates fixed).take i).map (rq n rates fixed))
    ·rw[if_pos hq]; exact bT (decide_eq_true hq) rfl
    ·rw[if_neg hq]; exact bF (decide_eq_false hq) rfl
   ·rw[List.take_length]
    have:cA n rates fixed=Bv (rq n rates fixed s0) ((eu n rates fixed).map (rq n rates fixed)):=by unfold cA; rw[ha]
    rw[this]
   have TI:∀ s m,(AZ n rates fixed (cA n rates fixed) s m).length≤m:=fun s m=>by
    have:=rQ (Ip n fixed (cA n rates fixed) (rq n rates fixed s) s) (List.range m)
    rw[List.length_range]at this; exact this
   refine bB (v:=(((eu n rates fixed).length:Int),(ib n rates fixed (cA n rates fixed)).map fun i:Nat=>(i:Int))) (dT (fun k=>((k:Int),(((eu n rates fixed).take k).flatMap fun s=>AZ n rates fixed (cA n rates fixed) s n.ag.length).map fun i:Nat=>(i:Int))) (eu n rates fixed).length _ (fun k hk=>?_) (bF (dZ _) (by rw[List.take_length]; rfl)) rfl) ?_
   ·refine bT (dN hk) (bT (br k) (bT (L1 hk) (bB (Nb hk) ?_)))
    have Vb:=na hk
    have RW:((eu n rates fixed).take (k+1)).flatMap (fun s=>AZ n rates fixed (cA n rates fixed) s n.ag.length)=((eu n rates fixed).take k).flatMap (fun s=>AZ n rates fixed (cA n rates fixed) s n.ag.length)++AZ n rates fixed (cA n rates fixed) (eu n rates fixed)[k] n.ag.length:=by
     rw[List.take_succ_eq_append_getElem hk,List.flatMap_append]; simp
    have yA:(((eu n rates fixed).take k).flatMap fun s=>AZ n rates fixed (cA n rates fixed) s n.ag.length).length≤128:=by
     have h1:=xH (l:=(eu n rates fixed).take k) (f:=fun s=>AZ n rates fixed (cA n rates fixed) s n.ag.length) (b:=8) (fun s _=>Nat.le_trans (TI s _) QB)
     have h2:((eu n rates fixed).take k).length≤16:=by rw[List.length_take]; omega
     omega
    rw[RW,List.map_append]
    have hf:=gm hv h' (List.getElem_mem hk)
    have LR:∀ j (hj:j<n.ag.length),fixed[0+(j:Int).toNat]?=some (jm fixed j):=fun j hj=>by
     rw[Nat.zero_add,Int.toNat_natCast,List.getElem?_eq_getElem (by omega)]
     unfold jm; rw[List.getElem?_eq_getElem (by omega)]; rfl
    generalize RX:(((eu n rates fixed).take k).flatMap fun s=>AZ n rates fixed (cA n rates fixed) s n.ag.length).map (fun i:Nat=>(i:Int))=base
    have Zk:base.length≤128:=by rw[←RX,List.length_map]; exact yA
    generalize hs:(eu n rates fixed)[k]=s at Vb hf
    have dF:∀ j,AZ n rates fixed (cA n rates fixed) s (j+1)=AZ n rates fixed (cA n rates fixed) s j++bif Ip n fixed (cA n rates fixed) (rq n rates fixed s) s j then [j] else []:=fun j=>tm
    obtain⟨A,N⟩:=s
    cases A with
    |true=>
     refine bT rfl (bB (v:=((n.ag.length:Int),base++(AZ n rates fixed (cA n rates fixed) ⟨true,N⟩ n.ag.length).map fun i:Nat=>(i:Int))) (dT (fun j=>((j:Int),base++(AZ n rates fixed (cA n rates fixed) ⟨true,N⟩ j).map fun i:Nat=>(i:Int))) n.ag.length _ (fun j hj=>?_) (bF (dZ _) rfl) (by simp[AZ])) ?_)
     ·obtain⟨l,hN⟩:∃ l:Nat,N=(l:Int):=by
       rcases hf.2.2 with ⟨l,_,e,_⟩|⟨i,_,e,_⟩
       ·exact⟨l,congrArg dP.N e⟩
       ·cases congrArg dP.A e
      subst hN
      have Zl:=TI ⟨true,(l:Int)⟩ j
      refine bT (dN hj) (bT (br k) (bT (by rw[List.length_map]; exact L1 hk) (bB Vb ?_)))
      rw[eZ (by omega),dF j]
      by_cases hq:rq n rates fixed ⟨true,(l:Int)⟩=cA n rates fixed
      ·refine bT (by rw[tk]; exact decide_eq_true hq) (bT (br j) (bT (L1 (by omega)) (bB (LR j hj) ?_)))
       cases Pw:jm fixed j with
       |true=>exact bF rfl (by simp[Ip,Pw])
       |false=>
        refine bT rfl (bB (ES hv l hj) ?_)
        have gG:Ke n ⟨true,(l:Int)⟩ j=oB n l j:=by simp[Ke]
        cases pg:oB n l j with
        |false=>exact bF rfl (by simp[Ip,gG,pg])
        |true=>exact bT rfl (bT (by rw[List.length_append,List.length_map]; exact jQ (by omega) (by omega)) (by simp[Ip,gG,pg,Pw,hq]))
      ·exact bF (by rw[tk]; exact decide_eq_false hq) (by simp[Ip,hq])
     ·rw[eZ (by omega)]
    |false=>
     refine bF rfl (bB (v:=((n.ag.length:Int),base++(AZ n rates fixed (cA n rates fixed) ⟨false,N⟩ n.ag.length).map fun i:Nat=>(i:Int))) (dT (fun j=>((j:Int),base++(AZ n rates fixed (cA n rates fixed) ⟨false,N⟩ j).map fun i:Nat=>(i:Int))) n.ag.length _ (fun j hj=>?_) (bF (dZ _) rfl) (by simp[AZ])) ?_)
     ·have Zl:=TI ⟨false,N⟩ j
      refine bT (dN hj) (bT (br k) (bT (by rw[List.length_map]; exact L1 hk) (bB Vb ?_)))
      rw[eZ (by omega),dF j]
      by_cases hq:rq n rates fixed ⟨false,N⟩=cA n rates fixed
      ·refine bT (by rw[tk]; exact decide_eq_true hq) (bT (br j) (bT (L1 (by omega)) (bB (LR j hj) ?_)))
       cases Pw:jm fixed j with
       |true=>exact bF rfl (by simp[Ip,Pw])
       |false=>
        refine bT rfl (bB (v:=N==(j:Int)) rfl ?_)
        have gG:Ke n ⟨false,N⟩ j=(N==(j:Int)):=by simp[Ke]
        cases pg:(N==(j:Int)) with
        |false=>exact bF rfl (by simp[Ip,gG,pg])
        |true=>exact bT rfl (bT (by rw[List.length_append,List.length_map]; exact jQ (by omega) (by omega)) (by simp[Ip,gG,pg,Pw,hq]))
      ·exact bF (by rw[tk]; exact decide_eq_false hq) (by simp[Ip,hq])
     ·rw[eZ (by omega)]
   have Q4:(ib n rates fixed (cA n rates fixed)).length≤128:=by
    have h1:=xH (l:=eu n rates fixed) (f:=fun s=>AZ n rates fixed (cA n rates fixed) s n.ag.length) (b:=8) (fun s _=>Nat.le_trans (TI s _) QB)
    unfold ib; omega
   refine bB (v:=(((ib n rates fixed (cA n rates fixed)).length:Int),dQ rates (ib n rates fixed (cA n rates fixed)) (kv (cA n rates fixed)),dQ fixed (ib n rates fixed (cA n rates fixed)) true))
    (dT (fun t=>((t:Int),dQ rates ((ib n rates fixed (cA n rates fixed)).take t) (kv (cA n rates fixed)),dQ fixed ((ib n rates fixed (cA n rates fixed)).take t) true)) (ib n rates fixed (cA n rates fixed)).length _ (fun t ht=>?_) (bF (by rw[List.length_map]; exact dZ _) (bT (decide_eq_true (dH _ _ _)) (bT (decide_eq_true (dH _ _ _)) (by rw[List.take_length])))) rfl) ?_
   ·have bZ:=Kg (List.getElem_mem ht)
    have l1:(dQ rates ((ib n rates fixed (cA n rates fixed)).take t) (kv (cA n rates fixed))).length=n.ag.length:=by rw[dH]; exact RR
    have l2:(dQ fixed ((ib n rates fixed (cA n rates fixed)).take t) true).length=n.ag.length:=by rw[dH]; exact RT
    refine bT (by rw[List.length_map]; exact dN ht) (bT (br t) (bT (by rw[List.length_map]; exact L1 ht) (bB (v:=((ib n rates fixed (cA n rates fixed))[t]:Int)) (by rw[Nat.zero_add,Int.toNat_natCast,List.getElem?_map,List.getElem?_eq_getElem ht]; rfl) ?_)))
    refine bT (br _) (bT (L1 (by omega)) (bB (Nb (by omega)) (bT (br _) (bT (L1 (by omega)) (bB (Nb (by omega)) ?_)))))
    refine bT (decide_eq_true (by rw[List.length_set]; exact dH _ _ _)) (bT (decide_eq_true (by rw[List.length_set]; exact dH _ _ _)) ?_)
    rw[eZ (by omega),vG _ _ _ ht,vG _ _ _ ht,Nat.zero_add,Int.toNat_natCast]; rfl
   exact bT (decide_eq_true (by rw[dH,List.length_replicate,eN]; exact RR)) (bT (decide_eq_true (by rw[dH,List.length_replicate,eN]; exact RT)) rfl)
  ·exact .inr ⟨(rates,fixed),bB hc (bF (decide_eq_false hm) (bT er (bT ef rfl))),⟨x,lo,P,h⟩,hm⟩
 ·rw[eN]
  refine⟨fun _=>0,0,1,by simp,by simp,fun i hi hf=>?_,?_⟩
  ·rw[List.getElem?_replicate]at hf; split at hf<;>simp at hf
  ·have:(fun i:Nat=>(List.replicate n.ag.length false)[i]?.getD false)=fun _=>false:=by
    funext i
    rw[List.getElem?_replicate]
    split<;>rfl
   show Mm.Inv (cf n) (fun i:Nat=>(List.replicate n.ag.length false)[i]?.getD false) _ _ _
   rw[this]
   exact EP QB (fun l hl=>by rw[(hv.cap hl).1]; exact_mod_cast (hv.cap hl).2.1) (fun i hi hh=>by obtain⟨k,_,e,_,k0,_⟩:=hv.lP hi; rw[e]; exact_mod_cast k0) _
 ·rintro⟨rates,fixed⟩ ⟨⟨x,lo,P,h⟩,hm⟩
  refine⟨_,rfl,rfl,x,lo,P,?_⟩
  have RT:fixed.length=n.ag.length:=h.nf
  have Au:false∉fixed:=hm
  have:fixed=List.replicate n.ag.length true:=by
   rw[List.eq_replicate_iff]
   exact⟨RT,fun b hb=>by cases b with|true=>rfl|false=>exact absurd hb Au⟩
  have h2:lU n rates fixed x lo P:=h
  rw[this]at h2
  exact h2
end Go.Proofs.Ytedjbjphpnkpoaa
end
section
/- Plain facts of this seat: the fair rates; the law MaxminScale. -/
set_option maxRecDepth 100000
set_option maxHeartbeats 1000000
namespace Go.Proofs.Ytedjbjphpnkpoaa
open Go.PI Go.Pl Go.Mm
structure Sh(n:bP)(xs:List aj)(x:Nat→Rat):Prop where
 e:aa.cw n=some (xs,0)
 len:xs.length=n.ag.length
 fair:Mm.Fair (cf n) x
 get:∀ i,i<n.ag.length→xs[i]?=some (kv (x i))
 nn:∀ i,i<n.ag.length→0≤x i∧x i≤1000
 fit:∀ i,i<n.ag.length→ia (x i)∧(x i).den≤18
theorem xI{n:bP}(hb:vN n=true):∃ xs x,Sh n xs x:=by
 have hv:=Kb hb
 obtain⟨⟨xs,e⟩,h1,h2,x,lo,P,h⟩:=Ki hb
 obtain rfl:e=0:=h2
 have h':lU n xs (List.replicate n.ag.length true) x lo P:=h
 have bf:∀ i,i<(cf n).F→(fun i:Nat=>(List.replicate n.ag.length true)[i]?.getD false) i=true:=fun i hi=>by
  show (List.replicate n.ag.length true)[i]?.getD false=true
  rw[List.getElem?_replicate,if_pos (show i<n.ag.length from hi)]; rfl
 obtain⟨hf,hd⟩:=J3 h'.inv bf
 have hx:∀ i,i<n.ag.length→0≤x i∧x i≤1000:=fun i hi=>by
  obtain⟨l,hl,pg⟩:=hv.ex hi
  obtain⟨hc,_,Mf⟩:=hv.cap hl
  have Aq:sm (oB n l) x n.ag.length≤(cf n).c l:=hf.Cx.cap l hl
  have Ps:∀ j,j<n.ag.length→oB n l j=true→0≤x j:=fun j hj _=>hf.Cx.nn j hj
  have h2:=(qp Ps (i:=i+1) (by omega)).2
  have h3:=(qp Ps (i:=i) (by omega)).1
  simp only[sm,pg,cond_true]at h2
  have h4:(cf n).c l≤1000:=by rw[hc]; exact_mod_cast Mf
  exact⟨hf.Cx.nn i hi,by grind⟩
 refine⟨xs,x,h1,h'.nr,hf,fun i hi=>h'.r i hi (by rw[List.getElem?_replicate,if_pos hi]),hx,fun i hi=>?_⟩
 obtain⟨d1,d2⟩:=hd i hi
 have Po:=h'.inv.P1
 have:=AY Po (by omega) d1 (hx i hi).1 (hx i hi).2
 exact⟨this.1,by omega⟩
theorem Hv{t:Int}{p q:Rat}(h:q=(t:Rat)*p):q.num*(p.den:Int)=t*p.num*(q.den:Int):=by
 have e1:mkRat q.num q.den=mkRat (t*p.num) p.den:=by
  rw[Rat.mkRat_self,h]
  conv=>lhs; rw[←Rat.mkRat_self p,←Rat.mkRat_one t,Rat.mkRat_mul_mkRat,Nat.one_mul]
 exact(Rat.mkRat_eq_iff (by have:=q.den_pos; omega) (by have:=p.den_pos; omega)).1 e1
theorem CJ(n:bP)(times:Int)(hw:n.ag.length≤2^63-1):aa.fF n times=some true:=by
 unfold aa.fF
 obtain⟨b2,hf,hlen⟩:=RF n hw
 refine bB (v:=true) rfl (bB hf ?_)
 cases b2 with
 |false=>rfl
 |true=>
 obtain⟨_,_,_,h4⟩:=hlen rfl
 refine bT rfl (bB (CB fun l hl=>by have:=h4 l hl; omega) ?_)
 cases hb:vN n with
 |false=>rfl
 |true=>
 have hv:=Kb hb
 refine bF rfl ?_
 by_cases Xw:times<1
 ·exact bT (decide_eq_true Xw) rfl
 refine bF (decide_eq_false Xw) ?_
 by_cases Tt:1000<times
 ·exact bT (decide_eq_true Tt) rfl
 refine bF (decide_eq_false Tt) ?_
 have QB:=hv.nf
 have Zh:=hv.nc
 have AB:∀ k:Int,0≤k→k≤1000→IntKind.i64.wrap (k*times)=k*times:=fun k h0 h1=>by
  have e1:k*times≤1000*1000:=Int.mul_le_mul h1 (by omega) (by omega) (by omega)
  have e2:0≤k*times:=Int.mul_nonneg h0 (by omega)
  exact eU (by omega) (by omega)
 refine bB (v:=((n.aD.length:Int),n.ag,n.aD.map (·*times),([]:List Int))) (dT (fun i=>((i:Int),n.ag,(n.aD.take i).map (·*times),([]:List Int))) n.aD.length _ (fun i hi=>?_) (bF (dZ _) (by rw[List.take_length])) rfl) ?_
 ·have hc:=(hv.cap hi).2
  refine bT (dN hi) (bT (br i) (bB (get_at hi) (bT (jQ (by rw[List.length_map,List.length_take]; omega) (by omega)) ?_)))
  rw[eZ (by omega),AB _ hc.1 hc.2,List.take_succ_eq_append_getElem hi,List.map_append]; rfl
 refine bB (v:=((n.aA.length:Int),n.ag,n.aD.map (·*times),n.aA.map (·*times))) (dT (fun i=>((i:Int),n.ag,n.aD.map (·*times),(n.aA.take i).map (·*times))) n.aA.length _ (fun i hi=>?_) (bF (dZ _) (by rw[List.take_length])) rfl) ?_
 ·have hk:=hv.k _ (List.getElem_mem hi)
  have Q4:=hv.nl
  refine bT (dN hi) (bT (br i) (bB (get_at hi) (bT (jQ (by rw[List.length_map,List.length_take]; omega) (by omega)) ?_)))
  rw[eZ (by omega),AB _ hk.1 hk.2,List.take_succ_eq_append_getElem hi,List.map_append]; rfl
 refine bB (CB fun l hl=>by have:=h4 l hl; omega) ?_
 cases Zm:vN (bP.mk (n.aD.map (·*times)) n.ag (n.aA.map (·*times))) with
 |false=>rfl
 |true=>
 obtain⟨xs,x,hx⟩:=xI hb
 obtain⟨ys,y,hy⟩:=xI Zm
 have MF:ys.length=n.ag.length:=hy.len
 have Il:=hx.len
 have TJ:(0:Rat)≤(times:Rat):=by exact_mod_cast (by omega:(0:Int)≤times)
 have htp:(0:Rat)<(times:Rat):=by exact_mod_cast (by omega:(0:Int)<times)
 have RY:Mm.Fair (cf (bP.mk (n.aD.map (·*times)) n.ag (n.aA.map (·*times)))) (fun i=>(times:Rat)*x i):=by
  have Xx:∀ l,l<n.aD.length→(cf (bP.mk (n.aD.map (·*times)) n.ag (n.aA.map (·*times)))).c l=(times:Rat)*(cf n).c l:=fun l hl=>by
   show (((n.aD.map (·*times))[l]?.getD 0:Int):Rat)=(times:Rat)*((n.aD[l]?.getD 0:Int):Rat)
   rw[List.getElem?_map,List.getElem?_eq_getElem hl]
   simp only[Option.map_some,Option.getD_some]
   rw[Rat.intCast_mul,Rat.mul_comm]
  have TK:∀ i,i<n.ag.length→(cf (bP.mk (n.aD.map (·*times)) n.ag (n.aA.map (·*times)))).k i=(times:Rat)*(cf n).k i∧(cf (bP.mk (n.aD.map (·*times)) n.ag (n.aA.map (·*times)))).has i=(cf n).has i:=fun i hi=>by
   have p9:i<n.aA.length:=by rw[hv.nl]; exact hi
   constructor
   ·show (((n.aA.map (·*times))[i]?.getD 0:Int):Rat)=(times:Rat)*((n.aA[i]?.getD 0:Int):Rat)
    rw[List.getElem?_map,List.getElem?_eq_getElem p9]
    simp only[Option.map_some,Option.getD_some]
    rw[Rat.intCast_mul,Rat.mul_comm]
   ·show decide (0<(n.aA.map (·*times))[i]?.getD 0)=decide (0<n.aA[i]?.getD 0)
    rw[List.getElem?_map,List.getElem?_eq_getElem p9,decide_eq_decide]
    simp only[Option.map_some,Option.getD_some]
    constructor
    ·intro h
     apply Classical.byContradiction
     intro hn
     have:=Int.mul_nonneg (show 0 ≤ -n.aA[i] by omega) (show 0≤times by omega)
     rw[Int.neg_mul]at this
     omega
    ·intro h
     exact Int.mul_pos h (by omega)
  refine⟨⟨fun i hi=>Rat.mul_nonneg TJ (hx.fair.Cx.nn i hi),fun i hi hh=>?_,fun l hl=>?_⟩,fun i hi=>?_⟩
  ·rw[(TK i hi).2]at hh
   rw[(TK i hi).1]
   exact Rat.mul_le_mul_of_nonneg_left (hx.fair.Cx.lP i hi hh) TJ
  ·have jl:l<n.aD.length:=by have:l<(n.aD.map (·*times)).length:=hl; rwa [List.length_map]at this
   rw[Xx l jl]
   show sm (oB n l) (fun i=>(times:Rat)*x i) n.ag.length≤_
   rw[xD]
   exact Rat.mul_le_mul_of_nonneg_left (hx.fair.Cx.cap l jl) TJ
  ·rcases hx.fair.Hp i hi with ⟨h1,h2⟩|⟨l,hl,pg,hs,Av⟩
   ·exact .inl ⟨by rw[(TK i hi).2]; exact h1,by show (times:Rat)*x i=_; rw[(TK i hi).1,h2]⟩
   ·refine .inr ⟨l,by show l<(n.aD.map (·*times)).length; rw[List.length_map]; exact hl,pg,?_,fun j hj LY=>Rat.mul_le_mul_of_nonneg_left (Av j hj LY) TJ⟩
    rw[Xx l hl]
    show sm (oB n l) (fun i=>(times:Rat)*x i) n.ag.length=_
    rw[xD]
    have:sm (oB n l) x n.ag.length=(cf n).c l:=hs
    rw[this]
 have Vc:∀ i,i<n.ag.length→y i=(times:Rat)*x i:=Cz hy.fair RY
 refine bF rfl (bB hx.e (bB hy.e (bF rfl (bF rfl (bF (by rw[Il,MF]; simp) ?_)))))
 refine bB (v:=(true,(xs.length:Int))) (dT (fun i=>(true,(i:Int))) xs.length _ (fun i hi=>?_) (bF (dZ _) rfl) rfl) rfl
 have p9:i<n.ag.length:=by omega
 have gx:=hx.get i p9
 have gy:=hy.get i p9
 have fx:=hx.fit i p9
 have fy:=hy.fit i p9
 have dx:=rN fx.1
 have dy:=rN fy.1
 have fx2:=fx.2
 have fy2:=fy.2
 have Vd:=Hv (Vc i p9)
 refine bT (dN hi) (bT rfl (bT (br i) (bB (v:=kv (y i)) (by rw[Int.toNat_natCast]; exact gy) (bT (br i) (bB (v:=kv (x i)) (by rw[Int.toNat_natCast]; exact gx) (bT (br i) (bB (v:=kv (x i)) (by rw[Int.toNat_natCast]; exact gx) (bT (br i) (bB (v:=kv (y i)) (by rw[Int.toNat_natCast]; exact gy) ?_)))))))))
 show some (Sum.inl (IntKind.i64.wrap ((y i).num*((x i).den:Int))==IntKind.i64.wrap (IntKind.i64.wrap (times*(x i).num)*((y i).den:Int)),_))=_
 have b1:=pH fy.1.1 fy.1.2.1 (b:=((x i).den:Int)) (by omega) (by omega)
 have b2:=pH fx.1.1 fx.1.2.1 (b:=times) (by omega) (by omega)
 rw[Int.mul_comm]at b2
 rw[eZ (by omega),eU (n:=(y i).num*((x i).den:Int)) (by omega) (by omega),eU (n:=times*(x i).num) (by omega) (by omega),←Vd,eU (n:=(y i).num*((x i).den:Int)) (by omega) (by omega)]
 simp
end Go.Proofs.Ytedjbjphpnkpoaa
end
section
/- The law MaxminScale: its row. -/
namespace Go.Proofs.Ytedjbjphpnkpoaa.vX
open Go.PI Go.ChangeShapes Go.WideShapes Go.ChangeAt Go.RowKit
theorem own:ownKnob Try.prog.godebug=none:=by kernel_rfl
theorem laidOut:laidOutB Try.prog=true:=by kernel_rfl
theorem okWide_struct{P:Program}{w:World}{r:Reach}{base:Nat}{t:TypeId}{v:Value}{fs:Array Field}(ht:P.underlying t=some (.struct fs))(h:Value.okWide P w r base t v):∃ cs,v=.agg cs:=by
 unfold Value.okWide at h
 rw[ht]at h
 obtain⟨cs,h,_⟩:=h
 exact⟨cs,h⟩
theorem NF{E:Env}{l:List AV}{cs:Array Value}(h:aH E false l (Value.agg cs).cells.toList):ai E false (.agg l) (.agg cs):=by
 simp only[ai]
 exact⟨cs.toList,by simp,by simpa[Value.cells] using h⟩
theorem QP{E:Env}{l:List AV}{a:Option Addr}{len cap:Nat}(h:aH E false l (Value.slice a len cap).cells.toList){x:AV}(hl:l=[x]):ai E false x (.slice a len cap):=by
 subst hl
 have h2:ai E false x (Value.slice a len cap)∧ij (Value.slice a len cap)=true:=by simpa[Value.cells,aH] using h
 exact h2.1
set_option maxRecDepth 100000 in
theorem walk(W:World)(SG:Array Value)(a1:Int){l0:List AV}(e0:aH (Env.all W) false l0 (Value.agg SG:Value).cells.toList){n0:Nat}(s0:Shape Try.prog n0 25 l0)(Ia:(Lit.int .i64 a1).wf=true):Calls Try.prog 6 #[.agg SG,.int .i64 a1] W fun e w'=>e=.returned (.bool true)∧Below W.heap.size W w':=by
 obtain⟨x0,w0,r0⟩:=Wi (jI (show Try.prog.underlying 25=Try.prog.underlying 24 by kernel_rfl) s0)
 have hs:pV C T 6 ⟨[25,3],[4],fun x=>Go.aa.fF x.1 x.2⟩:=ND s54 rfl
 refine K9 Cok hs rfl (x:=(x0,a1)) (y:=true) (CJ x0 a1 (Nat.le_trans w0.2.1.1 (by decide))) ?_ («as»:=[.agg l0,.lit (.int .i64 a1)]) ⟨r0,rfl,trivial⟩ (show mw (Env.all W) from fun b c h=>by cases h) (vs:=[.agg SG,.int .i64 a1]) ?_
 ·intro l hl
  match l,hl with
  |[a],hl=>have:a=.lit (.bool true):=hl.1; rw[this]
  |[],hl=>exact False.elim hl
  |_::_::_,hl=>exact False.elim hl.2
 ·simp only[an]
  exact⟨NF e0,by simp[ai],trivial⟩
set_option maxRecDepth 100000 in
theorem lifted(os:Os)(started:os.Started)(H:Type)(enc:TypeId×Value→H):
  ReturnsInHanded {} Try.checked os 6 .any (Rows.maxminScaleSpec.pre6 enc Try.prog Try.f6 Rows.maxminScaleRow.domain false) (Rows.maxminScaleSpec.post enc Try.prog Try.f6 false true false false):=by
 refine returnsInHanded_of_change_sized (C:=Try.checked) own started (by kernel_rfl) Try.func6
  (ChangeSpec.witness6 (enc:=enc) (C:=Try.checked) false ⟨#[],#[.agg #[.slice none 0 0,.slice none 0 0,.slice none 0 0],.int .i64 0],[]⟩ 8 (by kernel_rfl) (by kernel_rfl) (by kernel_rfl) (by kernel_rfl)) ?_
 intro W base args ds gs before OD hW IK Wj _
 have Qc:∀ (j:Nat) t v,Try.f6.params[j]?=some t→args[j]?=some v→Value.okWide Try.prog W .any base t v:=OD
 have hW':=hW
 obtain⟨p,q,X3,hV,rfl,Me,zD⟩:=hW
 have hA:DataW.TrodAll enc Try.prog W 0 (fun _=>true) true Try.f6.params.toList args.toList ds p:=X3
 rw[Try.params6]at hA Qc
 obtain⟨v0,vs0,d0,ds0,p0,q0,iV,rfl,rfl,h0,r0⟩:=trodAll_cons hA
 obtain⟨v1,vs1,d1,ds1,p1,q1,rfl,rfl,rfl,h1,r1⟩:=trodAll_cons r0
 obtain⟨rfl,rfl,rfl⟩:=trodAll_nil r1
 obtain rfl:args=#[v0,v1]:=by cases args; simp_all
 obtain⟨rfl,rfl⟩:=trodVars_none hV
 obtain⟨SG,rfl⟩:=okWide_struct Try.underlying25 (Qc 0 25 v0 rfl rfl)
 obtain⟨a1,rfl,rfl,rfl,w1⟩:=open_int Try.underlying3 (Qc 1 3 v1 rfl rfl) h1
 have k0:=h0
 have lt0:∀ x∈p0,x.block<W.heap.size:=by obtain⟨m,hm⟩:=k0; exact DataW.trod_lt m _ _ _ hm
 obtain⟨f0,hf0⟩:=h0
 obtain⟨l0,e0,s0⟩:=Ml f0 10 25 _ _ (by kernel_rfl) hf0
 clear X3 OD Wj
 refine(walk W SG a1 e0 s0 w1).mono fun e W' ⟨he,X4⟩=>?_
 subst he
 exact⟨_,rfl,_,_,_,[],_,[],hW',trodAll_mk1 (shut_bool Try.underlying4 _),(trodAll_cons_mk (Below.trod laidOut (by kernel_rfl) (of_decide_eq_true (by kernel_rfl)) k0 X4 lt0) (trodAll_cons_mk (shut_int Try.underlying3 w1) trodAll_mk0)),rfl,X4.frame _,fun h=>by cases h⟩
theorem gJ:Rows.maxminScaleRow.holds Try.pinned (OpenSpec.ofChange Rows.maxminScaleSpec):=
 OpenClaim.holds_of_wide 6 Try.f6 rfl rfl rfl rfl rfl rfl rfl ⟨rfl,rfl,rfl,rfl,rfl⟩ rfl rfl rfl rfl rfl (by kernel_rfl) Try.func6 (by kernel_rfl)
  (of_decide_eq_true (by kernel_rfl)) (by unfold Func.isWrapper; first|(rw[if_pos (by decide +kernel)]; kernel_rfl)|(rw[if_neg (by decide +kernel)]; exact⟨rfl,rfl⟩))
  (fun os started H enc _=>lifted os started H enc)
theorem proved:Rows.MaxminScaleSaid:=gJ
end Go.Proofs.Ytedjbjphpnkpoaa.vX
namespace Go.Proofs.Ytedjbjphpnkpoaa
theorem maxminScale_holds:Rows.MaxminScaleSaid:=vX.proved
end Go.Proofs.Ytedjbjphpnkpoaa
end
